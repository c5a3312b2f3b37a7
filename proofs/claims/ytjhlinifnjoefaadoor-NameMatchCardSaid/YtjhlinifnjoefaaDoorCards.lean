/-
  DERIVED. GIVEN WITH THE SEED: THE CARDS: each row of YtjhlinifnjoefaaDoorRows.lean that lists a variable, with what it lists TIED to the program's text (the seventh form; the later family's looks); each row that meets fmt, with fmt's text TOLD by the authors' own Lean function (tested against real Go, not proved from fmt's source: count such statements apart). THE CARD IS WHAT COUNTS. Prove the row's statement (the work); the ties are given (YtjhlinifnjoefaaDoorTie.lean); close each card by the builder's one call (the guide's Derived/Test/ToyasCard.lean, 'card_holds'). Laid BY PROGRAM, IN A SANDBOX (cutbox-door.mjs). By AI agents, Wed Nov 11 2026. No macro, syntax, notation, axiom, sorry.
-/
import Derived.Test.YtjhlinifnjoefaaDoorRows
import GoSem.ClaimSeven
namespace Go.Proofs.YtjhlinifnjoefaaDoor
namespace Rows

/-- THE TIED CARD OF 'certpathlaw07.NameMany'. -/
def nameManyCard : Claim7 := { stood := { row := nameManyRow, standIns := [], harness := (true, "e30b9f5fca593c5766833e2e051af503b4562e02f146811b5b6d7e01e4e16788"), looks := false }, kinds := [], alts := [], laidByText := true, laidKinds := [.data, .pinned], laidTests := true, laidLooks := .later }
def NameManyCardSaid : Prop := Claim7.holds Tryd.pinned (.plain (OpenSpec.ofChange nameManySpec)) nameManyCard

/-- THE TIED CARD OF 'certpathlaw07.NameMatch'. -/
def nameMatchCard : Claim7 := { stood := { row := nameMatchRow, standIns := [], harness := (true, "e30b9f5fca593c5766833e2e051af503b4562e02f146811b5b6d7e01e4e16788"), looks := false }, kinds := [], alts := [], laidByText := true, laidKinds := [.data, .pinned], laidTests := true, laidLooks := .later }
def NameMatchCardSaid : Prop := Claim7.holds Tryd.pinned (.plain (OpenSpec.ofChange nameMatchSpec)) nameMatchCard

/-- THE TIED CARD OF 'certpathlaw07.NameOrder'. -/
def nameOrderCard : Claim7 := { stood := { row := nameOrderRow, standIns := [], harness := (true, "e30b9f5fca593c5766833e2e051af503b4562e02f146811b5b6d7e01e4e16788"), looks := false }, kinds := [], alts := [], laidByText := true, laidKinds := [.data, .pinned], laidTests := true, laidLooks := .later }
def NameOrderCardSaid : Prop := Claim7.holds Tryd.pinned (.plain (OpenSpec.ofChange nameOrderSpec)) nameOrderCard

/-- THE SECOND FORM's CARD OF 'certpathlaw07.NameMany'. -/
def nameManyUptoCard : Claim7 := { stood := { row := nameManyUptoRow, standIns := [], harness := (true, "e30b9f5fca593c5766833e2e051af503b4562e02f146811b5b6d7e01e4e16788"), looks := false }, kinds := [], alts := [], laidByText := true, laidKinds := [.data, .pinned], laidTests := true, laidLooks := .later }
def NameManyUptoCardSaid : Prop := Claim7.holds Tryd.pinned (.plain (OpenSpec.upto nameManySpec)) nameManyUptoCard

/-- THE SECOND FORM's CARD OF 'certpathlaw07.NameMatch'. -/
def nameMatchUptoCard : Claim7 := { stood := { row := nameMatchUptoRow, standIns := [], harness := (true, "e30b9f5fca593c5766833e2e051af503b4562e02f146811b5b6d7e01e4e16788"), looks := false }, kinds := [], alts := [], laidByText := true, laidKinds := [.data, .pinned], laidTests := true, laidLooks := .later }
def NameMatchUptoCardSaid : Prop := Claim7.holds Tryd.pinned (.plain (OpenSpec.upto nameMatchSpec)) nameMatchUptoCard

/-- THE SECOND FORM's CARD OF 'certpathlaw07.NameOrder'. -/
def nameOrderUptoCard : Claim7 := { stood := { row := nameOrderUptoRow, standIns := [], harness := (true, "e30b9f5fca593c5766833e2e051af503b4562e02f146811b5b6d7e01e4e16788"), looks := false }, kinds := [], alts := [], laidByText := true, laidKinds := [.data, .pinned], laidTests := true, laidLooks := .later }
def NameOrderUptoCardSaid : Prop := Claim7.holds Tryd.pinned (.plain (OpenSpec.upto nameOrderSpec)) nameOrderUptoCard
end Rows
end Go.Proofs.YtjhlinifnjoefaaDoor
