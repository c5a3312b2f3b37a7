/-
  DERIVED. GIVEN WITH THE SEED: THE CARDS: each row of YthdoohfdminfgaaGreatDoorRows.lean that lists a variable, with what it lists TIED to the program's text (the seventh form; the later family's looks); each row that meets fmt, with fmt's text TOLD by the authors' own Lean function (tested against real Go, not proved from fmt's source: count such statements apart). THE CARD IS WHAT COUNTS. Prove the row's statement (the work); the ties are given (YthdoohfdminfgaaGreatDoorTie.lean); close each card by the builder's one call (the guide's Derived/Test/ToyasCard.lean, 'card_holds'). Laid BY PROGRAM, IN A SANDBOX (cutbox-door.mjs). By AI agents, Wed Nov 11 2026. No macro, syntax, notation, axiom, sorry.
-/
import Derived.Test.YthdoohfdminfgaaGreatDoorRows
import GoSem.ClaimSeven
namespace Go.Proofs.YthdoohfdminfgaaGreatDoor
namespace Rows

/-- THE TIED CARD OF 'certpathlaw07.NameDecode'. -/
def nameDecodeCard : Claim7 := { stood := { row := nameDecodeRow, standIns := [], harness := (true, "35ecea941c743f3983151a65c869dcfcd8a26e9846d94e09298185c1e6696741"), looks := true }, kinds := [], alts := [], laidByText := true, laidKinds := [.data, .data, .data, .data, .pinned], laidTests := true, laidLooks := .later }
def NameDecodeCardSaid : Prop := Claim7.holds Tryz.pinned (.plain (OpenSpec.ofChange nameDecodeSpec)) nameDecodeCard

/-- THE TIED CARD OF 'certpathlaw07.NameCheck'. -/
def nameCheckCard : Claim7 := { stood := { row := nameCheckRow, standIns := [], harness := (true, "35ecea941c743f3983151a65c869dcfcd8a26e9846d94e09298185c1e6696741"), looks := true }, kinds := [], alts := [], laidByText := true, laidKinds := [.data, .pinned], laidTests := true, laidLooks := .later }
def NameCheckCardSaid : Prop := Claim7.holds Tryz.pinned (.plain (OpenSpec.ofChange nameCheckSpec)) nameCheckCard

/-- THE TIED CARD OF 'certpathlaw07.NameText'. -/
def nameTextCard : Claim7 := { stood := { row := nameTextRow, standIns := [], harness := (true, "35ecea941c743f3983151a65c869dcfcd8a26e9846d94e09298185c1e6696741"), looks := true }, kinds := [], alts := [], laidByText := true, laidKinds := [.data, .pinned], laidTests := true, laidLooks := .later }
def NameTextCardSaid : Prop := Claim7.holds Tryz.pinned (.plain (OpenSpec.ofChange nameTextSpec)) nameTextCard

/-- THE TIED CARD OF 'certpathlaw07.NameKey'. -/
def nameKeyCard : Claim7 := { stood := { row := nameKeyRow, standIns := [], harness := (true, "35ecea941c743f3983151a65c869dcfcd8a26e9846d94e09298185c1e6696741"), looks := true }, kinds := [], alts := [], laidByText := true, laidKinds := [.data, .data, .data, .data, .pinned], laidTests := true, laidLooks := .later }
def NameKeyCardSaid : Prop := Claim7.holds Tryz.pinned (.plain (OpenSpec.ofChange nameKeySpec)) nameKeyCard

/-- THE TIED CARD OF 'certpathlaw07.NameBack'. -/
def nameBackCard : Claim7 := { stood := { row := nameBackRow, standIns := [], harness := (true, "35ecea941c743f3983151a65c869dcfcd8a26e9846d94e09298185c1e6696741"), looks := true }, kinds := [], alts := [], laidByText := true, laidKinds := [.data, .data, .data, .data, .pinned], laidTests := true, laidLooks := .later }
def NameBackCardSaid : Prop := Claim7.holds Tryz.pinned (.plain (OpenSpec.ofChange nameBackSpec)) nameBackCard

/-- THE SECOND FORM's CARD OF 'certpathlaw07.NameDecode'. -/
def nameDecodeUptoCard : Claim7 := { stood := { row := nameDecodeUptoRow, standIns := [], harness := (true, "35ecea941c743f3983151a65c869dcfcd8a26e9846d94e09298185c1e6696741"), looks := true }, kinds := [], alts := [], laidByText := true, laidKinds := [.data, .data, .data, .data, .pinned], laidTests := true, laidLooks := .later }
def NameDecodeUptoCardSaid : Prop := Claim7.holds Tryz.pinned (.plain (OpenSpec.upto nameDecodeSpec)) nameDecodeUptoCard

/-- THE SECOND FORM's CARD OF 'certpathlaw07.NameCheck'. -/
def nameCheckUptoCard : Claim7 := { stood := { row := nameCheckUptoRow, standIns := [], harness := (true, "35ecea941c743f3983151a65c869dcfcd8a26e9846d94e09298185c1e6696741"), looks := true }, kinds := [], alts := [], laidByText := true, laidKinds := [.data, .pinned], laidTests := true, laidLooks := .later }
def NameCheckUptoCardSaid : Prop := Claim7.holds Tryz.pinned (.plain (OpenSpec.upto nameCheckSpec)) nameCheckUptoCard

/-- THE SECOND FORM's CARD OF 'certpathlaw07.NameText'. -/
def nameTextUptoCard : Claim7 := { stood := { row := nameTextUptoRow, standIns := [], harness := (true, "35ecea941c743f3983151a65c869dcfcd8a26e9846d94e09298185c1e6696741"), looks := true }, kinds := [], alts := [], laidByText := true, laidKinds := [.data, .pinned], laidTests := true, laidLooks := .later }
def NameTextUptoCardSaid : Prop := Claim7.holds Tryz.pinned (.plain (OpenSpec.upto nameTextSpec)) nameTextUptoCard

/-- THE SECOND FORM's CARD OF 'certpathlaw07.NameKey'. -/
def nameKeyUptoCard : Claim7 := { stood := { row := nameKeyUptoRow, standIns := [], harness := (true, "35ecea941c743f3983151a65c869dcfcd8a26e9846d94e09298185c1e6696741"), looks := true }, kinds := [], alts := [], laidByText := true, laidKinds := [.data, .data, .data, .data, .pinned], laidTests := true, laidLooks := .later }
def NameKeyUptoCardSaid : Prop := Claim7.holds Tryz.pinned (.plain (OpenSpec.upto nameKeySpec)) nameKeyUptoCard

/-- THE SECOND FORM's CARD OF 'certpathlaw07.NameBack'. -/
def nameBackUptoCard : Claim7 := { stood := { row := nameBackUptoRow, standIns := [], harness := (true, "35ecea941c743f3983151a65c869dcfcd8a26e9846d94e09298185c1e6696741"), looks := true }, kinds := [], alts := [], laidByText := true, laidKinds := [.data, .data, .data, .data, .pinned], laidTests := true, laidLooks := .later }
def NameBackUptoCardSaid : Prop := Claim7.holds Tryz.pinned (.plain (OpenSpec.upto nameBackSpec)) nameBackUptoCard
end Rows
end Go.Proofs.YthdoohfdminfgaaGreatDoor
