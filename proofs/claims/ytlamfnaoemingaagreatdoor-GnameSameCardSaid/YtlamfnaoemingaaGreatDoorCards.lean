/-
  DERIVED. GIVEN WITH THE SEED: THE CARDS: each row of YtlamfnaoemingaaGreatDoorRows.lean that lists a variable, with what it lists TIED to the program's text (the seventh form; the later family's looks); each row that meets fmt, with fmt's text TOLD by the authors' own Lean function (tested against real Go, not proved from fmt's source: count such statements apart). THE CARD IS WHAT COUNTS. Prove the row's statement (the work); the ties are given (YtlamfnaoemingaaGreatDoorTie.lean); close each card by the builder's one call (the guide's Derived/Test/ToyasCard.lean, 'card_holds'). Laid BY PROGRAM, IN A SANDBOX (cutbox-door.mjs). By AI agents, Wed Nov 11 2026. No macro, syntax, notation, axiom, sorry.
-/
import Derived.Test.YtlamfnaoemingaaGreatDoorRows
import GoSem.ClaimSeven
namespace Go.Proofs.YtlamfnaoemingaaGreatDoor
namespace Rows

/-- THE TIED CARD OF 'certpathlaw10.SubtreePermits'. -/
def subtreePermitsCard : Claim7 := { stood := { row := subtreePermitsRow, standIns := [], harness := (true, "a4fd21d7a3e277fcb7eab38f7ef81c8478d35c71fb529700156851ad68999d7e"), looks := false }, kinds := [], alts := [], laidByText := true, laidKinds := [.data, .pinned], laidTests := true, laidLooks := .later }
def SubtreePermitsCardSaid : Prop := Claim7.holds Tryz.pinned (.plain (OpenSpec.ofChange subtreePermitsSpec)) subtreePermitsCard

/-- THE TIED CARD OF 'certpathlaw10.SubtreeAll'. -/
def subtreeAllCard : Claim7 := { stood := { row := subtreeAllRow, standIns := [], harness := (true, "a4fd21d7a3e277fcb7eab38f7ef81c8478d35c71fb529700156851ad68999d7e"), looks := false }, kinds := [], alts := [], laidByText := true, laidKinds := [.data, .pinned], laidTests := true, laidLooks := .later }
def SubtreeAllCardSaid : Prop := Claim7.holds Tryz.pinned (.plain (OpenSpec.ofChange subtreeAllSpec)) subtreeAllCard

/-- THE TIED CARD OF 'certpathlaw10.SubtreeReduce'. -/
def subtreeReduceCard : Claim7 := { stood := { row := subtreeReduceRow, standIns := [], harness := (true, "a4fd21d7a3e277fcb7eab38f7ef81c8478d35c71fb529700156851ad68999d7e"), looks := false }, kinds := [], alts := [], laidByText := true, laidKinds := [.data, .pinned], laidTests := true, laidLooks := .later }
def SubtreeReduceCardSaid : Prop := Claim7.holds Tryz.pinned (.plain (OpenSpec.ofChange subtreeReduceSpec)) subtreeReduceCard

/-- THE TIED CARD OF 'certpathlaw09.GnameCheck'. -/
def gnameCheckCard : Claim7 := { stood := { row := gnameCheckRow, standIns := [], harness := (true, "a4fd21d7a3e277fcb7eab38f7ef81c8478d35c71fb529700156851ad68999d7e"), looks := false }, kinds := [], alts := [], laidByText := true, laidKinds := [.data, .pinned], laidTests := true, laidLooks := .later }
def GnameCheckCardSaid : Prop := Claim7.holds Tryz.pinned (.plain (OpenSpec.ofChange gnameCheckSpec)) gnameCheckCard

/-- THE TIED CARD OF 'certpathlaw09.GnameMatch'. -/
def gnameMatchCard : Claim7 := { stood := { row := gnameMatchRow, standIns := [], harness := (true, "a4fd21d7a3e277fcb7eab38f7ef81c8478d35c71fb529700156851ad68999d7e"), looks := false }, kinds := [], alts := [], laidByText := true, laidKinds := [.data, .pinned], laidTests := true, laidLooks := .later }
def GnameMatchCardSaid : Prop := Claim7.holds Tryz.pinned (.plain (OpenSpec.ofChange gnameMatchSpec)) gnameMatchCard

/-- THE TIED CARD OF 'certpathlaw09.GnameSame'. -/
def gnameSameCard : Claim7 := { stood := { row := gnameSameRow, standIns := [], harness := (true, "a4fd21d7a3e277fcb7eab38f7ef81c8478d35c71fb529700156851ad68999d7e"), looks := false }, kinds := [], alts := [], laidByText := true, laidKinds := [.data, .pinned], laidTests := true, laidLooks := .later }
def GnameSameCardSaid : Prop := Claim7.holds Tryz.pinned (.plain (OpenSpec.ofChange gnameSameSpec)) gnameSameCard

/-- THE TIED CARD OF 'certpathlaw10.SubtreeCheck'. -/
def subtreeCheckCard : Claim7 := { stood := { row := subtreeCheckRow, standIns := [], harness := (true, "a4fd21d7a3e277fcb7eab38f7ef81c8478d35c71fb529700156851ad68999d7e"), looks := false }, kinds := [], alts := [], laidByText := true, laidKinds := [.data, .pinned], laidTests := true, laidLooks := .later }
def SubtreeCheckCardSaid : Prop := Claim7.holds Tryz.pinned (.plain (OpenSpec.ofChange subtreeCheckSpec)) subtreeCheckCard

/-- THE SECOND FORM's CARD OF 'certpathlaw10.SubtreePermits'. -/
def subtreePermitsUptoCard : Claim7 := { stood := { row := subtreePermitsUptoRow, standIns := [], harness := (true, "a4fd21d7a3e277fcb7eab38f7ef81c8478d35c71fb529700156851ad68999d7e"), looks := false }, kinds := [], alts := [], laidByText := true, laidKinds := [.data, .pinned], laidTests := true, laidLooks := .later }
def SubtreePermitsUptoCardSaid : Prop := Claim7.holds Tryz.pinned (.plain (OpenSpec.upto subtreePermitsSpec)) subtreePermitsUptoCard

/-- THE SECOND FORM's CARD OF 'certpathlaw10.SubtreeAll'. -/
def subtreeAllUptoCard : Claim7 := { stood := { row := subtreeAllUptoRow, standIns := [], harness := (true, "a4fd21d7a3e277fcb7eab38f7ef81c8478d35c71fb529700156851ad68999d7e"), looks := false }, kinds := [], alts := [], laidByText := true, laidKinds := [.data, .pinned], laidTests := true, laidLooks := .later }
def SubtreeAllUptoCardSaid : Prop := Claim7.holds Tryz.pinned (.plain (OpenSpec.upto subtreeAllSpec)) subtreeAllUptoCard

/-- THE SECOND FORM's CARD OF 'certpathlaw10.SubtreeReduce'. -/
def subtreeReduceUptoCard : Claim7 := { stood := { row := subtreeReduceUptoRow, standIns := [], harness := (true, "a4fd21d7a3e277fcb7eab38f7ef81c8478d35c71fb529700156851ad68999d7e"), looks := false }, kinds := [], alts := [], laidByText := true, laidKinds := [.data, .pinned], laidTests := true, laidLooks := .later }
def SubtreeReduceUptoCardSaid : Prop := Claim7.holds Tryz.pinned (.plain (OpenSpec.upto subtreeReduceSpec)) subtreeReduceUptoCard

/-- THE SECOND FORM's CARD OF 'certpathlaw09.GnameCheck'. -/
def gnameCheckUptoCard : Claim7 := { stood := { row := gnameCheckUptoRow, standIns := [], harness := (true, "a4fd21d7a3e277fcb7eab38f7ef81c8478d35c71fb529700156851ad68999d7e"), looks := false }, kinds := [], alts := [], laidByText := true, laidKinds := [.data, .pinned], laidTests := true, laidLooks := .later }
def GnameCheckUptoCardSaid : Prop := Claim7.holds Tryz.pinned (.plain (OpenSpec.upto gnameCheckSpec)) gnameCheckUptoCard

/-- THE SECOND FORM's CARD OF 'certpathlaw09.GnameMatch'. -/
def gnameMatchUptoCard : Claim7 := { stood := { row := gnameMatchUptoRow, standIns := [], harness := (true, "a4fd21d7a3e277fcb7eab38f7ef81c8478d35c71fb529700156851ad68999d7e"), looks := false }, kinds := [], alts := [], laidByText := true, laidKinds := [.data, .pinned], laidTests := true, laidLooks := .later }
def GnameMatchUptoCardSaid : Prop := Claim7.holds Tryz.pinned (.plain (OpenSpec.upto gnameMatchSpec)) gnameMatchUptoCard

/-- THE SECOND FORM's CARD OF 'certpathlaw09.GnameSame'. -/
def gnameSameUptoCard : Claim7 := { stood := { row := gnameSameUptoRow, standIns := [], harness := (true, "a4fd21d7a3e277fcb7eab38f7ef81c8478d35c71fb529700156851ad68999d7e"), looks := false }, kinds := [], alts := [], laidByText := true, laidKinds := [.data, .pinned], laidTests := true, laidLooks := .later }
def GnameSameUptoCardSaid : Prop := Claim7.holds Tryz.pinned (.plain (OpenSpec.upto gnameSameSpec)) gnameSameUptoCard

/-- THE SECOND FORM's CARD OF 'certpathlaw10.SubtreeCheck'. -/
def subtreeCheckUptoCard : Claim7 := { stood := { row := subtreeCheckUptoRow, standIns := [], harness := (true, "a4fd21d7a3e277fcb7eab38f7ef81c8478d35c71fb529700156851ad68999d7e"), looks := false }, kinds := [], alts := [], laidByText := true, laidKinds := [.data, .pinned], laidTests := true, laidLooks := .later }
def SubtreeCheckUptoCardSaid : Prop := Claim7.holds Tryz.pinned (.plain (OpenSpec.upto subtreeCheckSpec)) subtreeCheckUptoCard
end Rows
end Go.Proofs.YtlamfnaoemingaaGreatDoor
