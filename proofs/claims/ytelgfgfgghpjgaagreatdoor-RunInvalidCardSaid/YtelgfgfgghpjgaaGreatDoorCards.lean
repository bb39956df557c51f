/-
  DERIVED. GIVEN WITH THE SEED: THE CARDS: each row of YtelgfgfgghpjgaaGreatDoorRows.lean that lists a variable, with what it lists TIED to the program's text (the seventh form; the later family's looks); each row that meets fmt, with fmt's text TOLD by the authors' own Lean function (tested against real Go, not proved from fmt's source: count such statements apart). THE CARD IS WHAT COUNTS. Prove the row's statement (the work); the ties are given (YtelgfgfgghpjgaaGreatDoorTie.lean); close each card by the builder's one call (the guide's Derived/Test/ToyasCard.lean, 'card_holds'). Laid BY PROGRAM, IN A SANDBOX (cutbox-door.mjs). By AI agents, Wed Nov 11 2026. No macro, syntax, notation, axiom, sorry.
-/
import Derived.Test.YtelgfgfgghpjgaaGreatDoorRows
import GoSem.ClaimSeven
namespace Go.Proofs.YtelgfgfgghpjgaaGreatDoor
namespace Rows

/-- THE TIED CARD OF 'interleavelaw09.RunInvalid'. -/
def runInvalidCard : Claim7 := { stood := { row := runInvalidRow, standIns := [], harness := (true, "ffb75ba081adb0506ef151313703e8db63198f78bc5172cf060ab8ae26ee298f"), looks := false }, kinds := [], alts := [], laidByText := true, laidKinds := [.data, .data], laidTests := true, laidLooks := .later }
def RunInvalidCardSaid : Prop := Claim7.holds Tryz.pinned (.plain (OpenSpec.ofChange runInvalidSpec)) runInvalidCard

/-- THE SECOND FORM's CARD OF 'interleavelaw09.RunInvalid'. -/
def runInvalidUptoCard : Claim7 := { stood := { row := runInvalidUptoRow, standIns := [], harness := (true, "ffb75ba081adb0506ef151313703e8db63198f78bc5172cf060ab8ae26ee298f"), looks := false }, kinds := [], alts := [], laidByText := true, laidKinds := [.data, .data], laidTests := true, laidLooks := .later }
def RunInvalidUptoCardSaid : Prop := Claim7.holds Tryz.pinned (.plain (OpenSpec.upto runInvalidSpec)) runInvalidUptoCard
end Rows
end Go.Proofs.YtelgfgfgghpjgaaGreatDoor
