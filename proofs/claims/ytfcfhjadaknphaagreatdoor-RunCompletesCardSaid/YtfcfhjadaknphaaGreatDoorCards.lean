/-
  DERIVED. GIVEN WITH THE SEED: THE CARDS: each row of YtfcfhjadaknphaaGreatDoorRows.lean that lists a variable, with what it lists TIED to the program's text (the seventh form; the later family's looks); each row that meets fmt, with fmt's text TOLD by the authors' own Lean function (tested against real Go, not proved from fmt's source: count such statements apart). THE CARD IS WHAT COUNTS. Prove the row's statement (the work); the ties are given (YtfcfhjadaknphaaGreatDoorTie.lean); close each card by the builder's one call (the guide's Derived/Test/ToyasCard.lean, 'card_holds'). Laid BY PROGRAM, IN A SANDBOX (cutbox-door.mjs). By AI agents, Wed Nov 11 2026. No macro, syntax, notation, axiom, sorry.
-/
import Derived.Test.YtfcfhjadaknphaaGreatDoorRows
import GoSem.ClaimSeven
namespace Go.Proofs.YtfcfhjadaknphaaGreatDoor
namespace Rows

/-- THE TIED CARD OF 'interleavelaw09.RunMeans'. -/
def runMeansCard : Claim7 := { stood := { row := runMeansRow, standIns := [], harness := (true, "e08e673ba947e92714df8edc94a28897a4121a5eb2d8b1af149f033eb855c838"), looks := false }, kinds := [], alts := [], laidByText := true, laidKinds := [.data, .data], laidTests := true, laidLooks := .later }
def RunMeansCardSaid : Prop := Claim7.holds Tryz.pinned (.plain (OpenSpec.ofChange runMeansSpec)) runMeansCard

/-- THE TIED CARD OF 'interleavelaw09.RunCompletes'. -/
def runCompletesCard : Claim7 := { stood := { row := runCompletesRow, standIns := [], harness := (true, "e08e673ba947e92714df8edc94a28897a4121a5eb2d8b1af149f033eb855c838"), looks := false }, kinds := [], alts := [], laidByText := true, laidKinds := [.data, .data], laidTests := true, laidLooks := .later }
def RunCompletesCardSaid : Prop := Claim7.holds Tryz.pinned (.plain (OpenSpec.ofChange runCompletesSpec)) runCompletesCard

/-- THE TIED CARD OF 'interleavelaw09.RunReplays'. -/
def runReplaysCard : Claim7 := { stood := { row := runReplaysRow, standIns := [], harness := (true, "e08e673ba947e92714df8edc94a28897a4121a5eb2d8b1af149f033eb855c838"), looks := false }, kinds := [], alts := [], laidByText := true, laidKinds := [.data, .data], laidTests := true, laidLooks := .later }
def RunReplaysCardSaid : Prop := Claim7.holds Tryz.pinned (.plain (OpenSpec.ofChange runReplaysSpec)) runReplaysCard

/-- THE SECOND FORM's CARD OF 'interleavelaw09.RunMeans'. -/
def runMeansUptoCard : Claim7 := { stood := { row := runMeansUptoRow, standIns := [], harness := (true, "e08e673ba947e92714df8edc94a28897a4121a5eb2d8b1af149f033eb855c838"), looks := false }, kinds := [], alts := [], laidByText := true, laidKinds := [.data, .data], laidTests := true, laidLooks := .later }
def RunMeansUptoCardSaid : Prop := Claim7.holds Tryz.pinned (.plain (OpenSpec.upto runMeansSpec)) runMeansUptoCard

/-- THE SECOND FORM's CARD OF 'interleavelaw09.RunCompletes'. -/
def runCompletesUptoCard : Claim7 := { stood := { row := runCompletesUptoRow, standIns := [], harness := (true, "e08e673ba947e92714df8edc94a28897a4121a5eb2d8b1af149f033eb855c838"), looks := false }, kinds := [], alts := [], laidByText := true, laidKinds := [.data, .data], laidTests := true, laidLooks := .later }
def RunCompletesUptoCardSaid : Prop := Claim7.holds Tryz.pinned (.plain (OpenSpec.upto runCompletesSpec)) runCompletesUptoCard

/-- THE SECOND FORM's CARD OF 'interleavelaw09.RunReplays'. -/
def runReplaysUptoCard : Claim7 := { stood := { row := runReplaysUptoRow, standIns := [], harness := (true, "e08e673ba947e92714df8edc94a28897a4121a5eb2d8b1af149f033eb855c838"), looks := false }, kinds := [], alts := [], laidByText := true, laidKinds := [.data, .data], laidTests := true, laidLooks := .later }
def RunReplaysUptoCardSaid : Prop := Claim7.holds Tryz.pinned (.plain (OpenSpec.upto runReplaysSpec)) runReplaysUptoCard
end Rows
end Go.Proofs.YtfcfhjadaknphaaGreatDoor
