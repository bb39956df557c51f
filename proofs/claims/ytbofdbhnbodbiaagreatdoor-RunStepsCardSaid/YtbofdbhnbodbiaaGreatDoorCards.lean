/-
  DERIVED. GIVEN WITH THE SEED: THE CARDS: each row of YtbofdbhnbodbiaaGreatDoorRows.lean that lists a variable, with what it lists TIED to the program's text (the seventh form; the later family's looks); each row that meets fmt, with fmt's text TOLD by the authors' own Lean function (tested against real Go, not proved from fmt's source: count such statements apart). THE CARD IS WHAT COUNTS. Prove the row's statement (the work); the ties are given (YtbofdbhnbodbiaaGreatDoorTie.lean); close each card by the builder's one call (the guide's Derived/Test/ToyasCard.lean, 'card_holds'). Laid BY PROGRAM, IN A SANDBOX (cutbox-door.mjs). By AI agents, Wed Nov 11 2026. No macro, syntax, notation, axiom, sorry.
-/
import Derived.Test.YtbofdbhnbodbiaaGreatDoorRows
import GoSem.ClaimSeven
namespace Go.Proofs.YtbofdbhnbodbiaaGreatDoor
namespace Rows

/-- THE TIED CARD OF 'interleavelaw09.RunTells'. -/
def runTellsCard : Claim7 := { stood := { row := runTellsRow, standIns := [], harness := (true, "582c587acad72431f11d1c6c05d48510a5b6937824720183e3f2e3dc3dc242d8"), looks := false }, kinds := [], alts := [], laidByText := true, laidKinds := [.data, .data], laidTests := true, laidLooks := .later }
def RunTellsCardSaid : Prop := Claim7.holds Tryz.pinned (.plain (OpenSpec.ofChange runTellsSpec)) runTellsCard

/-- THE TIED CARD OF 'interleavelaw09.RunSteps'. -/
def runStepsCard : Claim7 := { stood := { row := runStepsRow, standIns := [], harness := (true, "582c587acad72431f11d1c6c05d48510a5b6937824720183e3f2e3dc3dc242d8"), looks := false }, kinds := [], alts := [], laidByText := true, laidKinds := [.data, .data], laidTests := true, laidLooks := .later }
def RunStepsCardSaid : Prop := Claim7.holds Tryz.pinned (.plain (OpenSpec.ofChange runStepsSpec)) runStepsCard

/-- THE TIED CARD OF 'interleavelaw09.RunCompletes'. -/
def runCompletesCard : Claim7 := { stood := { row := runCompletesRow, standIns := [], harness := (true, "582c587acad72431f11d1c6c05d48510a5b6937824720183e3f2e3dc3dc242d8"), looks := false }, kinds := [], alts := [], laidByText := true, laidKinds := [.data, .data], laidTests := true, laidLooks := .later }
def RunCompletesCardSaid : Prop := Claim7.holds Tryz.pinned (.plain (OpenSpec.ofChange runCompletesSpec)) runCompletesCard

/-- THE SECOND FORM's CARD OF 'interleavelaw09.RunTells'. -/
def runTellsUptoCard : Claim7 := { stood := { row := runTellsUptoRow, standIns := [], harness := (true, "582c587acad72431f11d1c6c05d48510a5b6937824720183e3f2e3dc3dc242d8"), looks := false }, kinds := [], alts := [], laidByText := true, laidKinds := [.data, .data], laidTests := true, laidLooks := .later }
def RunTellsUptoCardSaid : Prop := Claim7.holds Tryz.pinned (.plain (OpenSpec.upto runTellsSpec)) runTellsUptoCard

/-- THE SECOND FORM's CARD OF 'interleavelaw09.RunSteps'. -/
def runStepsUptoCard : Claim7 := { stood := { row := runStepsUptoRow, standIns := [], harness := (true, "582c587acad72431f11d1c6c05d48510a5b6937824720183e3f2e3dc3dc242d8"), looks := false }, kinds := [], alts := [], laidByText := true, laidKinds := [.data, .data], laidTests := true, laidLooks := .later }
def RunStepsUptoCardSaid : Prop := Claim7.holds Tryz.pinned (.plain (OpenSpec.upto runStepsSpec)) runStepsUptoCard

/-- THE SECOND FORM's CARD OF 'interleavelaw09.RunCompletes'. -/
def runCompletesUptoCard : Claim7 := { stood := { row := runCompletesUptoRow, standIns := [], harness := (true, "582c587acad72431f11d1c6c05d48510a5b6937824720183e3f2e3dc3dc242d8"), looks := false }, kinds := [], alts := [], laidByText := true, laidKinds := [.data, .data], laidTests := true, laidLooks := .later }
def RunCompletesUptoCardSaid : Prop := Claim7.holds Tryz.pinned (.plain (OpenSpec.upto runCompletesSpec)) runCompletesUptoCard
end Rows
end Go.Proofs.YtbofdbhnbodbiaaGreatDoor
