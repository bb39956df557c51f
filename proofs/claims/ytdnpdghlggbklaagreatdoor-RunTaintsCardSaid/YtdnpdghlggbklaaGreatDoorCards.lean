/-
  DERIVED. GIVEN WITH THE SEED: THE CARDS: each row of YtdnpdghlggbklaaGreatDoorRows.lean that lists a variable, with what it lists TIED to the program's text (the seventh form; the later family's looks); each row that meets fmt, with fmt's text TOLD by the authors' own Lean function (tested against real Go, not proved from fmt's source: count such statements apart). THE CARD IS WHAT COUNTS. Prove the row's statement (the work); the ties are given (YtdnpdghlggbklaaGreatDoorTie.lean); close each card by the builder's one call (the guide's Derived/Test/ToyasCard.lean, 'card_holds'). Laid BY PROGRAM, IN A SANDBOX (cutbox-door.mjs). By AI agents, Wed Nov 11 2026. No macro, syntax, notation, axiom, sorry.
-/
import Derived.Test.YtdnpdghlggbklaaGreatDoorRows
import GoSem.ClaimSeven
namespace Go.Proofs.YtdnpdghlggbklaaGreatDoor
namespace Rows

/-- THE TIED CARD OF 'interleavelaw09.RunExcludes'. -/
def runExcludesCard : Claim7 := { stood := { row := runExcludesRow, standIns := [], harness := (true, "ad75a287e0302a7a76fcf79d67b5cc3751a068cc5dd6479cc8d802a10e56776f"), looks := false }, kinds := [], alts := [], laidByText := true, laidKinds := [.data, .data], laidTests := true, laidLooks := .later }
def RunExcludesCardSaid : Prop := Claim7.holds Tryz.pinned (.plain (OpenSpec.ofChange runExcludesSpec)) runExcludesCard

/-- THE TIED CARD OF 'interleavelaw09.RunStuck'. -/
def runStuckCard : Claim7 := { stood := { row := runStuckRow, standIns := [], harness := (true, "ad75a287e0302a7a76fcf79d67b5cc3751a068cc5dd6479cc8d802a10e56776f"), looks := false }, kinds := [], alts := [], laidByText := true, laidKinds := [.data, .data], laidTests := true, laidLooks := .later }
def RunStuckCardSaid : Prop := Claim7.holds Tryz.pinned (.plain (OpenSpec.ofChange runStuckSpec)) runStuckCard

/-- THE TIED CARD OF 'interleavelaw09.RunTaints'. -/
def runTaintsCard : Claim7 := { stood := { row := runTaintsRow, standIns := [], harness := (true, "ad75a287e0302a7a76fcf79d67b5cc3751a068cc5dd6479cc8d802a10e56776f"), looks := false }, kinds := [], alts := [], laidByText := true, laidKinds := [.data, .data], laidTests := true, laidLooks := .later }
def RunTaintsCardSaid : Prop := Claim7.holds Tryz.pinned (.plain (OpenSpec.ofChange runTaintsSpec)) runTaintsCard

/-- THE SECOND FORM's CARD OF 'interleavelaw09.RunExcludes'. -/
def runExcludesUptoCard : Claim7 := { stood := { row := runExcludesUptoRow, standIns := [], harness := (true, "ad75a287e0302a7a76fcf79d67b5cc3751a068cc5dd6479cc8d802a10e56776f"), looks := false }, kinds := [], alts := [], laidByText := true, laidKinds := [.data, .data], laidTests := true, laidLooks := .later }
def RunExcludesUptoCardSaid : Prop := Claim7.holds Tryz.pinned (.plain (OpenSpec.upto runExcludesSpec)) runExcludesUptoCard

/-- THE SECOND FORM's CARD OF 'interleavelaw09.RunStuck'. -/
def runStuckUptoCard : Claim7 := { stood := { row := runStuckUptoRow, standIns := [], harness := (true, "ad75a287e0302a7a76fcf79d67b5cc3751a068cc5dd6479cc8d802a10e56776f"), looks := false }, kinds := [], alts := [], laidByText := true, laidKinds := [.data, .data], laidTests := true, laidLooks := .later }
def RunStuckUptoCardSaid : Prop := Claim7.holds Tryz.pinned (.plain (OpenSpec.upto runStuckSpec)) runStuckUptoCard

/-- THE SECOND FORM's CARD OF 'interleavelaw09.RunTaints'. -/
def runTaintsUptoCard : Claim7 := { stood := { row := runTaintsUptoRow, standIns := [], harness := (true, "ad75a287e0302a7a76fcf79d67b5cc3751a068cc5dd6479cc8d802a10e56776f"), looks := false }, kinds := [], alts := [], laidByText := true, laidKinds := [.data, .data], laidTests := true, laidLooks := .later }
def RunTaintsUptoCardSaid : Prop := Claim7.holds Tryz.pinned (.plain (OpenSpec.upto runTaintsSpec)) runTaintsUptoCard
end Rows
end Go.Proofs.YtdnpdghlggbklaaGreatDoor
