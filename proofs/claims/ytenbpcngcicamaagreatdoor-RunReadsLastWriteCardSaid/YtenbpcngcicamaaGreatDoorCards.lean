/-
  DERIVED. GIVEN WITH THE SEED: THE CARDS: each row of YtenbpcngcicamaaGreatDoorRows.lean that lists a variable, with what it lists TIED to the program's text (the seventh form; the later family's looks); each row that meets fmt, with fmt's text TOLD by the authors' own Lean function (tested against real Go, not proved from fmt's source: count such statements apart). THE CARD IS WHAT COUNTS. Prove the row's statement (the work); the ties are given (YtenbpcngcicamaaGreatDoorTie.lean); close each card by the builder's one call (the guide's Derived/Test/ToyasCard.lean, 'card_holds'). Laid BY PROGRAM, IN A SANDBOX (cutbox-door.mjs). By AI agents, Wed Nov 11 2026. No macro, syntax, notation, axiom, sorry.
-/
import Derived.Test.YtenbpcngcicamaaGreatDoorRows
import GoSem.ClaimSeven
namespace Go.Proofs.YtenbpcngcicamaaGreatDoor
namespace Rows

/-- THE TIED CARD OF 'interleavelaw09.RunPrefixes'. -/
def runPrefixesCard : Claim7 := { stood := { row := runPrefixesRow, standIns := [], harness := (true, "34cb215a19cd3911e155f0238b9d2b94f9a61e3c9f91c0f37134d7bf312d9f7a"), looks := false }, kinds := [], alts := [], laidByText := true, laidKinds := [.data, .data], laidTests := true, laidLooks := .later }
def RunPrefixesCardSaid : Prop := Claim7.holds Tryz.pinned (.plain (OpenSpec.ofChange runPrefixesSpec)) runPrefixesCard

/-- THE TIED CARD OF 'interleavelaw09.RunReadsLastWrite'. -/
def runReadsLastWriteCard : Claim7 := { stood := { row := runReadsLastWriteRow, standIns := [], harness := (true, "34cb215a19cd3911e155f0238b9d2b94f9a61e3c9f91c0f37134d7bf312d9f7a"), looks := false }, kinds := [], alts := [], laidByText := true, laidKinds := [.data, .data], laidTests := true, laidLooks := .later }
def RunReadsLastWriteCardSaid : Prop := Claim7.holds Tryz.pinned (.plain (OpenSpec.ofChange runReadsLastWriteSpec)) runReadsLastWriteCard

/-- THE SECOND FORM's CARD OF 'interleavelaw09.RunPrefixes'. -/
def runPrefixesUptoCard : Claim7 := { stood := { row := runPrefixesUptoRow, standIns := [], harness := (true, "34cb215a19cd3911e155f0238b9d2b94f9a61e3c9f91c0f37134d7bf312d9f7a"), looks := false }, kinds := [], alts := [], laidByText := true, laidKinds := [.data, .data], laidTests := true, laidLooks := .later }
def RunPrefixesUptoCardSaid : Prop := Claim7.holds Tryz.pinned (.plain (OpenSpec.upto runPrefixesSpec)) runPrefixesUptoCard

/-- THE SECOND FORM's CARD OF 'interleavelaw09.RunReadsLastWrite'. -/
def runReadsLastWriteUptoCard : Claim7 := { stood := { row := runReadsLastWriteUptoRow, standIns := [], harness := (true, "34cb215a19cd3911e155f0238b9d2b94f9a61e3c9f91c0f37134d7bf312d9f7a"), looks := false }, kinds := [], alts := [], laidByText := true, laidKinds := [.data, .data], laidTests := true, laidLooks := .later }
def RunReadsLastWriteUptoCardSaid : Prop := Claim7.holds Tryz.pinned (.plain (OpenSpec.upto runReadsLastWriteSpec)) runReadsLastWriteUptoCard
end Rows
end Go.Proofs.YtenbpcngcicamaaGreatDoor
