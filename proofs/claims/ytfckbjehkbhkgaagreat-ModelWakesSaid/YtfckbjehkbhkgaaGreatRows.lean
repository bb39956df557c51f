/-
  No cell of these rows narrows 'for every input' (looked for: loops, veiled, ifaces, maps, wideKeys, modest, calm, conditions, laid).
  DERIVED. THE GIVEN ROWS OF THIS SEAT. 8 by the template 'for every input the law returns true; each argument reads behind the call as it read before'; 0 by the template 'total and deterministic' (their statements: YtfckbjehkbhkgaaGreatTotals.lean).
  GIVEN WITH THE SEED: the statements are not yours to turn. If you find one false, say at which input.
  Laid BY PROGRAM, IN A SANDBOX (cutbox-rows.mjs): the forced cells as the released guide's own fill.sh prints them over the translation 910b697fbf2d7e47… (all of the seat's roots in one cut). By AI agents, Wed Nov 11 2026. No macro, syntax, notation, axiom, sorry.
-/
import Derived.Test.YtfckbjehkbhkgaaGreatChecked
import GoSem.Claim
import GoSem.ClaimJoined
import GoSem.ClaimMapViews
import Derived.JoinedTies
import Derived.KernelRfl
namespace Go.Proofs.YtfckbjehkbhkgaaGreat
/- THE CELL 'sum', in the pinned program and in every row, IS THE sha256 OF THE DUMP (.gsa) THAT YtfckbjehkbhkgaaGreatProg.lean LOADS. Nothing in Lean hashes anything: it is a label: what it is worth is what the hold of that sum in a sandbox is worth. -/
noncomputable def Tryz.pinned : Pinned := { name := "ytfckbjehkbhkgaagreat", sum := "910b697fbf2d7e47781e3b60b96a708cfb7671b6cac8df8751bdb17a067e1308", checked := Tryz.checked }
namespace Rows
def none {H : Type} : Left H := { results := [], args := [] }

/-- 'interleavelaw19.ModelTells': WHATEVER THE INPUT: true; the input reads as it did. -/
def modelTellsSpec : ChangeSpec := { name := "modelTells", fn := fun _ => fun
  | [d1, d2, d3] => { results := [.lit (.bool true)], args := [d1, d2, d3] }
  | _ => none }
def modelTellsRow : OpenClaim := { program := "ytfckbjehkbhkgaagreat", sum := "910b697fbf2d7e47781e3b60b96a708cfb7671b6cac8df8751bdb17a067e1308", func := "interleave/interleavelaw19.ModelTells", spec := "modelTells", unfollowed := true, recurses := true, apart := false }
def ModelTellsSaid : Prop := modelTellsRow.holds Tryz.pinned (OpenSpec.ofChange modelTellsSpec)

/-- ITS FALSE NEIGHBOUR: 'it returns false'. Refute it at one input. -/
def modelTellsWrong : ChangeSpec := { name := "modelTells", fn := fun _ => fun
  | [d1, d2, d3] => { results := [.lit (.bool false)], args := [d1, d2, d3] }
  | _ => none }
def ModelTellsWrongFalsely : Prop := modelTellsRow.holds Tryz.pinned (OpenSpec.ofChange modelTellsWrong)

/-- 'interleavelaw19.ModelRuns': WHATEVER THE INPUT: true; the input reads as it did. -/
def modelRunsSpec : ChangeSpec := { name := "modelRuns", fn := fun _ => fun
  | [d1, d2, d3] => { results := [.lit (.bool true)], args := [d1, d2, d3] }
  | _ => none }
def modelRunsRow : OpenClaim := { program := "ytfckbjehkbhkgaagreat", sum := "910b697fbf2d7e47781e3b60b96a708cfb7671b6cac8df8751bdb17a067e1308", func := "interleave/interleavelaw19.ModelRuns", spec := "modelRuns", unfollowed := true, recurses := true, apart := false }
def ModelRunsSaid : Prop := modelRunsRow.holds Tryz.pinned (OpenSpec.ofChange modelRunsSpec)

/-- ITS FALSE NEIGHBOUR: 'it returns false'. Refute it at one input. -/
def modelRunsWrong : ChangeSpec := { name := "modelRuns", fn := fun _ => fun
  | [d1, d2, d3] => { results := [.lit (.bool false)], args := [d1, d2, d3] }
  | _ => none }
def ModelRunsWrongFalsely : Prop := modelRunsRow.holds Tryz.pinned (OpenSpec.ofChange modelRunsWrong)

/-- 'interleavelaw19.ModelThreads': WHATEVER THE INPUT: true; the input reads as it did. -/
def modelThreadsSpec : ChangeSpec := { name := "modelThreads", fn := fun _ => fun
  | [d1, d2] => { results := [.lit (.bool true)], args := [d1, d2] }
  | _ => none }
def modelThreadsRow : OpenClaim := { program := "ytfckbjehkbhkgaagreat", sum := "910b697fbf2d7e47781e3b60b96a708cfb7671b6cac8df8751bdb17a067e1308", func := "interleave/interleavelaw19.ModelThreads", spec := "modelThreads", unfollowed := true, recurses := true, apart := false }
def ModelThreadsSaid : Prop := modelThreadsRow.holds Tryz.pinned (OpenSpec.ofChange modelThreadsSpec)

/-- ITS FALSE NEIGHBOUR: 'it returns false'. Refute it at one input. -/
def modelThreadsWrong : ChangeSpec := { name := "modelThreads", fn := fun _ => fun
  | [d1, d2] => { results := [.lit (.bool false)], args := [d1, d2] }
  | _ => none }
def ModelThreadsWrongFalsely : Prop := modelThreadsRow.holds Tryz.pinned (OpenSpec.ofChange modelThreadsWrong)

/-- 'interleavelaw19.ModelReads': WHATEVER THE INPUT: true; the input reads as it did. -/
def modelReadsSpec : ChangeSpec := { name := "modelReads", fn := fun _ => fun
  | [d1, d2] => { results := [.lit (.bool true)], args := [d1, d2] }
  | _ => none }
def modelReadsRow : OpenClaim := { program := "ytfckbjehkbhkgaagreat", sum := "910b697fbf2d7e47781e3b60b96a708cfb7671b6cac8df8751bdb17a067e1308", func := "interleave/interleavelaw19.ModelReads", spec := "modelReads", unfollowed := true, recurses := true, apart := false }
def ModelReadsSaid : Prop := modelReadsRow.holds Tryz.pinned (OpenSpec.ofChange modelReadsSpec)

/-- ITS FALSE NEIGHBOUR: 'it returns false'. Refute it at one input. -/
def modelReadsWrong : ChangeSpec := { name := "modelReads", fn := fun _ => fun
  | [d1, d2] => { results := [.lit (.bool false)], args := [d1, d2] }
  | _ => none }
def ModelReadsWrongFalsely : Prop := modelReadsRow.holds Tryz.pinned (OpenSpec.ofChange modelReadsWrong)

/-- 'interleavelaw19.ModelDepends': WHATEVER THE INPUT: true; the input reads as it did. -/
def modelDependsSpec : ChangeSpec := { name := "modelDepends", fn := fun _ => fun
  | [d1, d2] => { results := [.lit (.bool true)], args := [d1, d2] }
  | _ => none }
def modelDependsRow : OpenClaim := { program := "ytfckbjehkbhkgaagreat", sum := "910b697fbf2d7e47781e3b60b96a708cfb7671b6cac8df8751bdb17a067e1308", func := "interleave/interleavelaw19.ModelDepends", spec := "modelDepends", unfollowed := true, recurses := true, apart := false }
def ModelDependsSaid : Prop := modelDependsRow.holds Tryz.pinned (OpenSpec.ofChange modelDependsSpec)

/-- ITS FALSE NEIGHBOUR: 'it returns false'. Refute it at one input. -/
def modelDependsWrong : ChangeSpec := { name := "modelDepends", fn := fun _ => fun
  | [d1, d2] => { results := [.lit (.bool false)], args := [d1, d2] }
  | _ => none }
def ModelDependsWrongFalsely : Prop := modelDependsRow.holds Tryz.pinned (OpenSpec.ofChange modelDependsWrong)

/-- 'interleavelaw19.ModelExchanges': WHATEVER THE INPUT: true; the input reads as it did. -/
def modelExchangesSpec : ChangeSpec := { name := "modelExchanges", fn := fun _ => fun
  | [d1, d2, d3, d4] => { results := [.lit (.bool true)], args := [d1, d2, d3, d4] }
  | _ => none }
def modelExchangesRow : OpenClaim := { program := "ytfckbjehkbhkgaagreat", sum := "910b697fbf2d7e47781e3b60b96a708cfb7671b6cac8df8751bdb17a067e1308", func := "interleave/interleavelaw19.ModelExchanges", spec := "modelExchanges", unfollowed := true, recurses := true, apart := false }
def ModelExchangesSaid : Prop := modelExchangesRow.holds Tryz.pinned (OpenSpec.ofChange modelExchangesSpec)

/-- ITS FALSE NEIGHBOUR: 'it returns false'. Refute it at one input. -/
def modelExchangesWrong : ChangeSpec := { name := "modelExchanges", fn := fun _ => fun
  | [d1, d2, d3, d4] => { results := [.lit (.bool false)], args := [d1, d2, d3, d4] }
  | _ => none }
def ModelExchangesWrongFalsely : Prop := modelExchangesRow.holds Tryz.pinned (OpenSpec.ofChange modelExchangesWrong)

/-- 'interleavelaw19.ModelWakes': WHATEVER THE INPUT: true; the input reads as it did. -/
def modelWakesSpec : ChangeSpec := { name := "modelWakes", fn := fun _ => fun
  | [d1, d2, d3] => { results := [.lit (.bool true)], args := [d1, d2, d3] }
  | _ => none }
def modelWakesRow : OpenClaim := { program := "ytfckbjehkbhkgaagreat", sum := "910b697fbf2d7e47781e3b60b96a708cfb7671b6cac8df8751bdb17a067e1308", func := "interleave/interleavelaw19.ModelWakes", spec := "modelWakes", unfollowed := true, recurses := true, apart := false }
def ModelWakesSaid : Prop := modelWakesRow.holds Tryz.pinned (OpenSpec.ofChange modelWakesSpec)

/-- ITS FALSE NEIGHBOUR: 'it returns false'. Refute it at one input. -/
def modelWakesWrong : ChangeSpec := { name := "modelWakes", fn := fun _ => fun
  | [d1, d2, d3] => { results := [.lit (.bool false)], args := [d1, d2, d3] }
  | _ => none }
def ModelWakesWrongFalsely : Prop := modelWakesRow.holds Tryz.pinned (OpenSpec.ofChange modelWakesWrong)

/-- 'interleavelaw19.ModelRecorded': WHATEVER THE INPUT: true; the input reads as it did. -/
def modelRecordedSpec : ChangeSpec := { name := "modelRecorded", fn := fun _ => fun
  | [d] => { results := [.lit (.bool true)], args := [d] }
  | _ => none }
def modelRecordedRow : OpenClaim := { program := "ytfckbjehkbhkgaagreat", sum := "910b697fbf2d7e47781e3b60b96a708cfb7671b6cac8df8751bdb17a067e1308", func := "interleave/interleavelaw19.ModelRecorded", spec := "modelRecorded", unfollowed := true, recurses := true, apart := false }
def ModelRecordedSaid : Prop := modelRecordedRow.holds Tryz.pinned (OpenSpec.ofChange modelRecordedSpec)

/-- ITS FALSE NEIGHBOUR: 'it returns false'. Refute it at one input. -/
def modelRecordedWrong : ChangeSpec := { name := "modelRecorded", fn := fun _ => fun
  | [d] => { results := [.lit (.bool false)], args := [d] }
  | _ => none }
def ModelRecordedWrongFalsely : Prop := modelRecordedRow.holds Tryz.pinned (OpenSpec.ofChange modelRecordedWrong)

/- THE SECOND FORM. 'bulk': how many values and letters a reading holds, each counted each time it is reached (what is shared counts as often as it is met; a slice's spare places count too). A statement '..UptoSaid' is the law's where the arguments, and the package variables that the reading takes, are together of bulk at most 1048576: NARROWER than '..Said'. Prove '..Said' where nothing that the law and all that it calls make is longer than what came in: it says more and counts as full. Else prove '..UptoSaid'. A law counts once. -/
mutual
def uptoBulk {H : Type} : DataW H → Nat
  | .lit (.string bytes) => bytes.length + 1
  | .lit _ => 1
  | .nil => 1
  | .ptr d => uptoBulk d + 1
  | .slice elems spare => uptoBulkAll elems + uptoBulkAll spare + 1
  | .agg parts => uptoBulkAll parts + 1
  | .iface _ d => uptoBulk d + 1
  | .map entries => uptoBulkEntries entries + 1
  | .held _ => 1
def uptoBulkAll {H : Type} : List (DataW H) → Nat
  | [] => 0
  | d :: r => uptoBulk d + uptoBulkAll r
def uptoBulkEntries {H : Type} : List (Lit × DataW H) → Nat
  | [] => 0
  | x :: r => uptoBulkEntry x + uptoBulkEntries r
def uptoBulkEntry {H : Type} : Lit × DataW H → Nat
  | (.string bytes, d) => bytes.length + uptoBulk d + 1
  | (_, d) => uptoBulk d + 1
 end
def uptoSmall : (H : Type) → List (DataW H) → Bool := fun _ ds => decide (uptoBulkAll ds ≤ 1048576)
def OpenSpec.upto (s : _root_.Go.ChangeSpec) : _root_.Go.OpenSpec := { _root_.Go.OpenSpec.ofChange s with cond := some uptoSmall }

/-- 'interleavelaw19.ModelTells', WHERE WHAT IT READS IS OF BULK AT MOST 1048576: true; the input reads as it did. -/
def modelTellsUptoRow : OpenClaim := { program := "ytfckbjehkbhkgaagreat", sum := "910b697fbf2d7e47781e3b60b96a708cfb7671b6cac8df8751bdb17a067e1308", func := "interleave/interleavelaw19.ModelTells", spec := "modelTells", unfollowed := true, recurses := true, apart := false, narrowed := true }
def ModelTellsUptoSaid : Prop := modelTellsUptoRow.holds Tryz.pinned (OpenSpec.upto modelTellsSpec)

/-- 'interleavelaw19.ModelRuns', WHERE WHAT IT READS IS OF BULK AT MOST 1048576: true; the input reads as it did. -/
def modelRunsUptoRow : OpenClaim := { program := "ytfckbjehkbhkgaagreat", sum := "910b697fbf2d7e47781e3b60b96a708cfb7671b6cac8df8751bdb17a067e1308", func := "interleave/interleavelaw19.ModelRuns", spec := "modelRuns", unfollowed := true, recurses := true, apart := false, narrowed := true }
def ModelRunsUptoSaid : Prop := modelRunsUptoRow.holds Tryz.pinned (OpenSpec.upto modelRunsSpec)

/-- 'interleavelaw19.ModelThreads', WHERE WHAT IT READS IS OF BULK AT MOST 1048576: true; the input reads as it did. -/
def modelThreadsUptoRow : OpenClaim := { program := "ytfckbjehkbhkgaagreat", sum := "910b697fbf2d7e47781e3b60b96a708cfb7671b6cac8df8751bdb17a067e1308", func := "interleave/interleavelaw19.ModelThreads", spec := "modelThreads", unfollowed := true, recurses := true, apart := false, narrowed := true }
def ModelThreadsUptoSaid : Prop := modelThreadsUptoRow.holds Tryz.pinned (OpenSpec.upto modelThreadsSpec)

/-- 'interleavelaw19.ModelReads', WHERE WHAT IT READS IS OF BULK AT MOST 1048576: true; the input reads as it did. -/
def modelReadsUptoRow : OpenClaim := { program := "ytfckbjehkbhkgaagreat", sum := "910b697fbf2d7e47781e3b60b96a708cfb7671b6cac8df8751bdb17a067e1308", func := "interleave/interleavelaw19.ModelReads", spec := "modelReads", unfollowed := true, recurses := true, apart := false, narrowed := true }
def ModelReadsUptoSaid : Prop := modelReadsUptoRow.holds Tryz.pinned (OpenSpec.upto modelReadsSpec)

/-- 'interleavelaw19.ModelDepends', WHERE WHAT IT READS IS OF BULK AT MOST 1048576: true; the input reads as it did. -/
def modelDependsUptoRow : OpenClaim := { program := "ytfckbjehkbhkgaagreat", sum := "910b697fbf2d7e47781e3b60b96a708cfb7671b6cac8df8751bdb17a067e1308", func := "interleave/interleavelaw19.ModelDepends", spec := "modelDepends", unfollowed := true, recurses := true, apart := false, narrowed := true }
def ModelDependsUptoSaid : Prop := modelDependsUptoRow.holds Tryz.pinned (OpenSpec.upto modelDependsSpec)

/-- 'interleavelaw19.ModelExchanges', WHERE WHAT IT READS IS OF BULK AT MOST 1048576: true; the input reads as it did. -/
def modelExchangesUptoRow : OpenClaim := { program := "ytfckbjehkbhkgaagreat", sum := "910b697fbf2d7e47781e3b60b96a708cfb7671b6cac8df8751bdb17a067e1308", func := "interleave/interleavelaw19.ModelExchanges", spec := "modelExchanges", unfollowed := true, recurses := true, apart := false, narrowed := true }
def ModelExchangesUptoSaid : Prop := modelExchangesUptoRow.holds Tryz.pinned (OpenSpec.upto modelExchangesSpec)

/-- 'interleavelaw19.ModelWakes', WHERE WHAT IT READS IS OF BULK AT MOST 1048576: true; the input reads as it did. -/
def modelWakesUptoRow : OpenClaim := { program := "ytfckbjehkbhkgaagreat", sum := "910b697fbf2d7e47781e3b60b96a708cfb7671b6cac8df8751bdb17a067e1308", func := "interleave/interleavelaw19.ModelWakes", spec := "modelWakes", unfollowed := true, recurses := true, apart := false, narrowed := true }
def ModelWakesUptoSaid : Prop := modelWakesUptoRow.holds Tryz.pinned (OpenSpec.upto modelWakesSpec)

/-- 'interleavelaw19.ModelRecorded', WHERE WHAT IT READS IS OF BULK AT MOST 1048576: true; the input reads as it did. -/
def modelRecordedUptoRow : OpenClaim := { program := "ytfckbjehkbhkgaagreat", sum := "910b697fbf2d7e47781e3b60b96a708cfb7671b6cac8df8751bdb17a067e1308", func := "interleave/interleavelaw19.ModelRecorded", spec := "modelRecorded", unfollowed := true, recurses := true, apart := false, narrowed := true }
def ModelRecordedUptoSaid : Prop := modelRecordedUptoRow.holds Tryz.pinned (OpenSpec.upto modelRecordedSpec)

end Rows
end Go.Proofs.YtfckbjehkbhkgaaGreat
