/-
  No cell of these rows narrows 'for every input' (looked for: loops, veiled, ifaces, maps, wideKeys, modest, calm, conditions, laid).
  DERIVED. THE GIVEN ROWS OF THIS SEAT. 11 by the template 'for every input the law returns true; each argument reads behind the call as it read before'; 0 by the template 'total and deterministic' (their statements: YtadjimfkfmojkaaTotals.lean).
  GIVEN WITH THE SEED: the statements are not yours to turn. If you find one false, say at which input.
  Laid BY PROGRAM, IN A SANDBOX (cutbox-rows.mjs): the forced cells as the released guide's own fill.sh prints them over the translation e4b995e546290088… (all of the seat's roots in one cut). By AI agents, Wed Nov 11 2026. No macro, syntax, notation, axiom, sorry.
-/
import Derived.Test.YtadjimfkfmojkaaChecked
import GoSem.Claim
import GoSem.ClaimJoined
import GoSem.ClaimMapViews
import Derived.JoinedTies
import Derived.KernelRfl
namespace Go.Proofs.Ytadjimfkfmojkaa
/- THE CELL 'sum', in the pinned program and in every row, IS THE sha256 OF THE DUMP (.gsa) THAT YtadjimfkfmojkaaProg.lean LOADS. Nothing in Lean hashes anything: it is a label: what it is worth is what the hold of that sum in a sandbox is worth. -/
noncomputable def Try.pinned : Pinned := { name := "ytadjimfkfmojkaa", sum := "e4b995e546290088c655afc0114090ff84a3d08bdd891b439d75b5b5adb891dc", checked := Try.checked }
namespace Rows
def none {H : Type} : Left H := { results := [], args := [] }

/-- 'interleavelaw07.SilentUnions': WHATEVER THE INPUT: true; the input reads as it did. -/
def silentUnionsSpec : ChangeSpec := { name := "silentUnions", fn := fun _ => fun
  | [d1, d2] => { results := [.lit (.bool true)], args := [d1, d2] }
  | _ => none }
def silentUnionsRow : OpenClaim := { program := "ytadjimfkfmojkaa", sum := "e4b995e546290088c655afc0114090ff84a3d08bdd891b439d75b5b5adb891dc", func := "interleave/interleavelaw07.SilentUnions", spec := "silentUnions", recurses := true, apart := false }
def SilentUnionsSaid : Prop := silentUnionsRow.holds Try.pinned (OpenSpec.ofChange silentUnionsSpec)

/-- ITS FALSE NEIGHBOUR: 'it returns false'. Refute it at one input. -/
def silentUnionsWrong : ChangeSpec := { name := "silentUnions", fn := fun _ => fun
  | [d1, d2] => { results := [.lit (.bool false)], args := [d1, d2] }
  | _ => none }
def SilentUnionsWrongFalsely : Prop := silentUnionsRow.holds Try.pinned (OpenSpec.ofChange silentUnionsWrong)

/-- 'interleavelaw07.SilentTells': WHATEVER THE INPUT: true; the input reads as it did. -/
def silentTellsSpec : ChangeSpec := { name := "silentTells", fn := fun _ => fun
  | [d1, d2] => { results := [.lit (.bool true)], args := [d1, d2] }
  | _ => none }
def silentTellsRow : OpenClaim := { program := "ytadjimfkfmojkaa", sum := "e4b995e546290088c655afc0114090ff84a3d08bdd891b439d75b5b5adb891dc", func := "interleave/interleavelaw07.SilentTells", spec := "silentTells", unfollowed := true, recurses := true, apart := false }
def SilentTellsSaid : Prop := silentTellsRow.holds Try.pinned (OpenSpec.ofChange silentTellsSpec)

/-- ITS FALSE NEIGHBOUR: 'it returns false'. Refute it at one input. -/
def silentTellsWrong : ChangeSpec := { name := "silentTells", fn := fun _ => fun
  | [d1, d2] => { results := [.lit (.bool false)], args := [d1, d2] }
  | _ => none }
def SilentTellsWrongFalsely : Prop := silentTellsRow.holds Try.pinned (OpenSpec.ofChange silentTellsWrong)

/-- 'interleavelaw07.SilentCycles': WHATEVER THE INPUT: true; the input reads as it did. -/
def silentCyclesSpec : ChangeSpec := { name := "silentCycles", fn := fun _ => fun
  | [] => { results := [.lit (.bool true)], args := [] }
  | _ => none }
def silentCyclesRow : OpenClaim := { program := "ytadjimfkfmojkaa", sum := "e4b995e546290088c655afc0114090ff84a3d08bdd891b439d75b5b5adb891dc", func := "interleave/interleavelaw07.SilentCycles", spec := "silentCycles", unfollowed := true, recurses := true, apart := false }
def SilentCyclesSaid : Prop := silentCyclesRow.holds Try.pinned (OpenSpec.ofChange silentCyclesSpec)

/-- ITS FALSE NEIGHBOUR: 'it returns false'. Refute it at one input. -/
def silentCyclesWrong : ChangeSpec := { name := "silentCycles", fn := fun _ => fun
  | [] => { results := [.lit (.bool false)], args := [] }
  | _ => none }
def SilentCyclesWrongFalsely : Prop := silentCyclesRow.holds Try.pinned (OpenSpec.ofChange silentCyclesWrong)

/-- 'interleavelaw08.ObjectStarts': WHATEVER THE INPUT: true; the input reads as it did. -/
def objectStartsSpec : ChangeSpec := { name := "objectStarts", fn := fun _ => fun
  | [d] => { results := [.lit (.bool true)], args := [d] }
  | _ => none }
def objectStartsRow : OpenClaim := { program := "ytadjimfkfmojkaa", sum := "e4b995e546290088c655afc0114090ff84a3d08bdd891b439d75b5b5adb891dc", func := "interleave/interleavelaw08.ObjectStarts", spec := "objectStarts", unfollowed := true, recurses := true, apart := false }
def ObjectStartsSaid : Prop := objectStartsRow.holds Try.pinned (OpenSpec.ofChange objectStartsSpec)

/-- ITS FALSE NEIGHBOUR: 'it returns false'. Refute it at one input. -/
def objectStartsWrong : ChangeSpec := { name := "objectStarts", fn := fun _ => fun
  | [d] => { results := [.lit (.bool false)], args := [d] }
  | _ => none }
def ObjectStartsWrongFalsely : Prop := objectStartsRow.holds Try.pinned (OpenSpec.ofChange objectStartsWrong)

/-- 'interleavelaw08.ObjectReleases': WHATEVER THE INPUT: true; the input reads as it did. -/
def objectReleasesSpec : ChangeSpec := { name := "objectReleases", fn := fun _ => fun
  | [d1, d2, d3] => { results := [.lit (.bool true)], args := [d1, d2, d3] }
  | _ => none }
def objectReleasesRow : OpenClaim := { program := "ytadjimfkfmojkaa", sum := "e4b995e546290088c655afc0114090ff84a3d08bdd891b439d75b5b5adb891dc", func := "interleave/interleavelaw08.ObjectReleases", spec := "objectReleases", unfollowed := true, recurses := true, apart := false }
def ObjectReleasesSaid : Prop := objectReleasesRow.holds Try.pinned (OpenSpec.ofChange objectReleasesSpec)

/-- ITS FALSE NEIGHBOUR: 'it returns false'. Refute it at one input. -/
def objectReleasesWrong : ChangeSpec := { name := "objectReleases", fn := fun _ => fun
  | [d1, d2, d3] => { results := [.lit (.bool false)], args := [d1, d2, d3] }
  | _ => none }
def ObjectReleasesWrongFalsely : Prop := objectReleasesRow.holds Try.pinned (OpenSpec.ofChange objectReleasesWrong)

/-- 'interleavelaw08.ObjectNotifies': WHATEVER THE INPUT: true; the input reads as it did. -/
def objectNotifiesSpec : ChangeSpec := { name := "objectNotifies", fn := fun _ => fun
  | [d1, d2, d3] => { results := [.lit (.bool true)], args := [d1, d2, d3] }
  | _ => none }
def objectNotifiesRow : OpenClaim := { program := "ytadjimfkfmojkaa", sum := "e4b995e546290088c655afc0114090ff84a3d08bdd891b439d75b5b5adb891dc", func := "interleave/interleavelaw08.ObjectNotifies", spec := "objectNotifies", unfollowed := true, recurses := true, apart := false }
def ObjectNotifiesSaid : Prop := objectNotifiesRow.holds Try.pinned (OpenSpec.ofChange objectNotifiesSpec)

/-- ITS FALSE NEIGHBOUR: 'it returns false'. Refute it at one input. -/
def objectNotifiesWrong : ChangeSpec := { name := "objectNotifies", fn := fun _ => fun
  | [d1, d2, d3] => { results := [.lit (.bool false)], args := [d1, d2, d3] }
  | _ => none }
def ObjectNotifiesWrongFalsely : Prop := objectNotifiesRow.holds Try.pinned (OpenSpec.ofChange objectNotifiesWrong)

/-- 'interleavelaw08.ObjectIndependent': WHATEVER THE INPUT: true; the input reads as it did. -/
def objectIndependentSpec : ChangeSpec := { name := "objectIndependent", fn := fun _ => fun
  | [d1, d2, d3] => { results := [.lit (.bool true)], args := [d1, d2, d3] }
  | _ => none }
def objectIndependentRow : OpenClaim := { program := "ytadjimfkfmojkaa", sum := "e4b995e546290088c655afc0114090ff84a3d08bdd891b439d75b5b5adb891dc", func := "interleave/interleavelaw08.ObjectIndependent", spec := "objectIndependent", unfollowed := true, recurses := true, apart := false }
def ObjectIndependentSaid : Prop := objectIndependentRow.holds Try.pinned (OpenSpec.ofChange objectIndependentSpec)

/-- ITS FALSE NEIGHBOUR: 'it returns false'. Refute it at one input. -/
def objectIndependentWrong : ChangeSpec := { name := "objectIndependent", fn := fun _ => fun
  | [d1, d2, d3] => { results := [.lit (.bool false)], args := [d1, d2, d3] }
  | _ => none }
def ObjectIndependentWrongFalsely : Prop := objectIndependentRow.holds Try.pinned (OpenSpec.ofChange objectIndependentWrong)

/-- 'interleavelaw08.ObjectPlays': WHATEVER THE INPUT: true; the input reads as it did. -/
def objectPlaysSpec : ChangeSpec := { name := "objectPlays", fn := fun _ => fun
  | [d] => { results := [.lit (.bool true)], args := [d] }
  | _ => none }
def objectPlaysRow : OpenClaim := { program := "ytadjimfkfmojkaa", sum := "e4b995e546290088c655afc0114090ff84a3d08bdd891b439d75b5b5adb891dc", func := "interleave/interleavelaw08.ObjectPlays", spec := "objectPlays", unfollowed := true, recurses := true, apart := false }
def ObjectPlaysSaid : Prop := objectPlaysRow.holds Try.pinned (OpenSpec.ofChange objectPlaysSpec)

/-- ITS FALSE NEIGHBOUR: 'it returns false'. Refute it at one input. -/
def objectPlaysWrong : ChangeSpec := { name := "objectPlays", fn := fun _ => fun
  | [d] => { results := [.lit (.bool false)], args := [d] }
  | _ => none }
def ObjectPlaysWrongFalsely : Prop := objectPlaysRow.holds Try.pinned (OpenSpec.ofChange objectPlaysWrong)

/-- 'interleavelaw08.ObjectTells': WHATEVER THE INPUT: true; the input reads as it did. -/
def objectTellsSpec : ChangeSpec := { name := "objectTells", fn := fun _ => fun
  | [d1, d2, d3, d4, d5, d6] => { results := [.lit (.bool true)], args := [d1, d2, d3, d4, d5, d6] }
  | _ => none }
def objectTellsRow : OpenClaim := { program := "ytadjimfkfmojkaa", sum := "e4b995e546290088c655afc0114090ff84a3d08bdd891b439d75b5b5adb891dc", func := "interleave/interleavelaw08.ObjectTells", spec := "objectTells", unfollowed := true, recurses := true, apart := false }
def ObjectTellsSaid : Prop := objectTellsRow.holds Try.pinned (OpenSpec.ofChange objectTellsSpec)

/-- ITS FALSE NEIGHBOUR: 'it returns false'. Refute it at one input. -/
def objectTellsWrong : ChangeSpec := { name := "objectTells", fn := fun _ => fun
  | [d1, d2, d3, d4, d5, d6] => { results := [.lit (.bool false)], args := [d1, d2, d3, d4, d5, d6] }
  | _ => none }
def ObjectTellsWrongFalsely : Prop := objectTellsRow.holds Try.pinned (OpenSpec.ofChange objectTellsWrong)

/-- 'interleavelaw08.ObjectAny': WHATEVER THE INPUT: true; the input reads as it did. -/
def objectAnySpec : ChangeSpec := { name := "objectAny", fn := fun _ => fun
  | [d1, d2] => { results := [.lit (.bool true)], args := [d1, d2] }
  | _ => none }
def objectAnyRow : OpenClaim := { program := "ytadjimfkfmojkaa", sum := "e4b995e546290088c655afc0114090ff84a3d08bdd891b439d75b5b5adb891dc", func := "interleave/interleavelaw08.ObjectAny", spec := "objectAny", unfollowed := true, recurses := true, apart := false }
def ObjectAnySaid : Prop := objectAnyRow.holds Try.pinned (OpenSpec.ofChange objectAnySpec)

/-- ITS FALSE NEIGHBOUR: 'it returns false'. Refute it at one input. -/
def objectAnyWrong : ChangeSpec := { name := "objectAny", fn := fun _ => fun
  | [d1, d2] => { results := [.lit (.bool false)], args := [d1, d2] }
  | _ => none }
def ObjectAnyWrongFalsely : Prop := objectAnyRow.holds Try.pinned (OpenSpec.ofChange objectAnyWrong)

/-- 'interleavelaw08.ObjectBlocks': WHATEVER THE INPUT: true; the input reads as it did. -/
def objectBlocksSpec : ChangeSpec := { name := "objectBlocks", fn := fun _ => fun
  | [d1, d2, d3] => { results := [.lit (.bool true)], args := [d1, d2, d3] }
  | _ => none }
def objectBlocksRow : OpenClaim := { program := "ytadjimfkfmojkaa", sum := "e4b995e546290088c655afc0114090ff84a3d08bdd891b439d75b5b5adb891dc", func := "interleave/interleavelaw08.ObjectBlocks", spec := "objectBlocks", unfollowed := true, recurses := true, apart := false }
def ObjectBlocksSaid : Prop := objectBlocksRow.holds Try.pinned (OpenSpec.ofChange objectBlocksSpec)

/-- ITS FALSE NEIGHBOUR: 'it returns false'. Refute it at one input. -/
def objectBlocksWrong : ChangeSpec := { name := "objectBlocks", fn := fun _ => fun
  | [d1, d2, d3] => { results := [.lit (.bool false)], args := [d1, d2, d3] }
  | _ => none }
def ObjectBlocksWrongFalsely : Prop := objectBlocksRow.holds Try.pinned (OpenSpec.ofChange objectBlocksWrong)

/- THE SECOND FORM. 'bulk': how many values and letters a reading holds, each counted each time it is reached (what is shared counts as often as it is met; a slice's spare places count too). A statement '..UptoSaid' is the law's where the arguments, and the package variables that the reading takes, are together of bulk at most 1048576: NARROWER than '..Said'. Prove '..Said' where nothing that the law and all that it calls make is longer than what came in: it says more and counts as full. Else prove '..UptoSaid'. A law counts once. -/
mutual
def uptoBulk {H : Type} : DataW H → Nat
  | .lit (.string bytes) => bytes.length + 1
  | .lit _ => 1
  | .nil => 1
  | .ptr d => uptoBulk d + 1
  | .slice elems spare => uptoBulkAll elems + uptoBulkAll spare + 1
  | .agg parts => uptoBulkAll parts + 1
  | .iface _ d => uptoBulk d + 1
  | .map entries => uptoBulkEntries entries + 1
  | .held _ => 1
def uptoBulkAll {H : Type} : List (DataW H) → Nat
  | [] => 0
  | d :: r => uptoBulk d + uptoBulkAll r
def uptoBulkEntries {H : Type} : List (Lit × DataW H) → Nat
  | [] => 0
  | x :: r => uptoBulkEntry x + uptoBulkEntries r
def uptoBulkEntry {H : Type} : Lit × DataW H → Nat
  | (.string bytes, d) => bytes.length + uptoBulk d + 1
  | (_, d) => uptoBulk d + 1
 end
def uptoSmall : (H : Type) → List (DataW H) → Bool := fun _ ds => decide (uptoBulkAll ds ≤ 1048576)
def OpenSpec.upto (s : _root_.Go.ChangeSpec) : _root_.Go.OpenSpec := { _root_.Go.OpenSpec.ofChange s with cond := some uptoSmall }

/-- 'interleavelaw07.SilentUnions', WHERE WHAT IT READS IS OF BULK AT MOST 1048576: true; the input reads as it did. -/
def silentUnionsUptoRow : OpenClaim := { program := "ytadjimfkfmojkaa", sum := "e4b995e546290088c655afc0114090ff84a3d08bdd891b439d75b5b5adb891dc", func := "interleave/interleavelaw07.SilentUnions", spec := "silentUnions", recurses := true, apart := false, narrowed := true }
def SilentUnionsUptoSaid : Prop := silentUnionsUptoRow.holds Try.pinned (OpenSpec.upto silentUnionsSpec)

/-- 'interleavelaw07.SilentTells', WHERE WHAT IT READS IS OF BULK AT MOST 1048576: true; the input reads as it did. -/
def silentTellsUptoRow : OpenClaim := { program := "ytadjimfkfmojkaa", sum := "e4b995e546290088c655afc0114090ff84a3d08bdd891b439d75b5b5adb891dc", func := "interleave/interleavelaw07.SilentTells", spec := "silentTells", unfollowed := true, recurses := true, apart := false, narrowed := true }
def SilentTellsUptoSaid : Prop := silentTellsUptoRow.holds Try.pinned (OpenSpec.upto silentTellsSpec)

/-- 'interleavelaw07.SilentCycles', WHERE WHAT IT READS IS OF BULK AT MOST 1048576: true; the input reads as it did. -/
def silentCyclesUptoRow : OpenClaim := { program := "ytadjimfkfmojkaa", sum := "e4b995e546290088c655afc0114090ff84a3d08bdd891b439d75b5b5adb891dc", func := "interleave/interleavelaw07.SilentCycles", spec := "silentCycles", unfollowed := true, recurses := true, apart := false, narrowed := true }
def SilentCyclesUptoSaid : Prop := silentCyclesUptoRow.holds Try.pinned (OpenSpec.upto silentCyclesSpec)

/-- 'interleavelaw08.ObjectStarts', WHERE WHAT IT READS IS OF BULK AT MOST 1048576: true; the input reads as it did. -/
def objectStartsUptoRow : OpenClaim := { program := "ytadjimfkfmojkaa", sum := "e4b995e546290088c655afc0114090ff84a3d08bdd891b439d75b5b5adb891dc", func := "interleave/interleavelaw08.ObjectStarts", spec := "objectStarts", unfollowed := true, recurses := true, apart := false, narrowed := true }
def ObjectStartsUptoSaid : Prop := objectStartsUptoRow.holds Try.pinned (OpenSpec.upto objectStartsSpec)

/-- 'interleavelaw08.ObjectReleases', WHERE WHAT IT READS IS OF BULK AT MOST 1048576: true; the input reads as it did. -/
def objectReleasesUptoRow : OpenClaim := { program := "ytadjimfkfmojkaa", sum := "e4b995e546290088c655afc0114090ff84a3d08bdd891b439d75b5b5adb891dc", func := "interleave/interleavelaw08.ObjectReleases", spec := "objectReleases", unfollowed := true, recurses := true, apart := false, narrowed := true }
def ObjectReleasesUptoSaid : Prop := objectReleasesUptoRow.holds Try.pinned (OpenSpec.upto objectReleasesSpec)

/-- 'interleavelaw08.ObjectNotifies', WHERE WHAT IT READS IS OF BULK AT MOST 1048576: true; the input reads as it did. -/
def objectNotifiesUptoRow : OpenClaim := { program := "ytadjimfkfmojkaa", sum := "e4b995e546290088c655afc0114090ff84a3d08bdd891b439d75b5b5adb891dc", func := "interleave/interleavelaw08.ObjectNotifies", spec := "objectNotifies", unfollowed := true, recurses := true, apart := false, narrowed := true }
def ObjectNotifiesUptoSaid : Prop := objectNotifiesUptoRow.holds Try.pinned (OpenSpec.upto objectNotifiesSpec)

/-- 'interleavelaw08.ObjectIndependent', WHERE WHAT IT READS IS OF BULK AT MOST 1048576: true; the input reads as it did. -/
def objectIndependentUptoRow : OpenClaim := { program := "ytadjimfkfmojkaa", sum := "e4b995e546290088c655afc0114090ff84a3d08bdd891b439d75b5b5adb891dc", func := "interleave/interleavelaw08.ObjectIndependent", spec := "objectIndependent", unfollowed := true, recurses := true, apart := false, narrowed := true }
def ObjectIndependentUptoSaid : Prop := objectIndependentUptoRow.holds Try.pinned (OpenSpec.upto objectIndependentSpec)

/-- 'interleavelaw08.ObjectPlays', WHERE WHAT IT READS IS OF BULK AT MOST 1048576: true; the input reads as it did. -/
def objectPlaysUptoRow : OpenClaim := { program := "ytadjimfkfmojkaa", sum := "e4b995e546290088c655afc0114090ff84a3d08bdd891b439d75b5b5adb891dc", func := "interleave/interleavelaw08.ObjectPlays", spec := "objectPlays", unfollowed := true, recurses := true, apart := false, narrowed := true }
def ObjectPlaysUptoSaid : Prop := objectPlaysUptoRow.holds Try.pinned (OpenSpec.upto objectPlaysSpec)

/-- 'interleavelaw08.ObjectTells', WHERE WHAT IT READS IS OF BULK AT MOST 1048576: true; the input reads as it did. -/
def objectTellsUptoRow : OpenClaim := { program := "ytadjimfkfmojkaa", sum := "e4b995e546290088c655afc0114090ff84a3d08bdd891b439d75b5b5adb891dc", func := "interleave/interleavelaw08.ObjectTells", spec := "objectTells", unfollowed := true, recurses := true, apart := false, narrowed := true }
def ObjectTellsUptoSaid : Prop := objectTellsUptoRow.holds Try.pinned (OpenSpec.upto objectTellsSpec)

/-- 'interleavelaw08.ObjectAny', WHERE WHAT IT READS IS OF BULK AT MOST 1048576: true; the input reads as it did. -/
def objectAnyUptoRow : OpenClaim := { program := "ytadjimfkfmojkaa", sum := "e4b995e546290088c655afc0114090ff84a3d08bdd891b439d75b5b5adb891dc", func := "interleave/interleavelaw08.ObjectAny", spec := "objectAny", unfollowed := true, recurses := true, apart := false, narrowed := true }
def ObjectAnyUptoSaid : Prop := objectAnyUptoRow.holds Try.pinned (OpenSpec.upto objectAnySpec)

/-- 'interleavelaw08.ObjectBlocks', WHERE WHAT IT READS IS OF BULK AT MOST 1048576: true; the input reads as it did. -/
def objectBlocksUptoRow : OpenClaim := { program := "ytadjimfkfmojkaa", sum := "e4b995e546290088c655afc0114090ff84a3d08bdd891b439d75b5b5adb891dc", func := "interleave/interleavelaw08.ObjectBlocks", spec := "objectBlocks", unfollowed := true, recurses := true, apart := false, narrowed := true }
def ObjectBlocksUptoSaid : Prop := objectBlocksUptoRow.holds Try.pinned (OpenSpec.upto objectBlocksSpec)

end Rows
end Go.Proofs.Ytadjimfkfmojkaa
