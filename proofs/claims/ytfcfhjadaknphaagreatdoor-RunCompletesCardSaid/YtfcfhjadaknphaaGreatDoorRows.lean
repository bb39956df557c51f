/-
  NARROWER THAN 'FOR EVERY INPUT', by the rows' own cells (each row's printed sentence says how): RunMeans: laid · RunCompletes: laid · RunReplays: laid.
  DERIVED. THE GIVEN ROWS OF THIS SEAT. 3 by the template 'for every input the law returns true; each argument reads behind the call as it read before'; 0 by the template 'total and deterministic' (their statements: YtfcfhjadaknphaaGreatDoorTotals.lean).
  GIVEN WITH THE SEED: the statements are not yours to turn. If you find one false, say at which input.
  Laid BY PROGRAM, IN A SANDBOX (cutbox-rows.mjs): the forced cells as the released guide's own fill.sh prints them over the translation 11d51faa3bd9d7fa… (all of the seat's roots in one cut). By AI agents, Wed Nov 11 2026. No macro, syntax, notation, axiom, sorry.
-/
import Derived.Test.YtfcfhjadaknphaaGreatDoorChecked
import GoSem.Claim
import GoSem.ClaimJoined
import GoSem.ClaimMapViews
import Derived.JoinedTies
import Derived.KernelRfl
namespace Go.Proofs.YtfcfhjadaknphaaGreatDoor
/- THE CELL 'sum', in the pinned program and in every row, IS THE sha256 OF THE DUMP (.gsa) THAT YtfcfhjadaknphaaGreatDoorProg.lean LOADS. Nothing in Lean hashes anything: it is a label: what it is worth is what the hold of that sum in a sandbox is worth. -/
noncomputable def Tryz.pinned : Pinned := { name := "ytfcfhjadaknphaagreatdoor", sum := "11d51faa3bd9d7fa8cc055c0f98fa76f292f62c550ad7b9dc87b67359b5241a3", checked := Tryz.checked }
namespace Rows
def none {H : Type} : Left H := { results := [], args := [] }

/- WHAT THE LISTED PACKAGE-LEVEL VARIABLES READ AS WHEN THE CALL BEGINS. Each datum BY PROGRAM (the guide's laid-datum.mjs) off the statement by which the dump's own 'gosem.cut.vars' lays the variable. In a bare row this is a premise. The card (YtfcfhjadaknphaaGreatDoorCards.lean) ties it to the program's text. -/
def laid_interleave_token_keywords {H : Type} : DataW H := .agg [.lit (.string [118, 97, 114]), .lit (.string [118, 111, 108, 97, 116, 105, 108, 101]), .lit (.string [109, 117, 116, 101, 120]), .lit (.string [114, 119, 108, 111, 99, 107]), .lit (.string [99, 111, 110, 100]), .lit (.string [102, 117, 116, 117, 114, 101]), .lit (.string [116, 104, 114, 101, 97, 100]), .lit (.string [105, 102]), .lit (.string [101, 108, 115, 101]), .lit (.string [119, 104, 105, 108, 101]), .lit (.string [108, 111, 99, 107]), .lit (.string [114, 101, 97, 100]), .lit (.string [119, 114, 105, 116, 101]), .lit (.string [116, 114, 97, 110, 115, 97, 99, 116, 105, 111, 110]), .lit (.string [97, 116, 111, 109, 105, 99]), .lit (.string [119, 97, 105, 116]), .lit (.string [110, 111, 116, 105, 102, 121]), .lit (.string [110, 111, 116, 105, 102, 121, 97, 108, 108]), .lit (.string [115, 112, 97, 119, 110]), .lit (.string [106, 111, 105, 110]), .lit (.string [115, 101, 116]), .lit (.string [103, 101, 116])]
def laid_interleave_run_kinds {H : Type} : DataW H := .agg [.lit (.int .i64 0), .lit (.int .i64 0), .lit (.int .i64 0), .lit (.int .i64 0), .lit (.int .i64 0), .lit (.int .i64 0), .lit (.int .i64 3), .lit (.int .i64 3), .lit (.int .i64 4), .lit (.int .i64 4), .lit (.int .i64 5), .lit (.int .i64 6), .lit (.int .i64 7), .lit (.int .i64 8), .lit (.int .i64 9), .lit (.int .i64 10), .lit (.int .i64 11), .lit (.int .i64 12), .lit (.int .i64 13), .lit (.int .i64 14), .lit (.int .i64 15), .lit (.int .i64 16), .lit (.int .i64 18), .lit (.int .i64 19), .lit (.int .i64 20), .lit (.int .i64 21), .lit (.int .i64 22), .lit (.int .i64 23), .lit (.int .i64 2)]

/-- 'interleavelaw09.RunMeans': WHATEVER THE INPUT: true; the input reads as it did. -/
def runMeansSpec : ChangeSpec := { name := "runMeans", fn := fun _ => fun
  | [d1, d2] => { results := [.lit (.bool true)], args := [d1, d2] }
  | _ => none }
def runMeansRow : OpenClaim := { program := "ytfcfhjadaknphaagreatdoor", sum := "11d51faa3bd9d7fa8cc055c0f98fa76f292f62c550ad7b9dc87b67359b5241a3", func := "interleave/interleavelaw09.RunMeans", spec := "runMeans", unfollowed := true, recurses := true, named := ["interleave/token.keywords", "interleave/run.kinds"], apart := false, laid := [("interleave/token.keywords", laid_interleave_token_keywords), ("interleave/run.kinds", laid_interleave_run_kinds)] }
def RunMeansSaid : Prop := runMeansRow.holds Tryz.pinned (OpenSpec.ofChange runMeansSpec)

/-- ITS FALSE NEIGHBOUR: 'it returns false'. Refute it at one input. -/
def runMeansWrong : ChangeSpec := { name := "runMeans", fn := fun _ => fun
  | [d1, d2] => { results := [.lit (.bool false)], args := [d1, d2] }
  | _ => none }
def RunMeansWrongFalsely : Prop := runMeansRow.holds Tryz.pinned (OpenSpec.ofChange runMeansWrong)

/-- 'interleavelaw09.RunCompletes': WHATEVER THE INPUT: true; the input reads as it did. -/
def runCompletesSpec : ChangeSpec := { name := "runCompletes", fn := fun _ => fun
  | [d1, d2] => { results := [.lit (.bool true)], args := [d1, d2] }
  | _ => none }
def runCompletesRow : OpenClaim := { program := "ytfcfhjadaknphaagreatdoor", sum := "11d51faa3bd9d7fa8cc055c0f98fa76f292f62c550ad7b9dc87b67359b5241a3", func := "interleave/interleavelaw09.RunCompletes", spec := "runCompletes", unfollowed := true, recurses := true, named := ["interleave/token.keywords", "interleave/run.kinds"], apart := false, laid := [("interleave/token.keywords", laid_interleave_token_keywords), ("interleave/run.kinds", laid_interleave_run_kinds)] }
def RunCompletesSaid : Prop := runCompletesRow.holds Tryz.pinned (OpenSpec.ofChange runCompletesSpec)

/-- ITS FALSE NEIGHBOUR: 'it returns false'. Refute it at one input. -/
def runCompletesWrong : ChangeSpec := { name := "runCompletes", fn := fun _ => fun
  | [d1, d2] => { results := [.lit (.bool false)], args := [d1, d2] }
  | _ => none }
def RunCompletesWrongFalsely : Prop := runCompletesRow.holds Tryz.pinned (OpenSpec.ofChange runCompletesWrong)

/-- 'interleavelaw09.RunReplays': WHATEVER THE INPUT: true; the input reads as it did. -/
def runReplaysSpec : ChangeSpec := { name := "runReplays", fn := fun _ => fun
  | [d1, d2] => { results := [.lit (.bool true)], args := [d1, d2] }
  | _ => none }
def runReplaysRow : OpenClaim := { program := "ytfcfhjadaknphaagreatdoor", sum := "11d51faa3bd9d7fa8cc055c0f98fa76f292f62c550ad7b9dc87b67359b5241a3", func := "interleave/interleavelaw09.RunReplays", spec := "runReplays", unfollowed := true, recurses := true, named := ["interleave/token.keywords", "interleave/run.kinds"], apart := false, laid := [("interleave/token.keywords", laid_interleave_token_keywords), ("interleave/run.kinds", laid_interleave_run_kinds)] }
def RunReplaysSaid : Prop := runReplaysRow.holds Tryz.pinned (OpenSpec.ofChange runReplaysSpec)

/-- ITS FALSE NEIGHBOUR: 'it returns false'. Refute it at one input. -/
def runReplaysWrong : ChangeSpec := { name := "runReplays", fn := fun _ => fun
  | [d1, d2] => { results := [.lit (.bool false)], args := [d1, d2] }
  | _ => none }
def RunReplaysWrongFalsely : Prop := runReplaysRow.holds Tryz.pinned (OpenSpec.ofChange runReplaysWrong)

/- THE SECOND FORM. 'bulk': how many values and letters a reading holds, each counted each time it is reached (what is shared counts as often as it is met; a slice's spare places count too). A statement '..UptoSaid' is the law's where the arguments, and the package variables that the reading takes, are together of bulk at most 1048576: NARROWER than '..Said'. Prove '..Said' where nothing that the law and all that it calls make is longer than what came in: it says more and counts as full. Else prove '..UptoSaid'. A law counts once. -/
mutual
def uptoBulk {H : Type} : DataW H → Nat
  | .lit (.string bytes) => bytes.length + 1
  | .lit _ => 1
  | .nil => 1
  | .ptr d => uptoBulk d + 1
  | .slice elems spare => uptoBulkAll elems + uptoBulkAll spare + 1
  | .agg parts => uptoBulkAll parts + 1
  | .iface _ d => uptoBulk d + 1
  | .map entries => uptoBulkEntries entries + 1
  | .held _ => 1
def uptoBulkAll {H : Type} : List (DataW H) → Nat
  | [] => 0
  | d :: r => uptoBulk d + uptoBulkAll r
def uptoBulkEntries {H : Type} : List (Lit × DataW H) → Nat
  | [] => 0
  | x :: r => uptoBulkEntry x + uptoBulkEntries r
def uptoBulkEntry {H : Type} : Lit × DataW H → Nat
  | (.string bytes, d) => bytes.length + uptoBulk d + 1
  | (_, d) => uptoBulk d + 1
 end
def uptoSmall : (H : Type) → List (DataW H) → Bool := fun _ ds => decide (uptoBulkAll ds ≤ 1048576)
def OpenSpec.upto (s : _root_.Go.ChangeSpec) : _root_.Go.OpenSpec := { _root_.Go.OpenSpec.ofChange s with cond := some uptoSmall }

/-- 'interleavelaw09.RunMeans', WHERE WHAT IT READS IS OF BULK AT MOST 1048576: true; the input reads as it did. -/
def runMeansUptoRow : OpenClaim := { program := "ytfcfhjadaknphaagreatdoor", sum := "11d51faa3bd9d7fa8cc055c0f98fa76f292f62c550ad7b9dc87b67359b5241a3", func := "interleave/interleavelaw09.RunMeans", spec := "runMeans", unfollowed := true, recurses := true, named := ["interleave/token.keywords", "interleave/run.kinds"], apart := false, laid := [("interleave/token.keywords", laid_interleave_token_keywords), ("interleave/run.kinds", laid_interleave_run_kinds)], narrowed := true }
def RunMeansUptoSaid : Prop := runMeansUptoRow.holds Tryz.pinned (OpenSpec.upto runMeansSpec)

/-- 'interleavelaw09.RunCompletes', WHERE WHAT IT READS IS OF BULK AT MOST 1048576: true; the input reads as it did. -/
def runCompletesUptoRow : OpenClaim := { program := "ytfcfhjadaknphaagreatdoor", sum := "11d51faa3bd9d7fa8cc055c0f98fa76f292f62c550ad7b9dc87b67359b5241a3", func := "interleave/interleavelaw09.RunCompletes", spec := "runCompletes", unfollowed := true, recurses := true, named := ["interleave/token.keywords", "interleave/run.kinds"], apart := false, laid := [("interleave/token.keywords", laid_interleave_token_keywords), ("interleave/run.kinds", laid_interleave_run_kinds)], narrowed := true }
def RunCompletesUptoSaid : Prop := runCompletesUptoRow.holds Tryz.pinned (OpenSpec.upto runCompletesSpec)

/-- 'interleavelaw09.RunReplays', WHERE WHAT IT READS IS OF BULK AT MOST 1048576: true; the input reads as it did. -/
def runReplaysUptoRow : OpenClaim := { program := "ytfcfhjadaknphaagreatdoor", sum := "11d51faa3bd9d7fa8cc055c0f98fa76f292f62c550ad7b9dc87b67359b5241a3", func := "interleave/interleavelaw09.RunReplays", spec := "runReplays", unfollowed := true, recurses := true, named := ["interleave/token.keywords", "interleave/run.kinds"], apart := false, laid := [("interleave/token.keywords", laid_interleave_token_keywords), ("interleave/run.kinds", laid_interleave_run_kinds)], narrowed := true }
def RunReplaysUptoSaid : Prop := runReplaysUptoRow.holds Tryz.pinned (OpenSpec.upto runReplaysSpec)

end Rows
end Go.Proofs.YtfcfhjadaknphaaGreatDoor
