/- A part of the proof; the statement is proved in the last part. -/
import Derived.Test.YtelgfgfgghpjgaaGreatDoorQaj
set_option linter.unusedSimpArgs false
set_option linter.unusedVariables false
section
namespace Go.Proofs.YtelgfgfgghpjgaaGreatDoor.Am
set_option maxRecDepth 1000000
set_option linter.unusedVariables false
def tD(f:FuncId)(args:List AV):Option AV:=match args with
 | [.str s]=>if(Nat.beq f 24||Nat.beq f 85)=true then some (.bool (bv s))else none
 | _=>none
theorem pP{s:br}:∀(i:Nat) (a:AV),[AV.str s][i]? =some a→bt a:=fun i a h=>by
 match i with
 | 0=>cases h;exact .str _
 | i+1=>simp at h
theorem ii:i0 Tryz.prog tD:=fun f args v h=>by
 unfold tD at h
 split at h
 ·split at h
  ·rename_i hf
   cases h
   rw[Bool.or_eq_true]at hf
   rcases hf with hf | hf
   ·rw[Nat.eq_of_beq_eq_true hf];exact .of_pure (mY _) (.bool _) pP
   ·rw[Nat.eq_of_beq_eq_true hf];exact .of_pure (rj _) (.bool _) pP
  ·cases h
 ·cases h
def pA:AV:=.agg [.lst [[.int .i64 1,.int .i64 0,.str [120],.int .i64 0,.int .i64 0,.str []],[.int .i64 1,.int .i64 0,.str [121],.int .i64 0,.int .i64 1,.str []],[.int .i64 2,.int .i64 0,.str [118],.int .i64 0,.int .i64 0,.str []],[.int .i64 1,.int .i64 0,.str [113],.int .i64 2,.int .i64 0,.str []],[.int .i64 3,.int .i64 0,.str [109],.int .i64 0,.int .i64 0,.str []],[.int .i64 3,.int .i64 0,.str [110],.int .i64 0,.int .i64 0,.str []],[.int .i64 4,.int .i64 0,.str [114],.int .i64 0,.int .i64 0,.str []],[.int .i64 5,.int .i64 0,.str [99],.int .i64 0,.int .i64 0,.str [109]],[.int .i64 6,.int .i64 0,.str [102],.int .i64 0,.int .i64 0,.str []]],.lst [[.str [109,97,105,110],.int .i64 0,.lst [[.str [97]],[.str [98]]],.lst [[.int .i64 12,.int .i64 0,.str [116,49],.str [],.lst [],.int .i64 0,.int .i64 0,.str [],.lst [],.lst [],.lst []],[.int .i64 1,.int .i64 0,.str [120],.str [],.lst [],.int .i64 1,.int .i64 0,.str [],.lst [],.lst [],.lst []]]],[.str [116,49],.int .i64 0,.lst [[.str [97]],[.str [98]]],.lst [[.int .i64 1,.int .i64 0,.str [120],.str [],.lst [],.int .i64 1,.int .i64 0,.str [],.lst [],.lst [],.lst []]]]]]
def cA:AV:=.agg [.lst [[.str [120],.int .i64 0,.int .i64 0,.bool false,.int .i64 0],[.str [121],.int .i64 0,.int .i64 0,.bool false,.int .i64 1],[.str [118],.int .i64 0,.int .i64 0,.bool true,.int .i64 0],[.str [113],.int .i64 0,.int .i64 2,.bool false,.int .i64 0],[.str [113],.int .i64 1,.int .i64 2,.bool false,.int .i64 0]],.lst [[.str [109],.bool false],[.str [110],.bool false],[.str [114],.bool true]],.lst [[.str [99],.int .i64 0]],.lst [[.str [102]]],.lst [[.str [109,97,105,110]],[.str [116,49]]],.lst [[.int .i64 0,.int .i64 0,.int .i64 0],[.int .i64 0,.int .i64 1,.int .i64 0],[.int .i64 1,.int .i64 0,.int .i64 0]],.lst [[.int .i64 3,.lst [[.int .i64 24,.int .i64 1,.int .i64 0,.int .i64 0,.int .i64 0,.int .i64 0],[.int .i64 1,.int .i64 2,.int .i64 0,.int .i64 0,.int .i64 0,.int .i64 1],[.int .i64 8,.int .i64 0,.int .i64 2,.int .i64 0,.int .i64 0,.int .i64 1],[.int .i64 28,.int .i64 0,.int .i64 0,.int .i64 0,.int .i64 0,.int .i64 (-1)]]],[.int .i64 3,.lst [[.int .i64 1,.int .i64 2,.int .i64 0,.int .i64 0,.int .i64 0,.int .i64 2],[.int .i64 8,.int .i64 0,.int .i64 2,.int .i64 0,.int .i64 0,.int .i64 2],[.int .i64 28,.int .i64 0,.int .i64 0,.int .i64 0,.int .i64 0,.int .i64 (-1)]]]]]
def sA:AV:=.tup [.int .i64 0,.int .i64 0]
def rA:AV:=.tup [cA,.int .i64 0,.int .i64 0]
def t1:=rY 50 [(74,[pA],sA)] tD
def t2:=rY 50 [(46,[pA],rA),(47,[.nils],pA)] tD
def t3:=rY 50 [(22,[.nils],cA),(14,[cA],.bool true)] tD
theorem e2:cR Tryz.prog 74 [pA] sA:=co (n:=2000) (d:=50) ii (by kernel_rfl) (by kernel_rfl)
theorem e1:cR Tryz.prog 47 [.nils] pA:=co (n:=2000) (d:=50) ii (by kernel_rfl) (by kernel_rfl)
theorem xt:i0 Tryz.prog t1:=lJ ii fun e he=>by rw[List.mem_singleton.1 he];exact e2
theorem e4:cR Tryz.prog 46 [pA] rA:=co (n:=2000) (d:=50) xt (by kernel_rfl) (by kernel_rfl)
theorem xu:i0 Tryz.prog t2:=lJ ii fun e he=>by
 rcases List.mem_cons.1 he with rfl | he
 ·exact e4
 ·rw[List.mem_singleton.1 he];exact e1
theorem e5:cR Tryz.prog 22 [.nils] cA:=co (n:=2000) (d:=50) xu (by kernel_rfl) (by kernel_rfl)
theorem e6:cR Tryz.prog 14 [cA] (.bool true):=co (n:=2000) (d:=50) ii (by kernel_rfl) (by kernel_rfl)
theorem xv:i0 Tryz.prog t3:=lJ ii fun e he=>by
 rcases List.mem_cons.1 he with rfl | he
 ·exact e5
 ·rw[List.mem_singleton.1 he];exact e6
end Go.Proofs.YtelgfgfgghpjgaaGreatDoor.Am
end
