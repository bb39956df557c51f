/- A part of the proof; the statement is proved in the last part. -/
import Derived.Test.YtenbpcngcicamaaGreatDoorQcu
set_option linter.unusedSimpArgs false
set_option linter.unusedVariables false
namespace Go.Proofs.YtenbpcngcicamaaGreatDoor.Am
section
set_option maxRecDepth 1000000
def OA(f:FuncId)(args:List AV):Option AV:=match args with
 |[.str s]=>if(Nat.beq f 60||Nat.beq f 76)=true then some (.bool (eh s))else none
 |_=>none
theorem I4{s:bj}:∀(i:Nat) (a:AV),[AV.str s][i]? =some a→aY a:=λi a h=>by
 match i with
 |0=>cases h;exact .str _
 |i+1=>simp at h
theorem qu:sF Tryz.prog OA:=λf args v h=>by
 unfold OA at h;split at h
 ·split at h
  ·rename_i hf;cases h;rw[WW]at hf;rcases hf with hf|hf
   ·rw[Nat.eq_of_beq_eq_true hf];exact .of_pure (Ka _) (.bool _) I4
   ·rw[Nat.eq_of_beq_eq_true hf];exact .of_pure (K9 _) (.bool _) I4
  ·cases h
 ·cases h
def pA:AV:=.agg [.lst [[.W9 1,.W9 0,.str [120],.W9 0,.W9 0,.str []],[.W9 1,.W9 0,.str [121],.W9 0,.W9 1,.str []],[.W9 2,.W9 0,.str [118],.W9 0,.W9 0,.str []],[.W9 1,.W9 0,.str [113],.W9 2,.W9 0,.str []],[.W9 3,.W9 0,.str [109],.W9 0,.W9 0,.str []],[.W9 3,.W9 0,.str [110],.W9 0,.W9 0,.str []],[.W9 4,.W9 0,.str [114],.W9 0,.W9 0,.str []],[.W9 5,.W9 0,.str [99],.W9 0,.W9 0,.str [109]],[.W9 6,.W9 0,.str [102],.W9 0,.W9 0,.str []]],.lst [[.str [109,97,105,110],.W9 0,.lst [[.str [97]],[.str [98]]],.lst [[.W9 12,.W9 0,.str [116,49],.str [],.lst [],.W9 0,.W9 0,.str [],.lst [],.lst [],.lst []],[.W9 1,.W9 0,.str [120],.str [],.lst [],.W9 1,.W9 0,.str [],.lst [],.lst [],.lst []]]],[.str [116,49],.W9 0,.lst [[.str [97]],[.str [98]]],.lst [[.W9 1,.W9 0,.str [120],.str [],.lst [],.W9 1,.W9 0,.str [],.lst [],.lst [],.lst []]]]]]
def cA:AV:=.agg [.lst [[.str [120],.W9 0,.W9 0,.bool false,.W9 0],[.str [121],.W9 0,.W9 0,.bool false,.W9 1],[.str [118],.W9 0,.W9 0,.bool true,.W9 0],[.str [113],.W9 0,.W9 2,.bool false,.W9 0],[.str [113],.W9 1,.W9 2,.bool false,.W9 0]],.lst [[.str [109],.bool false],[.str [110],.bool false],[.str [114],.bool true]],.lst [[.str [99],.W9 0]],.lst [[.str [102]]],.lst [[.str [109,97,105,110]],[.str [116,49]]],.lst [[.W9 0,.W9 0,.W9 0],[.W9 0,.W9 1,.W9 0],[.W9 1,.W9 0,.W9 0]],.lst [[.W9 3,.lst [[.W9 24,.W9 1,.W9 0,.W9 0,.W9 0,.W9 0],[.W9 1,.W9 2,.W9 0,.W9 0,.W9 0,.W9 1],[.W9 8,.W9 0,.W9 2,.W9 0,.W9 0,.W9 1],[.W9 28,.W9 0,.W9 0,.W9 0,.W9 0,.W9 (-1)]]],[.W9 3,.lst [[.W9 1,.W9 2,.W9 0,.W9 0,.W9 0,.W9 2],[.W9 8,.W9 0,.W9 2,.W9 0,.W9 0,.W9 2],[.W9 28,.W9 0,.W9 0,.W9 0,.W9 0,.W9 (-1)]]]]]
def sA:AV:=.tup [.W9 0,.W9 0]
def rA:AV:=.tup [cA,.W9 0,.W9 0]
def t1:=Mj 50 [(17,[pA],sA)] OA
def t2:=Mj 50 [(11,[pA],rA),(12,[.nils],pA)] OA
def t3:=Mj 50 [(6,[.nils],cA),(13,[cA],.bool true)] OA
theorem e2:gG Tryz.prog 17 [pA] sA:=fM (n:=2000) (d:=50) qu (by kernel_rfl) (by kernel_rfl)
theorem e1:gG Tryz.prog 12 [.nils] pA:=fM (n:=2000) (d:=50) qu (by kernel_rfl) (by kernel_rfl)
theorem Uz:sF Tryz.prog t1:=Cw qu λe he=>by rw[Vv.1 he];exact e2
theorem e4:gG Tryz.prog 11 [pA] rA:=fM (n:=2000) (d:=50) Uz (by kernel_rfl) (by kernel_rfl)
theorem UA:sF Tryz.prog t2:=Cw qu λe he=>by
 rcases Vq.1 he with rfl|he
 ·exact e4
 ·rw[Vv.1 he];exact e1
theorem e5:gG Tryz.prog 6 [.nils] cA:=fM (n:=2000) (d:=50) UA (by kernel_rfl) (by kernel_rfl)
theorem e6:gG Tryz.prog 13 [cA] (.bool true):=fM (n:=2000) (d:=50) qu (by kernel_rfl) (by kernel_rfl)
theorem UB:sF Tryz.prog t3:=Cw qu λe he=>by
 rcases Vq.1 he with rfl|he
 ·exact e5
 ·rw[Vv.1 he];exact e6
end
end Go.Proofs.YtenbpcngcicamaaGreatDoor.Am
