/- A part of the proof; the statement is proved in the last part. -/
import Derived.Test.YtdnpdghlggbklaaGreatDoorQtx
set_option linter.unusedSimpArgs false
set_option linter.unusedVariables false
namespace Go.Proofs.YtdnpdghlggbklaaGreatDoor.Am
section
set_option maxRecDepth 1000000
def QR(f:FuncId)(args:List AV):Option AV:=match args with
 |[.str s]=>if(Nat.beq f 86||Nat.beq f 102)=true then some (.bool (eE s))else none
 |_=>none
theorem K4{s:bC}:∀(i:Nat) (a:AV),[AV.str s][i]? =some a→bv a:=λi a h=>by
 match i with
 |0=>cases h;exact .str _
 |i+1=>simp at h
theorem rD:tW Tryz.prog QR:=λf args v h=>by
 unfold QR at h;split at h
 ·split at h
  ·rename_i hf;cases h;rw[ZD]at hf;rcases hf with hf|hf
   ·rw[Nat.eq_of_beq_eq_true hf];exact .of_pure (Mj _) (.bool _) K4
   ·rw[Nat.eq_of_beq_eq_true hf];exact .of_pure (Nc _) (.bool _) K4
  ·cases h
 ·cases h
def pA:AV:=.agg [.lst [[.ZO 1,.ZO 0,.str [120],.ZO 0,.ZO 0,.str []],[.ZO 1,.ZO 0,.str [121],.ZO 0,.ZO 1,.str []],[.ZO 2,.ZO 0,.str [118],.ZO 0,.ZO 0,.str []],[.ZO 1,.ZO 0,.str [113],.ZO 2,.ZO 0,.str []],[.ZO 3,.ZO 0,.str [109],.ZO 0,.ZO 0,.str []],[.ZO 3,.ZO 0,.str [110],.ZO 0,.ZO 0,.str []],[.ZO 4,.ZO 0,.str [114],.ZO 0,.ZO 0,.str []],[.ZO 5,.ZO 0,.str [99],.ZO 0,.ZO 0,.str [109]],[.ZO 6,.ZO 0,.str [102],.ZO 0,.ZO 0,.str []]],.lst [[.str [109,97,105,110],.ZO 0,.lst [[.str [97]],[.str [98]]],.lst [[.ZO 12,.ZO 0,.str [116,49],.str [],.lst [],.ZO 0,.ZO 0,.str [],.lst [],.lst [],.lst []],[.ZO 1,.ZO 0,.str [120],.str [],.lst [],.ZO 1,.ZO 0,.str [],.lst [],.lst [],.lst []]]],[.str [116,49],.ZO 0,.lst [[.str [97]],[.str [98]]],.lst [[.ZO 1,.ZO 0,.str [120],.str [],.lst [],.ZO 1,.ZO 0,.str [],.lst [],.lst [],.lst []]]]]]
def cA:AV:=.agg [.lst [[.str [120],.ZO 0,.ZO 0,.bool false,.ZO 0],[.str [121],.ZO 0,.ZO 0,.bool false,.ZO 1],[.str [118],.ZO 0,.ZO 0,.bool true,.ZO 0],[.str [113],.ZO 0,.ZO 2,.bool false,.ZO 0],[.str [113],.ZO 1,.ZO 2,.bool false,.ZO 0]],.lst [[.str [109],.bool false],[.str [110],.bool false],[.str [114],.bool true]],.lst [[.str [99],.ZO 0]],.lst [[.str [102]]],.lst [[.str [109,97,105,110]],[.str [116,49]]],.lst [[.ZO 0,.ZO 0,.ZO 0],[.ZO 0,.ZO 1,.ZO 0],[.ZO 1,.ZO 0,.ZO 0]],.lst [[.ZO 3,.lst [[.ZO 24,.ZO 1,.ZO 0,.ZO 0,.ZO 0,.ZO 0],[.ZO 1,.ZO 2,.ZO 0,.ZO 0,.ZO 0,.ZO 1],[.ZO 8,.ZO 0,.ZO 2,.ZO 0,.ZO 0,.ZO 1],[.ZO 28,.ZO 0,.ZO 0,.ZO 0,.ZO 0,.ZO (-1)]]],[.ZO 3,.lst [[.ZO 1,.ZO 2,.ZO 0,.ZO 0,.ZO 0,.ZO 2],[.ZO 8,.ZO 0,.ZO 2,.ZO 0,.ZO 0,.ZO 2],[.ZO 28,.ZO 0,.ZO 0,.ZO 0,.ZO 0,.ZO (-1)]]]]]
def sA:AV:=.tup [.ZO 0,.ZO 0]
def rA:AV:=.tup [cA,.ZO 0,.ZO 0]
def t1:=Ot 50 [(28,[pA],sA)] QR
def t2:=Ot 50 [(19,[pA],rA),(20,[.nils],pA)] QR
def t3:=Ot 50 [(7,[.nils],cA),(21,[cA],.bool true)] QR
theorem e2:gZ Tryz.prog 28 [pA] sA:=gg (n:=2000) (d:=50) rD (by kernel_rfl) (by kernel_rfl)
theorem e1:gZ Tryz.prog 20 [.nils] pA:=gg (n:=2000) (d:=50) rD (by kernel_rfl) (by kernel_rfl)
theorem Xf:tW Tryz.prog t1:=DZ rD λe he=>by rw[Ye.1 he];exact e2
theorem e4:gZ Tryz.prog 19 [pA] rA:=gg (n:=2000) (d:=50) Xf (by kernel_rfl) (by kernel_rfl)
theorem Xg:tW Tryz.prog t2:=DZ rD λe he=>by
 rcases Ya.1 he with rfl|he
 ·exact e4
 ·rw[Ye.1 he];exact e1
theorem e5:gZ Tryz.prog 7 [.nils] cA:=gg (n:=2000) (d:=50) Xg (by kernel_rfl) (by kernel_rfl)
theorem e6:gZ Tryz.prog 21 [cA] (.bool true):=gg (n:=2000) (d:=50) rD (by kernel_rfl) (by kernel_rfl)
theorem Xh:tW Tryz.prog t3:=DZ rD λe he=>by
 rcases Ya.1 he with rfl|he
 ·exact e5
 ·rw[Ye.1 he];exact e6
end
end Go.Proofs.YtdnpdghlggbklaaGreatDoor.Am
