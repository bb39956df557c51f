/- A part of the proof; the statement is proved in the last part. -/
import Derived.Test.YtenbpcngcicamaaGreatDoorQbt
set_option linter.unusedSimpArgs false
set_option linter.unusedVariables false
namespace Go.Proofs.YtenbpcngcicamaaGreatDoor.Am
section
set_option maxRecDepth 1000000
def OE(f:FuncId)(args:List AV):Option AV:=match args with
 |[.str s]=>if(Nat.beq f 60||Nat.beq f 76)=true then some (.bool (eb s))else none
 |_=>none
theorem Jb{s:aZ}:∀(i:Nat) (a:AV),[AV.str s][i]? =some a→aW a:=λi a h=>by
 match i with
 |0=>cases h;exact .str _
 |i+1=>simp at h
theorem qq:sG Tryz.prog OE:=λf args v h=>by
 unfold OE at h;split at h
 ·split at h
  ·rename_i hf;cases h;rw[WS]at hf;rcases hf with hf|hf
   ·rw[Nat.eq_of_beq_eq_true hf];exact .of_pure (Kh _) (.bool _) Jb
   ·rw[Nat.eq_of_beq_eq_true hf];exact .of_pure (Lj _) (.bool _) Jb
  ·cases h
 ·cases h
def pA:AV:=.agg [.lst [[.W6 1,.W6 0,.str [120],.W6 0,.W6 0,.str []],[.W6 1,.W6 0,.str [121],.W6 0,.W6 1,.str []],[.W6 2,.W6 0,.str [118],.W6 0,.W6 0,.str []],[.W6 1,.W6 0,.str [113],.W6 2,.W6 0,.str []],[.W6 3,.W6 0,.str [109],.W6 0,.W6 0,.str []],[.W6 3,.W6 0,.str [110],.W6 0,.W6 0,.str []],[.W6 4,.W6 0,.str [114],.W6 0,.W6 0,.str []],[.W6 5,.W6 0,.str [99],.W6 0,.W6 0,.str [109]],[.W6 6,.W6 0,.str [102],.W6 0,.W6 0,.str []]],.lst [[.str [109,97,105,110],.W6 0,.lst [[.str [97]],[.str [98]]],.lst [[.W6 12,.W6 0,.str [116,49],.str [],.lst [],.W6 0,.W6 0,.str [],.lst [],.lst [],.lst []],[.W6 1,.W6 0,.str [120],.str [],.lst [],.W6 1,.W6 0,.str [],.lst [],.lst [],.lst []]]],[.str [116,49],.W6 0,.lst [[.str [97]],[.str [98]]],.lst [[.W6 1,.W6 0,.str [120],.str [],.lst [],.W6 1,.W6 0,.str [],.lst [],.lst [],.lst []]]]]]
def cA:AV:=.agg [.lst [[.str [120],.W6 0,.W6 0,.bool false,.W6 0],[.str [121],.W6 0,.W6 0,.bool false,.W6 1],[.str [118],.W6 0,.W6 0,.bool true,.W6 0],[.str [113],.W6 0,.W6 2,.bool false,.W6 0],[.str [113],.W6 1,.W6 2,.bool false,.W6 0]],.lst [[.str [109],.bool false],[.str [110],.bool false],[.str [114],.bool true]],.lst [[.str [99],.W6 0]],.lst [[.str [102]]],.lst [[.str [109,97,105,110]],[.str [116,49]]],.lst [[.W6 0,.W6 0,.W6 0],[.W6 0,.W6 1,.W6 0],[.W6 1,.W6 0,.W6 0]],.lst [[.W6 3,.lst [[.W6 24,.W6 1,.W6 0,.W6 0,.W6 0,.W6 0],[.W6 1,.W6 2,.W6 0,.W6 0,.W6 0,.W6 1],[.W6 8,.W6 0,.W6 2,.W6 0,.W6 0,.W6 1],[.W6 28,.W6 0,.W6 0,.W6 0,.W6 0,.W6 (-1)]]],[.W6 3,.lst [[.W6 1,.W6 2,.W6 0,.W6 0,.W6 0,.W6 2],[.W6 8,.W6 0,.W6 2,.W6 0,.W6 0,.W6 2],[.W6 28,.W6 0,.W6 0,.W6 0,.W6 0,.W6 (-1)]]]]]
def sA:AV:=.tup [.W6 0,.W6 0]
def rA:AV:=.tup [cA,.W6 0,.W6 0]
def t1:=Ms 50 [(17,[pA],sA)] OE
def t2:=Ms 50 [(11,[pA],rA),(12,[.nils],pA)] OE
def t3:=Ms 50 [(6,[.nils],cA),(13,[cA],.bool true)] OE
theorem e2:gA Tryz.prog 17 [pA] sA:=fI (n:=2000) (d:=50) qq (by kernel_rfl) (by kernel_rfl)
theorem e1:gA Tryz.prog 12 [.nils] pA:=fI (n:=2000) (d:=50) qq (by kernel_rfl) (by kernel_rfl)
theorem Ux:sG Tryz.prog t1:=Cx qq λe he=>by rw[Vr.1 he];exact e2
theorem e4:gA Tryz.prog 11 [pA] rA:=fI (n:=2000) (d:=50) Ux (by kernel_rfl) (by kernel_rfl)
theorem Uy:sG Tryz.prog t2:=Cx qq λe he=>by
 rcases Vn.1 he with rfl|he
 ·exact e4
 ·rw[Vr.1 he];exact e1
theorem e5:gA Tryz.prog 6 [.nils] cA:=fI (n:=2000) (d:=50) Uy (by kernel_rfl) (by kernel_rfl)
theorem e6:gA Tryz.prog 13 [cA] (.bool true):=fI (n:=2000) (d:=50) qq (by kernel_rfl) (by kernel_rfl)
theorem Uz:sG Tryz.prog t3:=Cx qq λe he=>by
 rcases Vn.1 he with rfl|he
 ·exact e5
 ·rw[Vr.1 he];exact e6
end
end Go.Proofs.YtenbpcngcicamaaGreatDoor.Am
