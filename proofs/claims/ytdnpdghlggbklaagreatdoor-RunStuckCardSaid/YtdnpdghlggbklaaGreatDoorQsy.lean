/- A part of the proof; the statement is proved in the last part. -/
import Derived.Test.YtdnpdghlggbklaaGreatDoorQsx
set_option linter.unusedSimpArgs false
set_option linter.unusedVariables false
namespace Go.Proofs.YtdnpdghlggbklaaGreatDoor.Am
section
set_option maxRecDepth 1000000
def OZ(f:FuncId)(args:List AV):Option AV:=match args with
 |[.str s]=>if(Nat.beq f 86||Nat.beq f 102)=true then some (.bool (ef s))else none
 |_=>none
theorem Jx{s:aZ}:∀(i:Nat) (a:AV),[AV.str s][i]? =some a→aX a:=λi a h=>by
 match i with
 |0=>cases h;exact .str _
 |i+1=>simp at h
theorem qn:sw Tryz.prog OZ:=λf args v h=>by
 unfold OZ at h;split at h
 ·split at h
  ·rename_i hf;cases h;rw[Xl]at hf;rcases hf with hf|hf
   ·rw[Nat.eq_of_beq_eq_true hf];exact .of_pure (KA _) (.bool _) Jx
   ·rw[Nat.eq_of_beq_eq_true hf];exact .of_pure (Ly _) (.bool _) Jx
  ·cases h
 ·cases h
def pA:AV:=.agg [.lst [[.Xw 1,.Xw 0,.str [120],.Xw 0,.Xw 0,.str []],[.Xw 1,.Xw 0,.str [121],.Xw 0,.Xw 1,.str []],[.Xw 2,.Xw 0,.str [118],.Xw 0,.Xw 0,.str []],[.Xw 1,.Xw 0,.str [113],.Xw 2,.Xw 0,.str []],[.Xw 3,.Xw 0,.str [109],.Xw 0,.Xw 0,.str []],[.Xw 3,.Xw 0,.str [110],.Xw 0,.Xw 0,.str []],[.Xw 4,.Xw 0,.str [114],.Xw 0,.Xw 0,.str []],[.Xw 5,.Xw 0,.str [99],.Xw 0,.Xw 0,.str [109]],[.Xw 6,.Xw 0,.str [102],.Xw 0,.Xw 0,.str []]],.lst [[.str [109,97,105,110],.Xw 0,.lst [[.str [97]],[.str [98]]],.lst [[.Xw 12,.Xw 0,.str [116,49],.str [],.lst [],.Xw 0,.Xw 0,.str [],.lst [],.lst [],.lst []],[.Xw 1,.Xw 0,.str [120],.str [],.lst [],.Xw 1,.Xw 0,.str [],.lst [],.lst [],.lst []]]],[.str [116,49],.Xw 0,.lst [[.str [97]],[.str [98]]],.lst [[.Xw 1,.Xw 0,.str [120],.str [],.lst [],.Xw 1,.Xw 0,.str [],.lst [],.lst [],.lst []]]]]]
def cA:AV:=.agg [.lst [[.str [120],.Xw 0,.Xw 0,.bool false,.Xw 0],[.str [121],.Xw 0,.Xw 0,.bool false,.Xw 1],[.str [118],.Xw 0,.Xw 0,.bool true,.Xw 0],[.str [113],.Xw 0,.Xw 2,.bool false,.Xw 0],[.str [113],.Xw 1,.Xw 2,.bool false,.Xw 0]],.lst [[.str [109],.bool false],[.str [110],.bool false],[.str [114],.bool true]],.lst [[.str [99],.Xw 0]],.lst [[.str [102]]],.lst [[.str [109,97,105,110]],[.str [116,49]]],.lst [[.Xw 0,.Xw 0,.Xw 0],[.Xw 0,.Xw 1,.Xw 0],[.Xw 1,.Xw 0,.Xw 0]],.lst [[.Xw 3,.lst [[.Xw 24,.Xw 1,.Xw 0,.Xw 0,.Xw 0,.Xw 0],[.Xw 1,.Xw 2,.Xw 0,.Xw 0,.Xw 0,.Xw 1],[.Xw 8,.Xw 0,.Xw 2,.Xw 0,.Xw 0,.Xw 1],[.Xw 28,.Xw 0,.Xw 0,.Xw 0,.Xw 0,.Xw (-1)]]],[.Xw 3,.lst [[.Xw 1,.Xw 2,.Xw 0,.Xw 0,.Xw 0,.Xw 2],[.Xw 8,.Xw 0,.Xw 2,.Xw 0,.Xw 0,.Xw 2],[.Xw 28,.Xw 0,.Xw 0,.Xw 0,.Xw 0,.Xw (-1)]]]]]
def sA:AV:=.tup [.Xw 0,.Xw 0]
def rA:AV:=.tup [cA,.Xw 0,.Xw 0]
def t1:=MJ 50 [(28,[pA],sA)] OZ
def t2:=MJ 50 [(19,[pA],rA),(20,[.nils],pA)] OZ
def t3:=MJ 50 [(7,[.nils],cA),(21,[cA],.bool true)] OZ
theorem e2:gH Tryz.prog 28 [pA] sA:=fJ (n:=2000) (d:=50) qn (by kernel_rfl) (by kernel_rfl)
theorem e1:gH Tryz.prog 20 [.nils] pA:=fJ (n:=2000) (d:=50) qn (by kernel_rfl) (by kernel_rfl)
theorem UW:sw Tryz.prog t1:=CJ qn λe he=>by rw[VR.1 he];exact e2
theorem e4:gH Tryz.prog 19 [pA] rA:=fJ (n:=2000) (d:=50) UW (by kernel_rfl) (by kernel_rfl)
theorem UX:sw Tryz.prog t2:=CJ qn λe he=>by
 rcases VN.1 he with rfl|he
 ·exact e4
 ·rw[VR.1 he];exact e1
theorem e5:gH Tryz.prog 7 [.nils] cA:=fJ (n:=2000) (d:=50) UX (by kernel_rfl) (by kernel_rfl)
theorem e6:gH Tryz.prog 21 [cA] (.bool true):=fJ (n:=2000) (d:=50) qn (by kernel_rfl) (by kernel_rfl)
theorem UY:sw Tryz.prog t3:=CJ qn λe he=>by
 rcases VN.1 he with rfl|he
 ·exact e5
 ·rw[VR.1 he];exact e6
end
end Go.Proofs.YtdnpdghlggbklaaGreatDoor.Am
