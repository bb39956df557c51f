/- A part of the proof; the statement is proved in the last part. -/
import Derived.Test.YtdnpdghlggbklaaGreatDoorQeu
set_option linter.unusedSimpArgs false
set_option linter.unusedVariables false
namespace Go.Proofs.YtdnpdghlggbklaaGreatDoor.Am
section
set_option maxRecDepth 1000000
def OH(f:FuncId)(args:List AV):Option AV:=match args with
 |[.str s]=>if(Nat.beq f 86||Nat.beq f 102)=true then some (.bool (eh s))else none
 |_=>none
theorem Jc{s:aZ}:∀(i:Nat) (a:AV),[AV.str s][i]? =some a→aW a:=λi a h=>by
 match i with
 |0=>cases h;exact .str _
 |i+1=>simp at h
theorem qC:sO Tryz.prog OH:=λf args v h=>by
 unfold OH at h;split at h
 ·split at h
  ·rename_i hf;cases h;rw[Xa]at hf;rcases hf with hf|hf
   ·rw[Nat.eq_of_beq_eq_true hf];exact .of_pure (Kh _) (.bool _) Jc
   ·rw[Nat.eq_of_beq_eq_true hf];exact .of_pure (Lf _) (.bool _) Jc
  ·cases h
 ·cases h
def pA:AV:=.agg [.lst [[.Xm 1,.Xm 0,.str [120],.Xm 0,.Xm 0,.str []],[.Xm 1,.Xm 0,.str [121],.Xm 0,.Xm 1,.str []],[.Xm 2,.Xm 0,.str [118],.Xm 0,.Xm 0,.str []],[.Xm 1,.Xm 0,.str [113],.Xm 2,.Xm 0,.str []],[.Xm 3,.Xm 0,.str [109],.Xm 0,.Xm 0,.str []],[.Xm 3,.Xm 0,.str [110],.Xm 0,.Xm 0,.str []],[.Xm 4,.Xm 0,.str [114],.Xm 0,.Xm 0,.str []],[.Xm 5,.Xm 0,.str [99],.Xm 0,.Xm 0,.str [109]],[.Xm 6,.Xm 0,.str [102],.Xm 0,.Xm 0,.str []]],.lst [[.str [109,97,105,110],.Xm 0,.lst [[.str [97]],[.str [98]]],.lst [[.Xm 12,.Xm 0,.str [116,49],.str [],.lst [],.Xm 0,.Xm 0,.str [],.lst [],.lst [],.lst []],[.Xm 1,.Xm 0,.str [120],.str [],.lst [],.Xm 1,.Xm 0,.str [],.lst [],.lst [],.lst []]]],[.str [116,49],.Xm 0,.lst [[.str [97]],[.str [98]]],.lst [[.Xm 1,.Xm 0,.str [120],.str [],.lst [],.Xm 1,.Xm 0,.str [],.lst [],.lst [],.lst []]]]]]
def cA:AV:=.agg [.lst [[.str [120],.Xm 0,.Xm 0,.bool false,.Xm 0],[.str [121],.Xm 0,.Xm 0,.bool false,.Xm 1],[.str [118],.Xm 0,.Xm 0,.bool true,.Xm 0],[.str [113],.Xm 0,.Xm 2,.bool false,.Xm 0],[.str [113],.Xm 1,.Xm 2,.bool false,.Xm 0]],.lst [[.str [109],.bool false],[.str [110],.bool false],[.str [114],.bool true]],.lst [[.str [99],.Xm 0]],.lst [[.str [102]]],.lst [[.str [109,97,105,110]],[.str [116,49]]],.lst [[.Xm 0,.Xm 0,.Xm 0],[.Xm 0,.Xm 1,.Xm 0],[.Xm 1,.Xm 0,.Xm 0]],.lst [[.Xm 3,.lst [[.Xm 24,.Xm 1,.Xm 0,.Xm 0,.Xm 0,.Xm 0],[.Xm 1,.Xm 2,.Xm 0,.Xm 0,.Xm 0,.Xm 1],[.Xm 8,.Xm 0,.Xm 2,.Xm 0,.Xm 0,.Xm 1],[.Xm 28,.Xm 0,.Xm 0,.Xm 0,.Xm 0,.Xm (-1)]]],[.Xm 3,.lst [[.Xm 1,.Xm 2,.Xm 0,.Xm 0,.Xm 0,.Xm 2],[.Xm 8,.Xm 0,.Xm 2,.Xm 0,.Xm 0,.Xm 2],[.Xm 28,.Xm 0,.Xm 0,.Xm 0,.Xm 0,.Xm (-1)]]]]]
def sA:AV:=.tup [.Xm 0,.Xm 0]
def rA:AV:=.tup [cA,.Xm 0,.Xm 0]
def t1:=Mq 50 [(28,[pA],sA)] OH
def t2:=Mq 50 [(19,[pA],rA),(20,[.nils],pA)] OH
def t3:=Mq 50 [(7,[.nils],cA),(21,[cA],.bool true)] OH
theorem e2:gK Tryz.prog 28 [pA] sA:=fP (n:=2000) (d:=50) qC (by kernel_rfl) (by kernel_rfl)
theorem e1:gK Tryz.prog 20 [.nils] pA:=fP (n:=2000) (d:=50) qC (by kernel_rfl) (by kernel_rfl)
theorem UN:sO Tryz.prog t1:=CC qC λe he=>by rw[VI.1 he];exact e2
theorem e4:gK Tryz.prog 19 [pA] rA:=fP (n:=2000) (d:=50) UN (by kernel_rfl) (by kernel_rfl)
theorem UO:sO Tryz.prog t2:=CC qC λe he=>by
 rcases VE.1 he with rfl|he
 ·exact e4
 ·rw[VI.1 he];exact e1
theorem e5:gK Tryz.prog 7 [.nils] cA:=fP (n:=2000) (d:=50) UO (by kernel_rfl) (by kernel_rfl)
theorem e6:gK Tryz.prog 21 [cA] (.bool true):=fP (n:=2000) (d:=50) qC (by kernel_rfl) (by kernel_rfl)
theorem UP:sO Tryz.prog t3:=CC qC λe he=>by
 rcases VE.1 he with rfl|he
 ·exact e5
 ·rw[VI.1 he];exact e6
end
end Go.Proofs.YtdnpdghlggbklaaGreatDoor.Am
