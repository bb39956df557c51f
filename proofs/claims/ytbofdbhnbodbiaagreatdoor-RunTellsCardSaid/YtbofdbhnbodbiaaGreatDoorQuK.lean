/- A part of the proof; the statement is proved in the last part. -/
import Derived.Test.YtbofdbhnbodbiaaGreatDoorQuJ
set_option linter.all false
set_option maxRecDepth 100000
set_option maxHeartbeats 20000000
namespace Go.Proofs.YtbofdbhnbodbiaaGreatDoor.Am
def LC(f:FuncId)(args:List AV):Option AV:=match args with
 |[.str s]=>if(Nat.beq f 107||Nat.beq f 146)=true then some (.bool (dZ s))else none
 |_=>none
def FE{s:bv}:∀(i:Nat) (a:AV),[AV.str s][i]? =some a->bD a:=λi a h=>by
 match i with
 |0=>cases h;exact .str _
 |i+1=>simp at h
def pr:qL Tryz.prog LC:=λf u v h=>by
 unfold LC at h;split at h
 .split at h
  .rename_i j;cases h;rw[US]at j;rcases j with j|j
   .rw[Nat.eq_of_beq_eq_true j];exact .of_pure (zH _) (.bool _) FE
   .rw[Nat.eq_of_beq_eq_true j];exact .of_pure (HI _) (.bool _) FE
  .cases h
 .cases h
def pA:AV:=.agg [.lst [[.U1 1,.U1 0,.str [120],.U1 0,.U1 0,.str []],[.U1 1,.U1 0,.str [121],.U1 0,.U1 1,.str []],[.U1 2,.U1 0,.str [118],.U1 0,.U1 0,.str []],[.U1 1,.U1 0,.str [113],.U1 2,.U1 0,.str []],[.U1 3,.U1 0,.str [109],.U1 0,.U1 0,.str []],[.U1 3,.U1 0,.str [110],.U1 0,.U1 0,.str []],[.U1 4,.U1 0,.str [114],.U1 0,.U1 0,.str []],[.U1 5,.U1 0,.str [99],.U1 0,.U1 0,.str [109]],[.U1 6,.U1 0,.str [102],.U1 0,.U1 0,.str []]],.lst [[.str [109,97,105,110],.U1 0,.lst [[.str [97]],[.str [98]]],.lst [[.U1 12,.U1 0,.str [116,49],.str [],.lst [],.U1 0,.U1 0,.str [],.lst [],.lst [],.lst []],[.U1 1,.U1 0,.str [120],.str [],.lst [],.U1 1,.U1 0,.str [],.lst [],.lst [],.lst []]]],[.str [116,49],.U1 0,.lst [[.str [97]],[.str [98]]],.lst [[.U1 1,.U1 0,.str [120],.str [],.lst [],.U1 1,.U1 0,.str [],.lst [],.lst [],.lst []]]]]]
def cA:AV:=.agg [.lst [[.str [120],.U1 0,.U1 0,.bool false,.U1 0],[.str [121],.U1 0,.U1 0,.bool false,.U1 1],[.str [118],.U1 0,.U1 0,.bool true,.U1 0],[.str [113],.U1 0,.U1 2,.bool false,.U1 0],[.str [113],.U1 1,.U1 2,.bool false,.U1 0]],.lst [[.str [109],.bool false],[.str [110],.bool false],[.str [114],.bool true]],.lst [[.str [99],.U1 0]],.lst [[.str [102]]],.lst [[.str [109,97,105,110]],[.str [116,49]]],.lst [[.U1 0,.U1 0,.U1 0],[.U1 0,.U1 1,.U1 0],[.U1 1,.U1 0,.U1 0]],.lst [[.U1 3,.lst [[.U1 24,.U1 1,.U1 0,.U1 0,.U1 0,.U1 0],[.U1 1,.U1 2,.U1 0,.U1 0,.U1 0,.U1 1],[.U1 8,.U1 0,.U1 2,.U1 0,.U1 0,.U1 1],[.U1 28,.U1 0,.U1 0,.U1 0,.U1 0,.U1 (-1)]]],[.U1 3,.lst [[.U1 1,.U1 2,.U1 0,.U1 0,.U1 0,.U1 2],[.U1 8,.U1 0,.U1 2,.U1 0,.U1 0,.U1 2],[.U1 28,.U1 0,.U1 0,.U1 0,.U1 0,.U1 (-1)]]]]]
def sA:AV:=.tup [.U1 0,.U1 0]
def rA:AV:=.tup [cA,.U1 0,.U1 0]
def t1:=Jc 50 [(50,[pA],sA)] LC
def t2:=Jc 50 [(24,[pA],rA),(25,[.nils],pA)] LC
def t3:=Jc 50 [(7,[.nils],cA),(26,[cA],.bool true)] LC
def e2:gM Tryz.prog 50 [pA] sA:=fZ (n:=2000) (d:=50) pr (by kernel_rfl) (by kernel_rfl)
def e1:gM Tryz.prog 25 [.nils] pA:=fZ (n:=2000) (d:=50) pr (by kernel_rfl) (by kernel_rfl)
def Sc:qL Tryz.prog t1:=xE pr λe j=>by rw[Tl.1 j];exact e2
def e4:gM Tryz.prog 24 [pA] rA:=fZ (n:=2000) (d:=50) Sc (by kernel_rfl) (by kernel_rfl)
def Sd:qL Tryz.prog t2:=xE pr λe j=>by
 rcases To.1 j with rfl|j
 .exact e4
 .rw[Tl.1 j];exact e1
def e5:gM Tryz.prog 7 [.nils] cA:=fZ (n:=2000) (d:=50) Sd (by kernel_rfl) (by kernel_rfl)
def e6:gM Tryz.prog 26 [cA] (.bool true):=fZ (n:=2000) (d:=50) pr (by kernel_rfl) (by kernel_rfl)
def Se:qL Tryz.prog t3:=xE pr λe j=>by
 rcases To.1 j with rfl|j
 .exact e5
 .rw[Tl.1 j];exact e6
end Go.Proofs.YtbofdbhnbodbiaaGreatDoor.Am
