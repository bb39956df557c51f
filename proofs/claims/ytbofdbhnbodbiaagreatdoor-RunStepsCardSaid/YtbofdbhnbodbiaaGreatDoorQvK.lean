/- A part of the proof; the statement is proved in the last part. -/
import Derived.Test.YtbofdbhnbodbiaaGreatDoorQvJ
set_option linter.all false
set_option maxRecDepth 100000
set_option maxHeartbeats 20000000
namespace Go.Proofs.YtbofdbhnbodbiaaGreatDoor.Am
def K3(f:FuncId)(args:List AV):Option AV:=match args with
 |[.str s]=>if(Nat.beq f 107||Nat.beq f 146)=true then some (.bool (dW s))else none
 |_=>none
def E6{s:bu}:∀(i:Nat) (a:AV),[AV.str s][i]? =some a->bA a:=λi a h=>by
 match i with
 |0=>cases h;exact .str _
 |i+1=>simp at h
def o6:qD Tryz.prog K3:=λf u v h=>by
 unfold K3 at h;split at h
 .split at h
  .rename_i j;cases h;rw[T6]at j;rcases j with j|j
   .rw[Nat.eq_of_beq_eq_true j];exact .of_pure (zn _) (.bool _) E6
   .rw[Nat.eq_of_beq_eq_true j];exact .of_pure (G8 _) (.bool _) E6
  .cases h
 .cases h
def pA:AV:=.agg [.lst [[.Uf 1,.Uf 0,.str [120],.Uf 0,.Uf 0,.str []],[.Uf 1,.Uf 0,.str [121],.Uf 0,.Uf 1,.str []],[.Uf 2,.Uf 0,.str [118],.Uf 0,.Uf 0,.str []],[.Uf 1,.Uf 0,.str [113],.Uf 2,.Uf 0,.str []],[.Uf 3,.Uf 0,.str [109],.Uf 0,.Uf 0,.str []],[.Uf 3,.Uf 0,.str [110],.Uf 0,.Uf 0,.str []],[.Uf 4,.Uf 0,.str [114],.Uf 0,.Uf 0,.str []],[.Uf 5,.Uf 0,.str [99],.Uf 0,.Uf 0,.str [109]],[.Uf 6,.Uf 0,.str [102],.Uf 0,.Uf 0,.str []]],.lst [[.str [109,97,105,110],.Uf 0,.lst [[.str [97]],[.str [98]]],.lst [[.Uf 12,.Uf 0,.str [116,49],.str [],.lst [],.Uf 0,.Uf 0,.str [],.lst [],.lst [],.lst []],[.Uf 1,.Uf 0,.str [120],.str [],.lst [],.Uf 1,.Uf 0,.str [],.lst [],.lst [],.lst []]]],[.str [116,49],.Uf 0,.lst [[.str [97]],[.str [98]]],.lst [[.Uf 1,.Uf 0,.str [120],.str [],.lst [],.Uf 1,.Uf 0,.str [],.lst [],.lst [],.lst []]]]]]
def cA:AV:=.agg [.lst [[.str [120],.Uf 0,.Uf 0,.bool false,.Uf 0],[.str [121],.Uf 0,.Uf 0,.bool false,.Uf 1],[.str [118],.Uf 0,.Uf 0,.bool true,.Uf 0],[.str [113],.Uf 0,.Uf 2,.bool false,.Uf 0],[.str [113],.Uf 1,.Uf 2,.bool false,.Uf 0]],.lst [[.str [109],.bool false],[.str [110],.bool false],[.str [114],.bool true]],.lst [[.str [99],.Uf 0]],.lst [[.str [102]]],.lst [[.str [109,97,105,110]],[.str [116,49]]],.lst [[.Uf 0,.Uf 0,.Uf 0],[.Uf 0,.Uf 1,.Uf 0],[.Uf 1,.Uf 0,.Uf 0]],.lst [[.Uf 3,.lst [[.Uf 24,.Uf 1,.Uf 0,.Uf 0,.Uf 0,.Uf 0],[.Uf 1,.Uf 2,.Uf 0,.Uf 0,.Uf 0,.Uf 1],[.Uf 8,.Uf 0,.Uf 2,.Uf 0,.Uf 0,.Uf 1],[.Uf 28,.Uf 0,.Uf 0,.Uf 0,.Uf 0,.Uf (-1)]]],[.Uf 3,.lst [[.Uf 1,.Uf 2,.Uf 0,.Uf 0,.Uf 0,.Uf 2],[.Uf 8,.Uf 0,.Uf 2,.Uf 0,.Uf 0,.Uf 2],[.Uf 28,.Uf 0,.Uf 0,.Uf 0,.Uf 0,.Uf (-1)]]]]]
def sA:AV:=.tup [.Uf 0,.Uf 0]
def rA:AV:=.tup [cA,.Uf 0,.Uf 0]
def t1:=IC 50 [(50,[pA],sA)] K3
def t2:=IC 50 [(24,[pA],rA),(25,[.nils],pA)] K3
def t3:=IC 50 [(7,[.nils],cA),(26,[cA],.bool true)] K3
def e2:gH Tryz.prog 50 [pA] sA:=fR (n:=2000) (d:=50) o6 (by kernel_rfl) (by kernel_rfl)
def e1:gH Tryz.prog 25 [.nils] pA:=fR (n:=2000) (d:=50) o6 (by kernel_rfl) (by kernel_rfl)
def Rn:qD Tryz.prog t1:=xj o6 λe j=>by rw[Sz.1 j];exact e2
def e4:gH Tryz.prog 24 [pA] rA:=fR (n:=2000) (d:=50) Rn (by kernel_rfl) (by kernel_rfl)
def Ro:qD Tryz.prog t2:=xj o6 λe j=>by
 rcases SB.1 j with rfl|j
 .exact e4
 .rw[Sz.1 j];exact e1
def e5:gH Tryz.prog 7 [.nils] cA:=fR (n:=2000) (d:=50) Ro (by kernel_rfl) (by kernel_rfl)
def e6:gH Tryz.prog 26 [cA] (.bool true):=fR (n:=2000) (d:=50) o6 (by kernel_rfl) (by kernel_rfl)
def Rp:qD Tryz.prog t3:=xj o6 λe j=>by
 rcases SB.1 j with rfl|j
 .exact e5
 .rw[Sz.1 j];exact e6
end Go.Proofs.YtbofdbhnbodbiaaGreatDoor.Am
