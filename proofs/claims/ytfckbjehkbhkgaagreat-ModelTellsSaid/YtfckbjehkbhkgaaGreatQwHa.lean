/- part -/
import Derived.Test.YtfckbjehkbhkgaaGreatQwC
import Derived.IntWalk
import Derived.Test.YtfckbjehkbhkgaaGreatProg
import Derived.KernelRfl
import Derived.LoopN
import Derived.MapKept
import Derived.Carry
import Derived.Lib.OthersKept
import Derived.Laws.RangeString
import Derived.Deep.AppendSrc
import Derived.Lib.Strings
import Derived.Laws.StructEq
import Derived.Laws.Cells
import Derived.Laws.CopyRow
import Derived.Laws.Entries
import Derived.Handy
import Derived.RowKit
import Derived.Calls
import Derived.Orders
import Derived.Below
import Derived.Laws.AppendOwn
import Derived.Laws.OwnMore
import Derived.Laws.MakeOwn
import Derived.OwnWalk
import Derived.Test.YtfckbjehkbhkgaaGreatRows
import Derived.WalkKit
import Derived.ProofKit
import Derived.OpenShut
import Derived.Outline
import Derived.Lib.Hide
import Derived.Deep.Slices
import Derived.Deep.Fields
import Derived.ChangeSame
import Derived.Deep.Draws
import Derived.WalkSpells
import Derived.Deep.DeepMust
import Derived.Sort.OwnSortedInts
import Derived.Shelf.Small.Wraps
import Derived.Shelf.Sort.Plain
import Derived.Shelf.Slices.Turned
import Derived.Ground.Names2Prog
import Derived.Shelf.Slices.Clone
import Derived.Shelf.Slices.CompactI
import Derived.Shelf.Slices.In.SortNone
import Derived.Ground.SlgnProg
import Derived.Shelf.SlicesE.Clone
set_option linter.all false
set_option maxRecDepth 100000
set_option maxHeartbeats 0
namespace Go.Proofs.YtfckbjehkbhkgaaGreat.Am
section
section
variable {P:Program} {g:FuncId} {args:List AV} {L:SH} {KL:AV->SH->Prop}
theorem ac.monoN{f:FuncId}{Q B:AV->SH->Prop}(h:ac P f args L Q)(E:∀v j,j.names.Nodup->Q v j->B v j):ac P f args L B:=⟨h.1,λH G D=>by
 obtain⟨v,O,j,N,u,M⟩:=h.2 H G D;exact⟨v,O,j,N,u,E _ _ u.sub.nd M⟩⟩
end
end
def hZ:RF:=nv (bQ Tryz.prog Tryz.f3 [(24,⟨[1,2,7,8,9,10],[],true,[]⟩)] [(0,[3]),(3,[7]),(13,[12]),(14,[14])])
abbrev sB(Q:R):Vs->SH->Kn->Prop:=Lp hZ 19 Q 24 []
abbrev uw(a b c:AV)(L:SH)(Q:R):Prop:=Pc hZ 20 Q 0 [] [a,b,c] L
def sC(B u j:AV)(L:SH)(Q:R)(h:uw B u j L Q):ac Tryz.prog 3 [B,u,j] L Q:=
 fv hZ Tryz.func3 h
def vS:RF:=nv (bQ Tryz.prog Tryz.f53 [] [(0,[1])])
abbrev Hy(a:AV)(L:SH)(Q:R):Prop:=Pc vS 20 Q 0 [] [a] L
def Ez(j:AV)(L:SH)(Q:R)(h:Hy j L Q):ac Tryz.prog 53 [j] L Q:=
 fv vS Tryz.func53 h
def vT:RF:=nv (bQ Tryz.prog Tryz.f22 [(42037,⟨[4,6,8,9,12,14],[],true,[]⟩)] [(0,[3,5]),(4,[9]),(7,[11])])
abbrev Hz(a b c:AV)(L:SH)(Q:R):Prop:=Pc vT 20 Q 0 [] [a,b,c] L
def EA(B u j:AV)(L:SH)(Q:R)(h:Hz B u j L Q):ac Tryz.prog 22 [B,u,j] L Q:=
 fv vT Tryz.func22 h
def js:RF:=nv (bQ Tryz.prog Tryz.f44 [(12,⟨[0,1,5],[],true,[]⟩)] [])
abbrev qw(a b:AV)(L:SH)(Q:R):Prop:=Pc js 20 Q 0 [] [a,b] L
def pQ(u j:AV)(L:SH)(Q:R)(h:qw u j L Q):ac Tryz.prog 44 [u,j] L Q:=
 fv js Tryz.func44 h
def lO:RF:=nv (bQ Tryz.prog Tryz.f32 [(12,⟨[0,1,5],[],true,[]⟩)] [])
abbrev vV(a b:AV)(L:SH)(Q:R):Prop:=Pc lO 20 Q 0 [] [a,b] L
def uA(u j:AV)(L:SH)(Q:R)(h:vV u j L Q):ac Tryz.prog 32 [u,j] L Q:=
 fv lO Tryz.func32 h
def vW:RF:=nv (bQ Tryz.prog Tryz.f14 [] [(0,[2,3])])
abbrev HA(a b:AV)(L:SH)(Q:R):Prop:=Pc vW 20 Q 0 [] [a,b] L
def EB(u j:AV)(L:SH)(Q:R)(h:HA u j L Q):ac Tryz.prog 14 [u,j] L Q:=
 fv vW Tryz.func14 h
def wA:RF:=nv (bQ Tryz.prog Tryz.f37 [(42,⟨[2,3,7],[],true,[]⟩),(27,⟨[2,3,6],[],true,[]⟩),(12,⟨[2,3,5],[],true,[]⟩)] [(0,[2,3])])
abbrev HM(a b:AV)(L:SH)(Q:R):Prop:=Pc wA 20 Q 0 [] [a,b] L
def ES(u j:AV)(L:SH)(Q:R)(h:HM u j L Q):ac Tryz.prog 37 [u,j] L Q:=
 fv wA Tryz.func37 h
def Pr(c:aP)(h1:c.sync.locks.length<2^40)(h2:c.sync.done.length<=2^40)(h3:c.sync.threads.length<2^40)(Z:∀l∈c.sync.locks,l.readers.length<2^40)(h4:c.cells.length<2^40)(h5:c.futures.length<2^40)(h6:c.order.length<2^40)(h7:c.fixed.length<2^40)(h8:c.woke.length<2^40):
  ac Tryz.prog 53 [.agg c.enc] [] λv L=>∃E D B j u:Nat,v=.agg [.lst (c.sync.locks.map LockD.enc),.acU c.sync.tx,.lst (c.sync.done.map au),.lst (c.sync.threads.map ThrD.enc),.sl E 0 c.cells.length,.sl D 0 c.futures.length,.sl B 0 c.order.length,.sl j 0 c.fixed.length,.sl u 0 c.woke.length]/\
   L=[(u,⟨1,c.woke.map aa⟩),(j,⟨1,c.fixed.map au⟩),(B,⟨1,c.order.map aa⟩),(D,⟨2,c.futures.map eu.enc⟩),(E,⟨2,c.cells.map eu.enc⟩)]:=by
 have G:=uL c.sync h1 acN h3 Z;refine ac.fz (Ez _ _ _ ?_);refine vw ?_;generalize O:(λ(v:AV) (L:SH)=>∃M S,ax [v] L [M] S/\∃E D B j u:Nat,M=.agg [.lst (c.sync.locks.map LockD.enc),.acU c.sync.tx,.lst (c.sync.done.map au),.lst (c.sync.threads.map ThrD.enc),.sl E 0 c.cells.length,.sl D 0 c.futures.length,.sl B 0 c.order.length,.sl j 0 c.fixed.length,.sl u 0 c.woke.length]/\
   S=[(u,(⟨1,c.woke.map aa⟩:Blk)),(j,⟨1,c.fixed.map au⟩),(B,⟨1,c.order.map aa⟩),(D,⟨2,c.futures.map eu.enc⟩),(E,⟨2,c.cells.map eu.enc⟩)])=Q
 have fin:∀(E D B j u:Nat) (L:SH),cO L [(u,(⟨1,c.woke.map aa⟩:Blk)),(j,⟨1,c.fixed.map au⟩),(B,⟨1,c.order.map aa⟩),(D,⟨2,c.futures.map eu.enc⟩),(E,⟨2,c.cells.map eu.enc⟩)]->Q (.agg [.lst (c.sync.locks.map LockD.enc),.acU c.sync.tx,.lst (c.sync.done.map au),.lst (c.sync.threads.map ThrD.enc),.sl E 0 c.cells.length,.sl D 0 c.futures.length,.sl B 0 c.order.length,.sl j 0 c.fixed.length,.sl u 0 c.woke.length]) L:=λE D B j u L hL=>by subst O;exact⟨_,_,ax.pickE hL rfl rfl,E,D,B,j,u,rfl,rfl⟩
 clear O;rw[Mv]at G;rw[cG]at *
 repeat' (first|refine sy ?_|refine dJ rp (λ_=>rfl) acP acS acS (λ_=>rfl) (λY N=>?_)|refine s2 ?_ ?_|intro)
 simp only[abI];exact fin _ _ _ _ _ _ rp
def nL:RF:=nv (bQ Tryz.prog Tryz.f31 [(12,⟨[0,1,5],[],true,[]⟩)] [])
abbrev yL(a b:AV)(L:SH)(Q:R):Prop:=Pc nL 20 Q 0 [] [a,b] L
def xb(u j:AV)(L:SH)(Q:R)(h:yL u j L Q):ac Tryz.prog 31 [u,j] L Q:=
 fv nL Tryz.func31 h
def rt(l:List Int)(M:l.length<2^62):aq Tryz.prog 31 [.lst (l.map aa),.lst (l.map aa)] (.bool true):=by
 refine xb _ _ _ _ ?_;refine vw ?_;generalize j:(λ(u:AV) (K:SH)=>u=AV.bool true/\K=[])=Q;have E:Q (.bool true) []:=by subst j;exact⟨rfl,rfl⟩
 clear j;have Z:decide ((l.length:Int)≠(l.length:Int))=false:=by simp
 repeat' (first|refine sy ?_|refine s2 ?_ ?_|intro)
 refine cT l.length (λ_=>True) (λi=>[.lst (l.map aa),.lst (l.map aa),.acU i]) M trivial rfl (λi B N S _ D G=>?_) (λi B N _ D=>?_)
 all_goals refine vw ?_
 .have O:=aj (f:=aa) B;have Y:decide (l[i]≠l[i])=false:=by simp
  repeat' (first|refine sy ?_|refine s2 ?_ ?_|intro)
  exact G trivial
 .repeat' (first|refine sy ?_|refine s2 ?_ ?_|intro)
  exact E
def nee{t:TypeId}{l:List AV}{ts:List TypeId}{K:AV->Prop}(u:Fl t=some ts)(j:xB Tryz.prog ts l l=some true)(h:K (.bool false)):W.bin Tryz.prog Fl .neq t (.agg l) (.agg l) K:=by rw[gg];refine⟨.bool false,?_,h⟩;simp only[iS,u,abQ,j];rfl
def ui:Tryz.prog.underlying 3=some (.int .i64):=by kernel_rfl
def ul:Tryz.prog.underlying 2=some (.int .i64):=by kernel_rfl
def ub:Tryz.prog.underlying 4=some .bool:=by kernel_rfl
def Xs(x:ThrD){K:AV->Prop}(h:K (.bool false)):W.bin Tryz.prog Fl .neq 111 (.agg x.enc) (.agg x.enc) K:=
 nee (ts:=[3,3,4]) (by kernel_rfl) (by simp[ThrD.enc,xB,vg,ui,ub]) h
def KV(s:SyncD)(N:s.locks.length<2^62)(h2:s.done.length<2^62)(M:s.threads.length<2^62)(h4:∀l∈s.locks,l.readers.length<2^62):aq Tryz.prog 37 [.agg s.enc,.agg s.enc] (.bool true):=by
 refine L6 λQ G=>ES _ _ _ _ ?_
 refine vw ?_;have d0:decide (s.tx≠s.tx)=false:=by simp
 have d1:decide ((s.locks.length:Int)≠s.locks.length)=false:=by simp
 have Z:decide ((s.done.length:Int)≠s.done.length)=false:=by simp
 have Y:decide ((s.threads.length:Int)≠s.threads.length)=false:=by simp
 repeat' (first|refine sy ?_|refine s2 ?_ ?_|intro)
 refine cT s.locks.length (λ_=>True) (λi=>[.pptr [s.enc] 0 0,.pptr [s.enc] 0 0,.acU i]) N trivial rfl (λi g B E _ j u=>?_) (λi g B _ j=>?_)
 all_goals refine vw ?_
 .have D:=aj (f:=LockD.enc) g;have S:=rt s.locks[i].readers (h4 _ (LT g));have O:decide (s.locks[i].owner≠s.locks[i].owner)=false:=by simp
  rw[show s.locks[i].enc=[.acU s.locks[i].owner,.lst (s.locks[i].readers.map aa)]from rfl]at D
  repeat' (first|refine sy ?_|refine s2 ?_ ?_|intro)
  exact u trivial
 .repeat' (first|refine sy ?_|refine s2 ?_ ?_|intro)
  refine cT s.done.length (λ_=>True) (λi=>[.pptr [s.enc] 0 0,.pptr [s.enc] 0 0,.acU i]) h2 trivial rfl (λi g B E _ j u=>?_) (λi g B _ j=>?_)
  all_goals refine vw ?_
  .have D:=aj (f:=au) g;have O:decide (s.done[i]≠s.done[i])=false:=by simp
   repeat' (first|refine sy ?_|refine s2 ?_ ?_|intro)
   exact u trivial
  .repeat' (first|refine sy ?_|refine s2 ?_ ?_|intro)
   refine cT s.threads.length (λ_=>True) (λi=>[.pptr [s.enc] 0 0,.pptr [s.enc] 0 0,.acU i]) M trivial rfl (λi g B E _ j u=>?_) (λi g B _ j=>?_)
   all_goals refine vw ?_
   .have D:=aj (f:=ThrD.enc) g
    repeat' (first|refine kH (Xs _ ?_)|refine sy ?_|refine s2 ?_ ?_|intro)
    exact u trivial
   .repeat' (first|refine sy ?_|refine s2 ?_ ?_|intro)
    exact G _
def Xt(x:eu){K:AV->Prop}(h:K (.bool false)):W.bin Tryz.prog Fl .neq 80 (.agg x.enc) (.agg x.enc) K:=
 nee (ts:=[2,4]) (by kernel_rfl) (by simp[eu.enc,xB,vg,ul,ub]) h
def GE(l:List eu)(E:l.length<2^62):aq Tryz.prog 44 [.lst (l.map eu.enc),.lst (l.map eu.enc)] (.bool true):=by
 refine L6 λQ B=>pQ _ _ _ _ ?_
 refine vw ?_;have O:decide ((l.length:Int)≠(l.length:Int))=false:=by simp
 repeat' (first|refine sy ?_|refine s2 ?_ ?_|intro)
 refine cT l.length (λ_=>True) (λi=>[.lst (l.map eu.enc),.lst (l.map eu.enc),.acU i]) E trivial rfl (λi j G N _ u D=>?_) (λi j G _ u=>?_)
 all_goals refine vw ?_
 .have M:=aj (f:=eu.enc) j
  repeat' (first|refine kH (Xt _ ?_)|refine sy ?_|refine s2 ?_ ?_|intro)
  exact D trivial
 .repeat' (first|refine sy ?_|refine s2 ?_ ?_|intro)
  exact B _
def GF(l:List Bool)(M:l.length<2^62):aq Tryz.prog 32 [.lst (l.map au),.lst (l.map au)] (.bool true):=by
 refine uA _ _ _ _ ?_;refine vw ?_;generalize j:(λ(u:AV) (K:SH)=>u=AV.bool true/\K=[])=Q;have E:Q (.bool true) []:=by subst j;exact⟨rfl,rfl⟩
 clear j;have Z:decide ((l.length:Int)≠(l.length:Int))=false:=by simp
 repeat' (first|refine sy ?_|refine s2 ?_ ?_|intro)
 refine cT l.length (λ_=>True) (λi=>[.lst (l.map au),.lst (l.map au),.acU i]) M trivial rfl (λi B N S _ D G=>?_) (λi B N _ D=>?_)
 all_goals refine vw ?_
 .have O:=aj (f:=au) B;have Y:decide (l[i]≠l[i])=false:=by simp
  repeat' (first|refine sy ?_|refine s2 ?_ ?_|intro)
  exact G trivial
 .repeat' (first|refine sy ?_|refine s2 ?_ ?_|intro)
  exact E
structure Sm(c:aP):Prop where
 lk:c.sync.locks.length<2^40
 dn:c.sync.done.length<2^40
 th:c.sync.threads.length<2^40
 rd:∀l∈c.sync.locks,l.readers.length<2^40
 ce:c.cells.length<2^40
 fu:c.futures.length<2^40
 od:c.order.length<2^40
 fx:c.fixed.length<2^40
 wk:c.woke.length<2^40
def jc(c:aP)(h:Sm c):aq Tryz.prog 14 [.agg c.enc,.agg c.enc] (.bool true):=by
 have E:=KV c.sync (by have:=h.lk;omega) (by have:=h.dn;omega) (by have:=h.th;omega) (λl M=>by have:=h.rd l M;omega);have Z:=GE c.cells (by have:=h.ce;omega);have Y:=GE c.futures (by have:=h.fu;omega);have S:=rt c.order (by have:=h.od;omega);have O:=GF c.fixed (by have:=h.fx;omega);have N:=rt c.woke (by have:=h.wk;omega);refine EB _ _ _ _ ?_;refine vw ?_;generalize D:(λ(u:AV) (K:SH)=>u=AV.bool true/\K=[])=Q;have G:Q (.bool true) []:=by subst D;exact⟨rfl,rfl⟩
 clear D;have j:c.sync.enc=[.lst (c.sync.locks.map LockD.enc),.acU c.sync.tx,.lst (c.sync.done.map au),.lst (c.sync.threads.map ThrD.enc)]:=rfl;have B:c.enc=[.lst (c.sync.locks.map LockD.enc),.acU c.sync.tx,.lst (c.sync.done.map au),.lst (c.sync.threads.map ThrD.enc),.lst (c.cells.map eu.enc),.lst (c.futures.map eu.enc),.lst (c.order.map aa),.lst (c.fixed.map au),.lst (c.woke.map aa)]:=rfl;rw[j]at E;rw[B]
 repeat' (first|refine sy ?_|refine s2 ?_ ?_|intro)
 exact G
section
open Go.ChangeShapes Go.WideShapes Go.ChangeAt Go.RowKit
section
variable {H:Type} {enc:TypeId×Value->H} {w:World} {base:Nat} {spare:Nat->Bool} {held:Bool}
theorem GU:Opens H enc Tryz.prog w base spare held 52 (Wi aD.enc λ_=>True):=λB G x h=>by
 obtain⟨Y,j⟩:=Lv [3,3] Tryz.underlying52 h rfl (by kernel_rfl) (by kernel_rfl);obtain⟨c0,m0,y0,E,S⟩:=j 0 _ rfl;obtain⟨d0,_,N⟩:=zj (k:=.i64) (by kernel_rfl) _ _ _ S;obtain⟨c1,m1,y1,D,O⟩:=j 1 _ rfl;obtain⟨Z,_,M⟩:=zj (k:=.i64) (by kernel_rfl) _ _ _ O;have u:G=[c0,c1]:=by
  match G,Y with
  |[a0,a1],_=>simp only[List.getElem?_cons_zero,acj,aaS]at E D;rw[E,D]
 subst u;exact⟨⟨d0,Z⟩,trivial,(bL N (bL M hD))⟩
end
end
section
open Go.ChangeShapes Go.WideShapes Go.ChangeAt Go.RowKit
section
variable {H:Type} {enc:TypeId×Value->H} {w:World} {base:Nat} {spare:Nat->Bool} {held:Bool}
theorem Vx:Opens H enc Tryz.prog w base spare held 26 (Wi (λl:List Int=>[.lst (l.map aa)]) λl=>l.length<=maxLen/\∀x∈l,(Lit.int .i64 x).wf=true):=
 Ed (size:=1) Tryz.underlying26 (by kernel_rfl) acR (zj (by kernel_rfl))
theorem Yl:Opens H enc Tryz.prog w base spare held 25 (Wi (λl:List aD=>[.lst (l.map aD.enc)]) λl=>l.length<=maxLen/\∀x∈l,True):=
 Ed (size:=2) Tryz.underlying25 (by kernel_rfl) acR GU
end
theorem Ym{x:Int}(h:(Lit.int .i64 x).wf=true):x<9223372036854775808:=by
 simp only[Lit.wf,aas,decide_eq_true_eq]at h;have j:IntKind.i64.max=9223372036854775807:=by decide
 omega
end
