/- part -/
import Derived.Test.YtfckbjehkbhkgaaGreatQwr
import Derived.Test.YtfckbjehkbhkgaaGreatChecked
import Derived.IntWalk
import Derived.Test.YtfckbjehkbhkgaaGreatProg
import Derived.KernelRfl
import Derived.LoopN
import Derived.MapKept
import Derived.Carry
import Derived.Lib.OthersKept
import Derived.Laws.RangeString
import Derived.Deep.AppendSrc
import Derived.Lib.Strings
import Derived.Laws.StructEq
import Derived.Laws.Cells
import Derived.Laws.CopyRow
import Derived.Laws.Entries
import Derived.Handy
import Derived.RowKit
import Derived.Calls
import Derived.Orders
import Derived.Below
import Derived.Laws.AppendOwn
import Derived.Laws.OwnMore
import Derived.Laws.MakeOwn
import Derived.OwnWalk
import Derived.Test.YtfckbjehkbhkgaaGreatRows
import Derived.WalkKit
import Derived.ProofKit
import Derived.OpenShut
import Derived.Outline
import Derived.Lib.Hide
import Derived.Deep.Slices
import Derived.Deep.Fields
import Derived.ChangeSame
import Derived.Deep.Draws
import Derived.WalkSpells
import Derived.Deep.DeepMust
import Derived.Sort.OwnSortedInts
import Derived.Shelf.Small.Wraps
import Derived.Shelf.Sort.Plain
import Derived.Shelf.Slices.Turned
import Derived.Ground.Names2Prog
import Derived.Shelf.Slices.Clone
import Derived.Shelf.Slices.CompactI
import Derived.Shelf.Slices.In.SortNone
import Derived.Ground.SlgnProg
import Derived.Shelf.SlicesE.Clone
set_option linter.all false
set_option maxRecDepth 100000
set_option maxHeartbeats 0
namespace Go.Proofs.YtfckbjehkbhkgaaGreat.Am
def jE:RF:=nv (bQ Tryz.prog Tryz.f25 [(9,⟨[0,3,4],[],true,[]⟩)] [])
abbrev xT(Q:R):Vs->SH->Kn->Prop:=Lp jE 19 Q 9 []
abbrev z7(a:AV)(L:SH)(Q:R):Prop:=Pc jE 20 Q 0 [] [a] L
def xU(j:AV)(L:SH)(Q:R)(h:z7 j L Q):ac Tryz.prog 25 [j] L Q:=
 fv jE Tryz.func25 h
def eP:RF:=nv (bQ Tryz.prog Tryz.f5 [(39,⟨[5,6,8,10,11,12],[27],true,[]⟩),(27,⟨[5,6,8,10],[],true,[]⟩)] [(0,[2]),(3,[5]),(4,[7]),(5,[8])])
abbrev pK(Q:R)(a:Kn):Vs->SH->Kn->Prop:=Lp eP 18 Q 39 [a]
abbrev pL(Q:R):Vs->SH->Kn->Prop:=Lp eP 19 Q 27 []
abbrev qt(a b:AV)(L:SH)(Q:R):Prop:=Pc eP 20 Q 0 [] [a,b] L
def pM(u j:AV)(L:SH)(Q:R)(h:qt u j L Q):ac Tryz.prog 5 [u,j] L Q:=
 fv eP Tryz.func5 h
def vS:RF:=nv (bQ Tryz.prog Tryz.f53 [] [(0,[1])])
abbrev Hy(a:AV)(L:SH)(Q:R):Prop:=Pc vS 20 Q 0 [] [a] L
def Ez(j:AV)(L:SH)(Q:R)(h:Hy j L Q):ac Tryz.prog 53 [j] L Q:=
 fv vS Tryz.func53 h
def vT:RF:=nv (bQ Tryz.prog Tryz.f22 [(42037,⟨[4,6,8,9,12,14],[],true,[]⟩)] [(0,[3,5]),(4,[9]),(7,[11])])
abbrev Hz(a b c:AV)(L:SH)(Q:R):Prop:=Pc vT 20 Q 0 [] [a,b,c] L
def EA(B u j:AV)(L:SH)(Q:R)(h:Hz B u j L Q):ac Tryz.prog 22 [B,u,j] L Q:=
 fv vT Tryz.func22 h
def tB:RF:=nv (bQ Tryz.prog Tryz.f56 [] [(0,[3,4])])
abbrev EC(a b c:AV)(L:SH)(Q:R):Prop:=Pc tB 20 Q 0 [] [a,b,c] L
def Cc(B u j:AV)(L:SH)(Q:R)(h:EC B u j L Q):ac Tryz.prog 56 [B,u,j] L Q:=
 fv tB Tryz.func56 h
def qz:RF:=nv (bQ Tryz.prog Tryz.f26 [(9,⟨[2,4,6,13,14,15],[],true,[]⟩)] [(0,[2]),(4,[8]),(5,[9])])
abbrev HE(Q:R):Vs->SH->Kn->Prop:=Lp qz 19 Q 9 []
abbrev JW(a b:AV)(L:SH)(Q:R):Prop:=Pc qz 20 Q 0 [] [a,b] L
def HG(u j:AV)(L:SH)(Q:R)(h:JW u j L Q):ac Tryz.prog 26 [u,j] L Q:=
 fv qz Tryz.func26 h
def dE(w:aG):aP->List aD->Option aP
 |c,[]=>some c
 | c,h::l=>match c8 w c h.thread h.wake with
  |none=>none
  |some n=>dE w n l
def Ia(ev:List bA)(t:Int):∀k,(cg ev t k).Pairwise (·<·)
 |0=>.nil
 | k+1=>by
  unfold cg;split
  .refine List.pairwise_append.2 ⟨Ia ev t k,List.pairwise_singleton _ _,λa u b j=>?_⟩;obtain⟨i,B,rfl,_⟩:=rU.1 u;rw[aag.1 j];omega
  .exact Ia ev t k
def RB{w:aG}{t:Int}{k:Nat}(h:k<w.ev.length)(ht:(w.ev[k]).thread=t):(k:Int)∈eC w t:=rU.2 ⟨k,h,rfl,by simpa[h]using ht⟩
def Pr(c:aP)(h1:c.sync.locks.length<2^40)(h2:c.sync.done.length<=2^40)(h3:c.sync.threads.length<2^40)(Z:∀l∈c.sync.locks,l.readers.length<2^40)(h4:c.cells.length<2^40)(h5:c.futures.length<2^40)(h6:c.order.length<2^40)(h7:c.fixed.length<2^40)(h8:c.woke.length<2^40):
  ac Tryz.prog 53 [.agg c.enc] [] λv L=>∃E D B j u:Nat,v=.agg [.lst (c.sync.locks.map LockD.enc),.acU c.sync.tx,.lst (c.sync.done.map au),.lst (c.sync.threads.map ThrD.enc),.sl E 0 c.cells.length,.sl D 0 c.futures.length,.sl B 0 c.order.length,.sl j 0 c.fixed.length,.sl u 0 c.woke.length]/\
   L=[(u,⟨1,c.woke.map aa⟩),(j,⟨1,c.fixed.map au⟩),(B,⟨1,c.order.map aa⟩),(D,⟨2,c.futures.map eu.enc⟩),(E,⟨2,c.cells.map eu.enc⟩)]:=by
 have G:=uL c.sync h1 acN h3 Z;refine ac.fz (Ez _ _ _ ?_);refine vw ?_;generalize O:(λ(v:AV) (L:SH)=>∃M S,ax [v] L [M] S/\∃E D B j u:Nat,M=.agg [.lst (c.sync.locks.map LockD.enc),.acU c.sync.tx,.lst (c.sync.done.map au),.lst (c.sync.threads.map ThrD.enc),.sl E 0 c.cells.length,.sl D 0 c.futures.length,.sl B 0 c.order.length,.sl j 0 c.fixed.length,.sl u 0 c.woke.length]/\
   S=[(u,(⟨1,c.woke.map aa⟩:Blk)),(j,⟨1,c.fixed.map au⟩),(B,⟨1,c.order.map aa⟩),(D,⟨2,c.futures.map eu.enc⟩),(E,⟨2,c.cells.map eu.enc⟩)])=Q
 have fin:∀(E D B j u:Nat) (L:SH),cO L [(u,(⟨1,c.woke.map aa⟩:Blk)),(j,⟨1,c.fixed.map au⟩),(B,⟨1,c.order.map aa⟩),(D,⟨2,c.futures.map eu.enc⟩),(E,⟨2,c.cells.map eu.enc⟩)]->Q (.agg [.lst (c.sync.locks.map LockD.enc),.acU c.sync.tx,.lst (c.sync.done.map au),.lst (c.sync.threads.map ThrD.enc),.sl E 0 c.cells.length,.sl D 0 c.futures.length,.sl B 0 c.order.length,.sl j 0 c.fixed.length,.sl u 0 c.woke.length]) L:=λE D B j u L hL=>by subst O;exact⟨_,_,ax.pickE hL rfl rfl,E,D,B,j,u,rfl,rfl⟩
 clear O;rw[Mv]at G;rw[cG]at *
 repeat' (first|refine sy ?_|refine dJ rp (λ_=>rfl) acP acS acS (λ_=>rfl) (λY N=>?_)|refine s2 ?_ ?_|intro)
 simp only[abI];exact fin _ _ _ _ _ _ rp
def uN(e:bA):Bool:=decide (e.kind=3)||decide (e.kind=4)
def Pu(a b:bA):Bool:=uN a&&uN b&&decide (a.obj=b.obj)&&(decide (a.kind=4)||decide (b.kind=4))
def Gz{u:List Int}{t i:Int}:∀(l:List bA) (j:Nat),(∀m (B:m<l.length),((j+m:Nat):Int)=i->(l[m]).thread≠t)->H8 (u++[i]) t l j=H8 u t l j
 |[],j,_=>rfl
 | e::l,j,h=>by
  unfold H8;rw[Gz l (j+1) λm B D=>h (m+1) (by simpa using B) (by rw[<-D];omega)];by_cases g:e.thread=t
  .have:(j:Int)≠i:=λE=>h 0 acQ (by rw[<-E];rfl) g
   simp[g,this]
  .rw[if_neg λx=>g x.1,if_neg λx=>g x.1]
def MF{w:aG}{c j:aP}{u:Int}{i:Nat}(E:i<w.ev.length)(B:j.order=c.order++[(i:Int)])(h:(w.ev[i]).thread≠u):dK w j u=dK w c u:=by
 unfold dK;rw[B];exact Gz w.ev 0 λm D G=>by
  obtain rfl:m=i:=by omega
  exact h
def Pv{w:aG}{c j:aP}{u:Int}{i:Nat}(N:i<w.ev.length){v:Bool}(E:j.fixed=c.fixed.set i v\/j.fixed=c.fixed)(h:(w.ev[i]).thread≠u)(l:List Int):eJ w j u l=eJ w c u l:=by
 have B:∀n,pS w j u n=pS w c u n:=λn=>by
  unfold pS;have M:j.fixed.length=c.fixed.length:=by rcases E with e|e<;>simp[e]
  rw[M];congr 1;rcases Kl (w:=w) (t:=u) (k:=n-aT w.init u)with⟨h0,h1⟩|h1
  .obtain⟨Y,S,G⟩:=yx h1;congr 1;rcases E with e|e
   .rw[e];have D:(ep w u (n-aT w.init u)).toNat≠i:=λZ=>h (by
     have O:ep w u (n-aT w.init u)=i:=by omega
     rw[O,gq N]at G;exact G)
    simp[List.getD,Ne.symm D]
   .rw[e]
  .rw[h1];rfl
 unfold eJ;rw[show pS w j u=pS w c u from funext B]
def UF{w:aF}{s:SyncD}{t k o wake:Int}(u:aC w s t k o=true)(j:k=3\/k=4):(dx w s t k o wake).1=s:=by rw[(uH u).1];rcases j with rfl|rfl<;>rfl
structure ZQ(w:aG)(c:aP)(t:Int)(i:Nat)(e:bA)(c':aP):Prop where
 sync:c'.sync=c.sync
 order:c'.order=c.order++[(i:Int)]
 fixed:∃v,c'.fixed=c.fixed.set i v\/c'.fixed=c.fixed
 futures:c'.futures=c.futures
 woke:c'.woke=c.woke
 cells:c'.cells=if e.kind=4 then c.cells.set e.obj.toNat (if eJ w c t e.frm then⟨e.value,true⟩else⟨0,false⟩)else c.cells
 fx:c'.fixed=if e.kind=3 then c.fixed.set i (Kk (qO c.cells e.obj) e.value)else c.fixed
def MG{w:aG}{c:aP}{t wake:Int}{i:Nat}{e:bA}(G:aC w.w c.sync t e.kind e.obj=true)(E:e.kind=3\/e.kind=4):ZQ w c t i e (uG w c t i e wake):=by
 unfold uG;dsimp only;rw[UF G E];have j:e.kind≠23:=by omega
 have u:e.kind≠22:=by omega
 have D:e.kind≠18:=by omega
 have B:e.kind≠19:=by omega
 refine⟨rfl,rfl,?_,?_,?_,rfl,?_⟩
 .dsimp only;rw[if_neg j,Int.toNat_natCast];split
  .exact⟨_,.inl rfl⟩
  .exact⟨false,.inr rfl⟩
 .dsimp only;rw[if_neg u]
 .dsimp only;rw[if_neg D,if_neg B]
 .dsimp only;rw[if_neg j,Int.toNat_natCast]
def oY{e:bA}:uN e=true↔e.kind=3\/e.kind=4:=by unfold uN;simp
def Dl{w:aG}{c:aP}{t wake:Int}{k:Nat}(u:k<w.ev.length)(j:dK w c t=k):c8 w c t wake=if u9 w c t then some (uG w c t k w.ev[k] wake)else none:=by unfold c8;rw[j,gq u]
def KO{w:aG}{c:aP}{t:Int}{k:Nat}(u:k<w.ev.length)(j:dK w c t=k):u9 w c t=(aC w.w c.sync t (w.ev[k]).kind (w.ev[k]).obj&&eJ w c t (w.ev[k]).deps):=by unfold u9;rw[j,gq u,decide_eq_true (by omega:(0:Int)<=k),acB]
structure ExR(a b:aP):Prop where
 sync:a.sync=b.sync
 cells:a.cells=b.cells
 futures:a.futures=b.futures
 fixed:a.fixed=b.fixed
 woke:a.woke=b.woke
def Dm{w:aG}{c:aP}{t u x:Int}{i k:Nat}(G:i<w.ev.length)(S:k<w.ev.length)(N:dK w c t=i)(O:dK w c u=k)(ht:(w.ev[i]).thread=t)(hu:(w.ev[k]).thread=u)(M:t≠u)(ha:uN w.ev[i]=true)(Z:u9 w c t=true):
  ∃E,c8 w c t x=some E/\ZQ w c t i w.ev[i] E/\dK w E u=k/\u9 w E u=u9 w c u/\∀l,eJ w E u l=eJ w c u l:=by
 have Y:=Z;rw[KO G N,aas]at Y;have A:=MG (wake:=x) (i:=i) Y.1 (oY.1 ha);have B:(w.ev[i]).thread≠u:=by rw[ht];exact M
 have j:dK w (uG w c t i w.ev[i] x) u=k:=by rw[MF G A.order B];exact O
 obtain⟨v,hv⟩:=A.fixed;have D:=λl=>Pv (u:=u) G hv B l
 refine⟨_,by rw[Dl G N,if_pos Z],A,j,?_,D⟩;rw[KO S j,KO S O,A.sync,D]
def swap{w:aG}{c:aP}{t u x y:Int}{i k:Nat}(Z:i<w.ev.length)(G:k<w.ev.length)(hn:dK w c t=i)(hm:dK w c u=k)(ht:(w.ev[i]).thread=t)(hu:(w.ev[k]).thread=u)(B:t≠u)
  (ha:uN w.ev[i]=true) (O:uN w.ev[k]=true) (hc:Pu w.ev[i] w.ev[k]=false) :
  (dE w c [⟨t,x⟩,⟨u,y⟩]=none/\dE w c [⟨u,y⟩,⟨t,x⟩]=none)\/∃p q,dE w c [⟨t,x⟩,⟨u,y⟩]=some p/\dE w c [⟨u,y⟩,⟨t,x⟩]=some q/\ExR p q:=by
 have r2:∀a b:aD,dE w c [a,b]=match c8 w c a.thread a.wake with
  |none=>none
  |some n=>c8 w n b.thread b.wake:=λa b=>by
  show(match c8 w c a.thread a.wake with
   |none=>none
   |some n=>dE w n [b])=_
  cases c8 w c a.thread a.wake with
  |none=>rfl
  |some n=>
   show(match c8 w n b.thread b.wake with
    |none=>none
    |some m=>dE w m [])=c8 w n b.thread b.wake
   cases c8 w n b.thread b.wake<;>rfl
 rw[r2,r2];dsimp only;have Y:∀(c:aP) (t x:Int),u9 w c t=false->c8 w c t x=none:=λc t x h=>by unfold c8;rw[h];rfl
 cases e1:u9 w c t with
 |false=>
  left;rw[Y _ _ _ e1];cases D:u9 w c u with
  |false=>rw[Y _ _ _ D];exact⟨rfl,rfl⟩
  |true=>obtain⟨c2,h1,E,h2,h3,_⟩:=Dm (x:=y) G Z hm hn hu ht (Ne.symm B) O D;rw[h1];refine⟨rfl,?_⟩;exact Y _ _ _ (by rw[h3];exact e1)
 |true=>
  obtain⟨c1,h1,M,h2,h3,hf1⟩:=Dm (x:=x) Z G hn hm ht hu B ha e1;rw[h1];dsimp only;cases D:u9 w c u with
  |false=>left;rw[Y _ _ _ D,Y _ _ _ (h3.trans D)];exact⟨rfl,rfl⟩
  |true=>
   right;obtain⟨c2,g1,E,g2,g3,hf2⟩:=Dm (x:=y) G Z hm hn hu ht (Ne.symm B) O D;rw[g1];dsimp only;have B1:=D;rw[KO G hm,Bool.and_eq_true]at B1;have B2:=e1;rw[KO Z hn,Bool.and_eq_true]at B2;have D1:=MG (c:=c1) (wake:=y) (i:=k) (t:=u) (e:=w.ev[k]) (by rw[M.sync];exact B1.1) (oY.1 O);have D2:=MG (c:=c2) (wake:=x) (i:=i) (t:=t) (e:=w.ev[i]) (by rw[E.sync];exact B2.1) (oY.1 ha);refine⟨_,_,by rw[Dl G h2,h3,D,if_pos rfl],by rw[Dl Z g2,g3,e1,if_pos rfl],?_⟩;have hik:i≠k:=λe=>B (by subst e;rw[<-ht,<-hu])
   have ob:(w.ev[i]).kind=4\/(w.ev[k]).kind=4->(w.ev[i]).obj≠(w.ev[k]).obj:=λh e=>by unfold Pu at hc;rw[ha,O,e]at hc;simp at hc;omega
   have ib:∀{v:Int} {k:Int},allowedS w.w k v=true->k=3\/k=4->inB v w.w.cells.length=true:=λ{v k} h G=>by unfold allowedS at h;rw[if_neg acN,if_pos G]at h;exact h
   have alw:∀{t k o:Int},aC w.w c.sync t k o=true->allowedS w.w k o=true:=λh=>by unfold aC at h;simp only[aas]at h;exact h.1.2
   have o1:=ao.1 (ib (alw B2.1) (oY.1 ha));have o2:=ao.1 (ib (alw B1.1) (oY.1 O));have j:∀{l:List eu} {o v:Int} {z:eu},o.toNat≠v.toNat->qO (l.set o.toNat z) v=qO l v:=λ{l o v z} h=>by unfold qO;simp[List.getD,h]
   refine⟨by rw[D1.sync,D2.sync,M.sync,E.sync],?_,by rw[D1.futures,D2.futures,M.futures,E.futures],?_,by rw[D1.woke,D2.woke,M.woke,E.woke]⟩
   .rw[D1.cells,D2.cells,M.cells,E.cells,hf1,hf2];by_cases p:(w.ev[i]).kind=4
    .have:=ob (.inl p);by_cases q:(w.ev[k]).kind=4
     .simp only[p,q,if_true];exact List.set_comm _ _ acN
     .simp only[p,q,if_true,if_false]
    .by_cases q:(w.ev[k]).kind=4
     .simp only[p,q,if_true,if_false]
     .simp only[p,q,if_false]
   .rw[D1.fx,D2.fx,M.fx,E.fx,M.cells,E.cells];by_cases p:(w.ev[i]).kind=3
    .have S:(w.ev[i]).kind≠4:=by omega
     by_cases q:(w.ev[k]).kind=3
     .have N:(w.ev[k]).kind≠4:=by omega
      simp only[if_pos p,if_pos q,if_neg S,if_neg N];exact List.set_comm _ _ hik
     .have N:(w.ev[k]).kind=4:=by have:=oY.1 O;omega
      have:=ob (.inr N);simp only[if_pos p,if_neg q,if_neg S,if_pos N];rw[j acN]
    .have S:(w.ev[i]).kind=4:=by have:=oY.1 ha;omega
     have:=ob (.inl S);by_cases q:(w.ev[k]).kind=3
     .have N:(w.ev[k]).kind≠4:=by omega
      simp only[if_neg p,if_pos q,if_pos S,if_neg N];rw[j acN]
     .simp only[if_neg p,if_neg q]
def run_app{w:aG}:∀(l:List aD) {c d:aP} (r:List aD),dE w c l=some d->dE w c (l++r)=dE w d r
 |[],c,d,r,h=>by cases h;rfl
 | x::l,c,d,r,h=>by
  show(match c8 w c x.thread x.wake with
   |none=>none
   |some n=>dE w n (l++r))=_
  unfold dE at h;cases j:c8 w c x.thread x.wake with
  |none=>rw[j]at h;cases h
  |some n=>rw[j]at h;exact run_app l r h
def rj{w:aG}:∀(l:List aD) {c d:aP} (x:aD),dE w c l=some d->dE w c (l++[x])=c8 w d x.thread x.wake
 | [],c,d,x,h=>by
  cases h;show(match c8 w c x.thread x.wake with
   |none=>none
   |some m=>dE w m [])=c8 w c x.thread x.wake
  cases c8 w c x.thread x.wake<;>rfl
 | y::l,c,d,x,h=>by
  show(match c8 w c y.thread y.wake with
   |none=>none
   |some n=>dE w n (l++[x]))=_
  unfold dE at h;cases j:c8 w c y.thread y.wake with
  |none=>rw[j]at h;cases h
  |some n=>rw[j]at h;exact rj l x h
def gF:RF:=nv (bQ Tryz.prog Tryz.f24 [(69016,⟨[5,6,7],[],true,[]⟩),(39,⟨[1,2,5,6,7,8,9,10,11,12],[24],false,[]⟩),(63058,⟨[1,2,5,6,7,8,9,13],[12],false,[]⟩),(24,⟨[1,2,5,6,7,8,9,10],[12,69016],false,[]⟩),(12,⟨[1,2,5,6,7,8],[69016],false,[]⟩)] [(0,[2])])
abbrev mC(Q:R):Vs->SH->Prop:=Jp gF 19 Q 69016 []
abbrev Fx(a:Kn):Vs->SH->Kn->Prop:=Lp gF 17 q0 39 [a]
abbrev Fy(a b:Kn):Vs->SH->Kn->Prop:=Lp gF 18 q0 24 [a,b]
abbrev FA(a:Kn):Vs->SH->Kn->Prop:=Lp gF 19 q0 12 [a]
abbrev Is(a b:AV)(L:SH)(Q:R):Prop:=Pc gF 20 Q 0 [] [a,b] L
def FB(u j:AV)(L:SH)(Q:R)(h:Is u j L Q):ac Tryz.prog 24 [u,j] L Q:=
 fv gF Tryz.func24 h
def fP(w:aG)(l:List Int)(t:Int):List Int:=l.filter λk=>decide ((jA w k).thread=t)
def Nh(w:aG)(c:aP):Prop:=∀t,fP w c.order t=(eC w t).take (fP w c.order t).length
def Qd{α:Type}{l:List α}{n:Nat}(h:n<l.length):l.take (n+1)=l.take n++[l[n]]:=by rw[Fn h]
def Lx{w:aG}{c:aP}(H:Nh w c)(t:Int):dK w c t=ep w t (fP w c.order t).length:=by
 have hT:=H t;have u:∀x,x∈eC w t->(x∈c.order↔x∈(eC w t).take (fP w c.order t).length):=λx D=>by rw[<-hT];unfold fP;rw[acn];exact⟨λh=>⟨h,decide_eq_true (yx D).2.2⟩,λh=>h.1⟩
 have B:=Ia w.ev t w.ev.length;have hle:(fP w c.order t).length<=(eC w t).length:=by have:=congrArg List.length hT;rw[abm]at this;omega
 generalize(fP w c.order t).length=n at *;rcases LE n (eC w t).length with g|g
 .have Y:ep w t n=(eC w t)[n]:=by unfold ep;rw[if_pos (ao.2 ⟨acN,acN⟩)];simp[g]
  rw[Y];obtain⟨h0,h1,h2⟩:=yx (LT g);generalize D:(eC w t)[n]=x at *;obtain⟨m,rfl⟩:∃m:Nat,x=m:=⟨x.toNat,acN⟩;have M:m<w.ev.length:=by omega
  refine qP M (by rw[gq M]at h2;exact h2) (gp.2 λhc=>?_) λj hj hjm S=>fJ.2 ?_
  .have:=(u _ (D▸LT g)).1 hc;obtain⟨i,Z,E⟩:=abC this;rw[List.getElem_take,<-D]at E;have O:i<n:=by simp at Z;omega
   have:=List.pairwise_iff_getElem.1 B i n (by show i<(eC w t).length;omega) g O;change (eC w t)[i]<(eC w t)[n]at this;rw[E]at this;omega
  .have N:=RB hj S;refine(u _ N).2 ?_;obtain⟨i,Z,E⟩:=abC N;have O:i<n:=by
    rcases LE i n with g2|g2
    .exact g2
    .rcases LE n i with g3|g3
     .have:=List.pairwise_iff_getElem.1 B n i g Z g3;change (eC w t)[n]<(eC w t)[i]at this;rw[E,D]at this;omega
     .obtain rfl:i=n:=by omega
      rw[D]at E;omega
   rw[<-E];exact List.mem_take_iff_getElem.2 ⟨i,acN,rfl⟩
 .have Y:ep w t n=-1:=by unfold ep;rw[if_neg λh=>by have:=(ao.1 h).2;omega]
  rw[Y];refine nC λm hm S=>fJ.2 ?_
  have G:=RB hm S;refine(u _ G).2 ?_;rw[aaT g];exact G
def Vp{w:aG}{c n:aP}{t wake:Int}(H:Nh w c)(h:c8 w c t wake=some n):Nh w n:=by
 obtain⟨k,D,j,M,_,_,_,_,rfl⟩:=gB h;intro u;show fP w (c.order++[(k:Int)]) u=(eC w u).take (fP w (c.order++[(k:Int)]) u).length;have N:fP w (c.order++[(k:Int)]) u=fP w c.order u++(if(w.ev[k]).thread=u then [(k:Int)]else []):=by
  unfold fP;rw[acK];congr 1;by_cases g:(w.ev[k]).thread=u
  .rw[if_pos g];simp[gq D,g]
  .rw[if_neg g];simp[gq D,g]
 rw[N];by_cases g:(w.ev[k]).thread=u
 .rw[if_pos g];have S:t=u:=M.symm.trans g;subst S;rw[Lx H t]at j;have G:=H t;have O:(fP w c.order t).length<=(eC w t).length:=by have:=congrArg List.length G;rw[abm]at this;omega
  unfold ep at j;split at j
  .rename_i E;obtain⟨_,E⟩:=ao.1 E;have B:(fP w c.order t).length<(eC w t).length:=by omega
   rw[abw]at j;simp only[List.getD,mt B,abS]at j;rw[aal,ach,Qd B,<-G,j]
  .omega
 .rw[if_neg g,aby];exact H u
def Th(w:aG):Nh w (bN w):=λt=>rfl
def OD{w:aG}:∀(l:List aD) {c d:aP},Nh w c->dE w c l=some d->Nh w d
 |[],c,d,H,h=>by cases h;exact H
 | x::l,c,d,H,h=>by
  unfold dE at h;cases j:c8 w c x.thread x.wake with
  |none=>rw[j]at h;cases h
  |some n=>rw[j]at h;exact OD l (Vp H j) h
def OE{w:aG}:∀(l:List aD) {c d:aP},dE w c l=some d->∃j:List Int,d.order=c.order++j/\j.length=l.length/\∀(i:Nat) (h:i<l.length) (g:i<j.length),(jA w j[i]).thread=l[i].thread
 |[],c,d,h=>by cases h;exact⟨[],acQ,rfl,λi h=>absurd h acQ⟩
 | x::l,c,d,h=>by
  unfold dE at h;cases u:c8 w c x.thread x.wake with
  |none=>rw[u]at h;cases h
  |some n=>
   rw[u]at h;obtain⟨j,M,h2,G⟩:=OE l h;obtain⟨k,D,_,B,_,_,_,_,rfl⟩:=gB u;refine⟨(k:Int)::j,by rw[M];show(c.order++[(k:Int)])++j=_;simp,by simp[h2],λi E N=>?_⟩
   match i with
   |0=>show(jA w (k:Int)).thread=x.thread;rw[gq D];exact B
   |i+1=>exact G i (by simpa using E) (by simpa using N)
def Ti{w:aG}{l:List aD}{d:aP}(h:dE w (bN w) l=some d):d.order.length=l.length/\∀(i:Nat) (j:i<l.length) (h2:i<d.order.length),(jA w d.order[i]).thread=l[i].thread:=by
 obtain⟨u,j,h2,B⟩:=OE l h;have j:d.order=u:=by rw[j];rfl
 subst j;exact⟨h2,B⟩
def Qe{w:aG}{l:List Int}{t:Int}{i:Nat}(h:i<l.length):fP w (l.take (i+1)) t=if(jA w l[i]).thread=t then fP w (l.take i) t++[l[i]]else fP w (l.take i) t:=by
 unfold fP;rw[Fn h,acK];split
 .next g=>simp[g]
 .next g=>simp[g]
def Vq{w:aG}{c:aP}(H:Nh w c){t:Int}{i:Nat}(h:i<c.order.length)(ht:(jA w c.order[i]).thread=t):ep w t (fP w (c.order.take i) t).length=c.order[i]:=by
 have D:=H t;have B:fP w c.order t=fP w (c.order.take i) t++c.order[i]::fP w (c.order.drop (i+1)) t:=by
  have e:c.order=c.order.take i++c.order[i]::c.order.drop (i+1):=by rw[<-ack h,acr]
  conv=>lhs;rw[e]
  unfold fP;rw[acK,List.filter_cons,if_pos (by simpa using ht)]
 have j:(fP w (c.order.take i) t).length<(fP w c.order t).length:=by rw[B];simp
 have u:(fP w c.order t)[(fP w (c.order.take i) t).length]? =some c.order[i]:=by rw[B];simp
 rw[D]at u;have E:=abJ (l:=eC w t) j;rw[E]at u;obtain⟨M,G⟩:=abL.1 u;unfold ep;rw[if_pos (ao.2 ⟨acN,acN⟩)];simp[List.getD,u]
end Go.Proofs.YtfckbjehkbhkgaaGreat.Am
section
namespace Go.Proofs.YtfckbjehkbhkgaaGreat.modelThreads
open Go.ChangeShapes Go.WideShapes Go.ChangeAt Go.RowKit
def facts:joinedFacts Tryz.pinned.checked.prog 5 Tryz.f5 Rows.modelThreadsSpec Rows.modelThreadsRow=true:=by kernel_rfl
end Go.Proofs.YtfckbjehkbhkgaaGreat.modelThreads
end
