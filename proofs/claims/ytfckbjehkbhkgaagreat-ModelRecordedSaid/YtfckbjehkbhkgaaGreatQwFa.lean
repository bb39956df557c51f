/- part -/
import Derived.Test.YtfckbjehkbhkgaaGreatQwT
import Derived.IntWalk
import Derived.Test.YtfckbjehkbhkgaaGreatProg
import Derived.KernelRfl
import Derived.LoopN
import Derived.MapKept
import Derived.Carry
import Derived.Lib.OthersKept
import Derived.Laws.RangeString
import Derived.Deep.AppendSrc
import Derived.Lib.Strings
import Derived.Laws.StructEq
import Derived.Laws.Cells
import Derived.Laws.CopyRow
import Derived.Laws.Entries
import Derived.Handy
import Derived.RowKit
import Derived.Calls
import Derived.Orders
import Derived.Below
import Derived.Laws.AppendOwn
import Derived.Laws.OwnMore
import Derived.Laws.MakeOwn
import Derived.OwnWalk
import Derived.Test.YtfckbjehkbhkgaaGreatRows
import Derived.WalkKit
import Derived.ProofKit
import Derived.OpenShut
import Derived.Outline
import Derived.Lib.Hide
import Derived.Deep.Slices
import Derived.Deep.Fields
import Derived.ChangeSame
import Derived.Deep.Draws
import Derived.WalkSpells
import Derived.Deep.DeepMust
import Derived.Sort.OwnSortedInts
import Derived.Shelf.Small.Wraps
import Derived.Shelf.Sort.Plain
import Derived.Shelf.Slices.Turned
import Derived.Ground.Names2Prog
import Derived.Shelf.Slices.Clone
import Derived.Shelf.Slices.CompactI
import Derived.Shelf.Slices.In.SortNone
import Derived.Ground.SlgnProg
import Derived.Shelf.SlicesE.Clone
set_option linter.all false
set_option maxRecDepth 100000
set_option maxHeartbeats 0
namespace Go.Proofs.YtfckbjehkbhkgaaGreat.Am
def dI:RF:=nv (bQ Tryz.prog Tryz.f10 [(57,⟨[5,7,11],[],true,[]⟩),(42,⟨[5,7,10],[],true,[]⟩),(24,⟨[3,5,7,8],[],true,[]⟩)] [(0,[1]),(1,[3]),(3,[5]),(6,[7])])
abbrev oE(Q:R):Vs->SH->Kn->Prop:=Lp dI 17 Q 57 []
abbrev oF(Q:R):Vs->SH->Kn->Prop:=Lp dI 18 Q 42 []
abbrev oG(Q:R):Vs->SH->Kn->Prop:=Lp dI 19 Q 24 []
abbrev pJ(a:AV)(L:SH)(Q:R):Prop:=Pc dI 20 Q 0 [] [a] L
def oH(j:AV)(L:SH)(Q:R)(h:pJ j L Q):ac Tryz.prog 10 [j] L Q:=
 fv dI Tryz.func10 h
def mX:RF:=nv (bQ Tryz.prog Tryz.f35 [] [(0,[1])])
abbrev xX(a:AV)(L:SH)(Q:R):Prop:=Pc mX 20 Q 0 [] [a] L
def vU(j:AV)(L:SH)(Q:R)(h:xX j L Q):ac Tryz.prog 35 [j] L Q:=
 fv mX Tryz.func35 h
def qz:RF:=nv (bQ Tryz.prog Tryz.f26 [(9,⟨[2,4,6,13,14,15],[],true,[]⟩)] [(0,[2]),(4,[8]),(5,[9])])
abbrev HE(Q:R):Vs->SH->Kn->Prop:=Lp qz 19 Q 9 []
abbrev JW(a b:AV)(L:SH)(Q:R):Prop:=Pc qz 20 Q 0 [] [a,b] L
def HG(u j:AV)(L:SH)(Q:R)(h:JW u j L Q):ac Tryz.prog 26 [u,j] L Q:=
 fv qz Tryz.func26 h
def iX:RF:=nv (bQ Tryz.prog Tryz.f33 [(27022,⟨[3,6,12,13,14],[9],false,[]⟩),(9,⟨[3,12,13,14],[],true,[]⟩)] [(0,[1]),(4,[5])])
abbrev vZ(Q:R):Vs->SH->Kn->Prop:=Lp iX 19 Q 9 []
abbrev xZ(a:AV)(L:SH)(Q:R):Prop:=Pc iX 20 Q 0 [] [a] L
def wa(j:AV)(L:SH)(Q:R)(h:xZ j L Q):ac Tryz.prog 33 [j] L Q:=
 fv iX Tryz.func33 h
def kN:RF:=nv (bQ Tryz.prog Tryz.f36 [(9,⟨[1,2,4,5,6],[],true,[]⟩)] [(0,[2])])
abbrev Ae(Q:R):Vs->SH->Kn->Prop:=Lp kN 19 Q 9 []
abbrev Cv(a b:AV)(L:SH)(Q:R):Prop:=Pc kN 20 Q 0 [] [a,b] L
def Af(u j:AV)(L:SH)(Q:R)(h:Cv u j L Q):ac Tryz.prog 36 [u,j] L Q:=
 fv kN Tryz.func36 h
def wA:RF:=nv (bQ Tryz.prog Tryz.f37 [(42,⟨[2,3,7],[],true,[]⟩),(27,⟨[2,3,6],[],true,[]⟩),(12,⟨[2,3,5],[],true,[]⟩)] [(0,[2,3])])
abbrev HM(a b:AV)(L:SH)(Q:R):Prop:=Pc wA 20 Q 0 [] [a,b] L
def ES(u j:AV)(L:SH)(Q:R)(h:HM u j L Q):ac Tryz.prog 37 [u,j] L Q:=
 fv wA Tryz.func37 h
def dE(w:aG):aP->List aD->Option aP
 |c,[]=>some c
 | c,h::l=>match c8 w c h.thread h.wake with
  |none=>none
  |some n=>dE w n l
def uN(e:bA):Bool:=decide (e.kind=3)||decide (e.kind=4)
def Pu(a b:bA):Bool:=uN a&&uN b&&decide (a.obj=b.obj)&&(decide (a.kind=4)||decide (b.kind=4))
def Gz{u:List Int}{t i:Int}:∀(l:List bA) (j:Nat),(∀m (B:m<l.length),((j+m:Nat):Int)=i->(l[m]).thread≠t)->H8 (u++[i]) t l j=H8 u t l j
 |[],j,_=>rfl
 | e::l,j,h=>by
  unfold H8;rw[Gz l (j+1) λm B D=>h (m+1) (by simpa using B) (by rw[<-D];omega)];by_cases g:e.thread=t
  .have:(j:Int)≠i:=λE=>h 0 acQ (by rw[<-E];rfl) g
   simp[g,this]
  .rw[if_neg λx=>g x.1,if_neg λx=>g x.1]
def MF{w:aG}{c j:aP}{u:Int}{i:Nat}(E:i<w.ev.length)(B:j.order=c.order++[(i:Int)])(h:(w.ev[i]).thread≠u):dK w j u=dK w c u:=by
 unfold dK;rw[B];exact Gz w.ev 0 λm D G=>by
  obtain rfl:m=i:=by omega
  exact h
def Pv{w:aG}{c j:aP}{u:Int}{i:Nat}(N:i<w.ev.length){v:Bool}(E:j.fixed=c.fixed.set i v\/j.fixed=c.fixed)(h:(w.ev[i]).thread≠u)(l:List Int):eJ w j u l=eJ w c u l:=by
 have B:∀n,pS w j u n=pS w c u n:=λn=>by
  unfold pS;have M:j.fixed.length=c.fixed.length:=by rcases E with e|e<;>simp[e]
  rw[M];congr 1;rcases Kl (w:=w) (t:=u) (k:=n-aT w.init u)with⟨h0,h1⟩|h1
  .obtain⟨Y,S,G⟩:=yx h1;congr 1;rcases E with e|e
   .rw[e];have D:(ep w u (n-aT w.init u)).toNat≠i:=λZ=>h (by
     have O:ep w u (n-aT w.init u)=i:=by omega
     rw[O,gq N]at G;exact G)
    simp[List.getD,Ne.symm D]
   .rw[e]
  .rw[h1];rfl
 unfold eJ;rw[show pS w j u=pS w c u from funext B]
def UF{w:aF}{s:SyncD}{t k o wake:Int}(u:aC w s t k o=true)(j:k=3\/k=4):(dx w s t k o wake).1=s:=by rw[(uH u).1];rcases j with rfl|rfl<;>rfl
structure ZQ(w:aG)(c:aP)(t:Int)(i:Nat)(e:bA)(c':aP):Prop where
 sync:c'.sync=c.sync
 order:c'.order=c.order++[(i:Int)]
 fixed:∃v,c'.fixed=c.fixed.set i v\/c'.fixed=c.fixed
 futures:c'.futures=c.futures
 woke:c'.woke=c.woke
 cells:c'.cells=if e.kind=4 then c.cells.set e.obj.toNat (if eJ w c t e.frm then⟨e.value,true⟩else⟨0,false⟩)else c.cells
 fx:c'.fixed=if e.kind=3 then c.fixed.set i (Kk (qO c.cells e.obj) e.value)else c.fixed
def MG{w:aG}{c:aP}{t wake:Int}{i:Nat}{e:bA}(G:aC w.w c.sync t e.kind e.obj=true)(E:e.kind=3\/e.kind=4):ZQ w c t i e (uG w c t i e wake):=by
 unfold uG;dsimp only;rw[UF G E];have j:e.kind≠23:=by omega
 have u:e.kind≠22:=by omega
 have D:e.kind≠18:=by omega
 have B:e.kind≠19:=by omega
 refine⟨rfl,rfl,?_,?_,?_,rfl,?_⟩
 .dsimp only;rw[if_neg j,Int.toNat_natCast];split
  .exact⟨_,.inl rfl⟩
  .exact⟨false,.inr rfl⟩
 .dsimp only;rw[if_neg u]
 .dsimp only;rw[if_neg D,if_neg B]
 .dsimp only;rw[if_neg j,Int.toNat_natCast]
def oY{e:bA}:uN e=true↔e.kind=3\/e.kind=4:=by unfold uN;simp
def Dl{w:aG}{c:aP}{t wake:Int}{k:Nat}(u:k<w.ev.length)(j:dK w c t=k):c8 w c t wake=if u9 w c t then some (uG w c t k w.ev[k] wake)else none:=by unfold c8;rw[j,gq u]
def KO{w:aG}{c:aP}{t:Int}{k:Nat}(u:k<w.ev.length)(j:dK w c t=k):u9 w c t=(aC w.w c.sync t (w.ev[k]).kind (w.ev[k]).obj&&eJ w c t (w.ev[k]).deps):=by unfold u9;rw[j,gq u,decide_eq_true (by omega:(0:Int)<=k),acB]
structure ExR(a b:aP):Prop where
 sync:a.sync=b.sync
 cells:a.cells=b.cells
 futures:a.futures=b.futures
 fixed:a.fixed=b.fixed
 woke:a.woke=b.woke
def Dm{w:aG}{c:aP}{t u x:Int}{i k:Nat}(G:i<w.ev.length)(S:k<w.ev.length)(N:dK w c t=i)(O:dK w c u=k)(ht:(w.ev[i]).thread=t)(hu:(w.ev[k]).thread=u)(M:t≠u)(ha:uN w.ev[i]=true)(Z:u9 w c t=true):
  ∃E,c8 w c t x=some E/\ZQ w c t i w.ev[i] E/\dK w E u=k/\u9 w E u=u9 w c u/\∀l,eJ w E u l=eJ w c u l:=by
 have Y:=Z;rw[KO G N,aas]at Y;have A:=MG (wake:=x) (i:=i) Y.1 (oY.1 ha);have B:(w.ev[i]).thread≠u:=by rw[ht];exact M
 have j:dK w (uG w c t i w.ev[i] x) u=k:=by rw[MF G A.order B];exact O
 obtain⟨v,hv⟩:=A.fixed;have D:=λl=>Pv (u:=u) G hv B l
 refine⟨_,by rw[Dl G N,if_pos Z],A,j,?_,D⟩;rw[KO S j,KO S O,A.sync,D]
def swap{w:aG}{c:aP}{t u x y:Int}{i k:Nat}(Z:i<w.ev.length)(G:k<w.ev.length)(hn:dK w c t=i)(hm:dK w c u=k)(ht:(w.ev[i]).thread=t)(hu:(w.ev[k]).thread=u)(B:t≠u)
  (ha:uN w.ev[i]=true) (O:uN w.ev[k]=true) (hc:Pu w.ev[i] w.ev[k]=false) :
  (dE w c [⟨t,x⟩,⟨u,y⟩]=none/\dE w c [⟨u,y⟩,⟨t,x⟩]=none)\/∃p q,dE w c [⟨t,x⟩,⟨u,y⟩]=some p/\dE w c [⟨u,y⟩,⟨t,x⟩]=some q/\ExR p q:=by
 have r2:∀a b:aD,dE w c [a,b]=match c8 w c a.thread a.wake with
  |none=>none
  |some n=>c8 w n b.thread b.wake:=λa b=>by
  show(match c8 w c a.thread a.wake with
   |none=>none
   |some n=>dE w n [b])=_
  cases c8 w c a.thread a.wake with
  |none=>rfl
  |some n=>
   show(match c8 w n b.thread b.wake with
    |none=>none
    |some m=>dE w m [])=c8 w n b.thread b.wake
   cases c8 w n b.thread b.wake<;>rfl
 rw[r2,r2];dsimp only;have Y:∀(c:aP) (t x:Int),u9 w c t=false->c8 w c t x=none:=λc t x h=>by unfold c8;rw[h];rfl
 cases e1:u9 w c t with
 |false=>
  left;rw[Y _ _ _ e1];cases D:u9 w c u with
  |false=>rw[Y _ _ _ D];exact⟨rfl,rfl⟩
  |true=>obtain⟨c2,h1,E,h2,h3,_⟩:=Dm (x:=y) G Z hm hn hu ht (Ne.symm B) O D;rw[h1];refine⟨rfl,?_⟩;exact Y _ _ _ (by rw[h3];exact e1)
 |true=>
  obtain⟨c1,h1,M,h2,h3,hf1⟩:=Dm (x:=x) Z G hn hm ht hu B ha e1;rw[h1];dsimp only;cases D:u9 w c u with
  |false=>left;rw[Y _ _ _ D,Y _ _ _ (h3.trans D)];exact⟨rfl,rfl⟩
  |true=>
   right;obtain⟨c2,g1,E,g2,g3,hf2⟩:=Dm (x:=y) G Z hm hn hu ht (Ne.symm B) O D;rw[g1];dsimp only;have B1:=D;rw[KO G hm,Bool.and_eq_true]at B1;have B2:=e1;rw[KO Z hn,Bool.and_eq_true]at B2;have D1:=MG (c:=c1) (wake:=y) (i:=k) (t:=u) (e:=w.ev[k]) (by rw[M.sync];exact B1.1) (oY.1 O);have D2:=MG (c:=c2) (wake:=x) (i:=i) (t:=t) (e:=w.ev[i]) (by rw[E.sync];exact B2.1) (oY.1 ha);refine⟨_,_,by rw[Dl G h2,h3,D,if_pos rfl],by rw[Dl Z g2,g3,e1,if_pos rfl],?_⟩;have hik:i≠k:=λe=>B (by subst e;rw[<-ht,<-hu])
   have ob:(w.ev[i]).kind=4\/(w.ev[k]).kind=4->(w.ev[i]).obj≠(w.ev[k]).obj:=λh e=>by unfold Pu at hc;rw[ha,O,e]at hc;simp at hc;omega
   have ib:∀{v:Int} {k:Int},allowedS w.w k v=true->k=3\/k=4->inB v w.w.cells.length=true:=λ{v k} h G=>by unfold allowedS at h;rw[if_neg acN,if_pos G]at h;exact h
   have alw:∀{t k o:Int},aC w.w c.sync t k o=true->allowedS w.w k o=true:=λh=>by unfold aC at h;simp only[aas]at h;exact h.1.2
   have o1:=ao.1 (ib (alw B2.1) (oY.1 ha));have o2:=ao.1 (ib (alw B1.1) (oY.1 O));have j:∀{l:List eu} {o v:Int} {z:eu},o.toNat≠v.toNat->qO (l.set o.toNat z) v=qO l v:=λ{l o v z} h=>by unfold qO;simp[List.getD,h]
   refine⟨by rw[D1.sync,D2.sync,M.sync,E.sync],?_,by rw[D1.futures,D2.futures,M.futures,E.futures],?_,by rw[D1.woke,D2.woke,M.woke,E.woke]⟩
   .rw[D1.cells,D2.cells,M.cells,E.cells,hf1,hf2];by_cases p:(w.ev[i]).kind=4
    .have:=ob (.inl p);by_cases q:(w.ev[k]).kind=4
     .simp only[p,q,if_true];exact List.set_comm _ _ acN
     .simp only[p,q,if_true,if_false]
    .by_cases q:(w.ev[k]).kind=4
     .simp only[p,q,if_true,if_false]
     .simp only[p,q,if_false]
   .rw[D1.fx,D2.fx,M.fx,E.fx,M.cells,E.cells];by_cases p:(w.ev[i]).kind=3
    .have S:(w.ev[i]).kind≠4:=by omega
     by_cases q:(w.ev[k]).kind=3
     .have N:(w.ev[k]).kind≠4:=by omega
      simp only[if_pos p,if_pos q,if_neg S,if_neg N];exact List.set_comm _ _ hik
     .have N:(w.ev[k]).kind=4:=by have:=oY.1 O;omega
      have:=ob (.inr N);simp only[if_pos p,if_neg q,if_neg S,if_pos N];rw[j acN]
    .have S:(w.ev[i]).kind=4:=by have:=oY.1 ha;omega
     have:=ob (.inl S);by_cases q:(w.ev[k]).kind=3
     .have N:(w.ev[k]).kind≠4:=by omega
      simp only[if_neg p,if_pos q,if_pos S,if_neg N];rw[j acN]
     .simp only[if_neg p,if_neg q]
def run_app{w:aG}:∀(l:List aD) {c d:aP} (r:List aD),dE w c l=some d->dE w c (l++r)=dE w d r
 |[],c,d,r,h=>by cases h;rfl
 | x::l,c,d,r,h=>by
  show(match c8 w c x.thread x.wake with
   |none=>none
   |some n=>dE w n (l++r))=_
  unfold dE at h;cases j:c8 w c x.thread x.wake with
  |none=>rw[j]at h;cases h
  |some n=>rw[j]at h;exact run_app l r h
def Sb{α:Type}{l:List α}{i j:Nat}{x d:α}(h:j≠i):(l.set i x).getD j d=l.getD j d:=by simp[List.getD,Ne.symm h]
def yI{w:aG}{c:aP}{t wake:Int}{k j:Nat}{e:bA}(h:j≠k):(uG w c t k e wake).fixed.getD j false=c.fixed.getD j false:=by
 unfold uG;dsimp only;rw[Int.toNat_natCast]
 repeat' split
 all_goals first
  |rfl
  |exact Sb h
def rh{w:aG}{c:aP}{t wake k:Int}{e:bA}:(uG w c t k e wake).order=c.order++[k]:=rfl
def Dn{w:aG}(H:eT w){k:Nat}(Y:k<w.ev.length){l:List Int}(S:l=w.ev[k].deps\/l=w.ev[k].frm){d:Int}(hd:d∈l)(hc:aT w.init w.ev[k].thread<=d):
  ∃(m:Nat) (hm:m<w.ev.length),m<k/\ep w w.ev[k].thread (d-aT w.init w.ev[k].thread)=m/\(w.ev[m]).thread=w.ev[k].thread:=by
 have E:=hM.1 (o4 H Y);have j:=E.thr;rw[<-(dT.1 H.fit).2.2.2]at j;obtain⟨_,N⟩:=w8 H j k acN;have u:qN l (aT (ew w k) w.ev[k].thread):=by
  rcases S with rfl|rfl
  .exact E.nd
  .exact E.nf
 obtain⟨i,Z,rfl⟩:=abC hd;have M:=(u i Z).2.1;rw[N]at M;obtain⟨r,O⟩:=A5 w.ev w.ev[k].thread w.ev.length k acN;have G:(l[i]-aT w.init w.ev[k].thread).toNat<(cg w.ev w.ev[k].thread k).length:=by omega
 have D:=LT G;obtain⟨m,h1,h2,h3⟩:=rU.1 D;have B:m<w.ev.length:=by omega
 refine⟨m,B,h1,?_,by simpa[B]using h3⟩;unfold ep eC;rw[O,if_pos (ao.2 ⟨acN,by rw[aal];omega⟩),<-h2];simp only[List.getD];rw[aaW G,mt G];rfl
def Oe{w:aG}{c:aP}{t wake k:Int}{e:bA}:(uG w c t k e wake).fixed.length=c.fixed.length:=by
 unfold uG;dsimp only
 repeat' split
 all_goals simp
def ft(e:bA):aD:=⟨e.thread,if e.kind=18/\0<=e.value/\e.value<4 then e.value else -1⟩
def zG(e:bA):Bool:=decide (e.kind=3)||decide (e.kind=23)
def rj{w:aG}:∀(l:List aD) {c d:aP} (x:aD),dE w c l=some d->dE w c (l++[x])=c8 w d x.thread x.wake
 | [],c,d,x,h=>by
  cases h;show(match c8 w c x.thread x.wake with
   |none=>none
   |some m=>dE w m [])=c8 w c x.thread x.wake
  cases c8 w c x.thread x.wake<;>rfl
 | y::l,c,d,x,h=>by
  show(match c8 w c y.thread y.wake with
   |none=>none
   |some n=>dE w n (l++[x]))=_
  unfold dE at h;cases j:c8 w c y.thread y.wake with
  |none=>rw[j]at h;cases h
  |some n=>rw[j]at h;exact rj l x h
structure UI(w:aG)(k:Nat)(c:aP):Prop where
 sync:c.sync=(ew w k).sync
 cells:c.cells=(ew w k).cells.map λv=>⟨v,true⟩
 futures:c.futures=(ew w k).futures.map λv=>⟨v,true⟩
 order:c.order=(List.range k).map λi:Nat=>(i:Int)
 flen:c.fixed.length=w.ev.length
 fixed:∀(j:Nat) (hj:j<w.ev.length),c.fixed.getD j false=(decide (j<k)&&zG w.ev[j])
 wlen:c.woke.length=w.ev.length
def Of{k j:Nat}:(((List.range k).map λi:Nat=>(i:Int)).contains (j:Int)=true)↔j<k:=by rw[fJ,abP];exact⟨λ⟨i,u,e⟩=>by have:=acd.1 u;omega,λh=>⟨j,acd.2 h,rfl⟩⟩
def Og{w:aG}(H:eT w){k:Nat}(B:k<w.ev.length){c:aP}(P:UI w k c){l:List Int}(M:l=w.ev[k].deps\/l=w.ev[k].frm):eJ w c w.ev[k].thread l=true:=by
 have N:=hM.1 (o4 H B);have j:=N.thr;rw[<-(dT.1 H.fit).2.2.2]at j;unfold eJ;rw[if_pos j,abh];intro d D;unfold pS;by_cases g:d<aT w.init w.ev[k].thread
 .simp[g]
 .obtain⟨m,G,u,e,_⟩:=Dn H B M D acN;have E:=H.rds k B d (by rcases M with rfl|rfl;exact .inl D;exact .inr D) acN;rw[e,gq G]at E;rw[e,abw,P.fixed m G];have:zG w.ev[m]=true:=by unfold zG;simpa using E
  rw[this];simp[u,ao.2 (show(0:Int)<=(m:Int)/\(m:Int)<c.fixed.length by rw[P.flen];omega)]
def lW{l:List Int}{o:Int}(h:inB o l.length=true):qO (l.map λv=>(⟨v,true⟩:eu)) o=⟨oL l o,true⟩:=by
 obtain⟨a,b⟩:=ao.1 h;have:o.toNat<l.length:=by omega
 simp[qO,oL,List.getD,this]
def Sh{w:aF}{s:gO}{e:bA}(u:OkP w s e)(h4:s.sync.threads.length<=4):(ft e).wake=if e.kind=18 then e.value else -1:=by
 unfold ft;dsimp only;by_cases g:e.kind=18
 .rw[if_pos g];have j:=u.val;unfold H6 at j;simp only[g,Int.reduceEq,or_self,↓reduceIte]at j;split at j
  .have:=of_decide_eq_true j;rw[if_neg acN,this]
  .rw[aas]at j;have:=ao.1 j.1;rw[if_pos ⟨g,acN,acN⟩]
 .rw[if_neg g,if_neg λx=>g x.1]
def Si{w:aG}(H:eT w){k:Nat}(u:k<w.ev.length){c:aP}(P:UI w k c):∃n,c8 w c (ft w.ev[k]).thread (ft w.ev[k]).wake=some n/\UI w (k+1) n:=by
 have E:=hM.1 (o4 H u);obtain⟨hf,hfc,hff,_⟩:=dT.1 E.fit;have D:(ew w k).sync.threads.length<=4:=by rw[(cH.1 hf).threads];exact H.world.t4
 have hn:dK w c w.ev[k].thread=k:=qP u rfl (by rw[P.order,<-Bool.not_eq_true,Of];omega) λm hm Y _=>by rw[P.order,Of];exact Y
 have hen:u9 w c w.ev[k].thread=true:=by unfold u9;rw[hn,gq u,P.sync,E.en,Og H u P (.inl rfl)];simp
 have M:=Og H u P (l:=w.ev[k].frm) (.inr rfl);have hw:=Sh E D;refine⟨_,by unfold c8;rw[show(ft w.ev[k]).thread=w.ev[k].thread from rfl,if_pos hen,hn,gq u],?_⟩;have N:allowedS w.w w.ev[k].kind w.ev[k].obj=true:=by have:=E.en;unfold aC at this;simp only[aas]at this;exact this.1.2
 refine⟨?_,?_,?_,?_,?_,?_,?_⟩
 .show(dx w.w c.sync w.ev[k].thread w.ev[k].kind w.ev[k].obj (ft w.ev[k]).wake).1=_;rw[nJ u,P.sync,hw];rfl
 .rw[nJ u];unfold uG gW;dsimp only;rw[M,if_pos rfl,P.cells];split
  .rw[abT]
  .rfl
 .rw[nJ u];unfold uG gW;dsimp only;rw[M,if_pos rfl,P.futures];split
  .rw[abT]
  .rfl
 .rw[rh,P.order,List.range_succ,ST];rfl
 .rw[Oe,P.flen]
 .intro j Z;by_cases e:j=k
  .subst e;have G:j<c.fixed.length:=by rw[P.flen];exact Z
   rw[show decide (j<j+1)=true by simp,Bool.true_and];unfold uG;dsimp only;rw[Int.toNat_natCast];have B:=E.val;unfold H6 at B;by_cases S:w.ev[j].kind=3
   .rw[if_pos S]at B ⊢;rw[P.cells,lW (by rw[hfc];exact iK N (.inl S)),<-of_decide_eq_true B];simp[G,Kk,zG,S]
   .rw[if_neg S]at B ⊢;by_cases O:w.ev[j].kind=23
    .rw[if_pos O]at B ⊢;rw[P.futures,lW (by rw[hff];exact o5 N (.inr O)),<-of_decide_eq_true B];simp[G,Kk,zG,O]
    .rw[if_neg O,P.fixed j Z];simp[zG,S,O]
  .rw[yI e,P.fixed j Z];congr 1;apply decide_eq_decide.2;omega
 .unfold uG;dsimp only
  repeat' split
  all_goals simp[P.wlen]
def Oh{w:aG}(H:eT w):∀k,k<=w.ev.length->∃c,dE w (bN w) ((w.ev.take k).map ft)=some c/\UI w k c
 | 0,_=>⟨bN w,rfl,rfl,rfl,rfl,rfl,by simp[bN],λj u=>by
   rw[show(bN w).fixed=List.replicate w.ev.length false from rfl];simp[u],by simp[bN]⟩
 | k+1,h=>by obtain⟨c,D,P⟩:=Oh H k acN;obtain⟨n,B,E⟩:=Si H (by omega:k<w.ev.length) P;refine⟨n,?_,E⟩;rw[Fn acN,ST,List.map_singleton,rj _ _ D];exact B
section
open Go.RowKit
def Oi{P:Program}{g:FuncId}{args:List AV}{o:Option Nat}{n:Nat}{rows:List (List AV)}{L j:SH}{R1 KL:AV->SH->Prop}(h:ac P g args (ab o n rows) R1)(G:eG o n rows L j)(E:∀v B,R1 v B->KL v (j++B)):W.callM P g args L KL:=⟨.perm (h.frame G.perm λu K D=>⟨j++K,aar,E u K D⟩)⟩
def Py{w:aG}{j c:aP}{l:List aD}{k:Nat}(u:k<l.length)(h:dE w j (l.take k)=some c):dE w j (l.take (k+1))=c8 w c l[k].thread l[k].wake:=by rw[Fn u];exact rj _ _ h
def Pz{w:aG}{j c:aP}{l:List aD}{k:Nat}(B:k<l.length)(h:dE w j (l.take k)=some c)(u:c8 w c l[k].thread l[k].wake=none):dE w j l=none:=by
 have e:l=l.take k++l[k]::l.drop (k+1):=by rw[<-List.drop_eq_getElem_cons B,acr]
 rw[e,run_app _ _ h];unfold dE;rw[u]
def UJ(w:aG)(l:List aD)(W0:Av w)(WP:oK w.w)(H0:jK w (bN w))(hst:aq Tryz.prog 12 [.agg w.enc] (.agg (gr (bN w) .nils)))(hl:l.length<2^40):aq Tryz.prog 26 [.agg w.enc,.lst (l.map aD.enc)] (nH (dE w (bN w) l)):=by
 refine ac.fz (HG _ _ _ _ ?_);refine vw ?_;generalize O:(λ(v:AV) (L:SH)=>∃v2 L2,ax [v] L [v2] L2/\v2=nH (dE w (bN w) l)/\L2=[])=Q;have lp:∀G M:Nat,W.loop (HE Q) [.pptr [w.enc] 0 0,.ptr G 0 0,.ptr M 0 0,.lst (l.map aD.enc),.acU l.length,.acU (0:Nat)] [(M,⟨9,[gr (bN w) .nils]⟩),(G,⟨9,[cP]⟩)]:=by
  intro G M;refine aL l.length (λk (p:aP×Option Nat)=>([.pptr [w.enc] 0 0,.ptr G 0 0,.ptr M 0 0,.lst (l.map aD.enc),.acU l.length,.acU k],(M,⟨9,[gr p.1 (my p.2 p.1.order.length)]⟩)::(G,⟨9,[cP]⟩)::ab p.2 1 (p.1.order.map aa))) (λk p=>dE w (bN w) (l.take k)=some p.1/\jK w p.1/\(p.2=none->p.1.order=[])) (bN w,none) ⟨rfl,H0,λ_=>rfl⟩ (.refl _ _) ?_;rintro k ⟨c,o⟩ hk ⟨Y,H,Z⟩;dsimp only at Y H Z ⊢;refine vw ?_;rcases Nat.lt_or_ge k l.length with N|N
  .have hd:=aS N;have hx:=aj (f:=aD.enc) N;have B:=Py N Y;have E:=Pz N Y;generalize l[k]=ch at *;obtain⟨ct,cw⟩:=ch;unfold aD.enc at hx;dsimp only at hx B E;have D:=λn=>rV (w:=w) (c:=c) (n:=n) (t:=ct) (wake:=cw) H
   cases S:c8 w c ct cw with
   |none=>
    have hz:∀L,Q (.tup [.agg [.nils,.acU 0,.nils,.nils,.nils,.nils,.nils,.nils,.nils],.bool false]) L:=λL=>by subst O;refine⟨_,[],ax.all (Fz.tups (.cons (Fz.aggs (m:=aP.zero.enc) ?_) (.cons (.refl _) .nil))),by rw[E S];rfl,rfl⟩;exact fl
    clear O B E D;have u:=Dk w c ct cw W0 WP H o Z;unfold MD at u;rw[S]at u;dsimp only at u;unfold cP;rw[bj,dG]at *
    repeat' (first|refine sy ?_|((with_reducible refine aN 21 ?_);(refine Oi u rp ?_;(rintro _ _ ⟨rfl,rfl⟩;dsimp only[List.cons_append,List.nil_append])))|refine s2 ?_ ?_|intro)
    exact hz _
   |some n=>
    rw[S]at B;have D:=D n S;clear O E;have fin:∀(b:Nat) (L:SH),cO L ((M,(⟨9,[gr n (.sl b 0 n.order.length)]⟩:Blk))::(G,⟨9,[cP]⟩)::ab (some b) 1 (n.order.map aa))->∃(j:Nat) (p:aP×Option Nat),k<j/\j<=l.length/\(dE w (bN w) (l.take j)=some p.1/\jK w p.1/\(p.2=none->p.1.order=[]))/\ax [.pptr [w.enc] 0 0,.ptr G 0 0,.ptr M 0 0,.lst (l.map aD.enc),.acU l.length,.acU (IntKind.i64.wrap ((k:Int)+1))] L
      [.pptr [w.enc] 0 0,.ptr G 0 0,.ptr M 0 0,.lst (l.map aD.enc),.acU l.length,.acU j] ((M,⟨9,[gr p.1 (my p.2 p.1.order.length)]⟩)::(G,⟨9,[cP]⟩)::ab p.2 1 (p.1.order.map aa)):=λb L hL=>
     ⟨k+1,(n,some b),acN,acN,⟨B,D,nofun⟩,by rw[av N acN];exact ax.pickE hL rfl rfl⟩
    clear B D;have u:=Dk w c ct cw W0 WP H o Z;unfold MD at u;rw[S]at u;dsimp only at u;unfold cP at fin ⊢;rw[bj,dG]at *
    repeat' (first|refine sy ?_|((with_reducible refine aN 21 ?_);(refine Oi u rp ?_;(rintro _ _ ⟨bn,rfl,rfl⟩;dsimp only[List.cons_append,List.nil_append])))|refine s2 ?_ ?_|intro)
    exact fin _ _ rp
  .have hd:=aW N;obtain rfl:k=l.length:=by omega
   rw[aaT (Fd _)]at Y;have hz:∀L,(∀q∈ab o 1 (c.order.map aa),q∈L)->Q (.tup [.agg (gr c (my o c.order.length)),.bool true]) L:=λL hm=>by
    subst O;refine⟨_,[],ax.all (Fz.tups (.cons (Fz.aggs (m:=c.enc) ?_) (.cons (.refl _) .nil))),by rw[Y];rfl,rfl⟩;rw[cG,dG];refine .cons (.refl _) (.cons (.refl _) (.cons (.refl _) (.cons (.refl _) (.cons (.refl _) (.cons (.refl _) (.cons ?_ (.cons (.refl _) (.cons (.refl _) .nil))))))));cases o with
    |none=>rw[Z rfl];exact .nils
    |some b=>exact Fz.sls (hm _ (.head _)) rfl acR rfl
   clear O;unfold cP;rw[bj,dG]at *;cases o
   all_goals
    dsimp only[ab,my]at *
    repeat' (first|refine sy ?_|refine s2 ?_ ?_|intro)
    exact hz _ acQ
 clear O;unfold cP at lp;rw[bj,dG]at *
 repeat' (first|refine sy ?_|refine s2 ?_ ?_|intro)
 exact lp _ _
end
def jm{w:aG}(H:eT w)(l:List aD)(j:l.length<2^40):aq Tryz.prog 26 [.agg w.enc,.lst (l.map aD.enc)] (nH (dE w (bN w) l)):=
 UJ w l (kf H) H.world (kR H) (GC H) j
def nL:RF:=nv (bQ Tryz.prog Tryz.f31 [(12,⟨[0,1,5],[],true,[]⟩)] [])
abbrev yL(a b:AV)(L:SH)(Q:R):Prop:=Pc nL 20 Q 0 [] [a,b] L
def xb(u j:AV)(L:SH)(Q:R)(h:yL u j L Q):ac Tryz.prog 31 [u,j] L Q:=
 fv nL Tryz.func31 h
def rt(l:List Int)(M:l.length<2^62):aq Tryz.prog 31 [.lst (l.map aa),.lst (l.map aa)] (.bool true):=by
 refine xb _ _ _ _ ?_;refine vw ?_;generalize j:(λ(u:AV) (K:SH)=>u=AV.bool true/\K=[])=Q;have E:Q (.bool true) []:=by subst j;exact⟨rfl,rfl⟩
 clear j;have Z:decide ((l.length:Int)≠(l.length:Int))=false:=by simp
 repeat' (first|refine sy ?_|refine s2 ?_ ?_|intro)
 refine cT l.length (λ_=>True) (λi=>[.lst (l.map aa),.lst (l.map aa),.acU i]) M trivial rfl (λi B N S _ D G=>?_) (λi B N _ D=>?_)
 all_goals refine vw ?_
 .have O:=aj (f:=aa) B;have Y:decide (l[i]≠l[i])=false:=by simp
  repeat' (first|refine sy ?_|refine s2 ?_ ?_|intro)
  exact G trivial
 .repeat' (first|refine sy ?_|refine s2 ?_ ?_|intro)
  exact E
def nee{t:TypeId}{l:List AV}{ts:List TypeId}{K:AV->Prop}(u:Fl t=some ts)(j:xB Tryz.prog ts l l=some true)(h:K (.bool false)):W.bin Tryz.prog Fl .neq t (.agg l) (.agg l) K:=by rw[gg];refine⟨.bool false,?_,h⟩;simp only[iS,u,abQ,j];rfl
def ui:Tryz.prog.underlying 3=some (.int .i64):=by kernel_rfl
def ul:Tryz.prog.underlying 2=some (.int .i64):=by kernel_rfl
def ub:Tryz.prog.underlying 4=some .bool:=by kernel_rfl
def Xs(x:ThrD){K:AV->Prop}(h:K (.bool false)):W.bin Tryz.prog Fl .neq 111 (.agg x.enc) (.agg x.enc) K:=
 nee (ts:=[3,3,4]) (by kernel_rfl) (by simp[ThrD.enc,xB,vg,ui,ub]) h
def KV(s:SyncD)(N:s.locks.length<2^62)(h2:s.done.length<2^62)(M:s.threads.length<2^62)(h4:∀l∈s.locks,l.readers.length<2^62):aq Tryz.prog 37 [.agg s.enc,.agg s.enc] (.bool true):=by
 refine L6 λQ G=>ES _ _ _ _ ?_
 refine vw ?_;have d0:decide (s.tx≠s.tx)=false:=by simp
 have d1:decide ((s.locks.length:Int)≠s.locks.length)=false:=by simp
 have Z:decide ((s.done.length:Int)≠s.done.length)=false:=by simp
 have Y:decide ((s.threads.length:Int)≠s.threads.length)=false:=by simp
 repeat' (first|refine sy ?_|refine s2 ?_ ?_|intro)
 refine cT s.locks.length (λ_=>True) (λi=>[.pptr [s.enc] 0 0,.pptr [s.enc] 0 0,.acU i]) N trivial rfl (λi g B E _ j u=>?_) (λi g B _ j=>?_)
 all_goals refine vw ?_
 .have D:=aj (f:=LockD.enc) g;have S:=rt s.locks[i].readers (h4 _ (LT g));have O:decide (s.locks[i].owner≠s.locks[i].owner)=false:=by simp
  rw[show s.locks[i].enc=[.acU s.locks[i].owner,.lst (s.locks[i].readers.map aa)]from rfl]at D
  repeat' (first|refine sy ?_|refine s2 ?_ ?_|intro)
  exact u trivial
 .repeat' (first|refine sy ?_|refine s2 ?_ ?_|intro)
  refine cT s.done.length (λ_=>True) (λi=>[.pptr [s.enc] 0 0,.pptr [s.enc] 0 0,.acU i]) h2 trivial rfl (λi g B E _ j u=>?_) (λi g B _ j=>?_)
  all_goals refine vw ?_
  .have D:=aj (f:=au) g;have O:decide (s.done[i]≠s.done[i])=false:=by simp
   repeat' (first|refine sy ?_|refine s2 ?_ ?_|intro)
   exact u trivial
  .repeat' (first|refine sy ?_|refine s2 ?_ ?_|intro)
   refine cT s.threads.length (λ_=>True) (λi=>[.pptr [s.enc] 0 0,.pptr [s.enc] 0 0,.acU i]) M trivial rfl (λi g B E _ j u=>?_) (λi g B _ j=>?_)
   all_goals refine vw ?_
   .have D:=aj (f:=ThrD.enc) g
    repeat' (first|refine kH (Xs _ ?_)|refine sy ?_|refine s2 ?_ ?_|intro)
    exact u trivial
   .repeat' (first|refine sy ?_|refine s2 ?_ ?_|intro)
    exact G _
def Bb{w:aG}:∀(l:List aD) {c d:aP},jK w c->dE w c l=some d->jK w d
 |[],c,d,H,h=>by cases h;exact H
 | x::l,c,d,H,h=>by
  unfold dE at h;cases j:c8 w c x.thread x.wake with
  |none=>rw[j]at h;cases h
  |some n=>rw[j]at h;exact Bb l (rV H j) h
def pH:RF:=nv (bQ Tryz.prog Tryz.f57 [(27022,⟨[0,3,4,5],[9],false,[]⟩),(9,⟨[0,3,4],[],true,[]⟩)] [])
abbrev AS(a:AV)(L:SH)(Q:R):Prop:=Pc pH 20 Q 0 [] [a] L
def zk(j:AV)(L:SH)(Q:R)(h:AS j L Q):ac Tryz.prog 57 [j] L Q:=
 fv pH Tryz.func57 h
def jX:RF:=nv (bQ Tryz.prog Tryz.f34 [(12,⟨[0,1,5],[],true,[]⟩)] [])
abbrev sY(a b:AV)(L:SH)(Q:R):Prop:=Pc jX 20 Q 0 [] [a,b] L
def rM(u j:AV)(L:SH)(Q:R)(h:sY u j L Q):ac Tryz.prog 34 [u,j] L Q:=
 fv jX Tryz.func34 h
def Yk(x:aD){K:AV->Prop}(h:K (.bool false)):W.bin Tryz.prog Fl .neq 52 (.agg x.enc) (.agg x.enc) K:=
 nee (ts:=[3,3]) (by kernel_rfl) (by simp[aD.enc,xB,vg,ul,ub]) h
def Qf(l:List aD)(E:l.length<2^62):aq Tryz.prog 34 [.lst (l.map aD.enc),.lst (l.map aD.enc)] (.bool true):=by
 refine L6 λQ B=>rM _ _ _ _ ?_
 refine vw ?_;have O:decide ((l.length:Int)≠(l.length:Int))=false:=by simp
 repeat' (first|refine sy ?_|refine s2 ?_ ?_|intro)
 refine cT l.length (λ_=>True) (λi=>[.lst (l.map aD.enc),.lst (l.map aD.enc),.acU i]) E trivial rfl (λi j G N _ u D=>?_) (λi j G _ u=>?_)
 all_goals refine vw ?_
 .have M:=aj (f:=aD.enc) j
  repeat' (first|refine kH (Yk _ ?_)|refine sy ?_|refine s2 ?_ ?_|intro)
  exact D trivial
 .repeat' (first|refine sy ?_|refine s2 ?_ ?_|intro)
  exact B _
def Vv(w:aG)(hl:w.ev.length<=400):aq Tryz.prog 33 [.agg w.enc] (.lst ((w.ev.map ft).map aD.enc)):=by
 refine OY λQ hq=>wa _ _ _ ?_
 refine vw ?_;have lp:∀b:Nat,W.loop (vZ Q) [.sl b 0 0,.lst (w.ev.map bA.enc),.acU w.ev.length,.acU (0:Nat)] [(b,⟨2,[]⟩)]:=by
  intro b;refine aL w.ev.length (λk (O:Nat)=>([.sl O 0 k,.lst (w.ev.map bA.enc),.acU w.ev.length,.acU k],[(O,⟨2,((w.ev.take k).map ft).map aD.enc⟩)])) (λ_ _=>True) b trivial (ax.forget (K:=[]) (.refl _)) ?_;intro k O hk _;dsimp only;refine vw ?_;rcases Nat.lt_or_ge k w.ev.length with M|M
  .have hd:=aS M;have hx:=aj (f:=bA.enc) M;have N:w.ev.take (k+1)=w.ev.take k++[w.ev[k]]:=Fn M;have D:(((w.ev.take k).map ft).map aD.enc).length=k:=by simp;omega
   have u:(ft w.ev[k]).enc=[.acU w.ev[k].thread,.acU (ft w.ev[k]).wake]:=rfl;have E:∀(x:Int),(ft w.ev[k]).wake=x->∀(S:Nat) (L:SH),cO L [(S,(⟨2,((w.ev.take k).map ft).map aD.enc++[[.acU w.ev[k].thread,.acU x]]⟩:Blk))]->∃(j:Nat) (b2:Nat),k<j/\j<=w.ev.length/\True/\ax [.sl S 0 (k+1),.lst (w.ev.map bA.enc),.acU w.ev.length,.acU (IntKind.i64.wrap ((k:Int)+1))] L [.sl b2 0 j,.lst (w.ev.map bA.enc),.acU w.ev.length,.acU j] [(b2,⟨2,((w.ev.take j).map ft).map aD.enc⟩)]:=λx hx S L hL=>
    ⟨k+1,S,acN,acN,trivial,by rw[av M acN];exact ax.pickE hL rfl (by rw[N,ST,ST,<-hx];rfl)⟩
   generalize hX:((w.ev.take k).map ft).map aD.enc=X at *;generalize w.ev[k]=e at *;rw[eH]at hx;clear hq N hX;by_cases k1:e.kind=18
   .have d1:=decide_eq_true k1;by_cases Z:0<=e.value
    .have d2:=decide_eq_true Z;by_cases Y:e.value<4
     .have d3:=decide_eq_true Y;have w1:IntKind.i64.wrap e.value=e.value:=abg _ acN;have E:=E e.value (by unfold ft;rw[if_pos ⟨k1,Z,Y⟩]);clear u
      repeat' (first|refine sy ?_|refine fq rp rp D rfl acS acS rfl (λG B=>?_)|rw[w1]|refine s2 ?_ ?_|intro)
      all_goals exact E _ _ rp
     .have d3:=decide_eq_false Y;have E:=E (-1) (by unfold ft;rw[if_neg λh=>Y h.2.2]);clear u
      repeat' (first|refine sy ?_|refine fq rp rp D rfl acS acS rfl (λG B=>?_)|refine s2 ?_ ?_|intro)
      all_goals exact E _ _ rp
    .have d2:=decide_eq_false Z;have E:=E (-1) (by unfold ft;rw[if_neg λh=>Z h.2.1]);clear u
     repeat' (first|refine sy ?_|refine fq rp rp D rfl acS acS rfl (λG B=>?_)|refine s2 ?_ ?_|intro)
     all_goals exact E _ _ rp
   .have d1:=decide_eq_false k1;have E:=E (-1) (by unfold ft;rw[if_neg λh=>k1 h.1]);clear u
    repeat' (first|refine sy ?_|refine fq rp rp D rfl acS acS rfl (λG B=>?_)|refine s2 ?_ ?_|intro)
    all_goals exact E _ _ rp
  .have hd:=aW M;obtain rfl:k=w.ev.length:=by omega
   rw[aaT (Fd _)];have hz:=hq (.sl O 0 w.ev.length) [(O,⟨2,(w.ev.map ft).map aD.enc⟩)] (Fz.sls (.head _) rfl acR acQ);clear hq
   repeat' (first|refine sy ?_|refine s2 ?_ ?_|intro)
   exact hz
 clear hq;rw[bj]
 repeat' (first|exact lp _|refine sy ?_|refine vF (i:=0) (j:=w.ev.length) acN acN acN (λG B=>?_)|refine s2 ?_ ?_|intro)
def Vw(ev:List bA)(hl:ev.length<=400):aq Tryz.prog 57 [.lst (ev.map bA.enc)] (.lst ((ev.map ft).map aD.enc)):=by
 refine OY λQ hq=>zk _ _ _ ?_
 refine vw ?_;refine aL ev.length (λk (o:Option Nat)=>([.lst (ev.map bA.enc),af o k,.acU k],ab o 2 (((ev.take k).map ft).map aD.enc))) (λk o=>o=none->k=0) none (λ_=>rfl) (ax.drop (K:=[]) (.refl _) rfl (fy.at_ (.cons (.refl _) (.cons .nile (.cons (.refl _) .nil)))).2) ?_;intro k o hk ho;dsimp only;refine vw ?_;rcases Nat.lt_or_ge k ev.length with M|M
 .have hd:=aS M;have hx:=aj (f:=bA.enc) M;have N:ev.take (k+1)=ev.take k++[ev[k]]:=Fn M;have E:o=none->((ev.take k).map ft).map aD.enc=[]:=λe=>by rw[ho e];rfl
  have hXl:(((ev.take k).map ft).map aD.enc).length=k:=by simp;omega
  have u:(ft ev[k]).enc=[.acU ev[k].thread,.acU (ft ev[k]).wake]:=rfl;have B:∀(x:Int),(ft ev[k]).wake=x->∀(O:Nat) (L:SH),cO L (ab (some O) 2 (((ev.take k).map ft).map aD.enc++[[.acU ev[k].thread,.acU x]]))->∃(j:Nat) (o':Option Nat),k<j/\j<=ev.length/\(o'=none->j=0)/\ax [.lst (ev.map bA.enc),.sl O 0 (k+1),.acU (IntKind.i64.wrap ((k:Int)+1))] L [.lst (ev.map bA.enc),af o' j,.acU j] (ab o' 2 (((ev.take j).map ft).map aD.enc)):=λx hx O L hL=>
   ⟨k+1,some O,acN,acN,nofun,by rw[av M acN];exact ax.pickE hL rfl (by rw[N,ST,ST,<-hx];rfl)⟩
  generalize hX:((ev.take k).map ft).map aD.enc=X at *;generalize ev[k]=e at *;rw[eH]at hx;clear hq N hX;by_cases Z:e.kind=18
  .have d1:=decide_eq_true Z;by_cases Y:0<=e.value
   .have d2:=decide_eq_true Y;by_cases S:e.value<4
    .have d3:=decide_eq_true S;have w1:IntKind.i64.wrap e.value=e.value:=abg _ acN;have B:=B e.value (by unfold ft;rw[if_pos ⟨Z,Y,S⟩]);clear u
     repeat' (first|refine sy ?_|refine aM rp rp acN E acP acQ acS acS acP (λG D=>?_)|rw[w1]|refine s2 ?_ ?_|intro)
     all_goals exact B _ _ rp
    .have d3:=decide_eq_false S;have B:=B (-1) (by unfold ft;rw[if_neg λh=>S h.2.2]);clear u
     repeat' (first|refine sy ?_|refine aM rp rp acN E acP acQ acS acS acP (λG D=>?_)|refine s2 ?_ ?_|intro)
     all_goals exact B _ _ rp
   .have d2:=decide_eq_false Y;have B:=B (-1) (by unfold ft;rw[if_neg λh=>Y h.2.1]);clear u
    repeat' (first|refine sy ?_|refine aM rp rp acN E acP acQ acS acS acP (λG D=>?_)|refine s2 ?_ ?_|intro)
    all_goals exact B _ _ rp
  .have d1:=decide_eq_false Z;have B:=B (-1) (by unfold ft;rw[if_neg λh=>Z h.1]);clear u
   repeat' (first|refine sy ?_|refine aM rp rp acN E acP acQ acS acS acP (λG D=>?_)|refine s2 ?_ ?_|intro)
   all_goals exact B _ _ rp
 .have hd:=aW M;obtain rfl:k=ev.length:=by omega
  rw[aaT (Fd _)];have hz:∀L,(∀q∈ab o 2 ((ev.map ft).map aD.enc),q∈L)->Q (af o ev.length) L:=λL hm=>hq _ _ (by
   cases o with
   |none=>rw[abU.1 (ho rfl)];exact .emp
   |some b=>exact Fz.sls (hm _ (.head _)) rfl acR acQ)
  clear hq
  repeat' (first|refine sy ?_|refine s2 ?_ ?_|intro)
  exact hz _ acQ
def Tl(w:aG)(D:w.ev.length<=400):aq Tryz.prog 35 [.agg w.enc] (.lst ((w.ev.map ft).map aD.enc)):=by
 have h:=Vw w.ev D;refine vU _ _ _ ?_;refine vw ?_;generalize j:(λ(u:AV) (K:SH)=>u=AV.lst ((w.ev.map ft).map aD.enc)/\K=[])=Q;have B:Q (.lst ((w.ev.map ft).map aD.enc)) []:=by subst j;exact⟨rfl,rfl⟩
 clear j;rw[bj]
 repeat' (first|refine sy ?_|refine s2 ?_ ?_|intro)
 exact B
def Tm{w:aG}(H:eT w):nS w.w w.init 400:=by have j:=dT.1 H.fit;have u:=cH.1 j.1;exact⟨u.locks,u.done,u.threads,j.2.1,j.2.2.1,j.2.2.2,H.rd⟩
def Nk(w:aF)(s:gO)(l:List bA)(k:Nat)(h:jQ w s l):jQ w s (l.take k):=by rw[<-List.take_append_drop k l,jd]at h;exact h.1
def GV{w:aG}(H:eT w)(k:Nat):nS w.w (ew w k) (400+(w.ev.take k).length):=nT _ (Tm H) (Nk _ _ _ k H.play)
def Qg{w:aG}(H:eT w){k:Nat}(B:k<w.ev.length):aq Tryz.prog 58 [.agg w.w.enc,.agg (ew w k).enc,.agg w.ev[k].enc] (.tup [.agg (ew w (k+1)).enc,.bool true]):=by
 have u:=GV H k;have E:=H.len;have j:=H.world;have D:=H.evs _ (LT B);have:=nR w.w (ew w k) w.ev[k] (rE j acS u) (by have:=D.1;omega) (by have:=D.2;omega) (by rw[u.ce];have:=j.c12;omega) (by rw[u.fu];have:=j.f2;omega) (by rw[u.ct];have:=j.t4;omega);rw[show px w.w (ew w k) w.ev[k]=some (ew w (k+1)) by
  unfold px;rw[o4 H B,if_pos rfl,nJ B]]at this
 exact this
def Ly{w:aG}(H:eT w):aq Tryz.prog 36 [.agg w.enc,.acU w.ev.length] (.agg (ew w w.ev.length).enc):=by
 have hl:=H.len;refine L6 λQ D=>Af _ _ _ _ ?_
 refine vw ?_;have M:∀B u:Nat,W.loop (Ae Q) [.acU w.ev.length,.pptr [w.enc] 0 0,.ptr B 0 0,.ptr u 0 0,.acU (0:Nat)] [(u,⟨7,[(ew w 0).enc]⟩),(B,⟨7,[dB]⟩)]:=by
  intro B u;refine JT w.ev.length (λ_=>True) (λk=>([.acU w.ev.length,.pptr [w.enc] 0 0,.ptr B 0 0,.ptr u 0 0,.acU k],[(u,⟨7,[(ew w k).enc]⟩),(B,⟨7,[dB]⟩)])) acN trivial rfl rfl (λk E Z Y _ N G=>?_) (λk E Z _ N=>?_)
  all_goals refine vw ?_
  .have S:=aj (f:=bA.enc) E;have j:=Qg H E;have G:=G trivial;generalize w.ev[k]'acN=e at *;rw[eH]at S j;clear D;generalize ew w (k+1)=s2 at *;generalize ew w k=s1 at *;unfold dB at *;rw[dO]at j;rw[bj,dL,dL]at *
   repeat' (first|refine sy ?_|refine s2 ?_ ?_|intro)
   exact G _ _ (ax.pickE rp rfl rfl)
  .subst E;generalize ew w w.ev.length=s1 at *;have O:=D;clear D;rw[bj,dL]at *
   repeat' (first|refine sy ?_|refine s2 ?_ ?_|intro)
   exact O _
 clear D;rw[show(ew w 0).enc=[.lst (w.init.sync.locks.map LockD.enc),.acU w.init.sync.tx,.lst (w.init.sync.done.map au),.lst (w.init.sync.threads.map ThrD.enc),.lst (w.init.cells.map aa),.lst (w.init.futures.map aa),.lst (w.init.count.map aa)]from rfl]at M;rw[bj]at *
 repeat' (first|refine sy ?_|refine s2 ?_ ?_|intro)
 exact M _ _
def Lz(p u sc:List UInt8)(hp:p.length<2^63)(z y:Nat)(hz:z<256)(hy:y<256):aq Tryz.prog 10 [.agg [.lst (p.map aY),.lst (u.map aY),.lst (sc.map aY),.int .u8 z,.int .u8 y]] (.bool true):=by
 refine L6 λQ hq=>oH _ _ _ ?_
 refine vw ?_;obtain⟨w,hv,H⟩:=l9 p u sc hp z y hz hy;obtain⟨c,hr,P⟩:=Oh H w.ev.length (Nat.le_refl _);rw[List.take_of_length_le (Nat.le_refl _)]at hr;have hlen:=H.len;have hC:=Bb _ (kR H) hr;have hm:=Vv w H.len;have O:=Tl w H.len;have N:=Qf (w.ev.map ft) acS;have j:=jm H (w.ev.map ft) acS;rw[hr]at j;unfold nH at j;dsimp only at j;have S:=Ly H;have Y:=gt;have hL:=GV H w.ev.length;have hW:=H.world;have G:=KV c.sync (by rw[P.sync,hL.lk];have:=hW.l4;omega) (by rw[P.sync,hL.dn];have:=hW.f2;omega) (by rw[P.sync,hL.th];have:=hW.t4;omega) (λx hx=>by rw[P.sync]at hx;have:=hL.rd x hx;simp at this;omega);have e1:decide ((c.order.length:Int)≠(w.ev.length:Int))=false:=decide_eq_false (by rw[P.order];simp);have e2:decide ((c.fixed.length:Int)≠(w.ev.length:Int))=false:=decide_eq_false (by rw[P.flen];simp);have e3:decide ((c.cells.length:Int)=((ew w w.ev.length).cells.length:Int))=true:=decide_eq_true (by rw[P.cells];simp);have D:=P.cells;have B:=P.futures;have hcl:=hL.ce;have hfl:=hL.fu;have hc12:=hW.c12;have hf2:=hW.f2;rw[show aq Tryz.prog 37 [.agg c.sync.enc,.agg c.sync.enc] (.bool true)=aq Tryz.prog 37 [.agg c.sync.enc,.agg (ew w w.ev.length).sync.enc] (.bool true) by rw[<-P.sync]]at G;generalize hsn:ew w w.ev.length=E at *;have l3:W.loop (oE Q) [.pptr [c.enc] 0 0,.pptr [E.enc] 0 0,.acU (0:Nat)] []:=by
  refine cT c.futures.length (λ_=>True) (λk=>[.pptr [c.enc] 0 0,.pptr [E.enc] 0 0,.acU k]) (by rw[B];simp;omega) trivial rfl (λk M hd hi _ nx Z=>?_) (λk M hd _ nx=>?_)
  all_goals refine vw ?_
  .have Z:=Z trivial;have hk2:k<E.futures.length:=by rw[B]at M;simpa using M
   have hx:=aj (f:=eu.enc) M;have hy:=aj (f:=aa) hk2;have hv:c.futures[k]=⟨E.futures[k],true⟩:=by simp only[B,List.getElem_map]
   rw[hv]at hx;generalize E.futures[k]=x at *;have d1:decide (x≠x)=false:=decide_eq_false acQ;rw[show eu.enc ⟨x,true⟩=[.acU x,.bool true]from rfl]at hx;rw[show aa x=[.acU x]from rfl]at hy;clear hv D B G S j hm O N Y hq;rw[bj,cG,dL]at *
   repeat' (first|refine sy ?_|refine s2 ?_ ?_|intro)
   all_goals exact Z
  .clear D B S j hm O N;rw[show SyncD.enc c.sync=[.lst (c.sync.locks.map LockD.enc),.acU c.sync.tx,.lst (c.sync.done.map au),.lst (c.sync.threads.map ThrD.enc)]from rfl,show SyncD.enc E.sync=[.lst (E.sync.locks.map LockD.enc),.acU E.sync.tx,.lst (E.sync.done.map au),.lst (E.sync.threads.map ThrD.enc)]from rfl]at G;rw[bj,cG,dL]at *
   repeat' (first|refine sy ?_|refine s2 ?_ ?_|intro)
   all_goals exact hq _
 have l2:W.loop (oF Q) [.pptr [c.enc] 0 0,.pptr [E.enc] 0 0,.acU (0:Nat)] []:=by
  refine cT c.cells.length (λ_=>True) (λk=>[.pptr [c.enc] 0 0,.pptr [E.enc] 0 0,.acU k]) (by rw[D];simp;omega) trivial rfl (λk M hd hi _ nx Z=>?_) (λk M hd _ nx=>?_)
  all_goals refine vw ?_
  .have Z:=Z trivial;have hk2:k<E.cells.length:=by rw[D]at M;simpa using M
   have hx:=aj (f:=eu.enc) M;have hy:=aj (f:=aa) hk2;have hv:c.cells[k]=⟨E.cells[k],true⟩:=by simp only[D,List.getElem_map]
   rw[hv]at hx;generalize E.cells[k]=x at *;have d1:decide (x≠x)=false:=decide_eq_false acQ;rw[show eu.enc ⟨x,true⟩=[.acU x,.bool true]from rfl]at hx;rw[show aa x=[.acU x]from rfl]at hy;clear hv D B G S j hm O N Y hq l3;rw[bj,cG,dL]at *
   repeat' (first|refine sy ?_|refine s2 ?_ ?_|intro)
   all_goals exact Z
  .clear D B S j hm O N G Y hq;rw[bj,cG,dL]at *
   repeat' (first|refine sy ?_|refine s2 ?_ ?_|intro)
   all_goals exact l3
 have l1:W.loop (oG Q) [.pptr [w.enc] 0 0,.pptr [c.enc] 0 0,.pptr [E.enc] 0 0,.acU (0:Nat)] []:=by
  refine cT w.ev.length (λ_=>True) (λk=>[.pptr [w.enc] 0 0,.pptr [c.enc] 0 0,.pptr [E.enc] 0 0,.acU k]) acN trivial rfl (λk M hd hi _ nx Z=>?_) (λk M hd _ nx=>?_)
  all_goals refine vw ?_
  .have Z:=Z trivial;have hx:=aj (f:=bA.enc) M;have ho:k<c.order.length:=by rw[P.order];simpa using M
   have hox:=aj (f:=aa) ho;have hov:c.order[k]=(k:Int):=by simp only[P.order,List.getElem_map,List.getElem_range]
   have hf:k<c.fixed.length:=by rw[P.flen];exact M
   have hfx:=aj (f:=au) hf;have hfv:c.fixed[k]=zG w.ev[k]:=by have:=P.fixed k M;rw[decide_eq_true M,acB]at this;rw[<-this];simp[List.getD,hf]
   rw[hov,show aa (k:Int)=[.acU (k:Int)]from rfl]at hox;rw[hfv,show∀b,au b=[.bool b]from λ_=>rfl]at hfx;have d1:decide ((k:Int)≠(k:Int))=false:=decide_eq_false acQ;have d9:∀b:Bool,decide (b≠b)=false:=λb=>decide_eq_false acQ
   have d8:=d9 true;have d7:=d9 false;unfold zG at hfx;clear hfv hov D B G S j hm O N Y hq l3 l2 P;generalize w.ev[k]=e at *;rw[eH]at hx;rw[bj,cG,dL]at *;cases h3:decide (e.kind=3)
   .rw[h3,Bool.false_or]at hfx;have d2:decide (decide (e.kind=23)≠decide (e.kind=23))=false:=decide_eq_false acQ
    repeat' (first|refine sy ?_|refine s2 ?_ ?_|intro)
    all_goals exact Z
   .rw[h3,Bool.true_or]at hfx
    repeat' (first|refine sy ?_|refine s2 ?_ ?_|intro)
    all_goals exact Z
  .clear D B S j hm O N G Y hq l3;rw[bj,cG,dL]at *
   repeat' (first|refine sy ?_|refine s2 ?_ ?_|intro)
   all_goals exact l2
 clear l2 l3 G Y;rw[bj,cG,dL]at *
 repeat' (first|refine sy ?_|refine s2 ?_ ?_|intro)
 all_goals exact l1
