/- part -/
import Derived.Test.YtfckbjehkbhkgaaGreatQwy
import Derived.Test.YtfckbjehkbhkgaaGreatRows
set_option linter.all false
set_option maxRecDepth 100000
set_option maxHeartbeats 0
namespace Go.Proofs.YtfckbjehkbhkgaaGreat.Am
def jE:RF:=nv (bQ Tryz.prog Tryz.f25 [(9,⟨[0,3,4],[],true,[]⟩)] [])
abbrev xT(Q:R):Vs->SH->Kn->Prop:=Lp jE 19 Q 9 []
abbrev z7(a:AV)(L:SH)(Q:R):Prop:=Pc jE 20 Q 0 [] [a] L
def xU(j:AV)(L:SH)(Q:R)(h:z7 j L Q):ac Tryz.prog 25 [j] L Q:=
 fv jE Tryz.func25 h
def ie:RF:=nv (bQ Tryz.prog Tryz.f9 [(21,⟨[2,7,8,10,11],[],true,[]⟩)] [(0,[3]),(3,[7]),(4,[9]),(10,[12]),(11,[14])])
abbrev sH(Q:R):Vs->SH->Kn->Prop:=Lp ie 19 Q 21 []
abbrev uz(a b c:AV)(L:SH)(Q:R):Prop:=Pc ie 20 Q 0 [] [a,b,c] L
def sI(B u j:AV)(L:SH)(Q:R)(h:uz B u j L Q):ac Tryz.prog 9 [B,u,j] L Q:=
 fv ie Tryz.func9 h
def vS:RF:=nv (bQ Tryz.prog Tryz.f53 [] [(0,[1])])
abbrev Hy(a:AV)(L:SH)(Q:R):Prop:=Pc vS 20 Q 0 [] [a] L
def Ez(j:AV)(L:SH)(Q:R)(h:Hy j L Q):ac Tryz.prog 53 [j] L Q:=
 fv vS Tryz.func53 h
def vT:RF:=nv (bQ Tryz.prog Tryz.f22 [(42037,⟨[4,6,8,9,12,14],[],true,[]⟩)] [(0,[3,5]),(4,[9]),(7,[11])])
abbrev Hz(a b c:AV)(L:SH)(Q:R):Prop:=Pc vT 20 Q 0 [] [a,b,c] L
def EA(B u j:AV)(L:SH)(Q:R)(h:Hz B u j L Q):ac Tryz.prog 22 [B,u,j] L Q:=
 fv vT Tryz.func22 h
def lO:RF:=nv (bQ Tryz.prog Tryz.f32 [(12,⟨[0,1,5],[],true,[]⟩)] [])
abbrev vV(a b:AV)(L:SH)(Q:R):Prop:=Pc lO 20 Q 0 [] [a,b] L
def uA(u j:AV)(L:SH)(Q:R)(h:vV u j L Q):ac Tryz.prog 32 [u,j] L Q:=
 fv lO Tryz.func32 h
def tB:RF:=nv (bQ Tryz.prog Tryz.f56 [] [(0,[3,4])])
abbrev EC(a b c:AV)(L:SH)(Q:R):Prop:=Pc tB 20 Q 0 [] [a,b,c] L
def Cc(B u j:AV)(L:SH)(Q:R)(h:EC B u j L Q):ac Tryz.prog 56 [B,u,j] L Q:=
 fv tB Tryz.func56 h
def qz:RF:=nv (bQ Tryz.prog Tryz.f26 [(9,⟨[2,4,6,13,14,15],[],true,[]⟩)] [(0,[2]),(4,[8]),(5,[9])])
abbrev HE(Q:R):Vs->SH->Kn->Prop:=Lp qz 19 Q 9 []
abbrev JW(a b:AV)(L:SH)(Q:R):Prop:=Pc qz 20 Q 0 [] [a,b] L
def HG(u j:AV)(L:SH)(Q:R)(h:JW u j L Q):ac Tryz.prog 26 [u,j] L Q:=
 fv qz Tryz.func26 h
def dE(w:aG):aP->List aD->Option aP
 |c,[]=>some c
 | c,h::l=>match c8 w c h.thread h.wake with
  |none=>none
  |some n=>dE w n l
def Pr(c:aP)(h1:c.sync.locks.length<2^40)(h2:c.sync.done.length<=2^40)(h3:c.sync.threads.length<2^40)(Z:∀l∈c.sync.locks,l.readers.length<2^40)(h4:c.cells.length<2^40)(h5:c.futures.length<2^40)(h6:c.order.length<2^40)(h7:c.fixed.length<2^40)(h8:c.woke.length<2^40):
  ac Tryz.prog 53 [.agg c.enc] [] λv L=>∃E D B j u:Nat,v=.agg [.lst (c.sync.locks.map LockD.enc),.acU c.sync.tx,.lst (c.sync.done.map au),.lst (c.sync.threads.map ThrD.enc),.sl E 0 c.cells.length,.sl D 0 c.futures.length,.sl B 0 c.order.length,.sl j 0 c.fixed.length,.sl u 0 c.woke.length]/\
   L=[(u,⟨1,c.woke.map aa⟩),(j,⟨1,c.fixed.map au⟩),(B,⟨1,c.order.map aa⟩),(D,⟨2,c.futures.map eu.enc⟩),(E,⟨2,c.cells.map eu.enc⟩)]:=by
 have G:=uL c.sync h1 acN h3 Z;refine ac.fz (Ez _ _ _ ?_);refine vw ?_;generalize O:(λ(v:AV) (L:SH)=>∃M S,ax [v] L [M] S/\∃E D B j u:Nat,M=.agg [.lst (c.sync.locks.map LockD.enc),.acU c.sync.tx,.lst (c.sync.done.map au),.lst (c.sync.threads.map ThrD.enc),.sl E 0 c.cells.length,.sl D 0 c.futures.length,.sl B 0 c.order.length,.sl j 0 c.fixed.length,.sl u 0 c.woke.length]/\
   S=[(u,(⟨1,c.woke.map aa⟩:Blk)),(j,⟨1,c.fixed.map au⟩),(B,⟨1,c.order.map aa⟩),(D,⟨2,c.futures.map eu.enc⟩),(E,⟨2,c.cells.map eu.enc⟩)])=Q
 have fin:∀(E D B j u:Nat) (L:SH),cO L [(u,(⟨1,c.woke.map aa⟩:Blk)),(j,⟨1,c.fixed.map au⟩),(B,⟨1,c.order.map aa⟩),(D,⟨2,c.futures.map eu.enc⟩),(E,⟨2,c.cells.map eu.enc⟩)]->Q (.agg [.lst (c.sync.locks.map LockD.enc),.acU c.sync.tx,.lst (c.sync.done.map au),.lst (c.sync.threads.map ThrD.enc),.sl E 0 c.cells.length,.sl D 0 c.futures.length,.sl B 0 c.order.length,.sl j 0 c.fixed.length,.sl u 0 c.woke.length]) L:=λE D B j u L hL=>by subst O;exact⟨_,_,ax.pickE hL rfl rfl,E,D,B,j,u,rfl,rfl⟩
 clear O;rw[Mv]at G;rw[cG]at *
 repeat' (first|refine sy ?_|refine dJ rp (λ_=>rfl) acP acS acS (λ_=>rfl) (λY N=>?_)|refine s2 ?_ ?_|intro)
 simp only[abI];exact fin _ _ _ _ _ _ rp
def uN(e:bA):Bool:=decide (e.kind=3)||decide (e.kind=4)
def Pu(a b:bA):Bool:=uN a&&uN b&&decide (a.obj=b.obj)&&(decide (a.kind=4)||decide (b.kind=4))
def Gz{u:List Int}{t i:Int}:∀(l:List bA) (j:Nat),(∀m (B:m<l.length),((j+m:Nat):Int)=i->(l[m]).thread≠t)->H8 (u++[i]) t l j=H8 u t l j
 |[],j,_=>rfl
 | e::l,j,h=>by
  unfold H8;rw[Gz l (j+1) λm B D=>h (m+1) (by simpa using B) (by rw[<-D];omega)];by_cases g:e.thread=t
  .have:(j:Int)≠i:=λE=>h 0 acQ (by rw[<-E];rfl) g
   simp[g,this]
  .rw[if_neg λx=>g x.1,if_neg λx=>g x.1]
def MF{w:aG}{c j:aP}{u:Int}{i:Nat}(E:i<w.ev.length)(B:j.order=c.order++[(i:Int)])(h:(w.ev[i]).thread≠u):dK w j u=dK w c u:=by
 unfold dK;rw[B];exact Gz w.ev 0 λm D G=>by
  obtain rfl:m=i:=by omega
  exact h
def Pv{w:aG}{c j:aP}{u:Int}{i:Nat}(N:i<w.ev.length){v:Bool}(E:j.fixed=c.fixed.set i v\/j.fixed=c.fixed)(h:(w.ev[i]).thread≠u)(l:List Int):eJ w j u l=eJ w c u l:=by
 have B:∀n,pS w j u n=pS w c u n:=λn=>by
  unfold pS;have M:j.fixed.length=c.fixed.length:=by rcases E with e|e<;>simp[e]
  rw[M];congr 1;rcases Kl (w:=w) (t:=u) (k:=n-aT w.init u)with⟨h0,h1⟩|h1
  .obtain⟨Y,S,G⟩:=yx h1;congr 1;rcases E with e|e
   .rw[e];have D:(ep w u (n-aT w.init u)).toNat≠i:=λZ=>h (by
     have O:ep w u (n-aT w.init u)=i:=by omega
     rw[O,gq N]at G;exact G)
    simp[List.getD,Ne.symm D]
   .rw[e]
  .rw[h1];rfl
 unfold eJ;rw[show pS w j u=pS w c u from funext B]
def UF{w:aF}{s:SyncD}{t k o wake:Int}(u:aC w s t k o=true)(j:k=3\/k=4):(dx w s t k o wake).1=s:=by rw[(uH u).1];rcases j with rfl|rfl<;>rfl
structure ZQ(w:aG)(c:aP)(t:Int)(i:Nat)(e:bA)(c':aP):Prop where
 sync:c'.sync=c.sync
 order:c'.order=c.order++[(i:Int)]
 fixed:∃v,c'.fixed=c.fixed.set i v\/c'.fixed=c.fixed
 futures:c'.futures=c.futures
 woke:c'.woke=c.woke
 cells:c'.cells=if e.kind=4 then c.cells.set e.obj.toNat (if eJ w c t e.frm then⟨e.value,true⟩else⟨0,false⟩)else c.cells
 fx:c'.fixed=if e.kind=3 then c.fixed.set i (Kk (qO c.cells e.obj) e.value)else c.fixed
def MG{w:aG}{c:aP}{t wake:Int}{i:Nat}{e:bA}(G:aC w.w c.sync t e.kind e.obj=true)(E:e.kind=3\/e.kind=4):ZQ w c t i e (uG w c t i e wake):=by
 unfold uG;dsimp only;rw[UF G E];have j:e.kind≠23:=by omega
 have u:e.kind≠22:=by omega
 have D:e.kind≠18:=by omega
 have B:e.kind≠19:=by omega
 refine⟨rfl,rfl,?_,?_,?_,rfl,?_⟩
 .dsimp only;rw[if_neg j,Int.toNat_natCast];split
  .exact⟨_,.inl rfl⟩
  .exact⟨false,.inr rfl⟩
 .dsimp only;rw[if_neg u]
 .dsimp only;rw[if_neg D,if_neg B]
 .dsimp only;rw[if_neg j,Int.toNat_natCast]
def oY{e:bA}:uN e=true↔e.kind=3\/e.kind=4:=by unfold uN;simp
def Dl{w:aG}{c:aP}{t wake:Int}{k:Nat}(u:k<w.ev.length)(j:dK w c t=k):c8 w c t wake=if u9 w c t then some (uG w c t k w.ev[k] wake)else none:=by unfold c8;rw[j,gq u]
def KO{w:aG}{c:aP}{t:Int}{k:Nat}(u:k<w.ev.length)(j:dK w c t=k):u9 w c t=(aC w.w c.sync t (w.ev[k]).kind (w.ev[k]).obj&&eJ w c t (w.ev[k]).deps):=by unfold u9;rw[j,gq u,decide_eq_true (by omega:(0:Int)<=k),acB]
structure ExR(a b:aP):Prop where
 sync:a.sync=b.sync
 cells:a.cells=b.cells
 futures:a.futures=b.futures
 fixed:a.fixed=b.fixed
 woke:a.woke=b.woke
def Dm{w:aG}{c:aP}{t u x:Int}{i k:Nat}(G:i<w.ev.length)(S:k<w.ev.length)(N:dK w c t=i)(O:dK w c u=k)(ht:(w.ev[i]).thread=t)(hu:(w.ev[k]).thread=u)(M:t≠u)(ha:uN w.ev[i]=true)(Z:u9 w c t=true):
  ∃E,c8 w c t x=some E/\ZQ w c t i w.ev[i] E/\dK w E u=k/\u9 w E u=u9 w c u/\∀l,eJ w E u l=eJ w c u l:=by
 have Y:=Z;rw[KO G N,aas]at Y;have A:=MG (wake:=x) (i:=i) Y.1 (oY.1 ha);have B:(w.ev[i]).thread≠u:=by rw[ht];exact M
 have j:dK w (uG w c t i w.ev[i] x) u=k:=by rw[MF G A.order B];exact O
 obtain⟨v,hv⟩:=A.fixed;have D:=λl=>Pv (u:=u) G hv B l
 refine⟨_,by rw[Dl G N,if_pos Z],A,j,?_,D⟩;rw[KO S j,KO S O,A.sync,D]
def swap{w:aG}{c:aP}{t u x y:Int}{i k:Nat}(Z:i<w.ev.length)(G:k<w.ev.length)(hn:dK w c t=i)(hm:dK w c u=k)(ht:(w.ev[i]).thread=t)(hu:(w.ev[k]).thread=u)(B:t≠u)
  (ha:uN w.ev[i]=true) (O:uN w.ev[k]=true) (hc:Pu w.ev[i] w.ev[k]=false) :
  (dE w c [⟨t,x⟩,⟨u,y⟩]=none/\dE w c [⟨u,y⟩,⟨t,x⟩]=none)\/∃p q,dE w c [⟨t,x⟩,⟨u,y⟩]=some p/\dE w c [⟨u,y⟩,⟨t,x⟩]=some q/\ExR p q:=by
 have r2:∀a b:aD,dE w c [a,b]=match c8 w c a.thread a.wake with
  |none=>none
  |some n=>c8 w n b.thread b.wake:=λa b=>by
  show(match c8 w c a.thread a.wake with
   |none=>none
   |some n=>dE w n [b])=_
  cases c8 w c a.thread a.wake with
  |none=>rfl
  |some n=>
   show(match c8 w n b.thread b.wake with
    |none=>none
    |some m=>dE w m [])=c8 w n b.thread b.wake
   cases c8 w n b.thread b.wake<;>rfl
 rw[r2,r2];dsimp only;have Y:∀(c:aP) (t x:Int),u9 w c t=false->c8 w c t x=none:=λc t x h=>by unfold c8;rw[h];rfl
 cases e1:u9 w c t with
 |false=>
  left;rw[Y _ _ _ e1];cases D:u9 w c u with
  |false=>rw[Y _ _ _ D];exact⟨rfl,rfl⟩
  |true=>obtain⟨c2,h1,E,h2,h3,_⟩:=Dm (x:=y) G Z hm hn hu ht (Ne.symm B) O D;rw[h1];refine⟨rfl,?_⟩;exact Y _ _ _ (by rw[h3];exact e1)
 |true=>
  obtain⟨c1,h1,M,h2,h3,hf1⟩:=Dm (x:=x) Z G hn hm ht hu B ha e1;rw[h1];dsimp only;cases D:u9 w c u with
  |false=>left;rw[Y _ _ _ D,Y _ _ _ (h3.trans D)];exact⟨rfl,rfl⟩
  |true=>
   right;obtain⟨c2,g1,E,g2,g3,hf2⟩:=Dm (x:=y) G Z hm hn hu ht (Ne.symm B) O D;rw[g1];dsimp only;have B1:=D;rw[KO G hm,Bool.and_eq_true]at B1;have B2:=e1;rw[KO Z hn,Bool.and_eq_true]at B2;have D1:=MG (c:=c1) (wake:=y) (i:=k) (t:=u) (e:=w.ev[k]) (by rw[M.sync];exact B1.1) (oY.1 O);have D2:=MG (c:=c2) (wake:=x) (i:=i) (t:=t) (e:=w.ev[i]) (by rw[E.sync];exact B2.1) (oY.1 ha);refine⟨_,_,by rw[Dl G h2,h3,D,if_pos rfl],by rw[Dl Z g2,g3,e1,if_pos rfl],?_⟩;have hik:i≠k:=λe=>B (by subst e;rw[<-ht,<-hu])
   have ob:(w.ev[i]).kind=4\/(w.ev[k]).kind=4->(w.ev[i]).obj≠(w.ev[k]).obj:=λh e=>by unfold Pu at hc;rw[ha,O,e]at hc;simp at hc;omega
   have ib:∀{v:Int} {k:Int},allowedS w.w k v=true->k=3\/k=4->inB v w.w.cells.length=true:=λ{v k} h G=>by unfold allowedS at h;rw[if_neg acN,if_pos G]at h;exact h
   have alw:∀{t k o:Int},aC w.w c.sync t k o=true->allowedS w.w k o=true:=λh=>by unfold aC at h;simp only[aas]at h;exact h.1.2
   have o1:=ao.1 (ib (alw B2.1) (oY.1 ha));have o2:=ao.1 (ib (alw B1.1) (oY.1 O));have j:∀{l:List eu} {o v:Int} {z:eu},o.toNat≠v.toNat->qO (l.set o.toNat z) v=qO l v:=λ{l o v z} h=>by unfold qO;simp[List.getD,h]
   refine⟨by rw[D1.sync,D2.sync,M.sync,E.sync],?_,by rw[D1.futures,D2.futures,M.futures,E.futures],?_,by rw[D1.woke,D2.woke,M.woke,E.woke]⟩
   .rw[D1.cells,D2.cells,M.cells,E.cells,hf1,hf2];by_cases p:(w.ev[i]).kind=4
    .have:=ob (.inl p);by_cases q:(w.ev[k]).kind=4
     .simp only[p,q,if_true];exact List.set_comm _ _ acN
     .simp only[p,q,if_true,if_false]
    .by_cases q:(w.ev[k]).kind=4
     .simp only[p,q,if_true,if_false]
     .simp only[p,q,if_false]
   .rw[D1.fx,D2.fx,M.fx,E.fx,M.cells,E.cells];by_cases p:(w.ev[i]).kind=3
    .have S:(w.ev[i]).kind≠4:=by omega
     by_cases q:(w.ev[k]).kind=3
     .have N:(w.ev[k]).kind≠4:=by omega
      simp only[if_pos p,if_pos q,if_neg S,if_neg N];exact List.set_comm _ _ hik
     .have N:(w.ev[k]).kind=4:=by have:=oY.1 O;omega
      have:=ob (.inr N);simp only[if_pos p,if_neg q,if_neg S,if_pos N];rw[j acN]
    .have S:(w.ev[i]).kind=4:=by have:=oY.1 ha;omega
     have:=ob (.inl S);by_cases q:(w.ev[k]).kind=3
     .have N:(w.ev[k]).kind≠4:=by omega
      simp only[if_neg p,if_pos q,if_pos S,if_neg N];rw[j acN]
     .simp only[if_neg p,if_neg q]
def run_app{w:aG}:∀(l:List aD) {c d:aP} (r:List aD),dE w c l=some d->dE w c (l++r)=dE w d r
 |[],c,d,r,h=>by cases h;rfl
 | x::l,c,d,r,h=>by
  show(match c8 w c x.thread x.wake with
   |none=>none
   |some n=>dE w n (l++r))=_
  unfold dE at h;cases j:c8 w c x.thread x.wake with
  |none=>rw[j]at h;cases h
  |some n=>rw[j]at h;exact run_app l r h
def rj{w:aG}:∀(l:List aD) {c d:aP} (x:aD),dE w c l=some d->dE w c (l++[x])=c8 w d x.thread x.wake
 | [],c,d,x,h=>by
  cases h;show(match c8 w c x.thread x.wake with
   |none=>none
   |some m=>dE w m [])=c8 w c x.thread x.wake
  cases c8 w c x.thread x.wake<;>rfl
 | y::l,c,d,x,h=>by
  show(match c8 w c y.thread y.wake with
   |none=>none
   |some n=>dE w n (l++[x]))=_
  unfold dE at h;cases j:c8 w c y.thread y.wake with
  |none=>rw[j]at h;cases h
  |some n=>rw[j]at h;exact rj l x h
def gF:RF:=nv (bQ Tryz.prog Tryz.f24 [(69016,⟨[5,6,7],[],true,[]⟩),(39,⟨[1,2,5,6,7,8,9,10,11,12],[24],false,[]⟩),(63058,⟨[1,2,5,6,7,8,9,13],[12],false,[]⟩),(24,⟨[1,2,5,6,7,8,9,10],[12,69016],false,[]⟩),(12,⟨[1,2,5,6,7,8],[69016],false,[]⟩)] [(0,[2])])
abbrev mC(Q:R):Vs->SH->Prop:=Jp gF 19 Q 69016 []
abbrev Fx(a:Kn):Vs->SH->Kn->Prop:=Lp gF 17 q0 39 [a]
abbrev Fy(a b:Kn):Vs->SH->Kn->Prop:=Lp gF 18 q0 24 [a,b]
abbrev FA(a:Kn):Vs->SH->Kn->Prop:=Lp gF 19 q0 12 [a]
abbrev Is(a b:AV)(L:SH)(Q:R):Prop:=Pc gF 20 Q 0 [] [a,b] L
def FB(u j:AV)(L:SH)(Q:R)(h:Is u j L Q):ac Tryz.prog 24 [u,j] L Q:=
 fv gF Tryz.func24 h
def nL:RF:=nv (bQ Tryz.prog Tryz.f31 [(12,⟨[0,1,5],[],true,[]⟩)] [])
abbrev yL(a b:AV)(L:SH)(Q:R):Prop:=Pc nL 20 Q 0 [] [a,b] L
def xb(u j:AV)(L:SH)(Q:R)(h:yL u j L Q):ac Tryz.prog 31 [u,j] L Q:=
 fv nL Tryz.func31 h
def rt(l:List Int)(M:l.length<2^62):aq Tryz.prog 31 [.lst (l.map aa),.lst (l.map aa)] (.bool true):=by
 refine xb _ _ _ _ ?_;refine vw ?_;generalize j:(λ(u:AV) (K:SH)=>u=AV.bool true/\K=[])=Q;have E:Q (.bool true) []:=by subst j;exact⟨rfl,rfl⟩
 clear j;have Z:decide ((l.length:Int)≠(l.length:Int))=false:=by simp
 repeat' (first|refine sy ?_|refine s2 ?_ ?_|intro)
 refine cT l.length (λ_=>True) (λi=>[.lst (l.map aa),.lst (l.map aa),.acU i]) M trivial rfl (λi B N S _ D G=>?_) (λi B N _ D=>?_)
 all_goals refine vw ?_
 .have O:=aj (f:=aa) B;have Y:decide (l[i]≠l[i])=false:=by simp
  repeat' (first|refine sy ?_|refine s2 ?_ ?_|intro)
  exact G trivial
 .repeat' (first|refine sy ?_|refine s2 ?_ ?_|intro)
  exact E
def GF(l:List Bool)(M:l.length<2^62):aq Tryz.prog 32 [.lst (l.map au),.lst (l.map au)] (.bool true):=by
 refine uA _ _ _ _ ?_;refine vw ?_;generalize j:(λ(u:AV) (K:SH)=>u=AV.bool true/\K=[])=Q;have E:Q (.bool true) []:=by subst j;exact⟨rfl,rfl⟩
 clear j;have Z:decide ((l.length:Int)≠(l.length:Int))=false:=by simp
 repeat' (first|refine sy ?_|refine s2 ?_ ?_|intro)
 refine cT l.length (λ_=>True) (λi=>[.lst (l.map au),.lst (l.map au),.acU i]) M trivial rfl (λi B N S _ D G=>?_) (λi B N _ D=>?_)
 all_goals refine vw ?_
 .have O:=aj (f:=au) B;have Y:decide (l[i]≠l[i])=false:=by simp
  repeat' (first|refine sy ?_|refine s2 ?_ ?_|intro)
  exact G trivial
 .repeat' (first|refine sy ?_|refine s2 ?_ ?_|intro)
  exact E
def nW(T:List ThrD)(c:Int):Nat:=(aJ T c T.length).length
def Tb(T:List ThrD)(c:Int):∀n,n<=T.length->(aJ T c n).length=(T.take n).countP λx=>bH x c
 |0,_=>rfl
 | n+1,h=>by
  rw[iF,aal,Tb T c n acN,Fn acN,List.countP_append];have:eR T c n=bH (T[n]'acN) c:=by simp[eR,show n<T.length by omega]
  rw[this,List.countP_singleton];congr 1;split<;>rfl
def IP(T:List ThrD)(c:Int):nW T c=T.countP λx=>bH x c:=by unfold nW;rw[Tb T c _ (Fd _),acx]
def Ng(T:List ThrD)(c:Int)(i:Nat)(x:ThrD)(h:i<T.length):nW (T.set i x) c+(if bH (T.getD i default) c then 1 else 0)=nW T c+(if bH x c then 1 else 0):=by
 have e:T.getD i default=T[i]:=by simp[h]
 have j:bH T[i] c=true->0<T.countP λx=>bH x c:=λhp=>List.countP_pos_iff.2 ⟨_,LT h,hp⟩
 rw[IP,IP,List.countP_set h,e];split
 .rename_i hp;have:=j hp;split<;>omega
 .split<;>omega
def r7{T:List ThrD}{c:Int}{i:Nat}{x:ThrD}(u:bH (T.getD i default) c=false)(j:bH x c=false):nW (T.set i x) c=nW T c:=by
 rcases LE i T.length with h|h
 .have:=Ng T c i x h;rw[u,j]at this;simpa using this
 .rw[List.set_eq_of_length_le h]
def mc{x:ThrD}{c:Int}(h:x.status≠3):bH x c=false:=by simp[bH,h]
def Ee(l:List Nat)(wake:Int):0<=bB l wake↔0<l.length:=by
 cases l with
 |nil=>simp[bB]
 |cons u l=>
  refine⟨λ_=>by simp,λ_=>?_⟩;rcases CH (u::l) wake with h|h
  .unfold bB at h;dsimp only at h;split at h
   .rename_i B;obtain⟨x,D,j⟩:=acw.1 B;have:=of_decide_eq_true j;omega
   .omega
  .exact h
def Tc{T:List ThrD}{c:Int}{i:Nat}:i∈aJ T c T.length↔i<T.length/\bH (T.getD i default) c=true:=by unfold aJ eR;rw[acn,acd]
def Td(T:List ThrD)(c o wake:Int):nW (fI T o wake) c=nW T c-(if c=o then 1 else 0):=by
 unfold fI;split
 .rename_i h;have D:=uD h;unfold da at *;generalize(bB (aJ T o T.length) wake).toNat=i at *;obtain⟨E,u⟩:=Tc.1 D;have j:=Ng T c i {T.getD i default with status:=4} E;rw[mc (x:={T.getD i default with status:=4}) (by show(4:Int)≠3;decide)]at j;unfold gj;by_cases e:c=o
  .subst e;rw[u]at j;simp at j ⊢;omega
  .have B:bH (T.getD i default) c=false:=by unfold bH at u ⊢;simp only[aas,decide_eq_true_eq]at u;rw[u.2];simp[Ne.symm e]
   rw[B]at j;simp[e]at j ⊢;omega
 .rename_i h;unfold da at h;rw[Ee]at h;by_cases e:c=o
  .subst e;have:nW T c=0:=by unfold nW;omega
   rw[this];simp
  .simp[e]
def Yh(T:List ThrD)(c o:Int):nW (dt T o T.length) c=if c=o then 0 else nW T c:=by
 rw[IP,IP];have j:dt T o T.length=T.map λx=>if bH x o then {x with status:=4} else x:=by
  apply acp;intro i;rcases LE i T.length with h|h
  .rw[eW T o _ i h,abn,mt h];simp[h]
  .rw[aah (by rw[c9];exact h),aah (by simpa using h)]
 rw[j,List.countP_map];by_cases e:c=o
 .subst e;rw[if_pos rfl,List.countP_eq_zero];intro x _;simp only[Function.comp];split
  .simp[bH]
  .assumption
 .rw[if_neg e];refine List.countP_congr λx _=>?_
  simp only[Function.comp];split
  .rename_i h;unfold bH at h ⊢;simp only[aas,decide_eq_true_eq]at h ⊢;refine⟨λg=>absurd g.1 acR,λg=>absurd (g.2.symm.trans h.2) e⟩
  .exact Iff.rfl
def Te(k o c:Int)(n:Nat):Nat:=if k=16 then n+(if c=o then 1 else 0)else if k=18 then n-(if c=o then 1 else 0)else if k=19 then(if c=o then 0 else n)else n
def aaf{w:aF}{s:SyncD}{t k o:Int}(h:aC w s t k o=true):inB t s.threads.length=true/\(k=1->(a8 s t).status=1)/\(k=17->(a8 s t).status=4)/\(k≠1->k≠17->(a8 s t).status=2/\df w s t k o=true):=by
 unfold aC at h;simp only[aas]at h;obtain⟨⟨⟨u,j⟩,_⟩,h⟩:=h;refine⟨by rw[(cH.1 u).threads];exact j,?_,?_,?_⟩
 .rintro rfl;rw[if_pos rfl]at h;exact of_decide_eq_true h
 .rintro rfl;rw[if_neg acR,if_pos rfl]at h;simp only[aas,decide_eq_true_eq]at h;exact h.1.1
 .intro D B;rw[if_neg D,if_neg B,aas,decide_eq_true_eq]at h;exact h
def Lw{w:aF}{s:SyncD}{t k o wake:Int}(h:aC w s t k o=true)(c:Int):nW (bF w s t k o wake).1.threads c=Te k o c (nW s.threads c):=by
 obtain⟨D,E,B,u⟩:=aaf h;obtain⟨M,G⟩:=ao.1 D;rcases wF k with g|g
 .rw[show aC w s t k o=false by unfold aC;rw[fD g];simp]at h;cases h
 rcases g with rfl|rfl|rfl|rfl|rfl|rfl|rfl|rfl|rfl|rfl|rfl|rfl|rfl|rfl|rfl|rfl|rfl|rfl|rfl|rfl|rfl|rfl|rfl
 all_goals simp only[bF,Te,Int.reduceEq,if_true,if_false,or_true,true_or,or_false,or_self,↓reduceIte,dZ]
 all_goals first
  |with_reducible rfl
  |with_reducible exact Td _ _ _ _
  |skip
 ·
  refine r7 (mc ?_) (mc (by show(2:Int)≠3;decide));rw[show(s.threads.getD t.toNat default).status=1 from E rfl];decide
 ·
  refine r7 (mc ?_) (mc (by show(5:Int)≠3;decide));rw[show(s.threads.getD t.toNat default).status=2 from(u acR acR).1];decide
 ·
  have j:(s.threads.getD t.toNat default).status=2:=(u acR acR).1;exact r7 (mc (by rw[j];decide)) (mc (by show(a8 s t).status≠3;rw[show(a8 s t).status=2 from j];decide))
 ·
  have j:(s.threads.getD t.toNat default).status=2:=(u acR acR).1;exact r7 (mc (by rw[j];decide)) (mc (by show(a8 s t).status≠3;rw[show(a8 s t).status=2 from j];decide))
 ·
  have j:(s.threads.getD t.toNat default).status=2:=(u acR acR).1;have:=Ng s.threads c t.toNat {a8 s t with status:=3,cond:=o} acN;rw[mc (x:=s.threads.getD t.toNat default) (by rw[j];decide),show bH {a8 s t with status:=3,cond:=o} c=decide (c=o) by simp[bH,eq_comm]]at this;simpa using this
 ·
  refine r7 (mc ?_) (mc (by show(2:Int)≠3;decide));rw[show(s.threads.getD t.toNat default).status=4 from B rfl];decide
 .exact Yh s.threads c o
 ·
  have j:=(u acR acR).2;simp only[df,Int.reduceEq,if_false,if_true,or_self,or_false,↓reduceIte,aas,decide_eq_true_eq]at j;exact r7 (mc (by rw[show(s.threads.getD o.toNat default).status=0 from j.2];decide)) (mc (by show(1:Int)≠3;decide))
structure WkR(a b:aP):Prop where
 order:a.order=b.order
 fixed:a.fixed=b.fixed
 cells:a.cells=b.cells
 futures:a.futures=b.futures
 woke:a.woke=b.woke
 nw:∀c,nW a.sync.threads c=nW b.sync.threads c
def Vo{w:aG}{a b:aP}(h:a.fixed=b.fixed)(t:Int)(l:List Int):eJ w a t l=eJ w b t l:=by unfold eJ pS;rw[h]
def IQ{w:aF}{s:SyncD}{t o wake:Int}:0<=(bF w s t 18 o wake).2↔0<nW s.threads o:=Ee _ _
def Yi{w:aG}{a b N M:aP}{t x y:Int}(R:WkR a b)(Z:c8 w a t x=some N)(Y:c8 w b t y=some M):WkR N M:=by
 obtain⟨k,hk,e1,_,_,_,G,_,rfl⟩:=gB Z;obtain⟨O,S,e2,_,_,_,E,_,rfl⟩:=gB Y;have:dK w a t=dK w b t:=by unfold dK;rw[R.order]
 obtain rfl:k=O:=by rw[e1,e2]at this;omega
 have B:=uH (wake:=x) G;have u:=uH (wake:=y) E;have D:=Vo (w:=w) R.fixed t w.ev[k].frm;refine⟨?_,?_,?_,?_,?_,λc=>?_⟩
 .rw[show(uG w a t k w.ev[k] x).order=a.order++[(k:Int)]from rfl,R.order];rfl
 .unfold uG;dsimp only;rw[R.fixed,R.cells,R.futures]
 .unfold uG;dsimp only;rw[R.cells,D]
 .unfold uG;dsimp only;rw[R.futures,D]
 .unfold uG;dsimp only;rw[B.2.1,u.2.1,R.woke];generalize w.ev[k].obj=o at *;generalize w.ev[k].kind=kd at *;by_cases g:kd=18
  .subst g;rw[if_pos rfl,if_pos rfl];by_cases j:0<nW b.sync.threads o
   .rw[if_pos (IQ.2 j),if_pos (IQ.2 (by rw[R.nw];exact j))]
   .rw[if_neg λh=>j (IQ.1 h),if_neg λh=>j (by rw[<-R.nw];exact IQ.1 h)]
  .rw[if_neg g,if_neg g];by_cases j:kd=19
   .subst j;rw[if_pos rfl,if_pos rfl];have:∀(s:SyncD) (z:Int),(bF w.w s t 19 o z).2=(nW s.threads o:Int):=λs z=>rfl
    rw[this,this,R.nw]
   .rw[if_neg j,if_neg j]
 .show nW (dx w.w a.sync t w.ev[k].kind w.ev[k].obj x).1.threads c=nW (dx w.w b.sync t w.ev[k].kind w.ev[k].obj y).1.threads c;rw[B.1,u.1,Lw G,Lw E,R.nw]
def Tf{w:aG}:∀{l j:List aD} {a b E D:aP},l.map aD.thread=j.map aD.thread->WkR a b->dE w a l=some E->dE w b j=some D->WkR E D
 |[],[],_,_,_,_,_,R,h1,h2=>by cases h1;cases h2;exact R
 | x::l,y::j,a,b,E,D,hm,R,h1,h2=>by
  simp only[aai,List.cons.injEq]at hm;unfold dE at h1 h2;rw[<-hm.1]at h2;cases B:c8 w a x.thread x.wake with
  |none=>rw[B]at h1;cases h1
  |some M=>
   cases u:c8 w b x.thread y.wake with
   |none=>rw[u]at h2;cases h2
   |some G=>rw[B]at h1;rw[u]at h2;exact Tf hm.2 (Yi R B u) h1 h2
