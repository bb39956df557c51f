/- part -/
import Derived.Test.YtfcfhjadaknphaaGreatDoorQxs
set_option linter.all false
set_option maxRecDepth 100000
set_option maxHeartbeats 0
namespace Go.Proofs.YtfcfhjadaknphaaGreatDoor.Am
def JD(n i:Nat)(P:(j:Nat)->j<n->Prop):Prop:=∀j (hj:j<n),j<i->P j hj
def qT{n:Nat}{P:(j:Nat)->j<n->Prop}:JD n 0 P:=λ_ _ h=>absurd h (XX _)
def qU{n i:Nat}{P:(j:Nat)->j<n->Prop}(h:JD n i P)(E:i<n)(hp:P i E):JD n (i+1) P:=λj D B=>by
 rcases Fn j i with u|u
 .exact h j D u
 .have:j=i:=by omega
  subst this;exact hp
def Md(good:Prop)(u:AV)(K:SH):Prop:=∃e ln:Int,u=.tup [.YJ e,.YJ ln]/\K=[]/\(e=0->good)
def aA.nCell(d:aA):Nat:=if d.kind=1\/d.kind=2 then(max d.size 1).toNat else 0
def aA.nLock(d:aA):Nat:=if d.kind=1\/d.kind=2 then 0 else if d.kind=3\/d.kind=4 then 1 else 0
def aA.nCond(d:aA):Nat:=if d.kind=1\/d.kind=2 then 0 else if d.kind=3\/d.kind=4 then 0 else if d.kind=5 then 1 else 0
def aA.nFut(d:aA):Nat:=if d.kind=1\/d.kind=2 then 0 else if d.kind=3\/d.kind=4 then 0 else if d.kind=5 then 0 else 1
structure jH(l:List aA)(i:Nat)(h:i<l.length):Prop where
 fresh:cH (l.take i) l[i].name<0
 size:l[i].size<=4
 cells:bT aA.nCell (l.take (i+1))<=12
 locks:bT aA.nLock (l.take (i+1))<=4
 conds:bT aA.nCond (l.take (i+1))<=2
 futs:bT aA.nFut (l.take (i+1))<=2
 on:l[i].kind=5->∃d,qC (l.take i) l[i].on=some d/\d.kind=3
def vR(l:List aA):Prop:=∀i (h:i<l.length),jH l i h
def O3(l:List aA)(hl:l.length<2^40):ac Tryz.prog 47 [.lst (l.map aA.enc)] [] (Md (vR l)):=by
 refine BM _ _ _ ?_;refine vw ?_;generalize hQ:Md (vR l)=Q;have u:∀e S:Int,e≠0->Q (.tup [.YJ e,.YJ S]) []:=λe S h=>by subst hQ;exact⟨e,S,rfl,rfl,λh0=>absurd h0 h⟩
 have E:vR l->Q (.tup [.YJ 0,.YJ 0]) []:=λh=>by subst hQ;exact⟨0,0,rfl,rfl,λ_=>h⟩
 clear hQ;refine cS l.length (λi=>JD l.length i (jH l)) (λi=>[.lst (l.map aA.enc),.YJ (bT aA.nCell (l.take i):Nat),.YJ (bT aA.nLock (l.take i):Nat),.YJ (bT aA.nCond (l.take i):Nat),.YJ (bT aA.nFut (l.take i):Nat),.YJ i]) YC qT rfl (λi B hd hi G O Y=>?_) (λi B hd G O=>?_)
 all_goals refine vw ?_
 .have hx:=aq (f:=aA.enc) B;have c1:=i4 (l.take i) l[i].name (by rw[Xb];omega);have c2:=i4 (l.take i) l[i].on (by rw[Xb];omega);have b0:bT aA.nCell (l.take i)<=12/\bT aA.nLock (l.take i)<=4/\bT aA.nCond (l.take i)<=2/\bT aA.nFut (l.take i)<=2:=by
   cases i with
   |zero=>simp[bT]
   |succ j=>have:=G j YC YC;exact⟨this.cells,this.locks,this.conds,this.futs⟩
  have D:jH l i B->O _ _:=λh=>Y (qU G B h)
  rw[dI B,dI B,dI B,dI B]at D;have M:decide (0<=cH (l.take i) l[i].name)=false->decide (4<l[i].size)=false->∀a b c d:Nat,a=bT aA.nCell (l.take i)+l[i].nCell->b=bT aA.nLock (l.take i)+l[i].nLock->c=bT aA.nCond (l.take i)+l[i].nCond->d=bT aA.nFut (l.take i)+l[i].nFut->
    BL Q O [.lst (l.map aA.enc),.YJ (a:Int),.YJ (b:Int),.YJ (c:Int),.YJ (d:Int),.YJ (i:Int),.pptr [l[i].enc] 0 0] []:=by
   intro f1 f2 a b c d ea eb ec ed;rw[<-ea,<-eb,<-ec,<-ed]at D;have fin:a<=12->b<=4->c<=2->d<=2->(l[i].kind=5->∃d,qC (l.take i) l[i].on=some d/\d.kind=3)->O _ _:=λq1 q2 q3 q4 q5=>D ⟨by simpa using f1,by simpa using f2,by rw[dI B,<-ea];exact q1,by rw[dI B,<-eb];exact q2,by rw[dI B,<-ec];exact q3,by rw[dI B,<-ed];exact q4,q5⟩
   clear D Y G b0 ea eb ec ed;refine vw ?_;rcases gZ (p:=λx:aA=>decide (x.name=l[i].on)) (l.take i) 0 with⟨g1,g2⟩|⟨k,g1,g2,g3⟩
   .have e1:cH (l.take i) l[i].on=-1:=g1;rw[e1]at c2
    repeat' (first|refine sy ?_|refine iE ?_|refine s2 ?_ ?_|intro)
    all_goals first
     |exact u _ _ YG
     |exact fin (by simp_all<;>omega) (by simp_all<;>omega) (by simp_all<;>omega) (by simp_all<;>omega) (by simp_all)
   .have e1:cH (l.take i) l[i].on=(k:Nat):=by rw[cH,g2];simp
    have e2:qC (l.take i) l[i].on=some (l.take i)[k]:=g3;have Z:k<l.length:=by rw[Xb]at g1;omega
    have e3:(l.take i)[k]=l[k]:=by simp
    rw[e1]at c2;rw[e2,e3]at fin;have hy:=aq (f:=aA.enc) Z;have d2:decide ((k:Int)<0)=false:=by simp
    repeat' (first|refine sy ?_|refine iE ?_|refine s2 ?_ ?_|intro)
    all_goals first
     |exact u _ _ YG
     |exact fin (by simp_all<;>omega) (by simp_all<;>omega) (by simp_all<;>omega) (by simp_all<;>omega) (by simp_all)
  clear D Y G E;have p1:=λ(f:decide (4<l[i].size)=false)=>jY (a:=bT aA.nCell (l.take i)) (b:=(max l[i].size 1).toNat) (by have:¬4<l[i].size:=(by simpa using f);omega);have p2:=jY (a:=bT aA.nLock (l.take i)) (b:=1) YC;have p3:=jY (a:=bT aA.nCond (l.take i)) (b:=1) YC;have p4:=jY (a:=bT aA.nFut (l.take i)) (b:=1) YC
  repeat' (first|refine ep (dw ?_ (p1 YD))|with_reducible refine M YD YD _ _ _ _ ?_ ?_ ?_ ?_|refine sy ?_|refine iE ?_|refine Jt ?_|refine s2 ?_ ?_|intro)
  all_goals first
   |exact u _ _ YG
   |(clear M c1 c2 p1 p2 p3 p4 u;simp_all[aA.nCell,aA.nLock,aA.nCond,aA.nFut])
 .repeat' (first|refine sy ?_|refine s2 ?_ ?_|intro)
  exact E λj hj=>G j hj YC
structure qE(p:aY)(i:Nat)(h:i<p.threads.length):Prop where
 decl:cH p.decls p.threads[i].name<0
 fresh:dV (p.threads.take i) p.threads[i].name<0
structure vS(p:aY)(t:aj):Prop where
 few:t.locals.length<=4
 decl:∀s∈t.locals,cH p.decls s<0
 thread:∀s∈t.locals,dV p.threads s<0
 fresh:∀i (h:i<t.locals.length),jx (t.locals.take i) t.locals[i]<0
structure qV(p:aY):Prop where
 names:∀i (h:i<p.threads.length),qE p i h
 locals:∀i (h:i<p.threads.length),vS p p.threads[i]
def JE(p:aY)(hw:p.wt<2^40):ac Tryz.prog 48 [.agg p.enc] [] (Md (qV p)):=by
 have hl1:=p.decls_len;have hl2:=p.threads_len;refine xo _ _ _ ?_;refine vw ?_;generalize hQ:Md (qV p)=Q;have u:∀e ln:Int,e≠0->Q (.tup [.YJ e,.YJ ln]) []:=λe ln h=>by subst hQ;exact⟨e,ln,rfl,rfl,λh0=>absurd h0 h⟩
 have M:qV p->Q (.tup [.YJ 0,.YJ 0]) []:=λh=>by subst hQ;exact⟨0,0,rfl,rfl,λ_=>h⟩
 clear hQ
 repeat' (first|refine sy ?_|refine s2 (λh=>?_) λh=>?_|intro)
 refine cS p.threads.length (λi=>JD p.threads.length i (qE p)) (λi=>[.pptr [p.enc] 0 0,.YJ i]) YC qT rfl (λi E hd hi B S Z=>?_) (λi E hd B S=>?_)
 all_goals refine vw ?_
 .have hx:=aq (f:=aj.enc) E;have c1:=i4 p.decls p.threads[i].name YC;have c2:=lR (p.threads.take i) p.threads[i].name (by rw[Xb];omega);have G:qE p i E->S _ _:=λh=>Z (qU B E h)
  clear Z B
  repeat' (first|refine sy ?_|refine iE ?_|refine s2 ?_ ?_|intro)
  all_goals first
   |exact u _ _ YG
   |exact G ⟨by simp_all,by simp_all⟩
 .have hN:∀i (h:i<p.threads.length),qE p i h:=λj D=>B j D YC
  repeat' (first|refine sy ?_|refine s2 (λh=>?_) λh=>?_|intro)
  clear B hd E;refine cS p.threads.length (λi=>JD p.threads.length i (λi h=>vS p p.threads[i])) (λi=>[.pptr [p.enc] 0 0,.YJ i]) YC qT rfl (λi E hd hi B S Z=>?_) (λi E hd B S=>?_)
  all_goals refine vw ?_
  .have hx:=aq (f:=aj.enc) E;have G:vS p p.threads[i]->S _ _:=λh=>Z (qU B E h)
   have hlw:=λ(h4:p.threads[i].locals.length<=4)=>h4;clear Z B;generalize p.threads[i]=t at *
   repeat' (first|refine sy ?_|refine s2 (λh=>?_) λh=>?_|intro)
   .exact u _ _ YG
   .have h4:t.locals.length<=4:=by simp at h;omega
    refine cS t.locals.length (λk=>JD t.locals.length k (λk h=>cH p.decls t.locals[k]<0/\dV p.threads t.locals[k]<0/\jx (t.locals.take k) t.locals[k]<0)) (λk=>[.pptr [p.enc] 0 0,.YJ i,.pptr [t.enc] 0 0,.YJ k]) YC qT rfl (λk g1 gd gi gG ny gn=>?_) (λk g1 gd gG ny=>?_)
    all_goals refine vw ?_
    .have hy:=aq (f:=av) g1;have c1:=i4 p.decls t.locals[k] YC;have c2:=lR p.threads t.locals[k] YC;have c3:=oV (t.locals.take k) t.locals[k] (by rw[Xb];omega);have Y:(cH p.decls t.locals[k]<0/\dV p.threads t.locals[k]<0/\jx (t.locals.take k) t.locals[k]<0)->ny _ _:=λh=>gn (qU gG g1 h)
     clear gn gG
     repeat' (first|refine sy ?_|refine iE ?_|refine s2 ?_ ?_|intro)
     all_goals first
      |exact u _ _ YG
      |exact Y ⟨by simp_all,by simp_all,by simp_all⟩
    .have O:∀k (h:k<t.locals.length),cH p.decls t.locals[k]<0/\dV p.threads t.locals[k]<0/\jx (t.locals.take k) t.locals[k]<0:=λj D=>gG j D YC
     repeat' (first|refine sy ?_|refine s2 ?_ ?_|intro)
     refine G ⟨h4,λs hs=>?_,λs hs=>?_,λk hk=>(O k hk).2.2⟩
     .obtain⟨j,D,rfl⟩:=XJ hs;exact(O j D).1
     .obtain⟨j,D,rfl⟩:=XJ hs;exact(O j D).2.1
  .repeat' (first|refine sy ?_|refine s2 ?_ ?_|intro)
   exact M ⟨hN,λj D=>B j D YC⟩
def JF(B:Nat)(O M G E D:AV)(o1:Option Nat)(ar:List aa)(k:Nat)(R:SH)(a b:Int)(j:aO)(h0:o1=none->ar=[])(hk:k<=ar.length)(h6:k<=6):
  ac Tryz.prog 137 [.ptr B 0 0,.YJ a,.YJ b,.str j] ((B,⟨6,[[O,M,G,ai o1 k,E,D]]⟩)::(ab o1 11 (ar.map aa.enc)++R)) λu K=>∃r:Bool,u=.bool r/\K=(B,⟨6,[[O,M,G,ai o1 k,E,D]]⟩)::(ab o1 11 (ar.map aa.enc)++R):=by
 refine qz _ _ _ _ _ _ ?_;refine vw ?_;generalize hL:(B,(⟨6,[[O,M,G,ai o1 k,E,D]]⟩:Blk))::(ab o1 11 (ar.map aa.enc)++R)=L;generalize hQ:(λ(u:AV) (K:SH)=>∃r:Bool,u=AV.bool r/\K=L)=Q;have Y:∀r:Bool,Q (.bool r) L:=λr=>by subst hQ;exact⟨r,rfl,rfl⟩
 clear hQ;subst hL;cases o1 with
 |none=>
  have:=h0 rfl;subst this;obtain rfl:k=0:=by simpa using hk
  dsimp only[ab,ai,List.nil_append]at *;refine cS 0 (λ_=>True) (λi=>[.ptr B 0 0,.YJ a,.YJ b,.str j,.YJ i]) YC trivial rfl (λi h1 Z hi _ S hn=>by omega) (λi h1 Z _ S=>?_);refine vw ?_
  repeat' (first|refine sy ?_|refine s2 ?_ ?_|intro)
  exact Y _
 |some b1=>
  dsimp only[ab,ai,List.cons_append,List.nil_append]at *;refine cS k (λ_=>True) (λi=>[.ptr B 0 0,.YJ a,.YJ b,.str j,.YJ i]) YC trivial rfl (λi h1 Z hi _ S hn=>?_) (λi h1 Z _ S=>?_)
  all_goals refine vw ?_
  .have hx:=DI (l:=ar) (i:=i) YC;generalize ar[i]'YC=x at *
   repeat' (first|refine sy ?_|refine s2 ?_ ?_|intro)
   all_goals first
    |exact Y _
    |exact hn trivial
  .repeat' (first|refine sy ?_|refine s2 ?_ ?_|intro)
   exact Y _
def KI(o:Option Nat)(l:List aO)(R:SH)(x:aO)(Y:o=none->l=[])(hl:l.length<2^62):
  ac Tryz.prog 96 [ai o l.length,.str x] (ab o 1 (l.map av)++R) λu K=>∃r:Int,u=.YJ r/\K=ab o 1 (l.map av)++R:=by
 refine p8 _ _ _ _ ?_;refine vw ?_;generalize S:ab o 1 (l.map av)++R=L;generalize M:(λ(u:AV) (K:SH)=>∃r:Int,u=AV.YJ r/\K=L)=Q;have D:∀r:Int,Q (.YJ r) L:=λr=>by subst M;exact⟨r,rfl,rfl⟩
 clear M;subst S;cases o with
 |none=>
  have:=Y rfl;subst this;dsimp only[ab,ai,List.nil_append,List.length_nil]at *;refine cS 0 (λ_=>True) (λi=>[.emp,.str x,.YJ i]) YC trivial rfl (λi j E O _ B G=>by omega) (λi j E _ B=>?_);refine vw ?_
  repeat' (first|refine sy ?_|refine s2 ?_ ?_|intro)
  exact D _
 |some Z=>
  dsimp only[ab,ai,List.cons_append,List.nil_append]at *;refine cS l.length (λ_=>True) (λi=>[.sl Z 0 l.length,.str x,.YJ i]) YC trivial rfl (λi j E O _ B G=>?_) (λi j E _ B=>?_)
  all_goals refine vw ?_
  .have hx:=aq (f:=av) j
   repeat' (first|refine sy ?_|refine s2 ?_ ?_|intro)
   all_goals first
    |exact D _
    |exact G trivial
  .repeat' (first|refine sy ?_|refine s2 ?_ ?_|intro)
   exact D _
