/- A part of the proof; the statement is proved in the last part. -/
import Derived.Test.YtljkdffikfkcgaaQ2f
set_option linter.unusedSimpArgs false
set_option linter.unusedVariables false
section
namespace Go.Proofs.Ytljkdffikfkcgaa.Am
set_option maxRecDepth 100000
set_option linter.unusedVariables false
theorem eR{α:Type}{f:α→List AV}{l:List α}{n i:Nat}{k:IntKind}{L:SH}{K:AV→Prop}(h:K (.lst ((l.take i).map f)))(hi:i≤l.length:=by omega)(hn:∀x,(f x).length=n:=by intro x;rfl):W.slice n (.lst (l.map f)) none (some (.int k (i:Int))) none L K:=by
 refine BI (l:=0) (h:=i) rfl ?_ (Nat.zero_le _) (by simpa using hi) (fun r hr=>?_) ?_
 ·simp[cp,j5]
 ·cases l with
  | nil=>cases hr
  | cons x l=>simp at hr;rw[←hr];exact hn x
 ·simpa[List.map_take]using h
def Ar(n i:Nat)(P:(j:Nat)→j<n→Prop):Prop:=∀j (hj:j<n),j<i→P j hj
theorem kV{n:Nat}{P:(j:Nat)→j<n→Prop}:Ar n 0 P:=fun _ _ h=>absurd h (Nat.not_lt_zero _)
theorem kW{n i:Nat}{P:(j:Nat)→j<n→Prop}(h:Ar n i P)(hi:i<n)(hp:P i hi):Ar n (i+1) P:=fun j hj hlt=>by
 rcases Nat.lt_or_ge j i with h1 | h1
 ·exact h j hj h1
 ·have:j=i:=by omega
  subst this;exact hp
def B0(good:Prop)(u:AV)(K:SH):Prop:=∃e ln:Int,u=.tup [.int .i64 e,.int .i64 ln]∧K=[]∧(e=0→good)
def av.nCell(d:av):Nat:=if d.kind=1∨d.kind=2 then(max d.size 1).toNat else 0
def av.nLock(d:av):Nat:=if d.kind=1∨d.kind=2 then 0 else if d.kind=3∨d.kind=4 then 1 else 0
def av.nCond(d:av):Nat:=if d.kind=1∨d.kind=2 then 0 else if d.kind=3∨d.kind=4 then 0 else if d.kind=5 then 1 else 0
def av.nFut(d:av):Nat:=if d.kind=1∨d.kind=2 then 0 else if d.kind=3∨d.kind=4 then 0 else if d.kind=5 then 0 else 1
def bf{α:Type}(f:α→Nat)(l:List α):Nat:=(l.map f).sum
theorem ck{α:Type}{f:α→Nat}{l:List α}{i:Nat}(h:i<l.length):bf f (l.take (i+1))=bf f (l.take i)+f l[i]:=iv h
structure fC(l:List av)(i:Nat)(h:i<l.length):Prop where
 fresh:bU (l.take i) l[i].name<0
 size:l[i].size≤4
 cells:bf av.nCell (l.take (i+1))≤12
 locks:bf av.nLock (l.take (i+1))≤4
 conds:bf av.nCond (l.take (i+1))≤2
 futs:bf av.nFut (l.take (i+1))≤2
 on:l[i].kind=5→∃d,kE (l.take i) l[i].on=some d∧d.kind=3
def qZ(l:List av):Prop:=∀i (h:i<l.length),fC l i h
theorem As{k:IntKind}{s:Int}{K:AV→Prop}(h:K (.int k (((max s 1).toNat:Nat):Int))):W.mnx true (.int k s) (.int k 1) K:=by
 rw[Cu]
 have:(if(1:Int) > s then(1:Int)else s)=(((max s 1).toNat:Nat):Int):=by split<;>omega
 rw[this];exact h
set_option maxHeartbeats 2000000 in
theorem Dy(l:List av)(hl:l.length<2^40):am Try.prog 29 [.lst (l.map av.enc)] [] (B0 (qZ l)):=by
 refine vG _ _ _ ?_
 unfold mJ
 generalize hQ:B0 (qZ l)=Q
 have hbad:∀e ln:Int,e≠0→Q (.tup [.int .i64 e,.int .i64 ln]) []:=fun e ln h=>by subst hQ;exact⟨e,ln,rfl,rfl,fun h0=>absurd h0 h⟩
 have hgood:qZ l→Q (.tup [.int .i64 0,.int .i64 0]) []:=fun h=>by subst hQ;exact⟨0,0,rfl,rfl,fun _=>h⟩
 clear hQ
 refine eJ l.length (fun i=>Ar l.length i (fC l)) (fun i=>[.lst (l.map av.enc),.int .i64 (bf av.nCell (l.take i):Nat),.int .i64 (bf av.nLock (l.take i):Nat),.int .i64 (bf av.nCond (l.take i):Nat),.int .i64 (bf av.nFut (l.take i):Nat),.int .i64 i]) (by omega) kV rfl (fun i h1 hd hi hG nx hn=>?_) (fun i h1 hd hG nx=>?_)
 all_goals unfold kG
 ·have hx:=aC (f:=av.enc) h1
  have c1:=fX (l.take i) l[i].name (by rw[List.length_take];omega)
  have c2:=fX (l.take i) l[i].on (by rw[List.length_take];omega)
  have b0:bf av.nCell (l.take i)≤12∧bf av.nLock (l.take i)≤4∧bf av.nCond (l.take i)≤2∧bf av.nFut (l.take i)≤2:=by
   cases i with
   | zero=>simp[bf]
   | succ j=>have:=hG j (by omega) (by omega);exact⟨this.cells,this.locks,this.conds,this.futs⟩
  have hok:fC l i h1→nx _ _:=fun h=>hn (kW hG h1 h)
  rw[ck h1,ck h1,ck h1,ck h1]at hok
  have key:decide (0≤bU (l.take i) l[i].name)=false→decide (4<l[i].size)=false→∀a b c d:Nat,a=bf av.nCell (l.take i)+l[i].nCell→b=bf av.nLock (l.take i)+l[i].nLock→c=bf av.nCond (l.take i)+l[i].nCond→d=bf av.nFut (l.take i)+l[i].nFut→
    gw Q nx [.lst (l.map av.enc),.int .i64 (a:Int),.int .i64 (b:Int),.int .i64 (c:Int),.int .i64 (d:Int),.int .i64 (i:Int),.pptr [l[i].enc] 0 0] []:=by
   intro f1 f2 a b c d ea eb ec ed
   rw[←ea,←eb,←ec,←ed]at hok
   have fin:a≤12→b≤4→c≤2→d≤2→(l[i].kind=5→∃d,kE (l.take i) l[i].on=some d∧d.kind=3)→nx _ _:=fun q1 q2 q3 q4 q5=>hok ⟨by simpa using f1,by simpa using f2,by rw[ck h1,←ea];exact q1,by rw[ck h1,←eb];exact q2,by rw[ck h1,←ec];exact q3,by rw[ck h1,←ed];exact q4,q5⟩
   clear hok hn hG b0 ea eb ec ed
   unfold gw
   rcases ef (p:=fun x:av=>decide (x.name=l[i].on)) (l.take i) 0 with⟨g1,g2⟩ | ⟨k,g1,g2,g3⟩
   ·have e1:bU (l.take i) l[i].on=-1:=g1
    rw[e1]at c2
    repeat' (first | refine st ?_ | refine eR ?_ | ((with_reducible refine aq 43 ?_);refine aj (c2) ?_) | ((with_reducible refine al 43 ?_);refine ab (c2) ?_) | refine sb (fun nb_ hnb_=>?_) | refine s2 (fun h=>?_) (fun h=>?_) | fail)
    all_goals first
     | exact hbad _ _ (by decide)
     | exact fin (by simp_all<;>omega) (by simp_all<;>omega) (by simp_all<;>omega) (by simp_all<;>omega) (by simp_all)
   ·have e1:bU (l.take i) l[i].on=(k:Nat):=by rw[bU,g2];simp
    have e2:kE (l.take i) l[i].on=some (l.take i)[k]:=g3
    have hkl:k<l.length:=by rw[List.length_take]at g1;omega
    have e3:(l.take i)[k]=l[k]:=by simp
    rw[e1]at c2
    rw[e2,e3]at fin
    have hy:=aC (f:=av.enc) hkl
    have d2:decide ((k:Int)<0)=false:=by simp
    repeat' (first | refine st ?_ | refine eR ?_ | ((with_reducible refine aq 43 ?_);refine aj (c2) ?_) | ((with_reducible refine al 43 ?_);refine ab (c2) ?_) | refine sb (fun nb_ hnb_=>?_) | refine s2 (fun h=>?_) (fun h=>?_) | fail)
    all_goals first
     | exact hbad _ _ (by decide)
     | exact fin (by simp_all<;>omega) (by simp_all<;>omega) (by simp_all<;>omega) (by simp_all<;>omega) (by simp_all)
  clear hok hn hG hgood
  have p1:=fun(f:decide (4<l[i].size)=false)=>fU (a:=bf av.nCell (l.take i)) (b:=(max l[i].size 1).toNat) (by have:¬4<l[i].size:=(by simpa using f);omega)
  have p2:=fU (a:=bf av.nLock (l.take i)) (b:=1) (by omega)
  have p3:=fU (a:=bf av.nCond (l.take i)) (b:=1) (by omega)
  have p4:=fU (a:=bf av.nFut (l.take i)) (b:=1) (by omega)
  repeat' (first | refine dm (b9 ?_ (p1 (by assumption))) | with_reducible refine key (by assumption) (by assumption) _ _ _ _ ?_ ?_ ?_ ?_ | refine st ?_ | refine eR ?_ | ((with_reducible refine aq 43 ?_);refine aj (c1) ?_) | ((with_reducible refine al 43 ?_);refine ab (c1) ?_) | refine As ?_ | refine sb (fun nb_ hnb_=>?_) | refine s2 (fun h=>?_) (fun h=>?_) | fail)
  all_goals first
   | exact hbad _ _ (by decide)
   | (clear key c1 c2 p1 p2 p3 p4 hbad;simp_all[av.nCell,av.nLock,av.nCond,av.nFut])
 ·repeat' (first | refine st ?_ | refine sb (fun nb_ hnb_=>?_) | refine s2 (fun h=>?_) (fun h=>?_) | fail)
  exact hgood fun j hj=>hG j hj (by omega)
structure kJ(p:aK)(i:Nat)(h:i<p.threads.length):Prop where
 decl:bU p.decls p.threads[i].name<0
 fresh:cx (p.threads.take i) p.threads[i].name<0
structure q6(p:aK)(t:ai):Prop where
 few:t.locals.length≤4
 decl:∀s∈t.locals,bU p.decls s<0
 thread:∀s∈t.locals,cx p.threads s<0
 fresh:∀i (h:i<t.locals.length),fJ (t.locals.take i) t.locals[i]<0
structure kX(p:aK):Prop where
 names:∀i (h:i<p.threads.length),kJ p i h
 locals:∀i (h:i<p.threads.length),q6 p p.threads[i]
theorem At(p:aK)(hw:p.wt<2^40):am Try.prog 30 [.agg p.enc] [] (B0 (kX p)):=by
 have hl1:=p.decls_len
 have hl2:=p.threads_len
 refine sr _ _ _ ?_
 unfold jK
 generalize hQ:B0 (kX p)=Q
 have hbad:∀e ln:Int,e≠0→Q (.tup [.int .i64 e,.int .i64 ln]) []:=fun e ln h=>by subst hQ;exact⟨e,ln,rfl,rfl,fun h0=>absurd h0 h⟩
 have hgood:kX p→Q (.tup [.int .i64 0,.int .i64 0]) []:=fun h=>by subst hQ;exact⟨0,0,rfl,rfl,fun _=>h⟩
 clear hQ
 repeat' (first | refine st ?_ | refine sb (fun nb_ hnb_=>?_) | refine s2 (fun h=>?_) (fun h=>?_) | fail)
 refine eJ p.threads.length (fun i=>Ar p.threads.length i (kJ p)) (fun i=>[.pptr [p.enc] 0 0,.int .i64 i]) (by omega) kV rfl (fun i h1 hd hi hG nx hn=>?_) (fun i h1 hd hG nx=>?_)
 all_goals unfold iR
 ·have hx:=aC (f:=ai.enc) h1
  have c1:=fX p.decls p.threads[i].name (by omega)
  have c2:=hM (p.threads.take i) p.threads[i].name (by rw[List.length_take];omega)
  have hok:kJ p i h1→nx _ _:=fun h=>hn (kW hG h1 h)
  clear hn hG
  repeat' (first | refine st ?_ | refine eR ?_ | ((with_reducible refine aq 43 ?_);refine aj (c1) ?_) | ((with_reducible refine al 43 ?_);refine ab (c1) ?_) | ((with_reducible refine aq 44 ?_);refine aj (c2) ?_) | ((with_reducible refine al 44 ?_);refine ab (c2) ?_) | refine sb (fun nb_ hnb_=>?_) | refine s2 (fun h=>?_) (fun h=>?_) | fail)
  all_goals first
   | exact hbad _ _ (by decide)
   | exact hok ⟨by simp_all,by simp_all⟩
 ·have hN:∀i (h:i<p.threads.length),kJ p i h:=fun j hj=>hG j hj (by omega)
  repeat' (first | refine st ?_ | refine sb (fun nb_ hnb_=>?_) | refine s2 (fun h=>?_) (fun h=>?_) | fail)
  clear hG hd h1
  refine eJ p.threads.length (fun i=>Ar p.threads.length i (fun i h=>q6 p p.threads[i])) (fun i=>[.pptr [p.enc] 0 0,.int .i64 i]) (by omega) kV rfl (fun i h1 hd hi hG nx hn=>?_) (fun i h1 hd hG nx=>?_)
  all_goals unfold iQ
  ·have hx:=aC (f:=ai.enc) h1
   have hok:q6 p p.threads[i]→nx _ _:=fun h=>hn (kW hG h1 h)
   have hlw:=fun(h4:p.threads[i].locals.length≤4)=>h4
   clear hn hG
   generalize p.threads[i]=t at *
   repeat' (first | refine st ?_ | refine sb (fun nb_ hnb_=>?_) | refine s2 (fun h=>?_) (fun h=>?_) | fail)
   ·exact hbad _ _ (by decide)
   ·have h4:t.locals.length≤4:=by simp at h;omega
    refine eJ t.locals.length (fun k=>Ar t.locals.length k (fun k h=>bU p.decls t.locals[k]<0∧cx p.threads t.locals[k]<0∧fJ (t.locals.take k) t.locals[k]<0)) (fun k=>[.pptr [p.enc] 0 0,.int .i64 i,.pptr [t.enc] 0 0,.int .i64 k]) (by omega) kV rfl (fun k g1 gd gi gG ny gn=>?_) (fun k g1 gd gG ny=>?_)
    all_goals unfold iP
    ·have hy:=aC (f:=az) g1
     have c1:=fX p.decls t.locals[k] (by omega)
     have c2:=hM p.threads t.locals[k] (by omega)
     have c3:=fK (t.locals.take k) t.locals[k] (by rw[List.length_take];omega)
     have hok2:(bU p.decls t.locals[k]<0∧cx p.threads t.locals[k]<0∧fJ (t.locals.take k) t.locals[k]<0)→ny _ _:=fun h=>gn (kW gG g1 h)
     clear gn gG
     repeat' (first | refine st ?_ | refine eR ?_ | ((with_reducible refine aq 43 ?_);refine aj (c1) ?_) | ((with_reducible refine al 43 ?_);refine ab (c1) ?_) | ((with_reducible refine aq 44 ?_);refine aj (c2) ?_) | ((with_reducible refine al 44 ?_);refine ab (c2) ?_) | ((with_reducible refine aq 45 ?_);refine aj (c3) ?_) | ((with_reducible refine al 45 ?_);refine ab (c3) ?_) | refine sb (fun nb_ hnb_=>?_) | refine s2 (fun h=>?_) (fun h=>?_) | fail)
     all_goals first
      | exact hbad _ _ (by decide)
      | exact hok2 ⟨by simp_all,by simp_all,by simp_all⟩
    ·have all:∀k (h:k<t.locals.length),bU p.decls t.locals[k]<0∧cx p.threads t.locals[k]<0∧fJ (t.locals.take k) t.locals[k]<0:=fun j hj=>gG j hj (by omega)
     repeat' (first | refine st ?_ | refine sb (fun nb_ hnb_=>?_) | refine s2 (fun h=>?_) (fun h=>?_) | fail)
     refine hok ⟨h4,fun s hs=>?_,fun s hs=>?_,fun k hk=>(all k hk).2.2⟩
     ·obtain⟨j,hj,rfl⟩:=List.getElem_of_mem hs;exact(all j hj).1
     ·obtain⟨j,hj,rfl⟩:=List.getElem_of_mem hs;exact(all j hj).2.1
  ·repeat' (first | refine st ?_ | refine sb (fun nb_ hnb_=>?_) | refine s2 (fun h=>?_) (fun h=>?_) | fail)
   exact hgood ⟨hN,fun j hj=>hG j hj (by omega)⟩
end Go.Proofs.Ytljkdffikfkcgaa.Am
end
section
namespace Go.Proofs.Ytljkdffikfkcgaa.Am
set_option maxRecDepth 100000
set_option linter.unusedVariables false
structure jS where
 t:Nat
 o1:Option Nat
 ar:List aa
 k:Nat
 o2:Option Nat
 sp:List aL
 o3:Option Nat
 se:List aL
def jS.row(p:aK)(s:jS):List AV:=[.lst (p.decls.map av.enc),.lst (p.threads.map ai.enc),.int .i64 s.t,au s.o1 s.k,au s.o2 s.sp.length,au s.o3 s.se.length]
def jS.L(p:aK)(bw:Nat)(s:jS):SH:=(bw,⟨6,[s.row p]⟩)::(ao s.o1 11 (s.ar.map aa.enc)++(ao s.o2 1 (s.sp.map az)++ao s.o3 1 (s.se.map az)))
structure jS.Ok(s:jS)(m:Nat):Prop where
 a0:s.o1=none→s.ar=[]
 ak:s.k≤s.ar.length
 k6:s.k≤6
 p0:s.o2=none→s.sp=[]
 e0:s.o3=none→s.se=[]
 pm:s.sp.length≤m
 em:s.se.length≤m
theorem B1(bw:Nat)(v0 v1 v2 v4 v5:AV)(o1:Option Nat)(ar:List aa)(k:Nat)(R:SH)(a b:Int)(name:aL)(h0:o1=none→ar=[])(hk:k≤ar.length)(h6:k≤6):
  am Try.prog 63 [.ptr bw 0 0,.int .i64 a,.int .i64 b,.str name] ((bw,⟨6,[[v0,v1,v2,au o1 k,v4,v5]]⟩)::(ao o1 11 (ar.map aa.enc)++R)) fun u K=>∃r:Bool,u=.bool r∧K=(bw,⟨6,[[v0,v1,v2,au o1 k,v4,v5]]⟩)::(ao o1 11 (ar.map aa.enc)++R):=by
 refine kI _ _ _ _ _ _ ?_
 unfold fL
 generalize hL:(bw,(⟨6,[[v0,v1,v2,au o1 k,v4,v5]]⟩:Blk))::(ao o1 11 (ar.map aa.enc)++R)=L
 generalize hQ:(fun(u:AV) (K:SH)=>∃r:Bool,u=AV.bool r∧K=L)=Q
 have hq:∀r:Bool,Q (.bool r) L:=fun r=>by subst hQ;exact⟨r,rfl,rfl⟩
 clear hQ
 subst hL
 cases o1 with
 | none=>
  have:=h0 rfl
  subst this
  obtain rfl:k=0:=by simpa using hk
  dsimp only[ao,au,List.nil_append]at *
  refine eJ 0 (fun _=>True) (fun i=>[.ptr bw 0 0,.int .i64 a,.int .i64 b,.str name,.int .i64 i]) (by omega) trivial rfl (fun i h1 hd hi _ nx hn=>by omega) (fun i h1 hd _ nx=>?_)
  unfold du
  repeat' (first | refine st ?_ | refine sb (fun nb_ hnb_=>?_) | refine s2 (fun h=>?_) (fun h=>?_) | fail)
  exact hq _
 | some b1=>
  dsimp only[ao,au,List.cons_append,List.nil_append]at *
  refine eJ k (fun _=>True) (fun i=>[.ptr bw 0 0,.int .i64 a,.int .i64 b,.str name,.int .i64 i]) (by omega) trivial rfl (fun i h1 hd hi _ nx hn=>?_) (fun i h1 hd _ nx=>?_)
  all_goals unfold du
  ·have hx:=xd (l:=ar) (i:=i) (by omega)
   generalize ar[i]'(by omega)=x at *
   repeat' (first | refine st ?_ | refine sb (fun nb_ hnb_=>?_) | refine s2 (fun h=>?_) (fun h=>?_) | fail)
   all_goals first
    | exact hq _
    | exact hn trivial
  ·repeat' (first | refine st ?_ | refine sb (fun nb_ hnb_=>?_) | refine s2 (fun h=>?_) (fun h=>?_) | fail)
   exact hq _
theorem Dz(o:Option Nat)(l:List aL)(R:SH)(x:aL)(h0:o=none→l=[])(hl:l.length<2^62):
  am Try.prog 45 [au o l.length,.str x] (ao o 1 (l.map az)++R) fun u K=>∃r:Int,u=.int .i64 r∧K=ao o 1 (l.map az)++R:=by
 refine kw _ _ _ _ ?_
 unfold jv
 generalize hL:ao o 1 (l.map az)++R=L
 generalize hQ:(fun(u:AV) (K:SH)=>∃r:Int,u=AV.int .i64 r∧K=L)=Q
 have hq:∀r:Int,Q (.int .i64 r) L:=fun r=>by subst hQ;exact⟨r,rfl,rfl⟩
 clear hQ
 subst hL
 cases o with
 | none=>
  have:=h0 rfl
  subst this
  dsimp only[ao,au,List.nil_append,List.length_nil]at *
  refine eJ 0 (fun _=>True) (fun i=>[.emp,.str x,.int .i64 i]) (by omega) trivial rfl (fun i h1 hd hi _ nx hn=>by omega) (fun i h1 hd _ nx=>?_)
  unfold eu
  repeat' (first | refine st ?_ | refine sb (fun nb_ hnb_=>?_) | refine s2 (fun h=>?_) (fun h=>?_) | fail)
  exact hq _
 | some b1=>
  dsimp only[ao,au,List.cons_append,List.nil_append]at *
  refine eJ l.length (fun _=>True) (fun i=>[.sl b1 0 l.length,.str x,.int .i64 i]) (by omega) trivial rfl (fun i h1 hd hi _ nx hn=>?_) (fun i h1 hd _ nx=>?_)
  all_goals unfold eu
  ·have hx:=aC (f:=az) h1
   repeat' (first | refine st ?_ | refine sb (fun nb_ hnb_=>?_) | refine s2 (fun h=>?_) (fun h=>?_) | fail)
   all_goals first
    | exact hq _
    | exact hn trivial
  ·repeat' (first | refine st ?_ | refine sb (fun nb_ hnb_=>?_) | refine s2 (fun h=>?_) (fun h=>?_) | fail)
   exact hq _
theorem am.permR{P:Program}{f:FuncId}{args:List AV}{L:SH}{Q:AV→SH→Prop}(h:am P f args L fun v L'=>∃L'',L'.Perm L''∧Q v L''):am P f args L Q:=⟨h.1,fun H hb hs=>by
 obtain⟨v,H',L',h1,h2,L'',hp,h3⟩:=h.2 H hb hs
 exact⟨v,H',L'',h1,h2.permS hp,h3⟩⟩
theorem am.within{P:Program}{f:FuncId}{args:List AV}{K L R:SH}{α:Type}{F:α→AV}(h:am P f args K fun u K'=>∃r,u=F r∧K'=K)(hp:L.Perm (K++R)):am P f args L fun u K'=>∃r,u=F r∧K'=L:=
 am.permR (h.frame hp fun v K' ⟨r,h1,h2⟩=>⟨L,by rw[h2];exact hp.symm,r,h1,rfl⟩)
end Go.Proofs.Ytljkdffikfkcgaa.Am
end
