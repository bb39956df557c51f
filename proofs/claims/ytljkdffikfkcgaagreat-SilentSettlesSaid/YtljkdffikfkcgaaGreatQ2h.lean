/- A part of the proof; the statement is proved in the last part. -/
import Derived.Test.YtljkdffikfkcgaaGreatQ2g
set_option linter.unusedSimpArgs false
set_option linter.unusedVariables false
section
namespace Go.Proofs.YtljkdffikfkcgaaGreat.Am
set_option maxRecDepth 100000
set_option linter.unusedVariables false
theorem eT{α:Type}{f:α→List AV}{l:List α}{n i:Nat}{k:IntKind}{L:SH}{K:AV→Prop}(h:K (.lst ((l.take i).map f)))(hi:i≤l.length:=by omega)(hn:∀x,(f x).length=n:=by intro x;rfl):W.slice n (.lst (l.map f)) none (some (.int k (i:Int))) none L K:=by
 refine sL (l:=0) (h:=i) rfl ?_ (Nat.zero_le _) (by simpa using hi) (fun r hr=>?_) ?_
 ·simp[cf,jI]
 ·cases l with
  | nil=>cases hr
  | cons x l=>simp at hr;rw[←hr];exact hn x
 ·simpa[List.map_take]using h
def Cf(n i:Nat)(P:(j:Nat)→j<n→Prop):Prop:=∀j (hj:j<n),j<i→P j hj
theorem lw{n:Nat}{P:(j:Nat)→j<n→Prop}:Cf n 0 P:=fun _ _ h=>absurd h (Nat.not_lt_zero _)
theorem lx{n i:Nat}{P:(j:Nat)→j<n→Prop}(h:Cf n i P)(hi:i<n)(hp:P i hi):Cf n (i+1) P:=fun j hj hlt=>by
 rcases Nat.lt_or_ge j i with h1 | h1
 ·exact h j hj h1
 ·have:j=i:=by omega
  subst this;exact hp
def DH(good:Prop)(u:AV)(K:SH):Prop:=∃e ln:Int,u=.tup [.int .i64 e,.int .i64 ln]∧K=[]∧(e=0→good)
def au.nCell(d:au):Nat:=if d.kind=1∨d.kind=2 then(max d.size 1).toNat else 0
def au.nLock(d:au):Nat:=if d.kind=1∨d.kind=2 then 0 else if d.kind=3∨d.kind=4 then 1 else 0
def au.nCond(d:au):Nat:=if d.kind=1∨d.kind=2 then 0 else if d.kind=3∨d.kind=4 then 0 else if d.kind=5 then 1 else 0
def au.nFut(d:au):Nat:=if d.kind=1∨d.kind=2 then 0 else if d.kind=3∨d.kind=4 then 0 else if d.kind=5 then 0 else 1
def bo{α:Type}(f:α→Nat)(l:List α):Nat:=(l.map f).sum
theorem co{α:Type}{f:α→Nat}{l:List α}{i:Nat}(h:i<l.length):bo f (l.take (i+1))=bo f (l.take i)+f l[i]:=iD h
structure fG(l:List au)(i:Nat)(h:i<l.length):Prop where
 fresh:bY (l.take i) l[i].name<0
 size:l[i].size≤4
 cells:bo au.nCell (l.take (i+1))≤12
 locks:bo au.nLock (l.take (i+1))≤4
 conds:bo au.nCond (l.take (i+1))≤2
 futs:bo au.nFut (l.take (i+1))≤2
 on:l[i].kind=5→∃d,kS (l.take i) l[i].on=some d∧d.kind=3
def rM(l:List au):Prop:=∀i (h:i<l.length),fG l i h
theorem Cg{k:IntKind}{s:Int}{K:AV→Prop}(h:K (.int k (((max s 1).toNat:Nat):Int))):W.mnx true (.int k s) (.int k 1) K:=by
 rw[Ec]
 have:(if(1:Int) > s then(1:Int)else s)=(((max s 1).toNat:Nat):Int):=by split<;>omega
 rw[this];exact h
set_option maxHeartbeats 2000000 in
theorem Fj(l:List au)(hl:l.length<2^40):aj Tryz.prog 38 [.lst (l.map au.enc)] [] (DH (rM l)):=by
 refine xl _ _ _ ?_
 unfold np
 generalize hQ:DH (rM l)=Q
 have hbad:∀e ln:Int,e≠0→Q (.tup [.int .i64 e,.int .i64 ln]) []:=fun e ln h=>by subst hQ;exact⟨e,ln,rfl,rfl,fun h0=>absurd h0 h⟩
 have hgood:rM l→Q (.tup [.int .i64 0,.int .i64 0]) []:=fun h=>by subst hQ;exact⟨0,0,rfl,rfl,fun _=>h⟩
 clear hQ
 refine eX l.length (fun i=>Cf l.length i (fG l)) (fun i=>[.lst (l.map au.enc),.int .i64 (bo au.nCell (l.take i):Nat),.int .i64 (bo au.nLock (l.take i):Nat),.int .i64 (bo au.nCond (l.take i):Nat),.int .i64 (bo au.nFut (l.take i):Nat),.int .i64 i]) (by omega) lw rfl (fun i h1 hd hi hG nx hn=>?_) (fun i h1 hd hG nx=>?_)
 all_goals unfold kU
 ·have hx:=aw (f:=au.enc) h1
  have c1:=f8 (l.take i) l[i].name (by rw[List.length_take];omega)
  have c2:=f8 (l.take i) l[i].on (by rw[List.length_take];omega)
  have b0:bo au.nCell (l.take i)≤12∧bo au.nLock (l.take i)≤4∧bo au.nCond (l.take i)≤2∧bo au.nFut (l.take i)≤2:=by
   cases i with
   | zero=>simp[bo]
   | succ j=>have:=hG j (by omega) (by omega);exact⟨this.cells,this.locks,this.conds,this.futs⟩
  have hok:fG l i h1→nx _ _:=fun h=>hn (lx hG h1 h)
  rw[co h1,co h1,co h1,co h1]at hok
  have key:decide (0≤bY (l.take i) l[i].name)=false→decide (4<l[i].size)=false→∀a b c d:Nat,a=bo au.nCell (l.take i)+l[i].nCell→b=bo au.nLock (l.take i)+l[i].nLock→c=bo au.nCond (l.take i)+l[i].nCond→d=bo au.nFut (l.take i)+l[i].nFut→
    gC Q nx [.lst (l.map au.enc),.int .i64 (a:Int),.int .i64 (b:Int),.int .i64 (c:Int),.int .i64 (d:Int),.int .i64 (i:Int),.pptr [l[i].enc] 0 0] []:=by
   intro f1 f2 a b c d ea eb ec ed
   rw[←ea,←eb,←ec,←ed]at hok
   have fin:a≤12→b≤4→c≤2→d≤2→(l[i].kind=5→∃d,kS (l.take i) l[i].on=some d∧d.kind=3)→nx _ _:=fun q1 q2 q3 q4 q5=>hok ⟨by simpa using f1,by simpa using f2,by rw[co h1,←ea];exact q1,by rw[co h1,←eb];exact q2,by rw[co h1,←ec];exact q3,by rw[co h1,←ed];exact q4,q5⟩
   clear hok hn hG b0 ea eb ec ed
   unfold gC
   rcases ep (p:=fun x:au=>decide (x.name=l[i].on)) (l.take i) 0 with⟨g1,g2⟩ | ⟨k,g1,g2,g3⟩
   ·have e1:bY (l.take i) l[i].on=-1:=g1
    rw[e1]at c2
    repeat' (first | refine st ?_ | refine eT ?_ | ((with_reducible refine ao 54 ?_);refine af (c2) ?_) | ((with_reducible refine al 54 ?_);refine ab (c2) ?_) | refine sb (fun nb_ hnb_=>?_) | refine s2 (fun h=>?_) (fun h=>?_) | fail)
    all_goals first
     | exact hbad _ _ (by decide)
     | exact fin (by simp_all<;>omega) (by simp_all<;>omega) (by simp_all<;>omega) (by simp_all<;>omega) (by simp_all)
   ·have e1:bY (l.take i) l[i].on=(k:Nat):=by rw[bY,g2];simp
    have e2:kS (l.take i) l[i].on=some (l.take i)[k]:=g3
    have hkl:k<l.length:=by rw[List.length_take]at g1;omega
    have e3:(l.take i)[k]=l[k]:=by simp
    rw[e1]at c2
    rw[e2,e3]at fin
    have hy:=aw (f:=au.enc) hkl
    have d2:decide ((k:Int)<0)=false:=by simp
    repeat' (first | refine st ?_ | refine eT ?_ | ((with_reducible refine ao 54 ?_);refine af (c2) ?_) | ((with_reducible refine al 54 ?_);refine ab (c2) ?_) | refine sb (fun nb_ hnb_=>?_) | refine s2 (fun h=>?_) (fun h=>?_) | fail)
    all_goals first
     | exact hbad _ _ (by decide)
     | exact fin (by simp_all<;>omega) (by simp_all<;>omega) (by simp_all<;>omega) (by simp_all<;>omega) (by simp_all)
  clear hok hn hG hgood
  have p1:=fun(f:decide (4<l[i].size)=false)=>f0 (a:=bo au.nCell (l.take i)) (b:=(max l[i].size 1).toNat) (by have:¬4<l[i].size:=(by simpa using f);omega)
  have p2:=f0 (a:=bo au.nLock (l.take i)) (b:=1) (by omega)
  have p3:=f0 (a:=bo au.nCond (l.take i)) (b:=1) (by omega)
  have p4:=f0 (a:=bo au.nFut (l.take i)) (b:=1) (by omega)
  repeat' (first | refine dy (cj ?_ (p1 (by assumption))) | with_reducible refine key (by assumption) (by assumption) _ _ _ _ ?_ ?_ ?_ ?_ | refine st ?_ | refine eT ?_ | ((with_reducible refine ao 54 ?_);refine af (c1) ?_) | ((with_reducible refine al 54 ?_);refine ab (c1) ?_) | refine Cg ?_ | refine sb (fun nb_ hnb_=>?_) | refine s2 (fun h=>?_) (fun h=>?_) | fail)
  all_goals first
   | exact hbad _ _ (by decide)
   | (clear key c1 c2 p1 p2 p3 p4 hbad;simp_all[au.nCell,au.nLock,au.nCond,au.nFut])
 ·repeat' (first | refine st ?_ | refine sb (fun nb_ hnb_=>?_) | refine s2 (fun h=>?_) (fun h=>?_) | fail)
  exact hgood fun j hj=>hG j hj (by omega)
structure kX(p:aL)(i:Nat)(h:i<p.threads.length):Prop where
 decl:bY p.decls p.threads[i].name<0
 fresh:cC (p.threads.take i) p.threads[i].name<0
structure rN(p:aL)(t:ai):Prop where
 few:t.locals.length≤4
 decl:∀s∈t.locals,bY p.decls s<0
 thread:∀s∈t.locals,cC p.threads s<0
 fresh:∀i (h:i<t.locals.length),fP (t.locals.take i) t.locals[i]<0
structure ly(p:aL):Prop where
 names:∀i (h:i<p.threads.length),kX p i h
 locals:∀i (h:i<p.threads.length),rN p p.threads[i]
theorem Ch(p:aL)(hw:p.wt<2^40):aj Tryz.prog 39 [.agg p.enc] [] (DH (ly p)):=by
 have hl1:=p.decls_len
 have hl2:=p.threads_len
 refine tg _ _ _ ?_
 unfold jS
 generalize hQ:DH (ly p)=Q
 have hbad:∀e ln:Int,e≠0→Q (.tup [.int .i64 e,.int .i64 ln]) []:=fun e ln h=>by subst hQ;exact⟨e,ln,rfl,rfl,fun h0=>absurd h0 h⟩
 have hgood:ly p→Q (.tup [.int .i64 0,.int .i64 0]) []:=fun h=>by subst hQ;exact⟨0,0,rfl,rfl,fun _=>h⟩
 clear hQ
 repeat' (first | refine st ?_ | refine sb (fun nb_ hnb_=>?_) | refine s2 (fun h=>?_) (fun h=>?_) | fail)
 refine eX p.threads.length (fun i=>Cf p.threads.length i (kX p)) (fun i=>[.pptr [p.enc] 0 0,.int .i64 i]) (by omega) lw rfl (fun i h1 hd hi hG nx hn=>?_) (fun i h1 hd hG nx=>?_)
 all_goals unfold i2
 ·have hx:=aw (f:=ai.enc) h1
  have c1:=f8 p.decls p.threads[i].name (by omega)
  have c2:=ij (p.threads.take i) p.threads[i].name (by rw[List.length_take];omega)
  have hok:kX p i h1→nx _ _:=fun h=>hn (lx hG h1 h)
  clear hn hG
  repeat' (first | refine st ?_ | refine eT ?_ | ((with_reducible refine ao 54 ?_);refine af (c1) ?_) | ((with_reducible refine al 54 ?_);refine ab (c1) ?_) | ((with_reducible refine ao 55 ?_);refine af (c2) ?_) | ((with_reducible refine al 55 ?_);refine ab (c2) ?_) | refine sb (fun nb_ hnb_=>?_) | refine s2 (fun h=>?_) (fun h=>?_) | fail)
  all_goals first
   | exact hbad _ _ (by decide)
   | exact hok ⟨by simp_all,by simp_all⟩
 ·have hN:∀i (h:i<p.threads.length),kX p i h:=fun j hj=>hG j hj (by omega)
  repeat' (first | refine st ?_ | refine sb (fun nb_ hnb_=>?_) | refine s2 (fun h=>?_) (fun h=>?_) | fail)
  clear hG hd h1
  refine eX p.threads.length (fun i=>Cf p.threads.length i (fun i h=>rN p p.threads[i])) (fun i=>[.pptr [p.enc] 0 0,.int .i64 i]) (by omega) lw rfl (fun i h1 hd hi hG nx hn=>?_) (fun i h1 hd hG nx=>?_)
  all_goals unfold i0
  ·have hx:=aw (f:=ai.enc) h1
   have hok:rN p p.threads[i]→nx _ _:=fun h=>hn (lx hG h1 h)
   have hlw:=fun(h4:p.threads[i].locals.length≤4)=>h4
   clear hn hG
   generalize p.threads[i]=t at *
   repeat' (first | refine st ?_ | refine sb (fun nb_ hnb_=>?_) | refine s2 (fun h=>?_) (fun h=>?_) | fail)
   ·exact hbad _ _ (by decide)
   ·have h4:t.locals.length≤4:=by simp at h;omega
    refine eX t.locals.length (fun k=>Cf t.locals.length k (fun k h=>bY p.decls t.locals[k]<0∧cC p.threads t.locals[k]<0∧fP (t.locals.take k) t.locals[k]<0)) (fun k=>[.pptr [p.enc] 0 0,.int .i64 i,.pptr [t.enc] 0 0,.int .i64 k]) (by omega) lw rfl (fun k g1 gd gi gG ny gn=>?_) (fun k g1 gd gG ny=>?_)
    all_goals unfold iZ
    ·have hy:=aw (f:=aA) g1
     have c1:=f8 p.decls t.locals[k] (by omega)
     have c2:=ij p.threads t.locals[k] (by omega)
     have c3:=fQ (t.locals.take k) t.locals[k] (by rw[List.length_take];omega)
     have hok2:(bY p.decls t.locals[k]<0∧cC p.threads t.locals[k]<0∧fP (t.locals.take k) t.locals[k]<0)→ny _ _:=fun h=>gn (lx gG g1 h)
     clear gn gG
     repeat' (first | refine st ?_ | refine eT ?_ | ((with_reducible refine ao 54 ?_);refine af (c1) ?_) | ((with_reducible refine al 54 ?_);refine ab (c1) ?_) | ((with_reducible refine ao 55 ?_);refine af (c2) ?_) | ((with_reducible refine al 55 ?_);refine ab (c2) ?_) | ((with_reducible refine ao 56 ?_);refine af (c3) ?_) | ((with_reducible refine al 56 ?_);refine ab (c3) ?_) | refine sb (fun nb_ hnb_=>?_) | refine s2 (fun h=>?_) (fun h=>?_) | fail)
     all_goals first
      | exact hbad _ _ (by decide)
      | exact hok2 ⟨by simp_all,by simp_all,by simp_all⟩
    ·have all:∀k (h:k<t.locals.length),bY p.decls t.locals[k]<0∧cC p.threads t.locals[k]<0∧fP (t.locals.take k) t.locals[k]<0:=fun j hj=>gG j hj (by omega)
     repeat' (first | refine st ?_ | refine sb (fun nb_ hnb_=>?_) | refine s2 (fun h=>?_) (fun h=>?_) | fail)
     refine hok ⟨h4,fun s hs=>?_,fun s hs=>?_,fun k hk=>(all k hk).2.2⟩
     ·obtain⟨j,hj,rfl⟩:=List.getElem_of_mem hs;exact(all j hj).1
     ·obtain⟨j,hj,rfl⟩:=List.getElem_of_mem hs;exact(all j hj).2.1
  ·repeat' (first | refine st ?_ | refine sb (fun nb_ hnb_=>?_) | refine s2 (fun h=>?_) (fun h=>?_) | fail)
   exact hgood ⟨hN,fun j hj=>hG j hj (by omega)⟩
end Go.Proofs.YtljkdffikfkcgaaGreat.Am
end
section
namespace Go.Proofs.YtljkdffikfkcgaaGreat.Am
set_option maxRecDepth 100000
set_option linter.unusedVariables false
structure jZ where
 t:Nat
 o1:Option Nat
 ar:List aa
 k:Nat
 o2:Option Nat
 sp:List aM
 o3:Option Nat
 se:List aM
def jZ.row(p:aL)(s:jZ):List AV:=[.lst (p.decls.map au.enc),.lst (p.threads.map ai.enc),.int .i64 s.t,aq s.o1 s.k,aq s.o2 s.sp.length,aq s.o3 s.se.length]
def jZ.L(p:aL)(bw:Nat)(s:jZ):SH:=(bw,⟨6,[s.row p]⟩)::(am s.o1 11 (s.ar.map aa.enc)++(am s.o2 1 (s.sp.map aA)++am s.o3 1 (s.se.map aA)))
structure jZ.Ok(s:jZ)(m:Nat):Prop where
 a0:s.o1=none→s.ar=[]
 ak:s.k≤s.ar.length
 k6:s.k≤6
 p0:s.o2=none→s.sp=[]
 e0:s.o3=none→s.se=[]
 pm:s.sp.length≤m
 em:s.se.length≤m
theorem DI(bw:Nat)(v0 v1 v2 v4 v5:AV)(o1:Option Nat)(ar:List aa)(k:Nat)(R:SH)(a b:Int)(name:aM)(h0:o1=none→ar=[])(hk:k≤ar.length)(h6:k≤6):
  aj Tryz.prog 74 [.ptr bw 0 0,.int .i64 a,.int .i64 b,.str name] ((bw,⟨6,[[v0,v1,v2,aq o1 k,v4,v5]]⟩)::(am o1 11 (ar.map aa.enc)++R)) fun u K=>∃r:Bool,u=.bool r∧K=(bw,⟨6,[[v0,v1,v2,aq o1 k,v4,v5]]⟩)::(am o1 11 (ar.map aa.enc)++R):=by
 refine kW _ _ _ _ _ _ ?_
 unfold fR
 generalize hL:(bw,(⟨6,[[v0,v1,v2,aq o1 k,v4,v5]]⟩:Blk))::(am o1 11 (ar.map aa.enc)++R)=L
 generalize hQ:(fun(u:AV) (K:SH)=>∃r:Bool,u=AV.bool r∧K=L)=Q
 have hq:∀r:Bool,Q (.bool r) L:=fun r=>by subst hQ;exact⟨r,rfl,rfl⟩
 clear hQ
 subst hL
 cases o1 with
 | none=>
  have:=h0 rfl
  subst this
  obtain rfl:k=0:=by simpa using hk
  dsimp only[am,aq,List.nil_append]at *
  refine eX 0 (fun _=>True) (fun i=>[.ptr bw 0 0,.int .i64 a,.int .i64 b,.str name,.int .i64 i]) (by omega) trivial rfl (fun i h1 hd hi _ nx hn=>by omega) (fun i h1 hd _ nx=>?_)
  unfold dC
  repeat' (first | refine st ?_ | refine sb (fun nb_ hnb_=>?_) | refine s2 (fun h=>?_) (fun h=>?_) | fail)
  exact hq _
 | some b1=>
  dsimp only[am,aq,List.cons_append,List.nil_append]at *
  refine eX k (fun _=>True) (fun i=>[.ptr bw 0 0,.int .i64 a,.int .i64 b,.str name,.int .i64 i]) (by omega) trivial rfl (fun i h1 hd hi _ nx hn=>?_) (fun i h1 hd _ nx=>?_)
  all_goals unfold dC
  ·have hx:=yX (l:=ar) (i:=i) (by omega)
   generalize ar[i]'(by omega)=x at *
   repeat' (first | refine st ?_ | refine sb (fun nb_ hnb_=>?_) | refine s2 (fun h=>?_) (fun h=>?_) | fail)
   all_goals first
    | exact hq _
    | exact hn trivial
  ·repeat' (first | refine st ?_ | refine sb (fun nb_ hnb_=>?_) | refine s2 (fun h=>?_) (fun h=>?_) | fail)
   exact hq _
theorem Fk(o:Option Nat)(l:List aM)(R:SH)(x:aM)(h0:o=none→l=[])(hl:l.length<2^62):
  aj Tryz.prog 56 [aq o l.length,.str x] (am o 1 (l.map aA)++R) fun u K=>∃r:Int,u=.int .i64 r∧K=am o 1 (l.map aA)++R:=by
 refine kM _ _ _ _ ?_
 unfold jC
 generalize hL:am o 1 (l.map aA)++R=L
 generalize hQ:(fun(u:AV) (K:SH)=>∃r:Int,u=AV.int .i64 r∧K=L)=Q
 have hq:∀r:Int,Q (.int .i64 r) L:=fun r=>by subst hQ;exact⟨r,rfl,rfl⟩
 clear hQ
 subst hL
 cases o with
 | none=>
  have:=h0 rfl
  subst this
  dsimp only[am,aq,List.nil_append,List.length_nil]at *
  refine eX 0 (fun _=>True) (fun i=>[.emp,.str x,.int .i64 i]) (by omega) trivial rfl (fun i h1 hd hi _ nx hn=>by omega) (fun i h1 hd _ nx=>?_)
  unfold eD
  repeat' (first | refine st ?_ | refine sb (fun nb_ hnb_=>?_) | refine s2 (fun h=>?_) (fun h=>?_) | fail)
  exact hq _
 | some b1=>
  dsimp only[am,aq,List.cons_append,List.nil_append]at *
  refine eX l.length (fun _=>True) (fun i=>[.sl b1 0 l.length,.str x,.int .i64 i]) (by omega) trivial rfl (fun i h1 hd hi _ nx hn=>?_) (fun i h1 hd _ nx=>?_)
  all_goals unfold eD
  ·have hx:=aw (f:=aA) h1
   repeat' (first | refine st ?_ | refine sb (fun nb_ hnb_=>?_) | refine s2 (fun h=>?_) (fun h=>?_) | fail)
   all_goals first
    | exact hq _
    | exact hn trivial
  ·repeat' (first | refine st ?_ | refine sb (fun nb_ hnb_=>?_) | refine s2 (fun h=>?_) (fun h=>?_) | fail)
   exact hq _
theorem aj.permR{P:Program}{f:FuncId}{args:List AV}{L:SH}{Q:AV→SH→Prop}(h:aj P f args L fun v L'=>∃L'',L'.Perm L''∧Q v L''):aj P f args L Q:=⟨h.1,fun H hb hs=>by
 obtain⟨v,H',L',h1,h2,L'',hp,h3⟩:=h.2 H hb hs
 exact⟨v,H',L'',h1,h2.permS hp,h3⟩⟩
theorem aj.within{P:Program}{f:FuncId}{args:List AV}{K L R:SH}{α:Type}{F:α→AV}(h:aj P f args K fun u K'=>∃r,u=F r∧K'=K)(hp:L.Perm (K++R)):aj P f args L fun u K'=>∃r,u=F r∧K'=L:=
 aj.permR (h.frame hp fun v K' ⟨r,h1,h2⟩=>⟨L,by rw[h2];exact hp.symm,r,h1,rfl⟩)
end Go.Proofs.YtljkdffikfkcgaaGreat.Am
end
