/- A part of the proof; the statement is proved in the last part. -/
import Derived.Test.YtdnpdghlggbklaaGreatDoorQsr
set_option linter.unusedSimpArgs false
set_option linter.unusedVariables false
namespace Go.Proofs.YtdnpdghlggbklaaGreatDoor.Am
section
set_option maxRecDepth 100000
set_option maxHeartbeats 4000000
set_option linter.unusedSimpArgs false
theorem Mz(w:aM)(h1:w.cells.length≤1000)(h2:w.locks.length≤1000)(h3:w.conds.length≤1000)(h4:w.futures.length≤1000)(h5:w.threads.length≤1000)(h6:w.sites.length≤1000):ax Tryz.prog 23 [.agg w.enc] (.agg w.enc):=by
 have k1:=Kr w.cells h1;have k2:=Ks w.locks h2;have k3:=Kt w.conds h3;have k4:=Eo w.futures h4;have k5:=Eo w.threads h5;have k6:=Ku w.sites h6;refine af.fz (Ao _ _ _ ?_);unfold nJ;generalize hQ:(λ(v:AV) (L:SH)=>∃v2 L2,aF [v] L [v2] L2∧v2=AV.agg w.enc∧L2=[])=Q;have hq:∀L,Q (.agg w.enc) L:=λL=>by subst hQ;exact⟨_,[],aF.all (.refl _),rfl,rfl⟩
 clear hQ;unfold aM.enc at *
 repeat' (first|refine st ?_|(refine pf 41 ?_;refine pm (k1) ?_)|(refine pf 42 ?_;refine pm (k2) ?_)|(refine pf 43 ?_;refine pm (k3) ?_)|(refine pf 44 ?_;refine pm (k4) ?_)|(refine pf 44 ?_;refine pm (k5) ?_)|(refine pf 45 ?_;refine pm (k6) ?_)|refine sb λnb_ hnb_=>?_|refine s2 (λh=>?_) λh=>?_|fail)
 exact hq _
theorem MA(c:bI)(hc:Jj c)(l:List dU)(hl:l.length<2^62)(hst:ax Tryz.prog 40 [.agg c.enc] (.agg (cG c).enc))(h0:Ap c 0 (cG c)):ax Tryz.prog 22 [.agg c.enc,.lst (l.map dU.enc)] (OK (mX c l)):=by
 refine af.fz (FB _ _ _ _ ?_);unfold xD;generalize hQ:(λ(v:AV) (L:SH)=>∃v2 L2,aF [v] L [v2] L2∧v2=OK (mX c l)∧L2=[])=Q;have hq:∀v L,Fz L v (OK (fM c l ([],cG c)))→Q v L:=λv L h=>by subst hQ;exact⟨_,[],aF.all h,rfl,rfl⟩
 clear hQ;have lp:=λb2 b9=>OL c hc l hl (cG c) h0 b2 b9 Q hq
 have hce:c.enc=[.lst (c.w.cells.map aV.enc),.lst (c.w.locks.map bV.enc),.lst (c.w.conds.map cI.enc),.lst (c.w.futures.map aq),.lst (c.w.threads.map aq),.lst (c.w.sites.map cz.enc),.lst (c.ts.map gL.enc)]:=rfl;generalize cG c=s0 at *;have hse:s0.enc=[.lst (s0.sync.locks.map LockD.enc),.Xw s0.sync.tx,.lst (s0.sync.done.map aI),.lst (s0.sync.threads.map ThrD.enc),.lst (s0.cells.map aj),.lst (s0.futures.map aj),.lst (s0.threads.map aU.enc)]:=rfl;unfold bL at lp;rw[hce,hse]at *
 repeat' (first|exact lp _ _|refine st ?_|(refine pf 40 ?_;refine pm (hst) ?_)|refine sb λnb_ hnb_=>?_|refine s2 (λh=>?_) λh=>?_|fail)
theorem lX{c:bI}(h:jy c)(hl:∀t∈c.ts,t.ins.length<2^40):Jj c where
 ins:=λx hx i hi=>by obtain⟨k,hk,rfl⟩:=List.mem_iff_getElem.1 hx;obtain⟨j,hj,rfl⟩:=List.mem_iff_getElem.1 hi;have:=(h.thr k hk).ins j hj;exact⟨this.lo,this.hi,this.regs⟩
 len:=hl
 con:=by have:=h.world.d2;omega
theorem Jk{c:bI}(h:jy c):∀t∈c.ts,0≤t.regs∧t.regs≤1000:=λt ht=>by obtain⟨k,hk,rfl⟩:=List.mem_iff_getElem.1 ht;have:=h.thr k hk;have h0:=this.r0;have h32:=this.r32;exact⟨h0,Xr⟩
theorem LF{c:bI}(h:jy c):Ap c 0 (cG c):=by
 have hw:=h.world;refine⟨λx hx=>?_,?_,?_,λl hl=>?_,?_,?_,?_,?_⟩
 ·obtain⟨t,ht,rfl⟩:=Wm.1 hx;have:=Jk h t ht;exact⟨⟨Xu,by simp;omega,λl hl=>by rw[(List.mem_replicate.1 hl).2];simp,λl hl x hx=>by rw[(List.mem_replicate.1 hl).2]at hx;simp at hx⟩,Int.le_refl _,Int.le_refl _,by simp;omega⟩
 ·have:=h.len;have:=hw.t4;simp[cG];omega
 ·have:=hw.l4;simp[cG,cW];omega
 ·have:=(List.mem_replicate.1 hl).2;rw[this];simp
 ·have:=hw.f2;simp[cG,cW];omega
 ·have:=hw.t4;simp[cG,cW];omega
 ·have:=hw.c12;simp[cG];omega
 ·have:=hw.f2;simp[cG];omega
structure Ep where
 w:aM
 ev:List dD
def Ep.enc(t:Ep):List AV:=[.lst (t.w.cells.map aV.enc),.lst (t.w.locks.map bV.enc),.lst (t.w.conds.map cI.enc),.lst (t.w.futures.map aq),.lst (t.w.threads.map aq),.lst (t.w.sites.map cz.enc),.lst (t.ev.map dD.enc)]
noncomputable def tq (c:bI) (l:List dU):Ep×dE:=if iX (jy c)then(⟨c.w,(mX c l).1⟩,(mX c l).2)else(⟨⟨[],[],[],[],[],[]⟩,[]⟩,dE.zero)
theorem Qg(c:bI)(hl:∀t∈c.ts,t.ins.length<2^40)(l:List dU)(hll:l.length<2^62):ax Tryz.prog 8 [.agg c.enc,.lst (l.map dU.enc)] (.tup [.agg (tq c l).1.enc,.agg (tq c l).2.enc]):=by
 have hv:=IU c λt ht=>by have:=hl t ht;omega
 refine af.fz (Kl _ _ _ _ ?_);unfold Gf;generalize hQ:(λ(v:AV) (L:SH)=>∃v2 L2,aF [v] L [v2] L2∧v2=AV.tup [.agg (tq c l).1.enc,.agg (tq c l).2.enc]∧L2=[])=Q;have hq:∀a b L,iU L a (tq c l).1.enc→iU L b (tq c l).2.enc→Q (.tup [.agg a,.agg b]) L:=λa b L h1 h2=>by subst hQ;exact⟨_,[],aF.all (Fz.tups (.cons (Fz.aggs h1) (.cons (Fz.aggs h2) .nil))),rfl,rfl⟩
 clear hQ;have hce:c.enc=[.lst (c.w.cells.map aV.enc),.lst (c.w.locks.map bV.enc),.lst (c.w.conds.map cI.enc),.lst (c.w.futures.map aq),.lst (c.w.threads.map aq),.lst (c.w.sites.map cz.enc),.lst (c.ts.map gL.enc)]:=rfl;cases hd:iX (jy c)with
 |false=>
  rw[hd]at hv;have hr:tq c l=(⟨⟨[],[],[],[],[],[]⟩,[]⟩,dE.zero):=by unfold tq;rw[hd];rfl
  rw[hr]at hq;have hz:∀L,Q (.tup [.agg [.nils,.nils,.nils,.nils,.nils,.nils,.nils],.agg [.nils,.Xw 0,.nils,.nils,.nils,.nils,.nils]]) L:=λL=>hq _ _ L (by unfold Ep.enc;exact fl) (by unfold dE.zero dE.enc Lr;exact fl)
  rw[hce]at *
  repeat' (first|refine st ?_|(refine pf 21 ?_;refine pm (hv) ?_)|refine sb λnb_ hnb_=>?_|refine s2 (λh=>?_) λh=>?_|fail)
  exact hz _
 |true=>
  rw[hd]at hv;have hP:=fm.1 hd;have hw:=hP.world;have hr:tq c l=(⟨c.w,(mX c l).1⟩,(mX c l).2):=by unfold tq;rw[hd];rfl
  rw[hr]at hq;have hst:=Mt c (by have:=hw.c12;omega) (by have:=hw.l4;omega) (by have:=hw.f2;omega) (by have:=hw.t4;omega) (by have:=hP.len;have:=hw.t4;omega) (Jk hP);have hf:=MA c (lX hP hl) l hll hst (LF hP);have hcw:=Mz c.w (by have:=hw.c12;omega) (by have:=hw.l4;omega) (by have:=hw.d2;omega) (by have:=hw.f2;omega) (by have:=hw.t4;omega) (by have:=hw.s60;omega);generalize mX c l=p at *;obtain⟨ev,s⟩:=p;unfold OK at hf;have hwe:c.w.enc=[.lst (c.w.cells.map aV.enc),.lst (c.w.locks.map bV.enc),.lst (c.w.conds.map cI.enc),.lst (c.w.futures.map aq),.lst (c.w.threads.map aq),.lst (c.w.sites.map cz.enc)]:=rfl;have hse:s.enc=[.lst (s.sync.locks.map LockD.enc),.Xw s.sync.tx,.lst (s.sync.done.map aI),.lst (s.sync.threads.map ThrD.enc),.lst (s.cells.map aj),.lst (s.futures.map aj),.lst (s.threads.map aU.enc)]:=rfl;dsimp only at *;rw[hce]at *;rw[hwe]at hcw;rw[hse]at *;have hz:∀L,Q (.tup [.agg [.lst (c.w.cells.map aV.enc),.lst (c.w.locks.map bV.enc),.lst (c.w.conds.map cI.enc),.lst (c.w.futures.map aq),.lst (c.w.threads.map aq),.lst (c.w.sites.map cz.enc),.lst (ev.map dD.enc)],.agg [.lst (s.sync.locks.map LockD.enc),.Xw s.sync.tx,.lst (s.sync.done.map aI),.lst (s.sync.threads.map ThrD.enc),.lst (s.cells.map aj),.lst (s.futures.map aj),.lst (s.threads.map aU.enc)]]) L:=λL=>hq _ _ L (iU.refl _ _) (iU.refl _ _)
  repeat' (first|refine st ?_|(refine pf 21 ?_;refine pm (hv) ?_)|(refine pf 22 ?_;refine pm (hf) ?_)|(refine pf 23 ?_;refine pm (hcw) ?_)|refine sb λnb_ hnb_=>?_|refine s2 (λh=>?_) λh=>?_|fail)
  exact hz _
end
section
set_option maxRecDepth 100000
def Aq(b:Kn)(c:SH)(a d e f:AV):Prop:=W.bslice 1 [(.Xw 0)] 1 [(0,a)] c λg h=>W.append 1 8 d g h λi j=>wb .add 3 a (.Xw 1) λk=>b [e,f,i,k] j
def Ar(f:Kn)(d:SH)(b c e g:AV):Prop:=aB 3 b d λl=>eB 3 0 l c d λm=>wb .eql 3 m (.Xw 3) λa=>wg a true (W.faddr 3 b) d λn h=>wg a true (wl n h) h λo p=>bH a true c p λq i=>wg a true (W.idx 3 o q i) i λr s=>wg a true (W.faddr 1 r) s λt j=>wg a true (wl t j) j λu v=>bH a true e v λw x=>wg a true (wb .eql 3 u w) x λy k=>W.pick a y (.bool false) λz=>wk z ((Aq f k c g e b)) (wb .add 3 c (.Xw 1) λA=>f [e,b,g,A] k)
def gR(Q:R)(e:Vs)(a:SH)(f:Kn):Prop:=wu 1 2 5 6 e λg b c d=>aB 3 b a λh=>W.len h λi=>wb .lss 3 d i λj=>wk j ((Ar f a b d g c)) (Q c a)
def nK(a b:AV)(L:SH)(Q:R):Prop:=qo a L λc d=>W.loop (gR Q) [b,c,.nils,(.Xw 0)] d
theorem As(t0 t1:AV)(L:SH)(Q:R)(h:nK t0 t1 L Q):af Tryz.prog 14 [t0,t1] L Q:=
 fs [] [(3,[1,2,5,6])] [(0,[2])] [] Tryz.func14 h
end
section
set_option maxRecDepth 100000
set_option maxHeartbeats 2000000
section
variable (c:bI) (s:dE) (t:Int) (b:Bool) (hv:ax Tryz.prog 21 [.agg c.enc] (.bool b))
include hv
theorem Jl(hp:b=true→ax Tryz.prog 26 [.agg c.enc,.agg s.enc,.Xw t] (ie (cJ c s t))):ax Tryz.prog 13 [.agg c.enc,.agg s.enc,.Xw t] (ie (if b then cJ c s t else none)):=by
 refine af.fz (D3 _ _ _ _ _ ?_);unfold sh;generalize hQ:(λ(v:AV) (L:SH)=>∃v2 L2,aF [v] L [v2] L2∧v2=ie (if b then cJ c s t else none)∧L2=[])=Q;have hq:∀v L,Fz L v (ie (if b then cJ c s t else none))→Q v L:=λv L h=>by subst hQ;exact⟨_,[],aF.all h,rfl,rfl⟩
 clear hQ;have hce:c.enc=[.lst (c.w.cells.map aV.enc),.lst (c.w.locks.map bV.enc),.lst (c.w.conds.map cI.enc),.lst (c.w.futures.map aq),.lst (c.w.threads.map aq),.lst (c.w.sites.map cz.enc),.lst (c.ts.map gL.enc)]:=rfl;have hse:s.enc=[.lst (s.sync.locks.map LockD.enc),.Xw s.sync.tx,.lst (s.sync.done.map aI),.lst (s.sync.threads.map ThrD.enc),.lst (s.cells.map aj),.lst (s.futures.map aj),.lst (s.threads.map aU.enc)]:=rfl;cases b with
 |false=>
  have hz:∀L,Q (.tup [.agg [.Xw 0,.Xw 0,.Xw 0,.Xw 0,.Xw 0,.nils,.nils],.bool false]) L:=λL=>hq _ L (Fz.tups (.cons (Fz.aggs (m:=dD.zero.enc) (by exact fl)) (.cons (.refl _) .nil)))
  clear hp hq;rw[hce,hse]at *
  repeat' (first|refine st ?_|(refine pf 21 ?_;refine pm (hv) ?_)|refine sb λnb_ hnb_=>?_|refine s2 (λh=>?_) λh=>?_|fail)
  exact hz _
 |true=>
  have hp:=hp rfl;simp only[if_true]at hq;generalize cJ c s t=r at *;cases r with
  |none=>
   have hz:∀L,Q (ie none) L:=λL=>hq _ L (.refl _)
   clear hq;unfold ie dD.zero dD.enc at *;dsimp only at *;rw[hce,hse]at *
   repeat' (first|refine st ?_|(refine pf 21 ?_;refine pm (hv) ?_)|(refine pf 26 ?_;refine pm (hp) ?_)|refine sb λnb_ hnb_=>?_|refine s2 (λh=>?_) λh=>?_|fail)
   exact hz _
  |some e=>
   have hz:∀L,Q (ie (some e)) L:=λL=>hq _ L (.refl _)
   clear hq;unfold ie dD.enc at *;dsimp only at *;rw[hce,hse]at *
   repeat' (first|refine st ?_|(refine pf 21 ?_;refine pm (hv) ?_)|(refine pf 26 ?_;refine pm (hp) ?_)|refine sb λnb_ hnb_=>?_|refine s2 (λh=>?_) λh=>?_|fail)
   exact hz _
end
def Po(c:bI)(s:dE)(t:Int):Option dD→Bool
 |some e=>bv c.w s.sync t e.kind e.obj
 |none=>false
theorem Jm(c:bI)(s:dE)(t:Int)(r:Option dD)(hp:ax Tryz.prog 13 [.agg c.enc,.agg s.enc,.Xw t] (ie r))(hcn:r≠none→c.w.conds.length<2^62∧∀l∈s.sync.locks,l.readers.length<2^40):
  ax Tryz.prog 11 [.agg c.enc,.agg s.enc,.Xw t] (.bool (Po c s t r)):=by
 refine af.fz (D5 _ _ _ _ _ ?_);unfold si;generalize hQ:(λ(v:AV) (L:SH)=>∃v2 L2,aF [v] L [v2] L2∧v2=AV.bool (Po c s t r)∧L2=[])=Q;have hq:∀L,Q (.bool (Po c s t r)) L:=λL=>by subst hQ;exact⟨_,[],aF.all (.refl _),rfl,rfl⟩
 clear hQ;have hce:c.enc=[.lst (c.w.cells.map aV.enc),.lst (c.w.locks.map bV.enc),.lst (c.w.conds.map cI.enc),.lst (c.w.futures.map aq),.lst (c.w.threads.map aq),.lst (c.w.sites.map cz.enc),.lst (c.ts.map gL.enc)]:=rfl;have hse:s.enc=[.lst (s.sync.locks.map LockD.enc),.Xw s.sync.tx,.lst (s.sync.done.map aI),.lst (s.sync.threads.map ThrD.enc),.lst (s.cells.map aj),.lst (s.futures.map aj),.lst (s.threads.map aU.enc)]:=rfl;cases r with
 |none=>
  unfold Po at hq;unfold ie dD.zero dD.enc at hp;dsimp only at *;rw[hce,hse]at *
  repeat' (first|refine st ?_|(refine pf 13 ?_;refine pm (hp) ?_)|refine sb λnb_ hnb_=>?_|refine s2 (λh=>?_) λh=>?_|fail)
  exact hq _
 |some e=>
  have he:=Dv c.w s.sync t e.kind e.obj (hcn nofun).1 (hcn nofun).2;unfold Po at hq;have hwe:c.w.enc=[.lst (c.w.cells.map aV.enc),.lst (c.w.locks.map bV.enc),.lst (c.w.conds.map cI.enc),.lst (c.w.futures.map aq),.lst (c.w.threads.map aq),.lst (c.w.sites.map cz.enc)]:=rfl;have hye:s.sync.enc=[.lst (s.sync.locks.map LockD.enc),.Xw s.sync.tx,.lst (s.sync.done.map aI),.lst (s.sync.threads.map ThrD.enc)]:=rfl;rw[hwe,hye]at he;unfold ie dD.enc at hp;dsimp only at *;rw[hce,hse]at *
  repeat' (first|refine st ?_|(refine pf 13 ?_;refine pm (hp) ?_)|(refine pf 24 ?_;refine pm (he) ?_)|refine sb λnb_ hnb_=>?_|refine s2 (λh=>?_) λh=>?_|fail)
  exact hq _
theorem OM(c:bI)(s:dE)(t wake:Int)(b:Bool)(hv:ax Tryz.prog 21 [.agg c.enc] (.bool b))(hp:b=true→ax Tryz.prog 25 [.agg c.enc,.agg s.enc,.agg [.Xw t,.Xw wake]] (pW none)):
  ax Tryz.prog 12 [.agg c.enc,.agg s.enc,.agg [.Xw t,.Xw wake]] (pW none):=by
 refine af.fz (IY _ _ _ _ _ ?_);unfold D6;generalize hQ:(λ(v:AV) (L:SH)=>∃v2 L2,aF [v] L [v2] L2∧v2=pW none∧L2=[])=Q;have hq:∀v L,Fz L v (pW none)→Q v L:=λv L h=>by subst hQ;exact⟨_,[],aF.all h,rfl,rfl⟩
 clear hQ;have hce:c.enc=[.lst (c.w.cells.map aV.enc),.lst (c.w.locks.map bV.enc),.lst (c.w.conds.map cI.enc),.lst (c.w.futures.map aq),.lst (c.w.threads.map aq),.lst (c.w.sites.map cz.enc),.lst (c.ts.map gL.enc)]:=rfl;have hse:s.enc=[.lst (s.sync.locks.map LockD.enc),.Xw s.sync.tx,.lst (s.sync.done.map aI),.lst (s.sync.threads.map ThrD.enc),.lst (s.cells.map aj),.lst (s.futures.map aj),.lst (s.threads.map aU.enc)]:=rfl;cases b with
 |false=>
  have hz:∀L,Q (.tup [.agg [.nils,.Xw 0,.nils,.nils,.nils,.nils,.nils],.agg [.Xw 0,.Xw 0,.Xw 0,.Xw 0,.Xw 0,.nils,.nils],.bool false]) L:=λL=>hq _ L (Fz.tups (.cons (Fz.aggs (m:=dE.zero.enc) (by exact fl)) (.cons (Fz.aggs (m:=dD.zero.enc) (by exact fl)) (.cons (.refl _) .nil))))
  clear hp hq;rw[hce,hse]at *
  repeat' (first|refine st ?_|(refine pf 21 ?_;refine pm (hv) ?_)|refine sb λnb_ hnb_=>?_|refine s2 (λh=>?_) λh=>?_|fail)
  exact hz _
 |true=>
  have hp:=hp rfl;have hz:∀L,Q (pW none) L:=λL=>hq _ L (.refl _)
  clear hq;have hee:pW none=.tup [.agg [.lst [],.Xw 0,.lst [],.lst [],.lst [],.lst [],.lst []],.agg [.Xw 0,.Xw 0,.Xw 0,.Xw 0,.Xw 0,.lst [],.lst []],.bool false]:=rfl;rw[hee]at *;rw[hce,hse]at *
  repeat' (first|refine st ?_|(refine pf 21 ?_;refine pm (hv) ?_)|(refine pf 25 ?_;refine pm (hp) ?_)|refine sb λnb_ hnb_=>?_|refine s2 (λh=>?_) λh=>?_|fail)
  exact hz _
end
section
set_option linter.unusedSimpArgs false
theorem MB{ins:List bj}:∀(k:Nat) {s y:aU},fV ins k s=(y,true)→inB y.pc ins.length=true∧((ins.getD y.pc.toNat default).op<1∨5<(ins.getD y.pc.toNat default).op):=by
 intro k
 induction k with
 |zero=>
  intro s y h;unfold fV at h
  repeat' split at h
  all_goals first
   |(cases h;exact⟨Xs,Xs⟩)
   |cases h
 |succ k ih=>
  intro s y h;unfold fV at h;split at h
  ·split at h
   ·cases h;exact⟨Xs,Xs⟩
   ·split at h
    ·cases h
    ·exact ih h
  ·cases h
theorem Bi{c:gL}{s y:aU}(h:bN c s=(y,true)):inB y.pc c.ins.length=true∧((cM c y.pc).op<1∨5<(cM c y.pc).op)∧(y.regs.length:Int)=c.regs:=by
 have h2:=Gg h;unfold bN at h;split at h
 ·rename_i hr;have:=MB _ h;exact⟨this.1,this.2,by rw[h2.2];exact hr.1⟩
 ·cases h
theorem SK{w:aM}{s:SyncD}{t k o wake:Int}(he:bv w s t k o=true)(j:Nat)(hj:(j:Int)≠t)(h:(bE (bR w s t k o wake).1 j).status=2):(bE s j).status=2:=by
 unfold bv at he;simp only[V5]at he;have hin:=aw.1 he.1.1.2;have hset:∀x:ThrD,(s.threads.set t.toNat x).getD j default=s.threads.getD j default:=λx=>by
  have:t.toNat≠j:=by omega
  simp[List.getD,Wn,this]
 rcases kinds k with g|g
 ·rw[Bc g]at he;exact absurd he.1.2 Xu
 rcases g with rfl|rfl|rfl|rfl|rfl|rfl|rfl|rfl|rfl|rfl|rfl|rfl|rfl|rfl|rfl|rfl|rfl|rfl|rfl|rfl|rfl|rfl|rfl
 all_goals simp only[bR,Int.reduceEq,if_true,if_false,or_true,true_or,or_false,or_self,↓reduceIte,bE,WP,bC]at h ⊢
 all_goals try rw[hset]at h
 all_goals first
  |exact h
  |skip
 ·
  unfold jh at h;split at h
  ·unfold F6 at h;by_cases e:(dN s.threads o wake).toNat=j
   ·rw[e]at h;rcases VO j s.threads.length with g|g
    ·simp[List.getD,g]at h
    ·simp[List.getD,Wn,g]at h;simp[List.getD,VP g];exact h
   ·simpa[List.getD,Wn,e]using h
  ·exact h
 ·
  unfold ID at h;rcases VO j s.threads.length with g|g
  ·simp only[List.getD,fx _ _ _ _ g,Xh]at h;split at h
   ·exact absurd h Xu
   ·simpa[List.getD,g]using h
  ·have:(da s.threads o s.threads.length)[j]? =none:=VP (by rw[db];exact g);simp[List.getD,this]at h;simp[List.getD,VP g];exact h
 ·
  by_cases e:o.toNat=j
  ·rw[e]at h;rcases VO j s.threads.length with g|g
   ·simp[List.getD,g]at h
   ·simp[List.getD,Wn,g]at h;simp[List.getD,VP g];exact h
  ·simpa[List.getD,Wn,e]using h
structure FE(c:bI)(s:dE):Prop where
 th:s.threads.length=c.ts.length
 sy:s.sync.threads.length=c.ts.length
 pc:∀t:Nat,t<c.ts.length→inB (bz s t).pc (az c t).ins.length=true∧((bz s t).regs.length:Int)=(az c t).regs
 run:∀t:Nat,t<c.ts.length→(bE s.sync t).status=2→lT (cM (az c t) (bz s t).pc).op≠0
theorem SL{op:Int}(h1:6≤op)(h2:op≤28):lT op≠0:=by
 have:∀k:Nat,k<29→6≤k→ja.getD k 0≠0:=by decide
 unfold lT;exact this op.toNat Xr Xr
theorem MC{c:bI}{s s':dE}{t wake:Int}{e':dD}(h:nH c s t wake=some (s',e')):∃(e:dD) (th':aU),cJ c s t=some e∧bv c.w s.sync t e.kind e.obj=true∧s'.sync=(bR c.w s.sync t e.kind e.obj wake).1∧s'.threads=s.threads.set t.toNat th'∧
  ((e.kind=16∨e.kind=2)∧th'.pc=(bz s t).pc∧th'.regs.length=(bz s t).regs.length∨∃a,bN (az c t) a=(th',true)):=by
 rw[Hm]at h;cases hp:cJ c s t with
 |none=>rw[hp]at h;cases h
 |some e=>
  rw[hp]at h;dsimp only at h;split at h
  ·split at h
   ·rename_i hr;have hen:bv c.w s.sync t e.kind e.obj=true:=by
     unfold fy at hr;split at hr
     ·assumption
     ·cases hr
    have hap:(fy c.w s.sync t e.kind e.obj wake).1=(bR c.w s.sync t e.kind e.obj wake).1:=by unfold fy;rw[if_pos hen]
    unfold xI at h;split at h
    ·split at h
     ·rename_i hz;cases h;exact⟨e,_,rfl,hen,hap,rfl,.inr ⟨_,Prod.ext rfl hz⟩⟩
     ·cases h
    ·rename_i hk;cases h;have hk2:e.kind=16∨e.kind=2:=by omega
     refine⟨e,_,rfl,hen,hap,rfl,.inl ⟨hk2,?_,LD.2.1⟩⟩;unfold dP;rw[if_neg Xr,if_neg Xr,if_neg Xr,if_neg Xr,if_neg Xr,if_neg Xr,if_pos Xr]
   ·cases h
  ·cases h
theorem ON(w:aM)(s:SyncD)(t k o wake:Int):(bR w s t k o wake).1.threads.length=s.threads.length:=by
 unfold bR
 repeat' refine iteInduction (motive:=λx:SyncD×Int=>x.1.threads.length=s.threads.length) (λ_=>?_) (λ_=>?_)
 all_goals simp[bC,zQ,db,ID]
theorem Er{c:bI}{t:Nat}(h:t<c.ts.length):az c t=c.ts[t]:=by simp[az,h]
theorem OO{c:bI}{s s':dE}{t wake:Int}{e':dD}(hc:jy c)(H:FE c s)(h:nH c s t wake=some (s',e')):FE c s':=by
 obtain⟨e,th',hp,hen,hsy,hth,hz⟩:=MC h;have htl:inB t c.ts.length=true:=by
  unfold cJ at hp;split at hp
  ·rename_i hr;exact(kv hr).1
  ·cases hp
 obtain⟨t0,t1⟩:=aw.1 htl;have hts:∀j:Nat,bz s' j=if(j:Int)=t then th' else bz s j:=λj=>by
  unfold bz;rw[hth,WP];by_cases e:(j:Int)=t
  ·have:t.toNat=j:=by omega
   have hj:j<s.threads.length:=by rw[H.th];omega
   rw[if_pos e,this];simp[List.getD,hj]
  ·have:t.toNat≠j:=by omega
   rw[if_neg e];simp[List.getD,Wn,this]
 have hpc:=H.pc t.toNat Xr;rw[Int.toNat_of_nonneg t0]at hpc;have key:inB th'.pc (az c t).ins.length=true∧(th'.regs.length:Int)=(az c t).regs:=by
  rcases hz with⟨_,h1,h2⟩|⟨a,h1⟩
  ·rw[h1,h2];exact hpc
  ·obtain⟨q1,_,q3⟩:=Bi h1;exact⟨q1,q3⟩
 refine⟨by rw[hth,Xk];exact H.th,by rw[hsy,ON];exact H.sy,λj hj=>?_,λj hj hs=>?_⟩
 ·rw[hts];by_cases e:(j:Int)=t
  ·rw[if_pos e,e];exact key
  ·rw[if_neg e];exact H.pc j hj
 ·rw[hts];by_cases e9:(j:Int)=t
  ·rw[if_pos e9,e9];rw[hsy,e9]at hs;rcases hz with⟨hk,_,_⟩|⟨a,h1⟩
   ·exfalso;have hj2:t.toNat<s.sync.threads.length:=by rw[H.sy];omega
    rcases hk with hk|hk
    ·rw[hk]at hs;simp[bR,bE,bC,hj2]at hs
    ·rw[hk]at hs;simp[bR,bE,bC,hj2]at hs
   ·obtain⟨q1,q2,q3⟩:=Bi h1;obtain⟨p0,p1⟩:=aw.1 q1;have hT:=hc.thr t.toNat Xr;have hce:az c t=c.ts[t.toNat]'Xr:=by have:=Er (c:=c) (t:=t.toNat) Xr;rw[Int.toNat_of_nonneg t0]at this;exact this
    rw[hce]at q1 q2 p1 ⊢;have hi:=hT.ins th'.pc.toNat Xr;have hia:cM (c.ts[t.toNat]'Xr) th'.pc=(c.ts[t.toNat]'Xr).ins[th'.pc.toNat]'Xr:=by
     unfold cM;have:th'.pc.toNat<(c.ts[t.toNat]'Xr).ins.length:=by omega
     simp[List.getD,this]
    rw[hia]at q2 ⊢;have h1:=hi.lo;have h2:=hi.hi;exact SL Xr h2
  ·rw[if_neg e9];refine H.run j hj ?_;rw[hsy]at hs;exact SK hen j e9 hs
theorem MD{c:bI}(hc:jy c):FE c (cG c):=by
 have hl:=hc.len;refine⟨by simp[cG],?_,λt ht=>?_,λt ht hs=>?_⟩
 ·unfold cG cW;simp[hl]
 ·have hT:=hc.thr t ht;have hts:bz (cG c) t=⟨0,List.replicate (c.ts[t]).regs.toNat 0,List.replicate (c.ts[t]).regs.toNat [],0⟩:=by simp[bz,cG,ht]
  rw[hts,Er ht];have:=hT.ne;have:=hT.r0;exact⟨aw.2 ⟨Xu,by simp;omega⟩,by simp;omega⟩
 ·exfalso;unfold cG cW bE at hs;dsimp only at hs;rw[Int.toNat_natCast]at hs;have ht2:t<c.w.threads.length:=by omega
  rcases t with _|t
  ·simp[List.getD,ht2]at hs
  ·simp[List.getD,Wn,ht2]at hs
theorem SM{c:bI}{p:List dD×dE}{ch:dU}(hc:jy c)(h:FE c p.2):FE c (LA c p ch).2:=by
 unfold LA;split
 ·exact h
 ·split
  ·exact h
  ·rename_i n e hs;exact OO hc h hs
theorem Qh{c:bI}(hc:jy c)(l:List dU){p:List dD×dE}(h:FE c p.2):FE c (fM c l p).2:=by
 induction l generalizing p with
 |nil=>exact h
 |cons ch l ih=>exact ih (SM hc h)
end
section
set_option maxRecDepth 100000
def xK(b c:AV)(L:SH)(Q:R):Prop:=W.len b λd=>wb .gtr 3 d (.Xw 200) λa=>bH a false c L λe f=>wg a false (W.len e) f λg h=>wg a false (wb .gtr 3 g (.Xw 100)) h λi j=>W.pick a (.bool true) i λk=>Q k j
theorem FF(t0 t1:AV)(L:SH)(Q:R)(h:xK t0 t1 L Q):af Tryz.prog 6 [t0,t1] L Q:=
 fs [] [] [] [] Tryz.func6 h
def xL(Q:R)(f:SH)(b g:AV):Prop:=wb .geq 3 b (.Xw 0) λa=>bH a true b f λh i=>wg a true (W.faddr 6 g) i λj c=>wg a true (wl j c) c λk l=>wg a true (W.len k) l λm n=>wg a true (wb .lss 3 h m) n λo d=>W.pick a o (.bool false) λe=>W.grd e true (λp=>wc (.fn 10 []) [] d λq r=>p q r) d λs t=>W.pick e s (.bool false) λu=>Q u t
def xM(Q:R)(j u v k:AV)(w:SH):Prop:=W.ext 0 k λx=>W.ext 1 k λy=>o6 [(.Xw 0),(.Xw 0),(.Xw 0),(.Xw 0),(.Xw 0),.nils,.nils] 7 x w λd0 b=>W.faddr 0 j λz=>aB 3 z b λA=>eB 3 0 A u b λc=>(true=true)∧(wb .eql 3 c (.Xw 1) λd=>W.dgrd d false (λB=>B c b rz) b λC l d1=>W.dgrd d false (λD=>wb .eql 3 C (.Xw 2) λE=>D E l rz) l λF m d2=>W.pick d (.bool true) F λe=>W.dgrd e false (λG=>G c m rz) m λH n d3=>W.dgrd e false (λI=>wb .eql 3 H (.Xw 4) λJ=>I J n rz) n λM o d4=>W.pick e (.bool true) M λN=>wb .eql 4 y N λa=>W.dgrd a true (λO=>W.faddr 0 j λP=>O P o rz) o λS f d5=>W.dgrd a true (λT=>dr [] 14 4 S f λU V=>T U f V) f λX g Y=>W.dgrd a true (λZ=>wd [] 15 (.fn 14 []) [X,(.Xw 0)] g λa0 a1 a2=>wn [] a2 [] g.names λa3=>Z a0 a1 a3) g λa4 p a5=>W.dgrd a true (λa6=>W.len a4 λa7=>a6 a7 p rz) p λa8 q d6=>W.dgrd a true (λa9=>W.faddr 6 v λb0=>a9 b0 q rz) q λb1 h d7=>W.dgrd a true (λb2=>dl [rc 15 a5,rm 14 Y] 18 b1 h λb3 b4=>b2 b3 h b4) h λb5 r d8=>W.dgrd a true (λb6=>W.len b5 λb7=>b6 b7 r rz) r λb8 s d9=>W.dgrd a true (λb9=>wb .leq 3 a8 b8 λc0=>b9 c0 s rz) s λc1 i e0=>W.pick a c1 (.bool false) λt=>W.dgrd t true (λc2=>wd [] 23 (.fn 10 []) [] i λc3 c4 c5=>wn [] c5 [] i.names λc6=>c2 c3 c4 c6) i λc7 c8 e1=>W.pick t c7 (.bool false) λc9=>Q c9 c8)
def xN(Q:R)(j:SH)(c d f:AV):Prop:=wb .lss 3 c (.Xw 0) λb=>bH b false c j λk l=>wg b false (W.faddr 6 d) l λm g=>wg b false (wl m g) g λn o=>wg b false (W.len n) o λp q=>wg b false (wb .geq 3 k p) q λr s=>W.pick b (.bool true) r λa=>wg a false (W.faddr 0 f) s λt u=>wg a false (W.faddr 3 t) u λv h=>wg a false (wl v h) h λw x=>wg a false (W.len w) x λy z=>wg a false (W.faddr 6 d) z λA i=>wg a false (wl A i) i λB C=>wg a false (W.len B) C λD E=>wg a false (wb .neq 3 y D) E λF e=>W.pick a (.bool true) F λG=>wk G (wc (.fn 10 []) [] e λH I=>Q H I) (bS 7 d e λJ=>bS 7 f e λM=>wc (.fn 13 []) [J,M,c] e (xM Q f c d))
def xO(Q:R)(i j k c:AV)(l:SH):Prop:=W.ext 0 c λm=>W.ext 1 c λn=>W.ext 2 c λa=>W.alloc [.nils,(.Xw 0),.nils,.nils,.nils,.nils,.nils] l λd o=>W.alloc [(.Xw 0),(.Xw 0),(.Xw 0),(.Xw 0),(.Xw 0),.nils,.nils] o λe p=>W.store 7 d m p λq=>W.store 7 e n q λr=>W.frz1 d r λs t=>W.frz1 e t λu v=>wg a false (W.faddr 6 s) v λw f=>wg a false (wl w f) f λx y=>wg a false (W.len x) y λz A=>wg a false (wb .neq 3 z (.Xw 0)) A λB C=>W.pick a (.bool true) B λb=>wg b false (W.faddr 1 u) C λD g=>wg b false (wl D g) g λE F=>wg b false (wb .neq 3 E (.Xw 0)) F λG h=>W.pick b (.bool true) G λH=>wk H (Q (.bool false) h) ((xN Q h i j k))
def xP(Q:R)(a:SH)(b c d:AV):Prop:=bS 7 b a λe=>bS 7 c a λf=>W.build [(.Xw 0),(.Xw 0)] [(0,1,d),(1,1,(.Xw (-1)))] λg=>wc (.fn 12 []) [e,f,g] a (xO Q d b c)
def ge(Q:R)(a b d e:AV)(c:SH):Prop:=wk e ((xL Q c a b)) ((xP Q c b d a))
def xQ(Q:R)(k:SH)(l d:AV)(e f:Fp)(g:AV)(m:SH)(n:Ns):Prop:=wn [] n [] k.names λh=>W.ext 0 g λo=>W.ext 1 g λp=>W.calm [rc 3 h,rc 2 e,rm 0 f] ⟨7,[],[],[],false,[]⟩ (W.alloc [.nils,.nils,.nils,.nils,.nils,.nils,.nils] m λa q=>wn [] [] (aa a) [] λr=>W.calm [rm 7 r,rc 3 h,rc 2 e,rm 0 f] ⟨8,[],[],[],false,[]⟩ (W.alloc [.nils,(.Xw 0),.nils,.nils,.nils,.nils,.nils] q λb s=>wn [] [] (aa b) [] λy=>ds [] 9 7 a o s λt z=>ds [] 10 7 b p t λu A=>W.frz1 a u λB v=>W.frz1 b v λi c=>W.conv .i64 l λj=>bS 7 d c λw=>bS 7 i c λx=>wc (.fn 11 []) [w,x,j] c (ge Q j d i)))
def xR(Q:R)(b:SH)(c d e:AV)(f:Fp)(g:AV)(a:SH)(h:Ns):Prop:=wn [] h [] b.names λi=>wd [] 3 (.fn 8 []) [d,g] a (xQ Q a c e i f)
def xS(Q:R)(d e f:AV)(g:SH):Prop:=o6 [.nils,.nils,.nils,.nils,.nils,.nils,.nils] 7 f g λb a=>(true=true)∧(dr [] 0 7 b a λh c=>wd [rm 0 c] 2 (.fn 9 []) [d] a (xR Q a e h b c))
def xT(Q:R)(b c d e:AV)(a:SH):Prop:=wk e (Q (.bool true) a) (wc (.fn 7 []) [b] a (xS Q c d))
def lY(a b c:AV)(L:SH)(Q:R):Prop:=wc (.fn 6 []) [a,b] L (xT Q a b c)
theorem xU(t0 t1 t2:AV)(L:SH)(Q:R)(h:lY t0 t1 t2 L Q):af Tryz.prog 4 [t0,t1,t2] L Q:=
 fs [] [] [(3,[7]),(4,[8,9]),(8,[11,12]),(13,[14])] [(4,[0,0,2,7,15,31,31,0,0,447,1023]),(15,[0,0,2,6,14,30,62,126,254,510,1022,2047,4095,8191,16383,32767,65535,8191,139263,401407,1048575,2097151,4194303,8388607,16777215,33554431])] Tryz.func4 h
def Cn(i:Kn)(a:SH)(d e b:AV):Prop:=(true=true)∧(di [] 3 1 d e a λj f=>dl [] 4 j a λk g=>W.conv .i64 k λl=>wb .rem 3 l (.Xw 4) λm=>di [rm 4 g,rm 3 f] 9 1 d e a λn x=>dl [rm 4 g,rm 3 f] 10 n a λo y=>W.conv .i64 o λp=>wb .quo 3 p (.Xw 4) λq=>wb .rem 3 q (.Xw 5) λr=>wb .sub 3 r (.Xw 1) λs=>W.build [(.Xw 0),(.Xw 0)] [(0,1,m),(1,1,s)] λt=>W.calm [] ⟨16,[],[],[],false,[]⟩ (W.bslice 2 [(.Xw 0),(.Xw 0)] 1 [(0,t)] a λc u=>wn [] [] (aa c) [] λz=>W.calm [] ⟨17,(aa b++aa c),(aa b),[],false,[]⟩ (W.append 2 16 b c u λh v=>wn (aa b++aa c) (aa b) (aa h) [] λA=>wb .add 3 e (.Xw 1) λw=>i [d,h,w] v)))
def nL(Q:R)(e:Vs)(a:SH)(f:Kn):Prop:=wq 0 3 4 e λb c d=>W.len b λg=>wb .lss 3 d g λh=>wk h ((Cn f a b d c)) (Q c a)
def pX(a:AV)(L:SH)(Q:R):Prop:=W.loop (nL Q) [a,.nils,(.Xw 0)] L
theorem Co(t0:AV)(L:SH)(Q:R)(h:pX t0 L Q):af Tryz.prog 9 [t0] L Q:=
 fs [] [(3,[0,3,4])] [] [(5,[0,0,0,6,14,30,62,0,0,384,896,1920,3968,8064,16256,32766,65534,131071,262143])] Tryz.func9 h
end
section
set_option maxRecDepth 100000
theorem af.pure{P:Program}{f:FuncId}{args:List AV}{Q:AV→SH→Prop}(h:af P f args [] Q)(ha:∀a∈args,aX a)(hv:∀u K,Q u K→aX u):∃v K,Q v K∧ax P f args v:=by
 obtain⟨v,H',L',h1,h2,h3⟩:=h.2 ac.empty (λb _=>cS b) ⟨WT,nofun⟩;have hV:K0 P f args v:=λw σ vs hW hvs=>(h1 w σ vs hW hvs).mono λe w' ⟨v',σ',he,k1,k2,k3,k4⟩=>⟨v',σ',H',he,k1,k3⟩
 exact⟨v,L',h3,h.1,λH hb hs=>⟨v,H,[],Tt (hv _ _ h3) (λi a hi=>ha a (Wo hi)) hV H,.refl hb hs,rfl,rfl⟩⟩
theorem aX.lsts{rows:List (List AV)}(h:∀r∈rows,∀a∈r,aX a):aX (.lst rows):=.lst rows λi r j a h1 h2=>h r (Wo h1) a (Wo h2)
theorem aX.lmap{α:Type}{f:α→List AV}{l:List α}(h:∀x∈l,∀a∈f x,aX a):aX (.lst (l.map f)):=.lsts λr hr=>by obtain⟨x,hx,rfl⟩:=Wm.1 hr;exact h x hx
theorem aX.aggs{cs:List AV}(h:∀a∈cs,aX a):aX (.agg cs):=.agg cs λi a hi=>h a (Wo hi)
theorem aX.tups{cs:List AV}(h:∀a∈cs,aX a):aX (.tup cs):=.tup cs λi a hi=>h a (Wo hi)
theorem lZ(s:aZ):∀a∈aq s,aX a:=λa h=>by rw[VR.1 h];exact .str _
mutual
theorem ao.pure:∀x:ao,∀a∈x.enc,aX a
 | .mk op n name l=>by have:=ao.pures l;simp only[ao.enc,Wp,Wi,false_implies,implies_true,and_true];exact⟨.int _ _,.int _ _,.str _,.lsts this⟩
theorem ao.pures:∀l:List ao,∀r∈ao.encs l,∀a∈r,aX a
 |[]=>nofun
 | x::l=>by simp only[ao.encs,Wp];exact⟨ao.pure x,ao.pures l⟩
end
mutual
theorem ab.pure:∀x:ab,∀a∈x.enc,aX a
 | .mk op line name arg index e body els=>by
  have h1:=ab.pures body;have h2:=ab.pures els
  simp only[ab.enc,Wp,Wi,false_implies,implies_true,and_true];exact⟨.int _ _,.int _ _,.str _,.str _,.lmap λx _=>x.pure,.int _ _,.int _ _,.str _,.lmap λx _=>x.pure,.lsts h1,.lsts h2⟩
theorem ab.pures:∀l:List ab,∀r∈ab.encs l,∀a∈r,aX a
 |[]=>nofun
 | x::l=>by simp only[ab.encs,Wp];exact⟨ab.pure x,ab.pures l⟩
end
theorem aG.pure(d:aG):∀a∈d.enc,aX a:=by simp only[aG.enc,Wp,Wi,false_implies,implies_true,and_true];exact⟨.int _ _,.int _ _,.str _,.int _ _,.int _ _,.str _⟩
theorem ah.pure(d:ah):∀a∈d.enc,aX a:=by simp only[ah.enc,Wp,Wi,false_implies,implies_true,and_true];exact⟨.str _,.int _ _,.lmap λx _=>lZ x,.lmap λx _=>x.pure⟩
theorem bQ.pure(p:bQ):aX (.agg p.enc):=.aggs (by
 simp only[bQ.enc,Wp,Wi,false_implies,implies_true,and_true];exact⟨.lmap λx _=>x.pure,.lmap λx _=>x.pure⟩)
theorem OP(e ln:Int):aX (.tup [.Xw e,.Xw ln]):=.tups (by
 simp only[Wp,Wi,false_implies,implies_true,and_true];exact⟨.int _ _,.int _ _⟩)
theorem aG.wt_pos(d:aG):1≤d.wt:=by unfold aG.wt;omega
theorem ah.wt_pos(d:ah):1≤d.wt:=by unfold ah.wt;omega
theorem ah.local_len(t:ah){i:Nat}(h:i<t.locals.length):t.locals[i].length<t.wt:=by have:=CE (f:=List.length) t.locals i h;unfold ah.wt;omega
theorem bQ.decl_wt(p:bQ){i:Nat}(h:i<p.decls.length):p.decls[i].wt≤p.wt:=by have:=CE (f:=aG.wt) p.decls i h;unfold bQ.wt;omega
theorem bQ.thread_wt(p:bQ){i:Nat}(h:i<p.threads.length):p.threads[i].wt≤p.wt:=by have:=CE (f:=ah.wt) p.threads i h;unfold bQ.wt;omega
theorem bQ.decls_len(p:bQ):p.decls.length≤p.wt:=by have:=GQ aG.wt_pos p.decls;unfold bQ.wt;omega
theorem bQ.threads_len(p:bQ):p.threads.length≤p.wt:=by have:=GQ ah.wt_pos p.threads;unfold bQ.wt;omega
theorem tt{α:Type}{p:α→Bool}:∀(l:List α) (j:Nat),(mF p l j=-1∧l.find? p=none)∨∃(k:Nat) (h:k<l.length),mF p l j=(j+k:Nat)∧l.find? p=some l[k]
 |[],_=>.inl ⟨rfl,rfl⟩
 | x::l,j=>by
  by_cases h:p x=true
  ·exact .inr ⟨0,Xu,by simp[mF,h],by simp[h]⟩
  ·rcases tt (p:=p) l (j+1)with⟨h1,h2⟩|⟨k,h1,h2,h3⟩
   ·exact .inl ⟨by simp[mF,h,h1],by simp[h,h2]⟩
   ·refine .inr ⟨k+1,by simpa using h1,?_,by simpa[h]using h3⟩;simp only[mF,h,Wd,if_false,h2];congr 1;omega
theorem gf{α:Type}{f:α→List AV}{l:List α}{n i:Nat}{k:IntKind}{L:SH}{K:AV→Prop}(h:K (.lst ((l.take i).map f)))(hi:i≤l.length:=by omega)(hn:∀x,(f x).length=n:=by intro x;rfl):W.slice n (.lst (l.map f)) none (some (.int k (i:Int))) none L K:=by
 refine L8 (l:=0) (h:=i) rfl ?_ (WF _) (by simpa using hi) (λr hr=>?_) ?_
 ·simp[cD,m6]
 ·cases l with
  |nil=>cases hr
  |cons x l=>simp at hr;rw[←hr];exact hn x
 ·simpa[List.map_take]using h
theorem Kv{k:IntKind}{a b:Int}{K:AV→Prop}(h:K (.int k (if b > a then b else a))):W.mnx true (.int k a) (.int k b) K:=by rw[QM];exact h
theorem OQ{k:IntKind}{s:Int}{K:AV→Prop}(h:K (.int k (((max s 1).toNat:Nat):Int))):W.mnx true (.int k s) (.int k 1) K:=by
 rw[QM];have:(if(1:Int) > s then(1:Int)else s)=(((max s 1).toNat:Nat):Int):=by split<;>omega
 rw[this];exact h
structure mZ where
 t:Nat
 o1:Option Nat
 ar:List ab
 k:Nat
 o2:Option Nat
 sp:List aZ
 o3:Option Nat
 se:List aZ
def mZ.row(p:bQ)(s:mZ):List AV:=[.lst (p.decls.map aG.enc),.lst (p.threads.map ah.enc),.Xw s.t,am s.o1 s.k,am s.o2 s.sp.length,am s.o3 s.se.length]
def mZ.L(p:bQ)(bw:Nat)(s:mZ):SH:=(bw,⟨6,[s.row p]⟩)::(ae s.o1 11 (s.ar.map ab.enc)++(ae s.o2 1 (s.sp.map aq)++ae s.o3 1 (s.se.map aq)))
structure mZ.Ok(s:mZ)(m:Nat):Prop where
 a0:s.o1=none→s.ar=[]
 ak:s.k≤s.ar.length
 k6:s.k≤6
 p0:s.o2=none→s.sp=[]
 e0:s.o3=none→s.se=[]
 pm:s.sp.length≤m
 em:s.se.length≤m
theorem af.permR{P:Program}{f:FuncId}{args:List AV}{L:SH}{Q:AV→SH→Prop}(h:af P f args L λv L'=>∃L'',L'.Perm L''∧Q v L''):af P f args L Q:=⟨h.1,λH hb hs=>by
 obtain⟨v,H',L',h1,h2,L'',hp,h3⟩:=h.2 H hb hs;exact⟨v,H',L'',h1,h2.permS hp,h3⟩⟩
theorem af.within{P:Program}{f:FuncId}{args:List AV}{K L R:SH}{α:Type}{F:α→AV}(h:af P f args K λu K'=>∃r,u=F r∧K'=K)(hp:L.Perm (K++R)):af P f args L λu K'=>∃r,u=F r∧K'=L:=
 af.permR (h.frame hp λv K' ⟨r,h1,h2⟩=>⟨L,by rw[h2];exact hp.symm,r,h1,rfl⟩)
theorem ab.wts_succ{l:List ab}{i:Nat}(h:i<l.length):ab.wts (l.take (i+1))=ab.wts (l.take i)+l[i].wt:=by
 rw[VV h];generalize l.take i=m
 induction m with
 |nil=>simp[ab.wts]
 |cons y m ih=>simp only[W2,ab.wts,ih];omega
theorem ab.wts_take(l:List ab)(i:Nat):ab.wts (l.take i)≤ab.wts l:=by
 induction l generalizing i with
 |nil=>simp
 | cons x l ih=>cases i with
  |zero=>simp[ab.wts]
  |succ i=>have:=ih i;simp only[List.take_succ_cons,ab.wts];omega
theorem CF{o:Option Nat}{k:Nat}{K:AV→Prop}(h:K (.Xw (k:Int)))(h0:o=none→k=0):W.len (am o k) K:=by
 cases o with
 |none=>rw[h0 rfl]at h;exact GJ h
 |some b=>exact GG h
theorem Jn{KL:R}{L L':SH}{o:Option Nat}{i n by_ bX:Nat}{rows m:List (List AV)}{r:List AV}(hX:(bX,(⟨n,m⟩:Blk))∈L)(hm:m=[r])(hd:dM o n rows L L')(hr:i≤rows.length)(h0:o=none→rows=[])(hb:i≤1000)(hby:by_≤1000)(h4:r.all AV.one=true)
  (h:∀b,b∉L.names→KL (.sl b 0 (i+1)) ((b,⟨n,rows.take i++[r]⟩)::L')):W.append n by_ (am o i) (.sl bX 0 1) L KL:=by
 subst hm;have e1:2*(i+(0+1))*by_≤2*(1000+1)*1000:=Nat.mul_le_mul Xr hby
 have e2:2*(0+1)*by_≤2*(0+1)*1000:=Nat.mul_le_mul Xr hby
 cases o with
 |none=>
  have hr0:=h0 rfl;subst hr0;obtain rfl:i=0:=by simpa using hr
  have hl:=hd.none';subst hl;exact GI (KL:=KL) (by_:=by_) (mD hX rfl rfl) (by show 2*(0+1)*by_≤2^48;omega) Xu (by simpa using h4) Xu (λb hb=>by simpa using h b hb)
 |some b=>
  refine qh (y:=⟨n,rows⟩) (l:=rows.take i) hd.some'.mem' rfl (by simpa using hr) Xu (mD hX rfl rfl) ?_ ?_ (by simpa using h4) hd.some' (λb' hb=>?_)
  ·rw[We,Wz hr];simp only[V8,Wg];omega
  ·rw[We,Wz hr];simp only[V8,Wg];omega
  ·rw[We,Wz hr];exact h b' hb
theorem SN{α:Type}(a t b:α)(R:List α):(a::t::b::R).Perm ((b::([a]++R))++[t]):=by have h:(a::t::b::R).Perm ([t]++(b::([a]++R))):=(List.Perm.swap t a _).trans ((List.Perm.swap b a R).cons t);exact h.trans Wf
theorem At{n b k m:Nat}{kd:IntKind}{y:Blk}{L:SH}{K:AV→Prop}(h:K (.sl b 0 k))(hh:k≤m)(hm:(b,y)∈L)(hs:y.size=n):W.slice n (.sl b 0 m) none (some (.int kd (k:Int))) none L K:=by refine zn (l:=0) (h:=k) rfl (by simp[cD,m6]) (WF _) hh hm hs ?_;simpa using h
def Hp:List AV:=[.Xw 0,.Xw 0,.str [],.str [],.nils,.Xw 0,.Xw 0,.str [],.nils,.nils,.nils]
theorem FG{α:Type}{f:α→Nat}{l:List α}{i:Nat}(h:i<l.length):((l.take (i+1)).map f).sum=((l.take i).map f).sum+f l[i]:=by rw[VV h,VQ,List.sum_append];simp
def gD{α:Type}(f:α→Nat)(l:List α):Nat:=(l.map f).sum
theorem Kw{α:Type}{f:α→Nat}{l:List α}{i:Nat}(h:i<l.length):gD f (l.take (i+1))=gD f (l.take i)+f l[i]:=FG h
theorem Es{α:Type}(f:α→Nat)(l:List α)(i:Nat):gD f (l.take i)≤gD f l:=by
 unfold gD
 induction l generalizing i with
 |nil=>simp
 | cons x l ih=>cases i with
  |zero=>simp
  |succ i=>have:=ih i;simp only[List.take_succ_cons,VM,WJ];omega
theorem Jo{α:Type}{f g:α→Nat}(h:∀x,f x≤g x)(l:List α):gD f l≤gD g l:=by
 unfold gD
 induction l with
 |nil=>simp
 |cons x l ih=>have:=h x;simp only[VM,WJ];omega
theorem xV{P:Program}{g:FuncId}{args:List AV}{K M L:SH}{R1:AV→SH→Prop}{KL:R}(h:af P g args K R1)(hL:L.Perm (K++M))(hq:∀v K',R1 v K'→∃L'',(K'++M).Perm L''∧KL v L''):W.callM P g args L KL:=⟨af.permR (h.frame hL hq)⟩
theorem CG{n:Nat}{rows:List (List AV)}:ae none n rows=[]:=rfl
theorem CH{b n:Nat}{rows:List (List AV)}:ae (some b) n rows=[(b,⟨n,rows⟩)]:=rfl
theorem m0{P:Program}{g:FuncId}{args:List AV}{i:Nat}{L:SH}{KN:AV→SH→List Nat→Prop}(h:W.callM P g args L (λv K=>∀ks,KN v K ks)):W.dcallM P [] i g args L KN:=
 ⟨L,[],Xu,nofun,h.1.mono λv K' hr=>by simpa using hr _⟩
mutual
def ab.cnt:ab→Nat
 |.mk _ _ _ _ _ _ body els=>ab.cnts body+ab.cnts els
def ab.cnts:List ab→Nat
 |[]=>0
 |x::l=>1+x.cnt+ab.cnts l
end
theorem ab.cnt_eq(x:ab):x.cnt=ab.cnts x.body+ab.cnts x.els:=by cases x;rfl
mutual
theorem ab.cnt_wt:∀x:ab,x.cnt<x.wt
 |.mk a b c d e f body els=>by have:=ab.cnts_wt body;have:=ab.cnts_wt els;simp only[ab.cnt,ab.wt];omega
theorem ab.cnts_wt:∀l:List ab,ab.cnts l≤ab.wts l
 |[]=>VL _
 |x::l=>by have:=ab.cnt_wt x;have:=ab.cnts_wt l;simp only[ab.cnts,ab.wts];omega
end
def fj(b:UInt8):List AV:=[.int .u8 (b.toNat:Int)]
end
end Go.Proofs.YtdnpdghlggbklaaGreatDoor.Am
