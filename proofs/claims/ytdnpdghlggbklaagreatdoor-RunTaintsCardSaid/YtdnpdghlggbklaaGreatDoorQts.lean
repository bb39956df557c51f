/- A part of the proof; the statement is proved in the last part. -/
import Derived.Test.YtdnpdghlggbklaaGreatDoorQtr
set_option linter.unusedSimpArgs false
set_option linter.unusedVariables false
namespace Go.Proofs.YtdnpdghlggbklaaGreatDoor.Am
section
set_option maxRecDepth 100000
set_option maxHeartbeats 4000000
set_option linter.unusedSimpArgs false
theorem Od(w:aO)(h1:w.cells.length≤1000)(h2:w.locks.length≤1000)(h3:w.conds.length≤1000)(h4:w.futures.length≤1000)(h5:w.threads.length≤1000)(h6:w.sites.length≤1000):az Tryz.prog 23 [.agg w.enc] (.agg w.enc):=by
 have k1:=LX w.cells h1;have k2:=LY w.locks h2;have k3:=LZ w.conds h3;have k4:=FF w.futures h4;have k5:=FF w.threads h5;have k6:=L4 w.sites h6;refine af.fz (BC _ _ _ ?_);unfold oZ;generalize hQ:(λ(v:AV) (L:SH)=>∃v2 L2,aG [v] L [v2] L2∧v2=AV.agg w.enc∧L2=[])=Q;have hq:∀L,Q (.agg w.enc) L:=λL=>by subst hQ;exact⟨_,[],aG.all (.refl _),rfl,rfl⟩
 clear hQ;unfold aO.enc at *
 repeat' (first|refine st ?_|(refine pf 41 ?_;refine pm (k1) ?_)|(refine pf 42 ?_;refine pm (k2) ?_)|(refine pf 43 ?_;refine pm (k3) ?_)|(refine pf 44 ?_;refine pm (k4) ?_)|(refine pf 44 ?_;refine pm (k5) ?_)|(refine pf 45 ?_;refine pm (k6) ?_)|refine sb λnb_ hnb_=>?_|refine s2 (λh=>?_) λh=>?_|fail)
 exact hq _
theorem Oe(c:bB)(hc:HD c)(l:List dq)(hl:l.length<2^62)(hst:az Tryz.prog 40 [.agg c.enc] (.agg (bN c).enc))(h0:BD c 0 (bN c)):az Tryz.prog 22 [.agg c.enc,.lst (l.map dq.enc)] (Qt (cN c l)):=by
 refine af.fz (GV _ _ _ _ ?_);unfold zc;generalize hQ:(λ(v:AV) (L:SH)=>∃v2 L2,aG [v] L [v2] L2∧v2=Qt (cN c l)∧L2=[])=Q;have hq:∀v L,Fz L v (Qt (fg c l ([],bN c)))→Q v L:=λv L h=>by subst hQ;exact⟨_,[],aG.all h,rfl,rfl⟩
 clear hQ;have lp:=λb2 b9=>Qu c hc l hl (bN c) h0 b2 b9 Q hq
 have hce:c.enc=[.lst (c.w.cells.map bA.enc),.lst (c.w.locks.map cq.enc),.lst (c.w.conds.map db.enc),.lst (c.w.futures.map av),.lst (c.w.threads.map av),.lst (c.w.sites.map cQ.enc),.lst (c.ts.map hY.enc)]:=rfl;generalize bN c=s0 at *;have hse:s0.enc=[.lst (s0.sync.locks.map LockD.enc),.ZO s0.sync.tx,.lst (s0.sync.done.map bj),.lst (s0.sync.threads.map ThrD.enc),.lst (s0.cells.map aj),.lst (s0.futures.map aj),.lst (s0.threads.map aH.enc)]:=rfl;unfold bT at lp;rw[hce,hse]at *
 repeat' (first|exact lp _ _|refine st ?_|(refine pf 40 ?_;refine pm (hst) ?_)|refine sb λnb_ hnb_=>?_|refine s2 (λh=>?_) λh=>?_|fail)
theorem FG{c:bB}(h:mH c)(hl:∀t∈c.ts,t.ins.length<2^40):HD c where
 ins:=λx hx i hi=>by obtain⟨k,hk,rfl⟩:=List.mem_iff_getElem.1 hx;obtain⟨j,hj,rfl⟩:=List.mem_iff_getElem.1 hi;have:=(h.thr k hk).ins j hj;exact⟨this.lo,this.hi,this.regs⟩
 len:=hl
 con:=by have:=h.world.d2;omega
theorem KM{c:bB}(h:mH c):∀t∈c.ts,0≤t.regs∧t.regs≤1000:=λt ht=>by obtain⟨k,hk,rfl⟩:=List.mem_iff_getElem.1 ht;have:=h.thr k hk;have h0:=this.r0;have h32:=this.r32;exact⟨h0,ZJ⟩
theorem IP{c:bB}(h:mH c):BD c 0 (bN c):=by
 have hw:=h.world;refine⟨λx hx=>?_,?_,?_,λl hl=>?_,?_,?_,?_,?_⟩
 ·obtain⟨t,ht,rfl⟩:=YH.1 hx;have:=KM h t ht;exact⟨⟨ZM,by simp;omega,λl hl=>by rw[(List.mem_replicate.1 hl).2];simp,λl hl x hx=>by rw[(List.mem_replicate.1 hl).2]at hx;simp at hx⟩,Int.le_refl _,Int.le_refl _,by simp;omega⟩
 ·have:=h.len;have:=hw.t4;simp[bN];omega
 ·have:=hw.l4;simp[bN,cU];omega
 ·have:=(List.mem_replicate.1 hl).2;rw[this];simp
 ·have:=hw.f2;simp[bN,cU];omega
 ·have:=hw.t4;simp[bN,cU];omega
 ·have:=hw.c12;simp[bN];omega
 ·have:=hw.f2;simp[bN];omega
structure FH where
 w:aO
 ev:List aY
def FH.enc(t:FH):List AV:=[.lst (t.w.cells.map bA.enc),.lst (t.w.locks.map cq.enc),.lst (t.w.conds.map db.enc),.lst (t.w.futures.map av),.lst (t.w.threads.map av),.lst (t.w.sites.map cQ.enc),.lst (t.ev.map aY.enc)]
noncomputable def kI (c:bB) (l:List dq):FH×dw:=if nZ (mH c)then(⟨c.w,(cN c l).1⟩,(cN c l).2)else(⟨⟨[],[],[],[],[],[]⟩,[]⟩,dw.zero)
theorem Ni(c:bB)(hl:∀t∈c.ts,t.ins.length<2^40)(l:List dq)(hll:l.length<2^62):az Tryz.prog 8 [.agg c.enc,.lst (l.map dq.enc)] (.tup [.agg (kI c l).1.enc,.agg (kI c l).2.enc]):=by
 have hv:=Qj c λt ht=>by have:=hl t ht;omega
 refine af.fz (LT _ _ _ _ ?_);unfold HB;generalize hQ:(λ(v:AV) (L:SH)=>∃v2 L2,aG [v] L [v2] L2∧v2=AV.tup [.agg (kI c l).1.enc,.agg (kI c l).2.enc]∧L2=[])=Q;have hq:∀a b L,iV L a (kI c l).1.enc→iV L b (kI c l).2.enc→Q (.tup [.agg a,.agg b]) L:=λa b L h1 h2=>by subst hQ;exact⟨_,[],aG.all (Fz.tups (.cons (Fz.aggs h1) (.cons (Fz.aggs h2) .nil))),rfl,rfl⟩
 clear hQ;have hce:c.enc=[.lst (c.w.cells.map bA.enc),.lst (c.w.locks.map cq.enc),.lst (c.w.conds.map db.enc),.lst (c.w.futures.map av),.lst (c.w.threads.map av),.lst (c.w.sites.map cQ.enc),.lst (c.ts.map hY.enc)]:=rfl;cases hd:nZ (mH c)with
 |false=>
  rw[hd]at hv;have hr:kI c l=(⟨⟨[],[],[],[],[],[]⟩,[]⟩,dw.zero):=by unfold kI;rw[hd];rfl
  rw[hr]at hq;have hz:∀L,Q (.tup [.agg [.nils,.nils,.nils,.nils,.nils,.nils,.nils],.agg [.nils,.ZO 0,.nils,.nils,.nils,.nils,.nils]]) L:=λL=>hq _ _ L (by unfold FH.enc;exact fl) (by unfold dw.zero dw.enc M5;exact fl)
  rw[hce]at *
  repeat' (first|refine st ?_|(refine pf 21 ?_;refine pm (hv) ?_)|refine sb λnb_ hnb_=>?_|refine s2 (λh=>?_) λh=>?_|fail)
  exact hz _
 |true=>
  rw[hd]at hv;have hP:=jm.1 hd;have hw:=hP.world;have hr:kI c l=(⟨c.w,(cN c l).1⟩,(cN c l).2):=by unfold kI;rw[hd];rfl
  rw[hr]at hq;have hst:=N7 c (by have:=hw.c12;omega) (by have:=hw.l4;omega) (by have:=hw.f2;omega) (by have:=hw.t4;omega) (by have:=hP.len;have:=hw.t4;omega) (KM hP);have hf:=Oe c (FG hP hl) l hll hst (IP hP);have hcw:=Od c.w (by have:=hw.c12;omega) (by have:=hw.l4;omega) (by have:=hw.d2;omega) (by have:=hw.f2;omega) (by have:=hw.t4;omega) (by have:=hw.s60;omega);generalize cN c l=p at *;obtain⟨ev,s⟩:=p;unfold Qt at hf;have hwe:c.w.enc=[.lst (c.w.cells.map bA.enc),.lst (c.w.locks.map cq.enc),.lst (c.w.conds.map db.enc),.lst (c.w.futures.map av),.lst (c.w.threads.map av),.lst (c.w.sites.map cQ.enc)]:=rfl;have hse:s.enc=[.lst (s.sync.locks.map LockD.enc),.ZO s.sync.tx,.lst (s.sync.done.map bj),.lst (s.sync.threads.map ThrD.enc),.lst (s.cells.map aj),.lst (s.futures.map aj),.lst (s.threads.map aH.enc)]:=rfl;dsimp only at *;rw[hce]at *;rw[hwe]at hcw;rw[hse]at *;have hz:∀L,Q (.tup [.agg [.lst (c.w.cells.map bA.enc),.lst (c.w.locks.map cq.enc),.lst (c.w.conds.map db.enc),.lst (c.w.futures.map av),.lst (c.w.threads.map av),.lst (c.w.sites.map cQ.enc),.lst (ev.map aY.enc)],.agg [.lst (s.sync.locks.map LockD.enc),.ZO s.sync.tx,.lst (s.sync.done.map bj),.lst (s.sync.threads.map ThrD.enc),.lst (s.cells.map aj),.lst (s.futures.map aj),.lst (s.threads.map aH.enc)]]) L:=λL=>hq _ _ L (iV.refl _ _) (iV.refl _ _)
  repeat' (first|refine st ?_|(refine pf 21 ?_;refine pm (hv) ?_)|(refine pf 22 ?_;refine pm (hf) ?_)|(refine pf 23 ?_;refine pm (hcw) ?_)|refine sb λnb_ hnb_=>?_|refine s2 (λh=>?_) λh=>?_|fail)
  exact hz _
end
section
set_option linter.unusedSimpArgs false
def Sj(e:aY):Prop:=e.deps.length≤2^30∧e.frm.length≤2^30
theorem L5{i:bq}{s:aH}{t:Int}(h:∀r,(s.tnt r).length≤2^30):Sj (cm i s t):=by
 unfold cm Sj;dsimp only
 repeat' split
 all_goals first
  |exact⟨YK _,YK _⟩
  |exact⟨h _,YK _⟩
  |exact⟨YK _,h _⟩
  |exact⟨h _,h _⟩
theorem Of{U:List Int}{s:aH}(h:jF U s)(r:Int):(s.tnt r).length≤2^30:=by
 unfold aH.tnt;rcases X9 r.toNat s.taint.length with h1|h1
 ·simpa[h1]using h.short _ (Yr h1)
 ·simp[List.getD,X8 h1]
theorem L6{c:bB}{s:dw}{t:Int}{e:aY}{n:Nat}(H:BD c n s)(h:eF c s t=some e):Sj e:=by
 unfold eF at h;split at h
 ·rename_i hr;have hm:aI s t∈s.threads:=jq (d:=aH.zero) (eW hr).2.1;have ht:=λr=>Of (H.thr _ hm).1 r
  dsimp only at h;split at h
  ·cases h;exact⟨YK _,YK _⟩
  ·split at h
   ·cases h;exact⟨YK _,YK _⟩
   ·split at h
    ·split at h
     ·cases h;exact L5 ht
     ·cases h
    ·cases h
 ·cases h
theorem Qv{c:bB}{p:List aY×dw}{ch:dq}(H:BD c p.1.length p.2)(h:∀e∈p.1,Sj e):∀e∈(Jf c p ch).1,Sj e:=by
 unfold Jf;split
 ·exact h
 ·split
  ·exact h
  ·rename_i n e hs;intro x hx;rcases Yg.1 hx with hx|hx
   ·exact h x hx
   ·rw[Ye.1 hx];obtain⟨e0,th',hp,_,_,_,_,_,rfl⟩:=FE hs;have hs:=L6 H hp;exact hs
theorem Og{c:bB}(hc:HD c)(l:List dq){p:List aY×dw}(H:BD c p.1.length p.2)(hn:p.1.length≤400)(h:∀e∈p.1,Sj e):∀e∈(fg c l p).1,Sj e:=by
 induction l generalizing p with
 |nil=>exact h
 |cons ch l ih=>obtain⟨a,b⟩:=Qs (ch:=ch) hc H hn;exact ih a b (Qv H h)
theorem zk{c:bB}(h:mH c)(hl:∀t∈c.ts,t.ins.length<2^40)(l:List dq):(∀e∈(cN c l).1,Sj e)∧(cN c l).1.length≤400:=
 ⟨Og (FG h hl) l (IP h) (YK _) nofun,(Nh (FG h hl) l (p:=([],bN c)) (IP h) (YK _)).2⟩
theorem rB(c:bB)(hl:∀t∈c.ts,t.ins.length<2^40)(l:List dq):(∀e∈(kI c l).1.ev,Sj e)∧(kI c l).1.ev.length≤400:=by
 unfold kI;cases hd:nZ (mH c)with
 |true=>exact zk (jm.1 hd) hl l
 |false=>exact⟨nofun,YK _⟩
end
section
set_option linter.unusedSimpArgs false
theorem Oh{ins:List bq}:∀(k:Nat) {s y:aH},ef ins k s=(y,true)→inB y.pc ins.length=true∧((ins.getD y.pc.toNat default).op<1∨5<(ins.getD y.pc.toNat default).op):=by
 intro k
 induction k with
 |zero=>
  intro s y h;unfold ef at h
  repeat' split at h
  all_goals first
   |(cases h;exact⟨ZK,ZK⟩)
   |cases h
 |succ k ih=>
  intro s y h;unfold ef at h;split at h
  ·split at h
   ·cases h;exact⟨ZK,ZK⟩
   ·split at h
    ·cases h
    ·exact ih h
  ·cases h
theorem Ct{c:hY}{s y:aH}(h:aQ c s=(y,true)):inB y.pc c.ins.length=true∧((aT c y.pc).op<1∨5<(aT c y.pc).op)∧(y.regs.length:Int)=c.regs:=by
 have h2:=BE h;unfold aQ at h;split at h
 ·rename_i hr;have:=Oh _ h;exact⟨this.1,this.2,by rw[h2.2];exact hr.1⟩
 ·cases h
theorem UT{w:aO}{s:SyncD}{t k o wake:Int}(he:bn w s t k o=true)(j:Nat)(hj:(j:Int)≠t)(h:(aE (aU w s t k o wake).1 j).status=2):(aE s j).status=2:=by
 unfold bn at he;simp only[Yl]at he;have hin:=ax.1 he.1.1.2;have hset:∀x:ThrD,(s.threads.set t.toNat x).getD j default=s.threads.getD j default:=λx=>by
  have:t.toNat≠j:=by omega
  simp[List.getD,Yu,this]
 rcases kinds k with g|g
 ·rw[qq g]at he;exact absurd he.1.2 ZM
 rcases g with rfl|rfl|rfl|rfl|rfl|rfl|rfl|rfl|rfl|rfl|rfl|rfl|rfl|rfl|rfl|rfl|rfl|rfl|rfl|rfl|rfl|rfl|rfl
 all_goals simp only[aU,Int.reduceEq,if_true,if_false,or_true,true_or,or_false,or_self,↓reduceIte,aE,Y7,aZ]at h ⊢
 all_goals try rw[hset]at h
 all_goals first
  |exact h
  |skip
 ·
  unfold gu at h;split at h
  ·unfold Cn at h;by_cases e:(dt s.threads o wake).toNat=j
   ·rw[e]at h;rcases X9 j s.threads.length with g|g
    ·simp[List.getD,g]at h
    ·simp[List.getD,Yu,g]at h;simp[List.getD,X8 g];exact h
   ·simpa[List.getD,Yu,e]using h
  ·exact h
 ·
  unfold Cp at h;rcases X9 j s.threads.length with g|g
  ·simp only[List.getD,dX _ _ _ _ g,Zr]at h;split at h
   ·exact absurd h ZM
   ·simpa[List.getD,g]using h
  ·have:(de s.threads o s.threads.length)[j]? =none:=X8 (by rw[cV];exact g);simp[List.getD,this]at h;simp[List.getD,X8 g];exact h
 ·
  by_cases e:o.toNat=j
  ·rw[e]at h;rcases X9 j s.threads.length with g|g
   ·simp[List.getD,g]at h
   ·simp[List.getD,Yu,g]at h;simp[List.getD,X8 g];exact h
  ·simpa[List.getD,Yu,e]using h
structure KO(c:bB)(s:dw):Prop where
 th:s.threads.length=c.ts.length
 sy:s.sync.threads.length=c.ts.length
 pc:∀t:Nat,t<c.ts.length→inB (aI s t).pc (am c t).ins.length=true∧((aI s t).regs.length:Int)=(am c t).regs
 run:∀t:Nat,t<c.ts.length→(aE s.sync t).status=2→ij (aT (am c t) (aI s t).pc).op≠0
theorem UU{op:Int}(h1:6≤op)(h2:op≤28):ij op≠0:=by
 have:∀k:Nat,k<29→6≤k→dI.getD k 0≠0:=by decide
 unfold ij;exact this op.toNat ZJ ZJ
theorem Oi{c:bB}{s s':dw}{t wake:Int}{e':aY}(h:oX c s t wake=some (s',e')):∃(e:aY) (th':aH),eF c s t=some e∧bn c.w s.sync t e.kind e.obj=true∧s'.sync=(aU c.w s.sync t e.kind e.obj wake).1∧s'.threads=s.threads.set t.toNat th'∧
  ((e.kind=16∨e.kind=2)∧th'.pc=(aI s t).pc∧th'.regs.length=(aI s t).regs.length∨∃a,aQ (am c t) a=(th',true)):=by
 rw[DU]at h;cases hp:eF c s t with
 |none=>rw[hp]at h;cases h
 |some e=>
  rw[hp]at h;dsimp only at h;split at h
  ·split at h
   ·rename_i hr;have hen:bn c.w s.sync t e.kind e.obj=true:=by
     unfold fI at hr;split at hr
     ·assumption
     ·cases hr
    have hap:(fI c.w s.sync t e.kind e.obj wake).1=(aU c.w s.sync t e.kind e.obj wake).1:=by unfold fI;rw[if_pos hen]
    unfold uL at h;split at h
    ·split at h
     ·rename_i hz;cases h;exact⟨e,_,rfl,hen,hap,rfl,.inr ⟨_,Prod.ext rfl hz⟩⟩
     ·cases h
    ·rename_i hk;cases h;have hk2:e.kind=16∨e.kind=2:=by omega
     refine⟨e,_,rfl,hen,hap,rfl,.inl ⟨hk2,?_,IN.2.1⟩⟩;unfold bS;rw[if_neg ZJ,if_neg ZJ,if_neg ZJ,if_neg ZJ,if_neg ZJ,if_neg ZJ,if_pos ZJ]
   ·cases h
  ·cases h
theorem Qw(w:aO)(s:SyncD)(t k o wake:Int):(aU w s t k o wake).1.threads.length=s.threads.length:=by
 unfold aU
 repeat' refine iteInduction (motive:=λx:SyncD×Int=>x.1.threads.length=s.threads.length) (λ_=>?_) (λ_=>?_)
 all_goals simp[aZ,Bb,cV,Cp]
theorem FI{c:bB}{t:Nat}(h:t<c.ts.length):am c t=c.ts[t]:=by simp[am,h]
theorem Qx{c:bB}{s s':dw}{t wake:Int}{e':aY}(hc:mH c)(H:KO c s)(h:oX c s t wake=some (s',e')):KO c s':=by
 obtain⟨e,th',hp,hen,hsy,hth,hz⟩:=Oi h;have htl:inB t c.ts.length=true:=by
  unfold eF at hp;split at hp
  ·rename_i hr;exact(eW hr).1
  ·cases hp
 obtain⟨t0,t1⟩:=ax.1 htl;have hts:∀j:Nat,aI s' j=if(j:Int)=t then th' else aI s j:=λj=>by
  unfold aI;rw[hth,Y7];by_cases e:(j:Int)=t
  ·have:t.toNat=j:=by omega
   have hj:j<s.threads.length:=by rw[H.th];omega
   rw[if_pos e,this];simp[List.getD,hj]
  ·have:t.toNat≠j:=by omega
   rw[if_neg e];simp[List.getD,Yu,this]
 have hpc:=H.pc t.toNat ZJ;rw[Int.toNat_of_nonneg t0]at hpc;have key:inB th'.pc (am c t).ins.length=true∧(th'.regs.length:Int)=(am c t).regs:=by
  rcases hz with⟨_,h1,h2⟩|⟨a,h1⟩
  ·rw[h1,h2];exact hpc
  ·obtain⟨q1,_,q3⟩:=Ct h1;exact⟨q1,q3⟩
 refine⟨by rw[hth,ZC];exact H.th,by rw[hsy,Qw];exact H.sy,λj hj=>?_,λj hj hs=>?_⟩
 ·rw[hts];by_cases e:(j:Int)=t
  ·rw[if_pos e,e];exact key
  ·rw[if_neg e];exact H.pc j hj
 ·rw[hts];by_cases e9:(j:Int)=t
  ·rw[if_pos e9,e9];rw[hsy,e9]at hs;rcases hz with⟨hk,_,_⟩|⟨a,h1⟩
   ·exfalso;have hj2:t.toNat<s.sync.threads.length:=by rw[H.sy];omega
    rcases hk with hk|hk
    ·rw[hk]at hs;simp[aU,aE,aZ,hj2]at hs
    ·rw[hk]at hs;simp[aU,aE,aZ,hj2]at hs
   ·obtain⟨q1,q2,q3⟩:=Ct h1;obtain⟨p0,p1⟩:=ax.1 q1;have hT:=hc.thr t.toNat ZJ;have hce:am c t=c.ts[t.toNat]'ZJ:=by have:=FI (c:=c) (t:=t.toNat) ZJ;rw[Int.toNat_of_nonneg t0]at this;exact this
    rw[hce]at q1 q2 p1 ⊢;have hi:=hT.ins th'.pc.toNat ZJ;have hia:aT (c.ts[t.toNat]'ZJ) th'.pc=(c.ts[t.toNat]'ZJ).ins[th'.pc.toNat]'ZJ:=by
     unfold aT;have:th'.pc.toNat<(c.ts[t.toNat]'ZJ).ins.length:=by omega
     simp[List.getD,this]
    rw[hia]at q2 ⊢;have h1:=hi.lo;have h2:=hi.hi;exact UU ZJ h2
  ·rw[if_neg e9];refine H.run j hj ?_;rw[hsy]at hs;exact UT hen j e9 hs
theorem BF{c:bB}(hc:mH c):KO c (bN c):=by
 have hl:=hc.len;refine⟨by simp[bN],?_,λt ht=>?_,λt ht hs=>?_⟩
 ·unfold bN cU;simp[hl]
 ·have hT:=hc.thr t ht;have hts:aI (bN c) t=⟨0,List.replicate (c.ts[t]).regs.toNat 0,List.replicate (c.ts[t]).regs.toNat [],0⟩:=by simp[aI,bN,ht]
  rw[hts,FI ht];have:=hT.ne;have:=hT.r0;exact⟨ax.2 ⟨ZM,by simp;omega⟩,by simp;omega⟩
 ·exfalso;unfold bN cU aE at hs;dsimp only at hs;rw[Int.toNat_natCast]at hs;have ht2:t<c.w.threads.length:=by omega
  rcases t with _|t
  ·simp[List.getD,ht2]at hs
  ·simp[List.getD,Yu,ht2]at hs
theorem UV{c:bB}{p:List aY×dw}{ch:dq}(hc:mH c)(h:KO c p.2):KO c (Jf c p ch).2:=by
 unfold Jf;split
 ·exact h
 ·split
  ·exact h
  ·rename_i n e hs;exact Qx hc h hs
end
structure dg(s u:aH):Prop where
 pc:u.pc=s.pc
 ev:u.ev=s.ev
 taint:u.taint=s.taint
 len:u.regs.length=s.regs.length
 same:s.taint.length=s.regs.length
 val:∀k:Nat,s.taint.getD k []=[]→s.regs.getD k 0=u.regs.getD k 0
theorem mL{α:Type}(l:List α)(a k:Nat)(v d:α)(h:a<l.length):(l.set a v).getD k d=if a=k then v else l.getD k d:=by
 rw[Ze,Yu];by_cases e:a=k
 ·rw[if_pos e,if_pos ZJ,if_pos e];rfl
 ·rw[if_neg e,if_neg e,Ze]
theorem dg.put{s u:aH}(h:dg s u){a v v':Int}{t:List Int}(ha:s.has a=true)(hv:t=[]→v=v'):dg (s.put a v t) (u.put a v' t):=by
 have h1:a.toNat<s.regs.length:=by have:=(ax (i:=a) (n:=s.regs.length)).1 ha;omega
 refine⟨by simp[aH.put,h.pc],by simp[aH.put,h.ev],by simp[aH.put,h.taint],by simp[aH.put,h.len],by simp[aH.put,h.same],λk hk=>?_⟩;have hs:=h.same;have hl:=h.len;simp only[aH.put]at hk ⊢;rw[mL _ _ _ _ _ ZJ]at hk;rw[mL _ _ _ _ _ h1,mL _ _ _ _ _ ZJ];by_cases e:a.toNat=k
 ·rw[if_pos e]at hk;rw[if_pos e,if_pos e];exact hv hk
 ·rw[if_neg e]at hk;rw[if_neg e,if_neg e];exact h.val k hk
theorem Sk(n a b:Int):(NP n a).2=(NP n b).2:=by
 unfold NP;split
 ·rfl
 ·split<;>rfl
theorem Qy(n a b c d:Int):(yr n a b).2=(yr n c d).2:=by unfold yr;simp only[apply_ite Prod.snd]
theorem dg.has{s u:aH}(h:dg s u)(r:Int):u.has r=s.has r:=by unfold aH.has;rw[h.len]
theorem dg.tnt{s u:aH}(h:dg s u)(r:Int):u.tnt r=s.tnt r:=by unfold aH.tnt;rw[h.taint]
theorem dg.reg{s u:aH}(h:dg s u)(r:Int)(ht:s.tnt r=[]):s.reg r=u.reg r:=h.val r.toNat ht
theorem Qz{l:List Int}(h:EM l=[]):l=[]:=List.eq_nil_iff_forall_not_mem.2 λx hx=>by have:=(rv l x).2 hx;rw[h]at this;cases this
def XW(P:aH→aH→Prop):Option aH→Option aH→Prop
 |none,none=>True
 |some a,some b=>P a b
 |_,_=>False
theorem L7{s u:aH}(h:dg s u)(i:bq):XW dg (bQ i s) (bQ i u):=by
 unfold bQ;simp only[h.has,h.tnt];rw[Sk i.n (u.reg i.b) (s.reg i.b),Qy i.n (u.reg i.b) (u.reg i.c) (s.reg i.b) (s.reg i.c)];split
 ·split
  ·rename_i hh;exact h.put hh λ_=>rfl
  ·trivial
 ·split
  ·split
   ·rename_i hh;simp only[Yl]at hh;exact h.put hh.1 λe=>h.reg _ e
   ·trivial
  ·split
   ·split
    ·rename_i hh;simp only[Yl]at hh;exact h.put hh.1.1 λe=>by rw[h.reg _ e]
    ·trivial
   ·split
    ·split
     ·rename_i hh;simp only[Yl]at hh;refine h.put hh.1.1.1 λe=>?_
      have e2:=List.append_eq_nil_iff.1 (Qz e);rw[h.reg _ e2.1,h.reg _ e2.2]
     ·trivial
    ·exact⟨rfl,h.ev,h.taint,h.len,h.same,h.val⟩
theorem Oj{ins:List bq}:∀(k:Nat) {s u:aH},dg s u→(ef ins k s).2=(ef ins k u).2∧dg (ef ins k s).1 (ef ins k u).1:=by
 have hz:dg aH.zero aH.zero:=⟨rfl,rfl,rfl,rfl,rfl,λ_ _=>rfl⟩;intro k
 induction k with
 |zero=>
  intro s u h;unfold ef;rw[h.pc];split
  ·split
   ·exact⟨rfl,h⟩
   ·exact⟨rfl,hz⟩
  ·exact⟨rfl,hz⟩
 |succ k ih=>
  intro s u h;unfold ef;rw[h.pc];split
  ·split
   ·exact⟨rfl,h⟩
   ·have hb:=L7 h (ins.getD s.pc.toNat default);generalize bQ (ins.getD s.pc.toNat default) s=x at hb ⊢;generalize bQ (ins.getD s.pc.toNat default) u=y at hb ⊢
    match x,y,hb with
    |none,none,_=>exact⟨rfl,hz⟩
    |some a,some b,hb=>exact ih hb
  ·exact⟨rfl,hz⟩
theorem IQ{c:hY}{s u:aH}(h:dg s u):(aQ c s).2=(aQ c u).2∧dg (aQ c s).1 (aQ c u).1:=by
 unfold aQ;rw[h.len,h.taint];split
 ·exact Oj _ h
 ·exact⟨rfl,rfl,rfl,rfl,rfl,rfl,λ_ _=>rfl⟩
section
set_option linter.unusedSimpArgs false
inductive Nx (c:bB) (i:Int):aH→Nat→aY→aH→Nat→Prop where
 |begin (z z1 z':aH):z1={z with ev:=IntKind.i64.wrap (z.ev+1)}→aQ (am c i) z1=(z',true)→Nx c i z 0 ⟨i,1,-1,0,-1,[],[]⟩ z' 1
 |wake (z z1 z':aH):z1=⟨IntKind.i64.wrap (z.pc+1),z.regs,z.taint,IntKind.i64.wrap (z.ev+1)⟩→aQ (am c i) z1=(z',true)→Nx c i z 2 ⟨i,17,(aT (am c i) z.pc).a,0,(aT (am c i) z.pc).site,[],[]⟩ z' 1
 |ins (z z':aH) (s:dw) (sv:Int) (e:aY):e=cm (aT (am c i) z.pc) z i→e.kind≠16→e.kind≠2→e.kind≠1→e.kind≠17→aQ (am c i) (bS (aT (am c i) z.pc) e s z sv).thread=(z',true)→Nx c i z 1 {e with value:=(bS (aT (am c i) z.pc) e s z sv).value} z' 1
 |wait (z:aH) (s:dw) (sv:Int) (e:aY):e=cm (aT (am c i) z.pc) z i→e.kind=16→(bS (aT (am c i) z.pc) e s z sv).thread=(bS (aT (am c i) z.pc) e s z sv).thread→Nx c i z 1 {e with value:=(bS (aT (am c i) z.pc) e s z sv).value} (bS (aT (am c i) z.pc) e s z sv).thread 2
 |fin (z:aH) (s:dw) (sv:Int) (e:aY):e=cm (aT (am c i) z.pc) z i→e.kind=2→Nx c i z 1 {e with value:=(bS (aT (am c i) z.pc) e s z sv).value} (bS (aT (am c i) z.pc) e s z sv).thread 3
inductive Fw (c:bB) (i:Int):aH→Nat→List aY→aH→Nat→Prop where
 |nil (z:aH) (p:Nat):Fw c i z p [] z p
 |cons {z z1 z2:aH} {p p1 p2:Nat} {e:aY} {l:List aY}:Nx c i z p e z1 p1→Fw c i z1 p1 l z2 p2→Fw c i z p (e::l) z2 p2
theorem Fw.snoc{c:bB}{i:Int}{z z1 z2:aH}{p p1 p2:Nat}{e:aY}{l:List aY}(h:Fw c i z p l z1 p1)(hn:Nx c i z1 p1 e z2 p2):Fw c i z p (l++[e]) z2 p2:=by
 induction h with
 |nil=>exact .cons hn (.nil _ _)
 |cons h1 _ ih=>exact .cons h1 (ih hn)
theorem mM(i:bq)(z:aH)(t:Int):(cm i z t).kind=ij i.op∧(cm i z t).site=i.site∧(cm i z t).value=0:=by
 unfold cm;dsimp only
 repeat' split
 all_goals exact⟨rfl,rfl,rfl⟩
theorem L8{z u:aH}(h:dg z u)(i:bq)(t:Int):(cm i z t).deps=(cm i u t).deps∧(cm i z t).frm=(cm i u t).frm∧((cm i z t).deps=[]→(cm i z t).obj=(cm i u t).obj):=by
 unfold cm;dsimp only;rw[h.tnt,h.tnt,h.tnt]
 repeat' split
 all_goals first
  |exact⟨rfl,rfl,λ_=>rfl⟩
  |exact⟨rfl,rfl,λe=>by dsimp only at e ⊢;rw[h.reg _ e]⟩
theorem HE{s u:aH}(h:dg s u){a p v v' n:Int}{t:List Int}(hv:t=[]→v=v'):dg ⟨p,s.regs.set a.toNat v,s.taint.set a.toNat t,n⟩ ⟨p,u.regs.set a.toNat v',u.taint.set a.toNat t,n⟩:=by
 refine⟨rfl,rfl,by simp[h.taint],by simp[h.len],by simp[h.same],λk hk=>?_⟩;have hs:=h.same;have hl:=h.len;dsimp only at hk ⊢;by_cases g:a.toNat<s.regs.length
 ·rw[mL _ _ _ _ _ ZJ]at hk;rw[mL _ _ _ _ _ g,mL _ _ _ _ _ ZJ];by_cases e:a.toNat=k
  ·rw[if_pos e]at hk;rw[if_pos e,if_pos e];exact hv hk
  ·rw[if_neg e]at hk;rw[if_neg e,if_neg e];exact h.val k hk
 ·rw[List.set_eq_of_length_le ZJ]at hk;rw[List.set_eq_of_length_le ZJ,List.set_eq_of_length_le ZJ];exact h.val k hk
theorem iE{s u:aH}(h:dg s u)(p n:Int):dg ⟨p,s.regs,s.taint,n⟩ ⟨p,u.regs,u.taint,n⟩:=⟨rfl,rfl,h.taint,h.len,h.same,h.val⟩
theorem Ol{z u:aH}(h:dg z u)(i:bq){e e':aY}(s s':dw)(sv sv':Int)(hk:e'.kind=e.kind)(hz:e.value=0)(hz':e'.value=0)(hb:e.kind=5→(bS i e s z sv).value=(bS i e' s' u sv').value):dg (bS i e s z sv).thread (bS i e' s' u sv').thread:=by
 unfold bS at hb ⊢;dsimp only at hb ⊢;rw[hk]at hb ⊢;rw[h.pc,h.ev];by_cases k3:e.kind=3
 ·rw[if_pos k3,if_pos k3];exact HE h nofun
 rw[if_neg k3,if_neg k3];by_cases k23:e.kind=23
 ·rw[if_pos k23,if_pos k23];exact HE h nofun
 rw[if_neg k23,if_neg k23];by_cases k4:e.kind=4
 ·rw[if_pos k4,if_pos k4];exact iE h _ _
 rw[if_neg k4,if_neg k4];by_cases k22:e.kind=22
 ·rw[if_pos k22,if_pos k22];exact iE h _ _
 rw[if_neg k22,if_neg k22];by_cases k5:e.kind=5
 ·have hb:=hb k5;rw[if_neg k3,if_neg k23,if_neg k4,if_neg k22,if_pos k5,if_neg k3,if_neg k23,if_neg k4,if_neg k22,if_pos k5]at hb;rw[if_pos k5,if_pos k5];by_cases g:z.reg i.a≠0
  ·by_cases g2:u.reg i.a≠0
   ·rw[if_pos g,if_pos g2];exact iE h _ _
   ·rw[if_pos g,if_neg g2]at hb;dsimp only at hb;omega
  ·by_cases g2:u.reg i.a≠0
   ·rw[if_neg g,if_pos g2]at hb;dsimp only at hb;omega
   ·rw[if_neg g,if_neg g2];exact iE h _ _
 rw[if_neg k5,if_neg k5];by_cases k18:e.kind=18∨e.kind=19
 ·rw[if_pos k18,if_pos k18];exact iE h _ _
 rw[if_neg k18,if_neg k18];by_cases k1:e.kind=1∨e.kind=16∨e.kind=2
 ·rw[if_pos k1,if_pos k1];exact iE h _ _
 ·rw[if_neg k1,if_neg k1];exact iE h _ _
theorem BG{c:hY}{s u s' u':aH}(h:dg s u)(h1:aQ c s=(s',true))(h2:aQ c u=(u',true)):dg s' u':=by have:=(IQ (c:=c) h).2;rw[h1,h2]at this;exact this
structure KP(e e':aY):Prop where
 kind:e'.kind=e.kind
 site:e'.site=e.site
 deps:e'.deps=e.deps
 frm:e'.frm=e.frm
 obj:e.deps=[]→e'.obj=e.obj
 val:e.deps=[]→e.frm=[]→e.kind=4∨e.kind=5∨e.kind=22→e'.value=e.value
theorem Sm{op v:Int}(h:ij op=v)(hv:v=4∨v=5∨v=22):(v=4→op=8∨op=9)∧(v=5→op=10)∧(v=22→op=26):=by
 have key:∀k:Nat,k<29→(dI.getD k 0=4→k=8∨k=9)∧(dI.getD k 0=5→k=10)∧(dI.getD k 0=22→k=26):=by decide
 unfold ij at h;rcases X9 op.toNat 29 with g|g
 ·obtain⟨a,b,d⟩:=key op.toNat g;rw[h]at a b d;exact⟨λe=>by have:=a e;omega,λe=>by have:=b e;omega,λe=>by have:=d e;omega⟩
 ·have:dI.getD op.toNat 0=0:=by rw[List.getD,X8 (by exact g)];rfl
  omega
theorem QA{i:bq}{z:aH}{t:Int}:(i.op=8∨i.op=9∨i.op=26→(cm i z t).frm=z.tnt i.b)∧(i.op=10→(cm i z t).deps=z.tnt i.a):=by
 unfold cm;dsimp only;refine⟨λh=>?_,λh=>?_⟩
 ·rw[if_neg ZJ,if_neg ZJ];by_cases g:i.op=8∨i.op=26
  ·rw[if_pos g]
  ·rw[if_neg g,if_pos ZJ]
 ·rw[if_neg ZJ,if_neg ZJ,if_neg ZJ,if_neg ZJ,if_pos h]
theorem Sn{i:bq}{e e':aY}{z u:aH}(h:dg z u)(t:Int)(he:e=cm i z t)(he':e'=cm i u t)(s s':dw)(sv sv':Int)(hd:e.deps=[])(hf:e.frm=[])(hk:e.kind=4∨e.kind=5∨e.kind=22):(bS i e' s' u sv').value=(bS i e s z sv).value:=by
 have k1:=mM i z t;have k2:=mM i u t;have ki:=QA (i:=i) (z:=z) (t:=t);rw[←he]at k1 ki;rw[←he']at k2;have hkk:e'.kind=e.kind:=by rw[k1.1,k2.1]
 obtain⟨i4,i5,i22⟩:=Sm k1.1.symm hk;unfold bS;dsimp only;rw[hkk];rcases hk with hk|hk|hk
 ·rw[if_neg ZJ,if_neg ZJ,if_pos hk,if_neg ZJ,if_neg ZJ,if_pos hk];have:=ki.1 (by have:=i4 hk;omega);exact(h.reg _ (by rw[←this];exact hf)).symm
 ·have:=ki.2 (i5 hk);have hr:=h.reg i.a (by rw[←this];exact hd);simp only[hk,Int.reduceEq,if_false,if_true,↓reduceIte];rw[←hr,k1.2.2,k2.2.2];split<;>rfl
 ·rw[if_neg ZJ,if_neg ZJ,if_neg ZJ,if_pos hk,if_neg ZJ,if_neg ZJ,if_neg ZJ,if_pos hk];have:=ki.1 (by have:=i22 hk;omega);exact(h.reg _ (by rw[←this];exact hf)).symm
structure XX(c:bB)(i:Int)(z:aH)(e:aY)(z':aH)(p':Nat):Prop where
 ex:∃(s:dw) (sv:Int) (e0:aY),e0=cm (aT (am c i) z.pc) z i∧e={e0 with value:=(bS (aT (am c i) z.pc) e0 s z sv).value}∧
  ((e0.kind=16∧z'=(bS (aT (am c i) z.pc) e0 s z sv).thread∧p'=2)∨(e0.kind=2∧z'=(bS (aT (am c i) z.pc) e0 s z sv).thread∧p'=3)∨(e0.kind≠16∧e0.kind≠2∧aQ (am c i) (bS (aT (am c i) z.pc) e0 s z sv).thread=(z',true)∧p'=1))
theorem L9{c:bB}{i:Int}{z z':aH}{e:aY}{p p':Nat}(h:Nx c i z p e z' p')(hp:p=1):XX c i z e z' p':=by
 cases h with
 |begin=>cases hp
 |wake=>cases hp
 |ins _ s sv e0 he h16 h2 h1 h17 hs=>exact⟨s,sv,e0,he,rfl,.inr (.inr ⟨h16,h2,hs,rfl⟩)⟩
 |wait s sv e0 he hk _=>exact⟨s,sv,e0,he,rfl,.inl ⟨hk,rfl,rfl⟩⟩
 |fin s sv e0 he hk=>exact⟨s,sv,e0,he,rfl,.inr (.inl ⟨hk,rfl,rfl⟩)⟩
theorem QB{c:bB}{i:Int}{z u:aH}{p:Nat}{e e':aY}{z' u':aH}{p' q':Nat}(h:dg z u)(h1:Nx c i z p e z' p')(h2:Nx c i u p e' u' q'):KP e e'∧((e.kind=5→e'.value=e.value)→dg z' u'∧p'=q'):=by
 by_cases hp:p=1
 ·obtain⟨s,sv,e0,he,rfl,hc1⟩:=(L9 h1 hp).ex;obtain⟨s2,sv2,e2,he2,rfl,hc2⟩:=(L9 h2 hp).ex;rw[h.pc]at he2 hc2 ⊢;have ia:=L8 h (aT (am c i) z.pc) i;have k1:=mM (aT (am c i) z.pc) z i;have k2:=mM (aT (am c i) z.pc) u i;rw[←he]at k1 ia;rw[←he2]at k2 ia;have hkk:e2.kind=e0.kind:=by rw[k1.1,k2.1]
  refine⟨⟨hkk,by show e2.site=e0.site;rw[k1.2.1,k2.2.1],ia.1.symm,ia.2.1.symm,λd=>(ia.2.2 d).symm,λd f k=>Sn h i he he2 s s2 sv sv2 d f (by rcases k with k|k|k;exact .inl k;exact .inr (.inl k);exact .inr (.inr k))⟩,λhb=>?_⟩;have ha:=Ol h (aT (am c i) z.pc) (e:=e0) (e':=e2) s s2 sv sv2 hkk k1.2.2 k2.2.2 (λk=>(hb k).symm);rcases hc1 with⟨a1,rfl,rfl⟩|⟨a1,rfl,rfl⟩|⟨a1,a2,a3,rfl⟩
  ·rcases hc2 with⟨b1,rfl,rfl⟩|⟨b1,rfl,rfl⟩|⟨b1,b2,b3,rfl⟩
   ·exact⟨ha,rfl⟩
   ·omega
   ·omega
  ·rcases hc2 with⟨b1,rfl,rfl⟩|⟨b1,rfl,rfl⟩|⟨b1,b2,b3,rfl⟩
   ·omega
   ·exact⟨ha,rfl⟩
   ·omega
  ·rcases hc2 with⟨b1,rfl,rfl⟩|⟨b1,rfl,rfl⟩|⟨b1,b2,b3,rfl⟩
   ·omega
   ·omega
   ·exact⟨BG ha a3 b3,rfl⟩
 ·cases h1 with
  |begin z1 _ hz hs=>
   cases h2 with
   |begin u1 _ hu hs2=>refine⟨⟨rfl,rfl,rfl,rfl,λ_=>rfl,λ_ _ _=>rfl⟩,λ_=>⟨BG (s:=z1) (u:=u1) ?_ hs hs2,rfl⟩⟩;subst hz hu;rw[h.ev];exact⟨h.pc,rfl,h.taint,h.len,h.same,h.val⟩
  |wake z1 _ hz hs=>
   cases h2 with
   |wake u1 _ hu hs2=>
    refine⟨?_,λ_=>⟨BG (s:=z1) (u:=u1) ?_ hs hs2,rfl⟩⟩
    ·rw[h.pc];exact⟨rfl,rfl,rfl,rfl,λ_=>rfl,λ_ _ _=>rfl⟩
    ·subst hz hu;rw[h.pc,h.ev];exact iE h _ _
  |ins=>exact absurd rfl hp
  |wait=>exact absurd rfl hp
  |fin=>exact absurd rfl hp
theorem KQ{c:bB}{i:Int}:∀(a b:List aY) {z u za zb:aH} {p pa pb:Nat},Fw c i z p a za pa→Fw c i u p b zb pb→dg z u→∀k (g1:k<a.length) (g2:k<b.length),(∀j (hj:j<k),(a[j]'ZJ).kind=5→(b[j]'ZJ).value=(a[j]'ZJ).value)→KP a[k] b[k]
 |[],_,_,_,_,_,_,_,_,_,_,_,_,g1,_,_=>absurd g1 (Zx _)
 |_::_,[],_,_,_,_,_,_,_,_,_,_,_,_,g2,_=>absurd g2 (Zx _)
 | e::a,e'::b,z,u,za,zb,p,pa,pb,ha,hb,h,k,g1,g2,hj=>by
  cases ha with
  |cons n1 f1=>
   cases hb with
   |cons n2 f2=>
    obtain⟨q1,q2⟩:=QB h n1 n2;cases k with
    |zero=>exact q1
    |succ k=>obtain⟨r1,r2⟩:=q2 (hj 0 ZJ);subst r2;exact KQ a b f1 f2 r1 k (by simpa using g1) (by simpa using g2) (λj h2=>hj (j+1) ZJ)
end
section
set_option linter.unusedSimpArgs false
theorem QC{w:aO}{s:SyncD}{t k o wake:Int}(he:bn w s t k o=true)(j:Nat)(hj:(j:Int)≠t):(aE (aU w s t k o wake).1 j).cond=(aE s j).cond∧
  ((aE (aU w s t k o wake).1 j).status=(aE s j).status∨((aE s j).status=3∧(aE (aU w s t k o wake).1 j).status=4)∨((aE s j).status=0∧(aE (aU w s t k o wake).1 j).status=1)):=by
 unfold bn at he;simp only[Yl]at he;have hin:=ax.1 he.1.1.2;have hset:∀x:ThrD,(s.threads.set t.toNat x).getD j default=s.threads.getD j default:=λx=>by
  have:t.toNat≠j:=by omega
  simp[List.getD,Yu,this]
 rcases kinds k with g|g
 ·rw[qq g]at he;exact absurd he.1.2 ZM
 rcases g with rfl|rfl|rfl|rfl|rfl|rfl|rfl|rfl|rfl|rfl|rfl|rfl|rfl|rfl|rfl|rfl|rfl|rfl|rfl|rfl|rfl|rfl|rfl
 all_goals simp only[aU,Int.reduceEq,if_true,if_false,or_true,true_or,or_false,or_self,↓reduceIte,aE,Y7,aZ]
 all_goals try rw[hset]
 all_goals first
  |exact⟨rfl,.inl rfl⟩
  |exact⟨trivial,trivial⟩
  |skip
 ·
  unfold gu;split
  ·rename_i hn;have hm:=uh hn;unfold Cn;by_cases e:(dt s.threads o wake).toNat=j
   ·rw[e];have hm2:j∈bV s.threads o s.threads.length:=by rw[←e];exact hm
    unfold bV at hm2;rw[Zj]at hm2;obtain⟨hr,hw⟩:=hm2;have hl:j<s.threads.length:=Y3.1 hr;have h3:s.threads[j].status=3:=by simp only[kS,eh,Yl,decide_eq_true_eq]at hw;have:=hw.1;simpa[List.getD,hl]using this
    simp[List.getD,hl,h3]
   ·simp[List.getD,Yu,e]
  ·exact⟨rfl,.inl rfl⟩
 ·
  unfold Cp;rcases X9 j s.threads.length with g|g
  ·simp only[List.getD,dX _ _ _ _ g,Zr,X6 g];split
   ·rename_i h;simp only[Yl,eh,decide_eq_true_eq]at h;exact⟨rfl,.inr (.inl ⟨h.2.1,rfl⟩)⟩
   ·exact⟨rfl,.inl rfl⟩
  ·have:(de s.threads o s.threads.length)[j]? =none:=X8 (by rw[cV];exact g);simp[List.getD,this,X8 g]
 ·
  by_cases e:o.toNat=j
  ·rw[e];have h2:(s.threads.getD o.toNat default).status=0:=by have h2:=he.2;simp[cL]at h2;have:=h2.2.2;simpa[aE]using this
   rw[e]at h2;rcases X9 j s.threads.length with g|g
   ·have h3:s.threads[j].status=0:=by simpa[List.getD,g]using h2
    simp[List.getD,g,h3]
   ·simp[List.getD,Yu,g,X8 g]
  ·simp[List.getD,Yu,e]
def Xy(c:bB)(s:dw)(i:Int)(ph:Nat):Prop:=
 (ph=0∧((aE s.sync i).status=0∨(aE s.sync i).status=1))∨(ph=1∧(aE s.sync i).status=2) ∨
 (ph=2∧((aE s.sync i).status=3∨(aE s.sync i).status=4)∧(aE s.sync i).cond=(aT (am c i) (aI s i).pc).a)∨(ph=3∧(aE s.sync i).status=5)
def co(i:Int)(ev:List aY):List aY:=ev.filter λe=>decide (e.thread=i)
structure Tm(c:bB)(p:List aY×dw)(i:Nat):Prop where
 ex:∃ph,Fw c i (aI (bN c) i) 0 (co i p.1) (aI p.2 i) ph∧Xy c p.2 i ph
theorem QD{c:bB}{s s':dw}{t wake:Int}{e':aY}(h:oX c s t wake=some (s',e')):∃(e:aY) (th':aH) (sv:Int),eF c s t=some e∧bn c.w s.sync t e.kind e.obj=true∧s'.sync=(aU c.w s.sync t e.kind e.obj wake).1∧s'.threads=s.threads.set t.toNat th'∧
  e'={e with value:=(bS (aT (am c t) (aI s t).pc) e s (aI s t) sv).value}∧
  ((e.kind=16∨e.kind=2)∧th'=(bS (aT (am c t) (aI s t).pc) e s (aI s t) sv).thread∨(e.kind≠16∧e.kind≠2)∧aQ (am c t) (bS (aT (am c t) (aI s t).pc) e s (aI s t) sv).thread=(th',true)):=by
 rw[DU]at h;cases hp:eF c s t with
 |none=>rw[hp]at h;cases h
 |some e=>
  rw[hp]at h;dsimp only at h;split at h
  ·split at h
   ·rename_i hr;have hen:bn c.w s.sync t e.kind e.obj=true:=by
     unfold fI at hr;split at hr
     ·assumption
     ·cases hr
    have hap:(fI c.w s.sync t e.kind e.obj wake).1=(aU c.w s.sync t e.kind e.obj wake).1:=by unfold fI;rw[if_pos hen]
    unfold uL at h;split at h
    ·rename_i hk;split at h
     ·rename_i hz;cases h;exact⟨e,_,_,rfl,hen,hap,rfl,rfl,.inr ⟨hk,Prod.ext rfl hz⟩⟩
     ·cases h
    ·rename_i hk;cases h;exact⟨e,_,_,rfl,hen,hap,rfl,rfl,.inl ⟨ZJ,rfl⟩⟩
   ·cases h
  ·cases h
theorem So{op:Int}:ij op≠1∧ij op≠17:=by
 have key:∀k:Nat,k<29→dI.getD k 0≠1∧dI.getD k 0≠17:=by decide
 unfold ij;rcases X9 op.toNat 29 with g|g
 ·exact key _ g
 ·have:dI.getD op.toNat 0=0:=by rw[List.getD,X8 (by exact g)];rfl
  omega
theorem Sp{w:aO}{s:SyncD}{t k o wake:Int}(ht:inB t s.threads.length=true)(h2:k≠1→k≠17→(aE s t).status=2)(hk:k=20→0≤o∧o≠t):
  (k=16→(aE (aU w s t k o wake).1 t).status=3∧(aE (aU w s t k o wake).1 t).cond=o)∧(k=2→(aE (aU w s t k o wake).1 t).status=5)∧(k≠16→k≠2→(aE (aU w s t k o wake).1 t).status=2):=by
 obtain⟨t0,t1⟩:=ax.1 ht;have hset:∀x:ThrD,(s.threads.set t.toNat x).getD t.toNat default=x:=λx=>by
  have:t.toNat<s.threads.length:=by omega
  simp[List.getD,this]
 refine⟨λe=>?_,λe=>?_,λe1 e2=>?_⟩
 ·subst e;simp only[aU,Int.reduceEq,if_true,if_false,or_true,true_or,or_false,or_self,↓reduceIte,aE,aZ];rw[hset];exact⟨rfl,rfl⟩
 ·subst e;simp only[aU,Int.reduceEq,if_true,if_false,or_true,true_or,or_false,or_self,↓reduceIte,aE,aZ];rw[hset]
 ·by_cases k1:k=1
  ·subst k1;simp only[aU,Int.reduceEq,if_true,if_false,or_true,true_or,or_false,or_self,↓reduceIte,aE,aZ];rw[hset]
  by_cases k17:k=17
  ·subst k17;simp only[aU,Int.reduceEq,if_true,if_false,or_true,true_or,or_false,or_self,↓reduceIte,aE,aZ];rw[hset]
  have hs:=h2 k1 k17;have htl:t.toNat<s.threads.length:=by omega
  have hs2:s.threads[t.toNat].status=2:=by simpa[aE,List.getD,htl]using hs
  have hw18:(aE {s with threads:=gu s.threads o wake} t).status=2:=by
   unfold aE gu;dsimp only;split
   ·rename_i hn;have hm:=uh hn;unfold Cn;by_cases e:(dt s.threads o wake).toNat=t.toNat
    ·exfalso;have hm2:t.toNat∈bV s.threads o s.threads.length:=by rw[←e];exact hm
     unfold bV at hm2;rw[Zj]at hm2;have hw:=hm2.2;simp only[kS,eh,Yl,decide_eq_true_eq]at hw;have:=hw.1;unfold aE at hs;omega
    ·unfold aE at hs;simpa[List.getD,Yu,e]using hs
   ·exact hs
  have hw19:(aE {s with threads:=Cp s o} t).status=2:=by
   unfold aE Cp;dsimp only;simp only[List.getD,dX _ _ _ _ htl,Option.getD_some];rw[if_neg]
   ·exact hs2
   ·simp only[Yl,eh,decide_eq_true_eq];omega
  have hw20:k=20→(aE {s with threads:=aZ s o λx=>{x with status:=1}} t).status=2:=λe=>by
   have h9:=hk e;have:o.toNat≠t.toNat:=by omega
   unfold aE aZ;dsimp only;simpa[List.getD,List.getElem?_set,this,htl]using hs2
  unfold aU;rw[if_neg k1,if_neg e2]
  repeat' refine iteInduction (motive:=λx:SyncD×Int=>(aE x.1 t).status=2) (λ_=>?_) (λ_=>?_)
  all_goals first
   |exact hs
   |(unfold aE aZ;dsimp only;rw[hset];exact hs)
   |skip
  all_goals first
   |(exfalso;omega)
   |exact hw18
   |exact hw19
   |exact hw20 ZK
theorem Ma{c:bB}{s:dw}{t:Int}{e:aY}(h:eF c s t=some e):iQ c s t=true∧
  (((aE s.sync t).status=1∧e=⟨t,1,-1,0,-1,[],[]⟩)∨((aE s.sync t).status=4∧e=⟨t,17,(aE s.sync t).cond,0,(aT (am c t) (aI s t).pc).site,[],[]⟩) ∨
   ((aE s.sync t).status=2∧e=cm (aT (am c t) (aI s t).pc) (aI s t) t)):=by
 unfold eF at h;split at h
 ·rename_i hr;refine⟨hr,?_⟩;dsimp only at h;split at h
  ·cases h;exact .inl ⟨ZK,rfl⟩
  ·split at h
   ·cases h;exact .inr (.inl ⟨ZK,rfl⟩)
   ·split at h
    ·split at h
     ·cases h;exact .inr (.inr ⟨ZK,rfl⟩)
     ·cases h
    ·cases h
 ·cases h
theorem QE{i:bq}{z:aH}{t:Int}:(cm i z t).thread=t:=by
 unfold cm;dsimp only
 repeat' split
 all_goals rfl
theorem QF{i:bq}{z:aH}{t:Int}(h:(cm i z t).kind=16):(cm i z t).obj=i.a:=by
 have hk:=mM i z t;rw[hk.1]at h;have key:∀k:Nat,k<29→dI.getD k 0=16→k=21:=by decide
 have h21:i.op=21:=by
  unfold ij at h;rcases X9 i.op.toNat 29 with g|g
  ·have:=key _ g h;omega
  ·have:dI.getD i.op.toNat 0=0:=by rw[List.getD,X8 (by exact g)];rfl
   omega
 unfold cm;dsimp only;rw[if_neg ZJ,if_neg ZJ,if_neg ZJ,if_neg ZJ,if_neg ZJ,if_neg ZJ]
theorem Sq{c:bB}{ev:List aY}{s s':dw}{t wake:Int}{e':aY}(hc:mH c)(H:KO c s)(h:oX c s t wake=some (s',e')){i:Nat}(hi:i<c.ts.length)(hf:Tm c (ev,s) i):Tm c (ev++[e'],s') i:=by
 obtain⟨e,th',sv,hp,hen,hsy,hth,he',hz⟩:=QD h;obtain⟨hr,hcase⟩:=Ma hp;have hthr:e.thread=t:=by
  rcases hcase with⟨_,q⟩|⟨_,q⟩|⟨_,q⟩
  ·rw[q]
  ·rw[q]
  ·rw[q];exact QE
 obtain⟨ph,hfw,hph⟩:=hf.ex;have htl:=(eW hr).1;obtain⟨t0,t1⟩:=ax.1 htl;have hts:∀j:Nat,aI s' j=if(j:Int)=t then th' else aI s j:=λj=>by
  unfold aI;rw[hth,Y7];by_cases e:(j:Int)=t
  ·have:t.toNat=j:=by omega
   have hj:j<s.threads.length:=by rw[H.th];omega
   rw[if_pos e,this];simp[List.getD,hj]
  ·have:t.toNat≠j:=by omega
   rw[if_neg e];simp[List.getD,Yu,this]
 have hown:co i (ev++[e'])=if(i:Int)=t then co i ev++[e']else co i ev:=by
  have:e'.thread=t:=by rw[he'];exact hthr
  unfold co;rw[List.filter_append];by_cases g:(i:Int)=t
  ·rw[if_pos g];simp[this,g]
  ·rw[if_neg g];have:e'.thread≠i:=by omega
   simp[this]
 by_cases g:(i:Int)=t
 case neg=>
  refine⟨ph,?_,?_⟩
  ·dsimp only;rw[hown,if_neg g,hts,if_neg g];exact hfw
  ·have:=QC hen (wake:=wake) i g;unfold Xy at hph ⊢;dsimp only at hph ⊢;rw[hts,if_neg g,hsy,this.1];rcases this.2 with q|q|q
   ·rw[q];exact hph
   ·omega
   ·omega
 rw[g]at hfw hph;dsimp only at hfw hph;have hsl:inB t s.sync.threads.length=true:=(eW hr).2.2.1;have hse:=Sp (w:=c.w) (o:=e.obj) (wake:=wake) (k:=e.kind) hsl (λa b=>by
  rcases hcase with⟨_,q⟩|⟨_,q⟩|⟨q,_⟩
  ·rw[q]at a;exact absurd rfl a
  ·rw[q]at b;exact absurd rfl b
  ·exact q) (λk20=>by
  unfold bn at hen;rw[k20]at hen;simp[allowedS,cL]at hen;exact⟨(ax.1 hen.1.2).1,hen.2.2.1⟩)
 have fin:∀ph',Nx c t (aI s t) ph e' th' ph'→Xy c s' t ph'→Tm c (ev++[e'],s') i:=λph' h1 h2=>by
  refine⟨ph',?_,?_⟩
  ·dsimp only;rw[hown,if_pos g,hts,if_pos g,g];exact hfw.snoc h1
  ·rw[g];exact h2
 have hts2:aI s' t=th':=by have:=hts i;rw[if_pos g,g]at this;exact this
 unfold Xy at hph;rcases hcase with⟨q1,q2⟩|⟨q1,q2⟩|⟨q1,q2⟩
 ·have hp0:ph=0:=by omega
  subst hp0;have hk:e.kind=1:=by rw[q2]
  rcases hz with⟨hk2,_⟩|⟨_,hz⟩
  ·omega
  have ha:(bS (aT (am c t) (aI s t).pc) e s (aI s t) sv).thread={aI s t with ev:=IntKind.i64.wrap ((aI s t).ev+1)}:=by unfold bS;simp only[hk,Int.reduceEq,if_false,if_true,↓reduceIte,or_true,true_or,or_self]
  have hv:(bS (aT (am c t) (aI s t).pc) e s (aI s t) sv).value=0:=by unfold bS;simp only[hk,Int.reduceEq,if_false,if_true,↓reduceIte,or_true,true_or,or_self];rw[q2]
  refine fin 1 ?_ (.inr (.inl ⟨rfl,by rw[hsy];exact hse.2.2 ZJ ZJ⟩));rw[he',hv,q2];exact .begin _ _ _ rfl (by rw[←ha];exact hz)
 ·have hp2:ph=2∧(aE s.sync t).cond=(aT (am c t) (aI s t).pc).a:=by
   rcases hph with h|h|h|h
   ·omega
   ·omega
   ·exact⟨h.1,h.2.2⟩
   ·omega
  obtain⟨hp2,hcd⟩:=hp2;subst hp2;have hk:e.kind=17:=by rw[q2]
  rcases hz with⟨hk2,_⟩|⟨_,hz⟩
  ·omega
  have ha:(bS (aT (am c t) (aI s t).pc) e s (aI s t) sv).thread=⟨IntKind.i64.wrap ((aI s t).pc+1),(aI s t).regs,(aI s t).taint,IntKind.i64.wrap ((aI s t).ev+1)⟩:=by unfold bS;simp only[hk,Int.reduceEq,if_false,if_true,↓reduceIte,or_true,true_or,or_self]
  have hv:(bS (aT (am c t) (aI s t).pc) e s (aI s t) sv).value=0:=by unfold bS;simp only[hk,Int.reduceEq,if_false,if_true,↓reduceIte,or_true,true_or,or_self];rw[q2]
  refine fin 1 ?_ (.inr (.inl ⟨rfl,by rw[hsy];exact hse.2.2 ZJ ZJ⟩));rw[he',hv,q2];dsimp only;rw[hcd];exact .wake _ _ _ rfl (by rw[←ha];exact hz)
 ·have hp1:ph=1:=by omega
  subst hp1;have hkk:=mM (aT (am c t) (aI s t).pc) (aI s t) t;rw[←q2]at hkk;have hkn:=So (op:=(aT (am c t) (aI s t).pc).op);rw[←hkk.1]at hkn;rcases hz with⟨hk2|hk2,hz⟩|⟨hk2,hz⟩
  ·have hw:=hse.1 hk2;have hob:e.obj=(aT (am c t) (aI s t).pc).a:=by rw[q2];exact QF (by rw[←q2];exact hk2)
   have hpc:th'.pc=(aI s t).pc:=by rw[hz];unfold bS;simp only[hk2,Int.reduceEq,if_false,if_true,↓reduceIte,or_true,true_or,or_self]
   refine fin 2 ?_ (.inr (.inr (.inl ⟨rfl,.inl (by rw[hsy];exact hw.1),by rw[hsy,hw.2,hts2,hpc,hob]⟩)));rw[he',hz];exact .wait _ s sv e q2 hk2 rfl
  ·have hw:=hse.2.1 hk2;refine fin 3 ?_ (.inr (.inr (.inr ⟨rfl,by rw[hsy];exact hw⟩)));rw[he',hz];exact .fin _ s sv e q2 hk2
  ·refine fin 1 ?_ (.inr (.inl ⟨rfl,by rw[hsy];exact hse.2.2 hk2.1 hk2.2⟩));rw[he'];exact .ins _ _ s sv e q2 hk2.1 hk2.2 hkn.1 hkn.2 hz
theorem W1{c:bB}{p:List aY×dw}{ch:dq}(hc:mH c)(H:KO c p.2){i:Nat}(hi:i<c.ts.length)(hf:Tm c p i):Tm c (Jf c p ch) i:=by
 unfold Jf;split
 ·exact hf
 ·split
  ·exact hf
  ·rename_i n e hs;exact Sq hc H hs hi hf
theorem Mb{c:bB}(hc:mH c)(l:List dq){p:List aY×dw}(H:KO c p.2){i:Nat}(hi:i<c.ts.length)(hf:Tm c p i):Tm c (fg c l p) i:=by
 induction l generalizing p with
 |nil=>exact hf
 |cons ch l ih=>exact ih (UV hc H) (W1 hc H hi hf)
theorem FJ(c:bB)(i:Nat)(hc:mH c)(hi:i<c.ts.length):Tm c ([],bN c) i:=by
 refine⟨0,.nil _ _,.inl ⟨rfl,?_⟩⟩;have ht2:i<c.w.threads.length:=by have:=hc.len;omega
 unfold bN cU aE;dsimp only;rw[Int.toNat_natCast];rcases i with _|i
 ·simp[List.getD,ht2]
 ·simp[List.getD,Yu,ht2]
theorem Mc{c:bB}(hc:mH c)(l m:List dq){i:Nat}(hi:i<c.ts.length):∀k (g1:k<(co i (cN c l).1).length) (g2:k<(co i (cN c m).1).length),
  (∀j (hj:j<k),((co i (cN c l).1)[j]'ZJ).kind=5→((co i (cN c m).1)[j]'ZJ).value=((co i (cN c l).1)[j]'ZJ).value)→KP (co i (cN c l).1)[k] (co i (cN c m).1)[k]:=by
 obtain⟨pa,ha,_⟩:=(Mb hc l (p:=([],bN c)) (BF hc) hi (FJ c i hc hi)).ex;obtain⟨pb,hb,_⟩:=(Mb hc m (p:=([],bN c)) (BF hc) hi (FJ c i hc hi)).ex;have h0:dg (aI (bN c) i) (aI (bN c) i):=⟨rfl,rfl,rfl,rfl,by simp[aI,bN,hi],λ_ _=>rfl⟩;exact KQ _ _ ha hb h0
end
section
set_option linter.unusedSimpArgs false
section
variable {T:List Int→Prop} (h0:T []) (hu:∀a b,T a→T b→T (EM (a++b)))
include h0
theorem Tn{s:aH}(hs:∀t∈s.taint,T t)(r:Int):T (s.tnt r):=by
 unfold aH.tnt;rcases X9 r.toNat s.taint.length with g|g
 ·have:=hs _ (Yr g);simpa[List.getD,g]using this
 ·simpa[List.getD,X8 g]using h0
omit h0 in
theorem Nj{l:List (List Int)}{a:Nat}{t:List Int}(hl:∀t∈l,T t)(ht:T t):∀x∈l.set a t,T x:=λx hx=>by
 rcases Zf hx with h|rfl
 ·exact hl x h
 ·exact ht
include hu
theorem UW{i:bq}{s s2:aH}(h:bQ i s=some s2)(hs:∀t∈s.taint,T t):∀t∈s2.taint,T t:=by
 have hn:=Tn h0 hs;unfold bQ at h
 repeat' split at h
 all_goals first
  |(cases h;done)
  |(cases h;exact hs)
  |(cases h;exact Nj hs h0)
  |(cases h;exact Nj hs (hn _))
  |(cases h;exact Nj hs (hu _ _ (hn _) (hn _)))
theorem W2{ins:List bq}:∀(k:Nat) {s y:aH},ef ins k s=(y,true)→(∀t∈s.taint,T t)→∀t∈y.taint,T t:=by
 intro k
 induction k with
 |zero=>
  intro s y h hs;unfold ef at h
  repeat' split at h
  all_goals first
   |(cases h;exact hs)
   |cases h
 |succ k ih=>
  intro s y h hs;unfold ef at h;split at h
  ·split at h
   ·cases h;exact hs
   ·split at h
    ·cases h
    ·rename_i s2 he;exact ih h (UW h0 hu he hs)
  ·cases h
theorem QG{c:hY}{s y:aH}(h:aQ c s=(y,true))(hs:∀t∈s.taint,T t):∀t∈y.taint,T t:=by
 unfold aQ at h;split at h
 ·exact W2 h0 hu _ h hs
 ·cases h
end
structure TT(l:List aY)(t:List Int):Prop where
 up:t.Pairwise (·<·)
 mem:∀x∈t,∃k:Nat,x=k∧∃h:k<l.length,l[k].kind=3∨l[k].kind=23
theorem TT.nil(l:List aY):TT l []:=⟨.nil,nofun⟩
theorem TT.union{l:List aY}{a b:List Int}(ha:TT l a)(hb:TT l b):TT l (EM (a++b)):=⟨DT _,λx hx=>by
 rcases Yg.1 ((rv _ x).1 hx)with h|h
 ·exact ha.mem x h
 ·exact hb.mem x h⟩
theorem TT.more{l:List aY}{a:List Int}(h:TT l a)(e:aY):TT (l++[e]) a:=⟨h.up,λx hx=>by
 obtain⟨k,e1,hk,h2⟩:=h.mem x hx;exact⟨k,e1,by simp;omega,by rw[List.getElem_append_left hk];exact h2⟩⟩
structure HG(pre:List aY)(z:aH):Prop where
 ev:z.ev=pre.length
 tt:∀t∈z.taint,TT pre t
structure UX(pre:List aY)(e:aY):Prop where
 deps:TT pre e.deps
 frm:TT pre e.frm
theorem UY{pre:List aY}{i:bq}{z:aH}{t:Int}(h:∀t∈z.taint,TT pre t):UX pre (cm i z t):=by
 have hn:=Tn (TT.nil pre) h;unfold cm;dsimp only
 repeat' split
 all_goals first
  |exact⟨.nil _,.nil _⟩
  |exact⟨hn _,.nil _⟩
  |exact⟨.nil _,hn _⟩
  |exact⟨hn _,hn _⟩
theorem W3{pre:List aY}{i:bq}{e:aY}{s:dw}{z:aH}{sv v:Int}(h:HG pre z)(hl:pre.length≤1000):(bS i e s z sv).thread.ev=(pre.length+1:Nat)∧∀t∈(bS i e s z sv).thread.taint,TT (pre++[{e with value:=v}]) t:=by
 have hm:∀t∈z.taint,TT (pre++[{e with value:=v}]) t:=λt ht=>(h.tt t ht).more _
 refine⟨by rw[IN.1,h.ev,YU _ ZJ];rfl,?_⟩;have hone:e.kind=3∨e.kind=23→TT (pre++[{e with value:=v}]) [z.ev]:=λhk=>⟨List.pairwise_singleton _ _,λx hx=>by
  rw[Ye.1 hx,h.ev];exact⟨pre.length,rfl,ZM,by simpa using hk⟩⟩
 unfold bS;dsimp only
 repeat' split
 all_goals first
  |exact hm
  |exact Nj hm (hone ZJ)
theorem FK{c:hY}{pre:List aY}{z y:aH}(h:aQ c z=(y,true))(hev:z.ev=pre.length)(ht:∀t∈z.taint,TT pre t):HG pre y:=
 ⟨by rw[(BE h).1];exact hev,QG (TT.nil _) (λ_ _=>TT.union) h ht⟩
theorem XY{c:bB}{i:Int}{pre:List aY}{z z':aH}{e:aY}{p p':Nat}(h:HG pre z)(hl:pre.length≤1000)(hn:Nx c i z p e z' p'):HG (pre++[e]) z'∧UX pre e:=by
 have hl2:(pre++[e]).length=pre.length+1:=by simp
 have hw:IntKind.i64.wrap (z.ev+1)=((pre++[e]).length:Nat):=by rw[h.ev,YU _ ZJ,hl2];omega
 by_cases hp:p=1
 ·obtain⟨s,sv,e0,he,rfl,hc⟩:=(L9 hn hp).ex;have hE:UX pre e0:=by rw[he];exact UY h.tt
  obtain⟨a1,a2⟩:=W3 (i:=aT (am c i) z.pc) (e:=e0) (s:=s) (sv:=sv) (v:=(bS (aT (am c i) z.pc) e0 s z sv).value) h hl;rw[←hl2]at a1;refine⟨?_,⟨hE.deps,hE.frm⟩⟩;rcases hc with⟨_,rfl,_⟩|⟨_,rfl,_⟩|⟨_,_,hs,_⟩
  ·exact⟨a1,a2⟩
  ·exact⟨a1,a2⟩
  ·exact FK hs a1 a2
 ·cases hn with
  |begin z1 _ hz hs=>exact⟨FK hs (by rw[hz];exact hw) (by rw[hz];exact λt ht=>(h.tt t ht).more _),.nil _,.nil _⟩
  |wake z1 _ hz hs=>exact⟨FK hs (by rw[hz];exact hw) (by rw[hz];exact λt ht=>(h.tt t ht).more _),.nil _,.nil _⟩
  |ins=>exact absurd rfl hp
  |wait=>exact absurd rfl hp
  |fin=>exact absurd rfl hp
theorem W4{c:bB}{i:Int}:∀(l:List aY) {pre:List aY} {z z':aH} {p p':Nat},HG pre z→pre.length+l.length≤1000→Fw c i z p l z' p'→∀k (hk:k<l.length),UX (pre++l.take k) l[k]
 |[],_,_,_,_,_,_,_,_,k,hk=>absurd hk (Zx _)
 | e::l,pre,z,z',p,p',h,hl,hf,k,hk=>by
  cases hf with
  |cons n f=>
   simp only[Ys]at hl hk;obtain⟨g,hE⟩:=XY h ZJ n;cases k with
   |zero=>simpa using hE
   |succ k=>have:=W4 l g (by simp;omega) f k ZJ;simpa using this
theorem Md{c:bB}(hc:mH c)(hl:∀t∈c.ts,t.ins.length<2^40)(l:List dq){i:Nat}(hi:i<c.ts.length):∀k (hk:k<(co i (cN c l).1).length),UX ((co i (cN c l).1).take k) (co i (cN c l).1)[k]:=by
 obtain⟨pa,ha,_⟩:=(Mb hc l (p:=([],bN c)) (BF hc) hi (FJ c i hc hi)).ex;have hlen:=(zk hc hl l).2;have e9:cN c l=fg c l ([],bN c):=rfl;rw[e9]at hlen ⊢;have h2:(co i (fg c l ([],bN c)).1).length≤(fg c l ([],bN c)).1.length:=Zb _ _;have h0:HG [] (aI (bN c) i):=⟨by simp[aI,bN,hi],λt ht=>by
  have:t=[]:=by simp[aI,bN,hi]at ht;exact ht.2
  rw[this];exact .nil _⟩
 intro k hk;have:=W4 _ h0 (by simp;omega) ha k hk;simpa using this
end
section
set_option maxRecDepth 100000
def zl(b c:AV)(L:SH)(Q:R):Prop:=W.len b λd=>wb .gtr 3 d (.ZO 200) λa=>bJ a false c L λe f=>wg a false (W.len e) f λg h=>wg a false (wb .gtr 3 g (.ZO 100)) h λi j=>W.pick a (.bool true) i λk=>Q k j
theorem GY(t0 t1:AV)(L:SH)(Q:R)(h:zl t0 t1 L Q):af Tryz.prog 6 [t0,t1] L Q:=
 fs [] [] [] [] Tryz.func6 h
def fQ(Q:R)(t:Kn)(g:SH)(d e h f u v w x y:AV):Prop:=tH 1 d e g λz=>wb .lss 3 z (.ZO 0) λc=>bJ c false d g λA B=>bJ c false e B λC i=>wg c false (W.idx 1 A C i) i λD j=>wg c false (wl D j) j λE F=>bJ c false h F λG H=>wg c false (wb .geq 3 E G) H λI J=>W.pick c (.bool true) I λa=>bJ a false f J λM N=>bJ a false d N λO P=>bJ a false e P λS k=>wg a false (W.idx 1 O S k) k λT l=>wg a false (wl T l) l λU m=>wg a false (W.idx 7 M U m) m λV X=>wg a false (W.faddr 1 V) X λY n=>wg a false (wl Y n) n λZ a0=>wg a false (wb .neq 3 Z (.ZO 3)) a0 λa1 a2=>bJ a false a1 a2 λb a3=>bJ b true f a3 λa4 a5=>bJ b true d a5 λa6 a7=>bJ b true e a7 λa8 o=>wg b true (W.idx 1 a6 a8 o) o λa9 p=>wg b true (wl a9 p) p λb0 q=>wg b true (W.idx 7 a4 b0 q) q λb1 b2=>wg b true (W.faddr 1 b1) b2 λb3 r=>wg b true (wl b3 r) r λb4 b5=>wg b true (wb .neq 3 b4 (.ZO 23)) b5 λb6 b7=>wg a false (W.pick b b6 (.bool false)) b7 λb8 s=>W.pick a (.bool true) b8 λb9=>wk b9 (Q (.bool false) s) (wb .add 3 e (.ZO 1) λc0=>t [u,v,w,x,f,y,h,d,c0] s)
def uM(Q:R)(u:Kn)(v:SH)(b c w x y z A B:AV)(j:SH)(C:Ns):Prop:=wn [] C [] v.names λc9=>W.un .not B λa=>W.dgrd a false (λD=>D b j rz) j λE k d0=>W.dgrd a false (λF=>F c k rz) k λG d d1=>W.dgrd a false (λH=>di [] 16 7 E G d λI J=>H I d J) d λM l m=>W.dgrd a false (λN=>W.faddr 6 M λO=>N O l rz) l λP e d2=>W.dgrd a false (λS=>dl [] 18 P e λT U=>S T e U) e λV f n=>W.dgrd a false (λX=>wd [] 19 (.fn 17 []) [V,.nils] f λY Z a0=>wn [] a0 [] f.names λa1=>X Y Z a1) f λa2 o p=>W.dgrd a false (λa3=>a3 b o rz) o λa4 q d3=>W.dgrd a false (λa5=>a5 c q rz) q λa6 g d4=>W.dgrd a false (λa7=>di [rc 19 p,rm 18 n,rm 16 m] 22 7 a4 a6 g λa8 a9=>a7 a8 g a9) g λb0 r d5=>W.dgrd a false (λb1=>W.faddr 6 b0 λb2=>b1 b2 r rz) r λb3 h d6=>W.dgrd a false (λb4=>dl [rc 19 p,rm 18 n,rm 16 m] 24 b3 h λb5 b6=>b4 b5 h b6) h λb7 i d7=>W.dgrd a false (λb8=>wd [] 25 (.fn 16 []) [a2,b7] i λb9 c0 c1=>wn [] c1 [] i.names λc2=>b8 b9 c0 c2) i λc3 s d8=>W.dgrd a false (λc4=>W.un .not c3 λc5=>c4 c5 s rz) s λc6 t d9=>W.pick a (.bool true) c6 λc7=>wk c7 (Q (.bool false) t) (wb .add 3 c (.ZO 1) λc8=>u [w,x,y,z,b,A,c8] t)
def uN(Q:R)(g:Kn)(h:SH)(b c i j k l m:AV)(d e:Fp)(n:AV)(a:SH)(o:Ns):Prop:=wn [] o [] h.names λf=>di [rc 5 f,rm 4 d,rm 2 e] 8 7 b c a λp r=>aN 5 p [rc 5 f,rm 4 d,rm 2 e] 10 a λq s=>wd [] 11 (.fn 16 []) [n,q] a (uM Q g a b c i j k l m)
def fR(Q:R)(d:Kn)(a:SH)(b c e f g h i:AV):Prop:=(true=true)∧(di [] 2 7 b c a λj k=>aN 5 j [] 4 a λl m=>wd [] 5 (.fn 17 []) [l,.nils] a (uN Q d a b c e f g h i m k))
def fS(Q:R)(k:Kn)(l:Vs)(a:SH)(m:Kn):Prop:=OJ 7 8 10 12 13 14 15 16 17 l λb c d e f g h i j=>W.len i λn=>wb .lss 3 j n λo=>wk o ((fQ Q m a i j h f b c d e g)) ((fR Q k a f h b c d e g))
def fT(Q:R)(n:Kn)(o:SH)(d e p q r s t:AV):Prop:=(true=true)∧(W.calm [] ⟨0,[],[],[],false,[]⟩ (W.bslice 1 [(.ZO 0)] 0 [] o λa f=>wn [] [] (aa a) [] λc=>di [rm 0 c] 3 7 d e f λu j=>aN 5 u [rm 0 c] 5 f λg k=>W.calm [] ⟨6,(aa a++aa g),(aa a),[],false,[]⟩ (W.append 1 8 a g f λb h=>wn (aa a++aa g) (aa a) (aa b) [] λl=>di [rm 6 l,rm 5 k,rm 3 j,rm 0 c] 9 7 d e h λv x=>aN 6 v [rm 6 l,rm 5 k,rm 3 j,rm 0 c] 11 h λi y=>W.calm [] ⟨12,(aa b++aa i),(aa b),[],false,[]⟩ (W.append 1 8 b i h λm w=>wn (aa b++aa i) (aa b) (aa m) [] λz=>W.loop (fS Q n) [p,q,r,s,d,t,e,m,(.ZO 0)] w))))
def uO(M N:Kn)(d:SH)(e c f o p q r:AV):Prop:=(true=true)∧(di [] 2 7 e c d λO g2=>aN 1 O [] 4 d λP g3=>wb .eql 3 P (.ZO 5) λa=>W.dgrd a true (λS=>S e d rz) d λT s g4=>W.dgrd a true (λU=>U c s rz) s λV g g5=>W.dgrd a true (λX=>di [] 9 7 T V g λY Z=>X Y g Z) g λa0 t u=>W.dgrd a true (λa1=>W.faddr 3 a0 λa2=>a1 a2 t rz) t λa3 h g6=>W.dgrd a true (λa4=>dl [] 11 a3 h λa5 a6=>a4 a5 h a6) h λa7 v w=>W.dgrd a true (λa8=>a8 f v rz) v λa9 x g7=>W.dgrd a true (λb0=>b0 c x rz) x λb1 i g8=>W.dgrd a true (λb2=>di [rm 11 w,rm 9 u] 14 7 a9 b1 i λb3 b4=>b2 b3 i b4) i λb5 y g9=>W.dgrd a true (λb6=>W.faddr 3 b5 λb7=>b6 b7 y rz) y λb8 j h0=>W.dgrd a true (λb9=>dl [rm 11 w,rm 9 u] 16 b8 j λc0 c1=>b9 c0 j c1) j λc2 z h1=>W.dgrd a true (λc3=>wb .neq 2 a7 c2 λc4=>c3 c4 z rz) z λc5 A h2=>W.pick a c5 (.bool false) λb=>W.dgrd b false (λc6=>c6 e A rz) A λc7 B h3=>W.dgrd b false (λc8=>c8 c B rz) B λc9 k h4=>W.dgrd b false (λd0=>di [] 22 7 c7 c9 k λd1 d2=>d0 d1 k d2) k λd3 C D=>W.dgrd b false (λd4=>W.faddr 1 d3 λd5=>d4 d5 C rz) C λd6 l h5=>W.dgrd b false (λd7=>dl [] 24 d6 l λd8 d9=>d7 d8 l d9) l λe0 E F=>W.dgrd b false (λe1=>e1 f E rz) E λe2 G h6=>W.dgrd b false (λe3=>e3 c G rz) G λe4 m h7=>W.dgrd b false (λe5=>di [rm 24 F,rm 22 D] 27 7 e2 e4 m λe6 e7=>e5 e6 m e7) m λe8 H h8=>W.dgrd b false (λe9=>W.faddr 1 e8 λf0=>e9 f0 H rz) H λf1 n h9=>W.dgrd b false (λf2=>dl [rm 24 F,rm 22 D] 29 f1 n λf3 f4=>f2 f3 n f4) n λf5 I i0=>W.dgrd b false (λf6=>wb .neq 3 e0 f5 λf7=>f6 f7 I rz) I λf8 J i1=>W.pick b (.bool true) f8 λf9=>wk f9 (wb .add 3 o (.ZO 1) λg0=>M [p,q,r,g0] J) (wb .add 3 c (.ZO 1) λg1=>N [p,q,r,o,e,f,g1] J))
def uP(Q:R)(S T:Kn)(g:SH)(f c s U V X Y:AV):Prop:=(true=true)∧(di [] 2 7 f c g λZ j5=>aN 1 Z [] 4 g λa0 j6=>wb .eql 3 a0 (.ZO 5) λd=>W.dgrd d false (λa1=>a1 f g rz) g λa2 t j7=>W.dgrd d false (λa3=>a3 c t rz) t λa4 h j8=>W.dgrd d false (λa5=>di [] 9 7 a2 a4 h λa6 a7=>a5 a6 h a7) h λa8 u j9=>W.dgrd d false (λa9=>W.faddr 1 a8 λb0=>a9 b0 u rz) u λb1 i k0=>W.dgrd d false (λb2=>dl [] 11 b1 i λb3 b4=>b2 b3 i b4) i λb5 v k1=>W.dgrd d false (λb6=>wb .eql 3 b5 (.ZO 4) λb7=>b6 b7 v rz) v λb8 w k2=>W.pick d (.bool true) b8 λe=>W.dgrd e false (λb9=>b9 f w rz) w λc0 x k3=>W.dgrd e false (λc1=>c1 c x rz) x λc2 j k4=>W.dgrd e false (λc3=>di [] 17 7 c0 c2 j λc4 c5=>c3 c4 j c5) j λc6 y k5=>W.dgrd e false (λc7=>W.faddr 1 c6 λc8=>c7 c8 y rz) y λc9 k k6=>W.dgrd e false (λd0=>dl [] 19 c9 k λd1 d2=>d0 d1 k d2) k λd3 z k7=>W.dgrd e false (λd4=>wb .eql 3 d3 (.ZO 22) λd5=>d4 d5 z rz) z λd6 A k8=>W.pick e (.bool true) d6 λb=>W.dgrd b true (λd7=>d7 f A rz) A λd8 B k9=>W.dgrd b true (λd9=>d9 c B rz) B λe0 l l0=>W.dgrd b true (λe1=>di [] 25 7 d8 e0 l λe2 e3=>e1 e2 l e3) l λe4 m l1=>W.dgrd b true (λe5=>dr [] 26 7 e4 m λe6 e7=>e5 e6 m e7) m λe8 n l2=>W.dgrd b true (λe9=>wd [] 27 (.fn 18 []) [e8] n λf0 f1 f2=>wn [] f2 [] n.names λf3=>e9 f0 f1 f3) n λf4 C l3=>W.dgrd b true (λf5=>W.len f4 λf6=>f5 f6 C rz) C λf7 D l4=>W.dgrd b true (λf8=>wb .eql 3 f7 (.ZO 0) λf9=>f8 f9 D rz) D λg0 E l5=>W.pick b g0 (.bool false) λa=>W.dgrd a true (λg1=>g1 f E rz) E λg2 F l6=>W.dgrd a true (λg3=>g3 c F rz) F λg4 o l7=>W.dgrd a true (λg5=>di [] 34 7 g2 g4 o λg6 g7=>g5 g6 o g7) o λg8 G H=>W.dgrd a true (λg9=>W.faddr 3 g8 λh0=>g9 h0 G rz) G λh1 p l8=>W.dgrd a true (λh2=>dl [] 36 h1 p λh3 h4=>h2 h3 p h4) p λh5 I J=>W.dgrd a true (λh6=>h6 s I rz) I λh7 M l9=>W.dgrd a true (λh8=>h8 c M rz) M λh9 q m0=>W.dgrd a true (λi0=>di [rm 36 J,rm 34 H] 39 7 h7 h9 q λi1 i2=>i0 i1 q i2) q λi3 N m1=>W.dgrd a true (λi4=>W.faddr 3 i3 λi5=>i4 i5 N rz) N λi6 r m2=>W.dgrd a true (λi7=>dl [rm 36 J,rm 34 H] 41 i6 r λi8 i9=>i7 i8 r i9) r λj0 O m3=>W.dgrd a true (λj1=>wb .neq 2 h5 j0 λj2=>j1 j2 O rz) O λj3 P m4=>W.pick a j3 (.bool false) λj4=>wk j4 (Q (.bool false) P) ((uO S T P f c s U V X Y)))
def uQ(Q:R)(a3 a4:Kn)(a5:SH)(e d f a6 a7 a8 a9 b0:AV)(s:SH)(b1:Ns):Prop:=wn [] b1 [] a5.names λm1=>W.len b0 λb2=>wb .eql 3 b2 (.ZO 0) λa=>W.dgrd a true (λb3=>b3 e s rz) s λb4 t m2=>W.dgrd a true (λb5=>b5 d t rz) t λb6 g m3=>W.dgrd a true (λb7=>di [] 10 7 b4 b6 g λb8 b9=>b7 b8 g b9) g λc0 u v=>W.dgrd a true (λc1=>W.faddr 1 c0 λc2=>c1 c2 u rz) u λc3 h m4=>W.dgrd a true (λc4=>dl [] 12 c3 h λc5 c6=>c4 c5 h c6) h λc7 w x=>W.dgrd a true (λc8=>c8 f w rz) w λc9 y m5=>W.dgrd a true (λd0=>d0 d y rz) y λd1 i m6=>W.dgrd a true (λd2=>di [rm 12 x,rm 10 v] 15 7 c9 d1 i λd3 d4=>d2 d3 i d4) i λd5 z m7=>W.dgrd a true (λd6=>W.faddr 1 d5 λd7=>d6 d7 z rz) z λd8 j m8=>W.dgrd a true (λd9=>dl [rm 12 x,rm 10 v] 17 d8 j λe0 e1=>d9 e0 j e1) j λe2 A m9=>W.dgrd a true (λe3=>wb .neq 3 c7 e2 λe4=>e3 e4 A rz) A λe5 B n0=>W.dgrd a true (λe6=>e6 e5 B rz) B λb C n1=>W.dgrd b false (λe7=>e7 e C rz) C λe8 D n2=>W.dgrd b false (λe9=>e9 d D rz) D λf0 k n3=>W.dgrd b false (λf1=>di [] 22 7 e8 f0 k λf2 f3=>f1 f2 k f3) k λf4 E F=>W.dgrd b false (λf5=>W.faddr 4 f4 λf6=>f5 f6 E rz) E λf7 l n4=>W.dgrd b false (λf8=>dl [] 24 f7 l λf9 g0=>f8 f9 l g0) l λg1 G H=>W.dgrd b false (λg2=>g2 f G rz) G λg3 I n5=>W.dgrd b false (λg4=>g4 d I rz) I λg5 m n6=>W.dgrd b false (λg6=>di [rm 24 H,rm 22 F] 27 7 g3 g5 m λg7 g8=>g6 g7 m g8) m λg9 J n7=>W.dgrd b false (λh0=>W.faddr 4 g9 λh1=>h0 h1 J rz) J λh2 n n8=>W.dgrd b false (λh3=>dl [rm 24 H,rm 22 F] 29 h2 n λh4 h5=>h3 h4 n h5) n λh6 M n9=>W.dgrd b false (λh7=>wb .neq 3 g1 h6 λh8=>h7 h8 M rz) M λh9 N o0=>W.dgrd a true (λi0=>W.pick b (.bool true) h9 λi1=>i0 i1 N rz) N λi2 O o1=>W.dgrd a true (λi3=>i3 i2 O rz) O λc P o2=>W.dgrd c false (λi4=>i4 e P rz) P λi5 S o3=>W.dgrd c false (λi6=>i6 d S rz) S λi7 o o4=>W.dgrd c false (λi8=>di [] 35 7 i5 i7 o λi9 j0=>i8 i9 o j0) o λj1 T U=>W.dgrd c false (λj2=>W.faddr 2 j1 λj3=>j2 j3 T rz) T λj4 p o5=>W.dgrd c false (λj5=>dl [] 37 j4 p λj6 j7=>j5 j6 p j7) p λj8 V X=>W.dgrd c false (λj9=>j9 f V rz) V λk0 Y o6=>W.dgrd c false (λk1=>k1 d Y rz) Y λk2 q o7=>W.dgrd c false (λk3=>di [rm 37 X,rm 35 U] 40 7 k0 k2 q λk4 k5=>k3 k4 q k5) q λk6 Z o8=>W.dgrd c false (λk7=>W.faddr 2 k6 λk8=>k7 k8 Z rz) Z λk9 r o9=>W.dgrd c false (λl0=>dl [rm 37 X,rm 35 U] 42 k9 r λl1 l2=>l0 l1 r l2) r λl3 a0 p0=>W.dgrd c false (λl4=>wb .neq 3 j8 l3 λl5=>l4 l5 a0 rz) a0 λl6 a1 p1=>W.dgrd a true (λl7=>W.pick c (.bool true) l6 λl8=>l7 l8 a1 rz) a1 λl9 a2 p2=>W.pick a l9 (.bool false) λm0=>wk m0 (Q (.bool false) a2) ((uP Q a3 a4 a2 e d f a6 a7 a8 a9))
def fU(Q:R)(d e:Kn)(a:SH)(b c f g h i j:AV):Prop:=(true=true)∧(di [] 2 7 b c a λk m=>dr [] 3 7 k a λl n=>wd [] 4 (.fn 18 []) [l] a (uQ Q d e a b c f g h i j))
def dZ(Q:R)(c:Kn)(k:Vs)(l:SH)(m:Kn):Prop:=NN 7 8 10 12 13 14 18 k λd e f g h i b=>W.len h λn=>wb .lss 3 b n λa=>bJ a true b l λo p=>bJ a true i p λq r=>wg a true (W.len q) r λs t=>wg a true (wb .lss 3 o s) t λu j=>W.pick a u (.bool false) λv=>wk v ((fU Q c m j h b i g d e f)) (wb .add 3 g (.ZO 1) λw=>c [d,e,f,w] j)
def ea(Q:R)(i:Kn)(j:Vs)(b:SH)(k:Kn):Prop:=NN 7 8 10 12 13 14 15 j λc d e f a g h=>W.len a λl=>wb .lss 3 h l λm=>wk m ((fT Q k b a h c d e f g)) (W.loop (dZ Q i) [c,d,e,f,a,g,(.ZO 0)] b)
def uR(Q:R)(a:Kn)(b:SH)(c d e f g h:AV)(i:SH)(j:Ns):Prop:=wn [] j [] b.names λk=>W.loop (ea Q a) [c,d,e,f,g,h,(.ZO 0)] i
def uS(Q:R)(d:Kn)(e:SH)(b c f g:AV)(h:Fp)(i:AV)(a:SH)(j:Ns):Prop:=wn [] j [] e.names λk=>aN 6 b [rc 3 k,rm 1 h] 5 a λl m=>wd [] 7 (.fn 15 []) [l,c] a (uR Q d a f g b c i)
def fV(Q:R)(e:Vs)(a:SH)(f:Kn):Prop:=ug 7 8 10 12 e λc d g b=>aC 6 c a λh=>W.len h λi=>wb .lss 3 b i λj=>wk j ((true=true)∧(aN 6 d [] 1 a λk l=>wd [] 3 (.fn 15 []) [k,b] a (uS Q f a g b c d l))) (wc (.fn 10 []) [] a λm n=>Q m n)
def uT(Q:R)(g:SH)(h i:AV)(c d:Fp)(e:AV)(j:SH)(k:Ns):Prop:=wn [] k [] g.names λf=>W.ext 0 e λl=>W.ext 1 e λm=>W.calm [rc 3 f,rc 2 c,rm 0 d] ⟨7,[],[],[],false,[]⟩ (W.alloc [.nils,.nils,.nils,.nils,.nils,.nils,.nils] j λa n=>wn [] [] (aa a) [] λo=>W.calm [rm 7 o,rc 3 f,rc 2 c,rm 0 d] ⟨8,[],[],[],false,[]⟩ (W.alloc [.nils,(.ZO 0),.nils,.nils,.nils,.nils,.nils] n λb p=>wn [] [] (aa b) [] λv=>ds [] 9 7 a l p λq w=>ds [] 10 7 b m q λr x=>W.frz1 a r λs t=>W.frz1 b t λy u=>W.loop (fV Q) [h,i,s,(.ZO 0)] u))
def sa(Q:R)(b:SH)(c d e:AV)(f:Fp)(g:AV)(a:SH)(h:Ns):Prop:=wn [] h [] b.names λi=>wd [] 3 (.fn 8 []) [c,g] a (uT Q a d e i f)
def sd(Q:R)(j:SH)(k d:AV)(e f:Fp)(g:AV)(l:SH)(m:Ns):Prop:=wn [] m [] j.names λh=>W.ext 0 g λn=>W.ext 1 g λo=>W.calm [rc 3 h,rc 2 e,rm 0 f] ⟨7,[],[],[],false,[]⟩ (W.alloc [.nils,.nils,.nils,.nils,.nils,.nils,.nils] l λa p=>wn [] [] (aa a) [] λq=>W.calm [rm 7 q,rc 3 h,rc 2 e,rm 0 f] ⟨8,[],[],[],false,[]⟩ (W.alloc [.nils,(.ZO 0),.nils,.nils,.nils,.nils,.nils] p λb r=>wn [] [] (aa b) [] λx=>ds [] 9 7 a n r λs y=>ds [] 10 7 b o s λt z=>W.frz1 a t λu v=>W.frz1 b v λA c=>(true=true)∧(dr [] 0 7 d c λw i=>wd [rm 0 i] 2 (.fn 9 []) [k] c (sa Q c w d u i))))
def sf(Q:R)(b:SH)(c d e:AV)(f:Fp)(g:AV)(a:SH)(h:Ns):Prop:=wn [] h [] b.names λi=>wd [] 3 (.fn 8 []) [d,g] a (sd Q a c e i f)
def sg(Q:R)(d e f:AV)(g:SH):Prop:=rE [.nils,.nils,.nils,.nils,.nils,.nils,.nils] 7 f g λb a=>(true=true)∧(dr [] 0 7 b a λh c=>wd [rm 0 c] 2 (.fn 9 []) [d] a (sf Q a e h b c))
def sh(Q:R)(b d e a:AV)(f:SH):Prop:=bJ a false b f λg h=>wg a false (W.len g) h λi j=>wg a false (wb .gtr 3 i (.ZO 100)) j λk c=>W.pick a (.bool true) k λl=>wk l (Q (.bool true) c) (wc (.fn 7 []) [d] c (sg Q e b))
def lf(a b c:AV)(L:SH)(Q:R):Prop:=wc (.fn 6 []) [a,b] L (sh Q c a b)
theorem uU(t0 t1 t2:AV)(L:SH)(Q:R)(h:lf t0 t1 t2 L Q):af Tryz.prog 5 [t0,t1,t2] L Q:=
 fs [] [(15,[7,8,10,12,13,14,15,16,17]),(11,[7,8,10,12,13,14,15]),(22,[7,8,10,12,13,14,18]),(7,[7,8,10,12])] [(3,[7]),(4,[8,9]),(5,[10,11])] [(4,[0,0,2,7,15,31,31,0,0,447,1023]),(5,[0,0,2,7,15,31,31,0,0,447,1023]),(9,[0,1,0,7,0,16,0,127,255,511]),(13,[0,0,0,6,14,30,63,0,0,384,896,1920,4095,8191]),(19,[0,0,3,7,15,31,0,0,192,448,960,2047,4095,8191,16383,16383,65535,131071,262143,524287,16383,16383,3162111,7356415,15745023,33554431,67108863,134217727]),(24,[0,0,3,7,15,31,63,127,255,255,1023,2047,4095,255,255,24831,57599,123135,262143,524287,1048575,1048575,4194303,8388607,16777215,1048575,1048575,101711871,235929599,504365055,1073741823,2147483647,4294967295,8589934591,8589934591,34359738367,68719476735,137438953471,8589934591,8589934591,833223655423,1932735283199,4131758538751,8796093022207,17592186044415,35184372088831]),(26,[0,0,3,7,15,31,63,127,127,511,1023,2047,4095,8191,16383,32767,32767,131071,262143,524287,1048575,2097151,4194303,8388607,8388607,33554431,67108863,134217727,268435455,536870911,1073741823,2147483647,4294967295,4294967295,17179869183,34359738367,68719476735,4294967295,4294967295,416611827711,966367641599,2065879269375,4398046511103,8796093022207]),(28,[0,0,3,7,15,31,63,127,127,511,1023,2047,127,127,12415,28799,61567,131071,262143,524287,1048575,1048575,4194303,8388607,16777215,1048575,1048575,101711871,235929599,504365055,1073741823,2147483647])] Tryz.func5 h
def IR(d:Kn)(a:SH)(b c e f:AV):Prop:=ma 7 b c a λg=>W.bslice 7 [(.ZO 0),(.ZO 0),(.ZO 0),(.ZO 0),(.ZO 0),.nils,.nils] 1 [(0,g)] a λh i=>W.append 7 88 e h i λj k=>wb .add 3 c (.ZO 1) λl=>d [b,f,j,l] k
def IS(e:Kn)(a:SH)(b c d f:AV):Prop:=fb 7 0 b c a λg=>wb .eql 3 g d λh=>wk h ((IR e a b c f d)) (wb .add 3 c (.ZO 1) λi=>e [b,d,f,i] a)
def zm(Q:R)(e:Vs)(a:SH)(f:Kn):Prop:=ug 0 1 5 6 e λb g c d=>W.len b λh=>wb .lss 3 d h λi=>wk i ((IS f a b d g c)) (Q c a)
def Cu(a b:AV)(L:SH)(Q:R):Prop:=W.loop (zm Q) [a,b,.nils,(.ZO 0)] L
theorem IT(t0 t1:AV)(L:SH)(Q:R)(h:Cu t0 t1 L Q):af Tryz.prog 15 [t0,t1] L Q:=
 fs [] [(3,[0,1,5,6])] [] [] Tryz.func15 h
def FL(j:AV)(L:SH)(Q:R):Prop:=rF j L λe k=>(true=true)∧(W.calm [] ⟨0,[],[],[],false,[]⟩ (W.bslice 1 [(.ZO 0)] 0 [] k λa f=>wn [] [] (aa a) [] λg=>aN 5 e [rm 0 g] 2 f λc l=>W.calm [] ⟨3,(aa a++aa c),(aa a),[],false,[]⟩ (W.append 1 8 a c f λb h=>wn (aa a++aa c) (aa a) (aa b) [] λm=>aN 6 e [rm 3 m,rm 2 l,rm 0 g] 5 h λd o=>W.calm [] ⟨6,(aa b++aa d),(aa b),[],false,[]⟩ (W.append 1 8 b d h λi n=>wn (aa b++aa d) (aa b) (aa i) [] λp=>Q i n))))
theorem KR(t0:AV)(L:SH)(Q:R)(h:FL t0 L Q):af Tryz.prog 18 [t0] L Q:=
 fs [] [] [(0,[1])] [(1,[0,0,2,7,0,16,63,127])] Tryz.func18 h
def DB(i:Kn)(a:SH)(d e b:AV):Prop:=(true=true)∧(di [] 3 1 d e a λj f=>dl [] 4 j a λk g=>W.conv .i64 k λl=>wb .rem 3 l (.ZO 4) λm=>di [rm 4 g,rm 3 f] 9 1 d e a λn x=>dl [rm 4 g,rm 3 f] 10 n a λo y=>W.conv .i64 o λp=>wb .quo 3 p (.ZO 4) λq=>wb .rem 3 q (.ZO 5) λr=>wb .sub 3 r (.ZO 1) λs=>W.build [(.ZO 0),(.ZO 0)] [(0,1,m),(1,1,s)] λt=>W.calm [] ⟨16,[],[],[],false,[]⟩ (W.bslice 2 [(.ZO 0),(.ZO 0)] 1 [(0,t)] a λc u=>wn [] [] (aa c) [] λz=>W.calm [] ⟨17,(aa b++aa c),(aa b),[],false,[]⟩ (W.append 2 16 b c u λh v=>wn (aa b++aa c) (aa b) (aa h) [] λA=>wb .add 3 e (.ZO 1) λw=>i [d,h,w] v)))
def pd(Q:R)(e:Vs)(a:SH)(f:Kn):Prop:=tI 0 3 4 e λb c d=>W.len b λg=>wb .lss 3 d g λh=>wk h ((DB f a b d c)) (Q c a)
def qY(a:AV)(L:SH)(Q:R):Prop:=W.loop (pd Q) [a,.nils,(.ZO 0)] L
theorem DC(t0:AV)(L:SH)(Q:R)(h:qY t0 L Q):af Tryz.prog 9 [t0] L Q:=
 fs [] [(3,[0,3,4])] [] [(5,[0,0,0,6,14,30,62,0,0,384,896,1920,3968,8064,16256,32766,65534,131071,262143])] Tryz.func9 h
end
section
set_option maxRecDepth 100000
theorem af.pure{P:Program}{f:FuncId}{args:List AV}{Q:AV→SH→Prop}(h:af P f args [] Q)(ha:∀a∈args,bv a)(hv:∀u K,Q u K→bv u):∃v K,Q v K∧az P f args v:=by
 obtain⟨v,H',L',h1,h2,h3⟩:=h.2 ac.empty (λb _=>cX b) ⟨Zd,nofun⟩;have hV:MF P f args v:=λw σ vs hW hvs=>(h1 w σ vs hW hvs).mono λe w' ⟨v',σ',he,k1,k2,k3,k4⟩=>⟨v',σ',H',he,k1,k3⟩
 exact⟨v,L',h3,h.1,λH hb hs=>⟨v,H,[],VF (hv _ _ h3) (λi a hi=>ha a (YN hi)) hV H,.refl hb hs,rfl,rfl⟩⟩
theorem bv.lsts{rows:List (List AV)}(h:∀r∈rows,∀a∈r,bv a):bv (.lst rows):=.lst rows λi r j a h1 h2=>h r (YN h1) a (YN h2)
theorem bv.lmap{α:Type}{f:α→List AV}{l:List α}(h:∀x∈l,∀a∈f x,bv a):bv (.lst (l.map f)):=.lsts λr hr=>by obtain⟨x,hx,rfl⟩:=YH.1 hr;exact h x hx
theorem bv.aggs{cs:List AV}(h:∀a∈cs,bv a):bv (.agg cs):=.agg cs λi a hi=>h a (YN hi)
theorem bv.tups{cs:List AV}(h:∀a∈cs,bv a):bv (.tup cs):=.tup cs λi a hi=>h a (YN hi)
theorem mN(s:bC):∀a∈av s,bv a:=λa h=>by rw[Ye.1 h];exact .str _
mutual
theorem aq.pure:∀x:aq,∀a∈x.enc,bv a
 | .mk op n name l=>by have:=aq.pures l;simp only[aq.enc,YO,YF,false_implies,implies_true,and_true];exact⟨.int _ _,.int _ _,.str _,.lsts this⟩
theorem aq.pures:∀l:List aq,∀r∈aq.encs l,∀a∈r,bv a
 |[]=>nofun
 | x::l=>by simp only[aq.encs,YO];exact⟨aq.pure x,aq.pures l⟩
end
mutual
theorem ab.pure:∀x:ab,∀a∈x.enc,bv a
 | .mk op line name arg index e body els=>by
  have h1:=ab.pures body;have h2:=ab.pures els
  simp only[ab.enc,YO,YF,false_implies,implies_true,and_true];exact⟨.int _ _,.int _ _,.str _,.str _,.lmap λx _=>x.pure,.int _ _,.int _ _,.str _,.lmap λx _=>x.pure,.lsts h1,.lsts h2⟩
theorem ab.pures:∀l:List ab,∀r∈ab.encs l,∀a∈r,bv a
 |[]=>nofun
 | x::l=>by simp only[ab.encs,YO];exact⟨ab.pure x,ab.pures l⟩
end
theorem aJ.pure(d:aJ):∀a∈d.enc,bv a:=by simp only[aJ.enc,YO,YF,false_implies,implies_true,and_true];exact⟨.int _ _,.int _ _,.str _,.int _ _,.int _ _,.str _⟩
theorem ah.pure(d:ah):∀a∈d.enc,bv a:=by simp only[ah.enc,YO,YF,false_implies,implies_true,and_true];exact⟨.str _,.int _ _,.lmap λx _=>mN x,.lmap λx _=>x.pure⟩
theorem bZ.pure(p:bZ):bv (.agg p.enc):=.aggs (by
 simp only[bZ.enc,YO,YF,false_implies,implies_true,and_true];exact⟨.lmap λx _=>x.pure,.lmap λx _=>x.pure⟩)
theorem QH(e ln:Int):bv (.tup [.ZO e,.ZO ln]):=.tups (by
 simp only[YO,YF,false_implies,implies_true,and_true];exact⟨.int _ _,.int _ _⟩)
theorem aJ.wt_pos(d:aJ):1≤d.wt:=by unfold aJ.wt;omega
theorem ah.wt_pos(d:ah):1≤d.wt:=by unfold ah.wt;omega
theorem ah.local_len(t:ah){i:Nat}(h:i<t.locals.length):t.locals[i].length<t.wt:=by have:=DS (f:=List.length) t.locals i h;unfold ah.wt;omega
theorem bZ.decl_wt(p:bZ){i:Nat}(h:i<p.decls.length):p.decls[i].wt≤p.wt:=by have:=DS (f:=aJ.wt) p.decls i h;unfold bZ.wt;omega
theorem bZ.thread_wt(p:bZ){i:Nat}(h:i<p.threads.length):p.threads[i].wt≤p.wt:=by have:=DS (f:=ah.wt) p.threads i h;unfold bZ.wt;omega
theorem bZ.decls_len(p:bZ):p.decls.length≤p.wt:=by have:=Ik aJ.wt_pos p.decls;unfold bZ.wt;omega
theorem bZ.threads_len(p:bZ):p.threads.length≤p.wt:=by have:=Ik ah.wt_pos p.threads;unfold bZ.wt;omega
theorem uV{α:Type}{p:α→Bool}:∀(l:List α) (j:Nat),(nL p l j=-1∧l.find? p=none)∨∃(k:Nat) (h:k<l.length),nL p l j=(j+k:Nat)∧l.find? p=some l[k]
 |[],_=>.inl ⟨rfl,rfl⟩
 | x::l,j=>by
  by_cases h:p x=true
  ·exact .inr ⟨0,ZM,by simp[nL,h],by simp[h]⟩
  ·rcases uV (p:=p) l (j+1)with⟨h1,h2⟩|⟨k,h1,h2,h3⟩
   ·exact .inl ⟨by simp[nL,h,h1],by simp[h,h2]⟩
   ·refine .inr ⟨k+1,by simpa using h1,?_,by simpa[h]using h3⟩;simp only[nL,h,YB,if_false,h2];congr 1;omega
theorem gB{α:Type}{f:α→List AV}{l:List α}{n i:Nat}{k:IntKind}{L:SH}{K:AV→Prop}(h:K (.lst ((l.take i).map f)))(hi:i≤l.length:=by omega)(hn:∀x,(f x).length=n:=by intro x;rfl):W.slice n (.lst (l.map f)) none (some (.int k (i:Int))) none L K:=by
 refine AH (l:=0) (h:=i) rfl ?_ (YK _) (by simpa using hi) (λr hr=>?_) ?_
 ·simp[cI,oC]
 ·cases l with
  |nil=>cases hr
  |cons x l=>simp at hr;rw[←hr];exact hn x
 ·simpa[List.map_take]using h
theorem Me{k:IntKind}{a b:Int}{K:AV→Prop}(h:K (.int k (if b > a then b else a))):W.mnx true (.int k a) (.int k b) K:=by rw[SY];exact h
theorem QI{k:IntKind}{s:Int}{K:AV→Prop}(h:K (.int k (((max s 1).toNat:Nat):Int))):W.mnx true (.int k s) (.int k 1) K:=by
 rw[SY];have:(if(1:Int) > s then(1:Int)else s)=(((max s 1).toNat:Nat):Int):=by split<;>omega
 rw[this];exact h
structure oq where
 t:Nat
 o1:Option Nat
 ar:List ab
 k:Nat
 o2:Option Nat
 sp:List bC
 o3:Option Nat
 se:List bC
def oq.row(p:bZ)(s:oq):List AV:=[.lst (p.decls.map aJ.enc),.lst (p.threads.map ah.enc),.ZO s.t,ao s.o1 s.k,ao s.o2 s.sp.length,ao s.o3 s.se.length]
def oq.L(p:bZ)(bw:Nat)(s:oq):SH:=(bw,⟨6,[s.row p]⟩)::(ae s.o1 11 (s.ar.map ab.enc)++(ae s.o2 1 (s.sp.map av)++ae s.o3 1 (s.se.map av)))
structure oq.Ok(s:oq)(m:Nat):Prop where
 a0:s.o1=none→s.ar=[]
 ak:s.k≤s.ar.length
 k6:s.k≤6
 p0:s.o2=none→s.sp=[]
 e0:s.o3=none→s.se=[]
 pm:s.sp.length≤m
 em:s.se.length≤m
theorem af.permR{P:Program}{f:FuncId}{args:List AV}{L:SH}{Q:AV→SH→Prop}(h:af P f args L λv L'=>∃L'',L'.Perm L''∧Q v L''):af P f args L Q:=⟨h.1,λH hb hs=>by
 obtain⟨v,H',L',h1,h2,L'',hp,h3⟩:=h.2 H hb hs;exact⟨v,H',L'',h1,h2.permS hp,h3⟩⟩
theorem af.within{P:Program}{f:FuncId}{args:List AV}{K L R:SH}{α:Type}{F:α→AV}(h:af P f args K λu K'=>∃r,u=F r∧K'=K)(hp:L.Perm (K++R)):af P f args L λu K'=>∃r,u=F r∧K'=L:=
 af.permR (h.frame hp λv K' ⟨r,h1,h2⟩=>⟨L,by rw[h2];exact hp.symm,r,h1,rfl⟩)
theorem ab.wts_succ{l:List ab}{i:Nat}(h:i<l.length):ab.wts (l.take (i+1))=ab.wts (l.take i)+l[i].wt:=by
 rw[Yd h];generalize l.take i=m
 induction m with
 |nil=>simp[ab.wts]
 |cons y m ih=>simp only[Zn,ab.wts,ih];omega
theorem ab.wts_take(l:List ab)(i:Nat):ab.wts (l.take i)≤ab.wts l:=by
 induction l generalizing i with
 |nil=>simp
 | cons x l ih=>cases i with
  |zero=>simp[ab.wts]
  |succ i=>have:=ih i;simp only[List.take_succ_cons,ab.wts];omega
theorem DV{o:Option Nat}{k:Nat}{K:AV→Prop}(h:K (.ZO (k:Int)))(h0:o=none→k=0):W.len (ao o k) K:=by
 cases o with
 |none=>rw[h0 rfl]at h;exact Ic h
 |some b=>exact H9 h
theorem KT{KL:R}{L L':SH}{o:Option Nat}{i n by_ bX:Nat}{rows m:List (List AV)}{r:List AV}(hX:(bX,(⟨n,m⟩:Blk))∈L)(hm:m=[r])(hd:dW o n rows L L')(hr:i≤rows.length)(h0:o=none→rows=[])(hb:i≤1000)(hby:by_≤1000)(h4:r.all AV.one=true)
  (h:∀b,b∉L.names→KL (.sl b 0 (i+1)) ((b,⟨n,rows.take i++[r]⟩)::L')):W.append n by_ (ao o i) (.sl bX 0 1) L KL:=by
 subst hm;have e1:2*(i+(0+1))*by_≤2*(1000+1)*1000:=Nat.mul_le_mul ZJ hby
 have e2:2*(0+1)*by_≤2*(0+1)*1000:=Nat.mul_le_mul ZJ hby
 cases o with
 |none=>
  have hr0:=h0 rfl;subst hr0;obtain rfl:i=0:=by simpa using hr
  have hl:=hd.none';subst hl;exact Ib (KL:=KL) (by_:=by_) (kP hX rfl rfl) (by show 2*(0+1)*by_≤2^48;omega) ZM (by simpa using h4) ZM (λb hb=>by simpa using h b hb)
 |some b=>
  refine nJ (y:=⟨n,rows⟩) (l:=rows.take i) hd.some'.mem' rfl (by simpa using hr) ZM (kP hX rfl rfl) ?_ ?_ (by simpa using h4) hd.some' (λb' hb=>?_)
  ·rw[Yx,YX hr];simp only[Ys,YC];omega
  ·rw[Yx,YX hr];simp only[Ys,YC];omega
  ·rw[Yx,YX hr];exact h b' hb
theorem UZ{α:Type}(a t b:α)(R:List α):(a::t::b::R).Perm ((b::([a]++R))++[t]):=by have h:(a::t::b::R).Perm ([t]++(b::([a]++R))):=(List.Perm.swap t a _).trans ((List.Perm.swap b a R).cons t);exact h.trans YD
theorem BH{n b k m:Nat}{kd:IntKind}{y:Blk}{L:SH}{K:AV→Prop}(h:K (.sl b 0 k))(hh:k≤m)(hm:(b,y)∈L)(hs:y.size=n):W.slice n (.sl b 0 m) none (some (.int kd (k:Int))) none L K:=by refine AG (l:=0) (h:=k) rfl (by simp[cI,oC]) (YK _) hh hm hs ?_;simpa using h
def IU:List AV:=[.ZO 0,.ZO 0,.str [],.str [],.nils,.ZO 0,.ZO 0,.str [],.nils,.nils,.nils]
theorem GZ{α:Type}{f:α→Nat}{l:List α}{i:Nat}(h:i<l.length):((l.take (i+1)).map f).sum=((l.take i).map f).sum+f l[i]:=by rw[Yd h,Yc,List.sum_append];simp
def gV{α:Type}(f:α→Nat)(l:List α):Nat:=(l.map f).sum
theorem Mf{α:Type}{f:α→Nat}{l:List α}{i:Nat}(h:i<l.length):gV f (l.take (i+1))=gV f (l.take i)+f l[i]:=GZ h
theorem FM{α:Type}(f:α→Nat)(l:List α)(i:Nat):gV f (l.take i)≤gV f l:=by
 unfold gV
 induction l generalizing i with
 |nil=>simp
 | cons x l ih=>cases i with
  |zero=>simp
  |succ i=>have:=ih i;simp only[List.take_succ_cons,Yb,Y8];omega
theorem KU{α:Type}{f g:α→Nat}(h:∀x,f x≤g x)(l:List α):gV f l≤gV g l:=by
 unfold gV
 induction l with
 |nil=>simp
 |cons x l ih=>have:=h x;simp only[Yb,Y8];omega
theorem zn{P:Program}{g:FuncId}{args:List AV}{K M L:SH}{R1:AV→SH→Prop}{KL:R}(h:af P g args K R1)(hL:L.Perm (K++M))(hq:∀v K',R1 v K'→∃L'',(K'++M).Perm L''∧KL v L''):W.callM P g args L KL:=⟨af.permR (h.frame hL hq)⟩
theorem DW{n:Nat}{rows:List (List AV)}:ae none n rows=[]:=rfl
theorem DX{b n:Nat}{rows:List (List AV)}:ae (some b) n rows=[(b,⟨n,rows⟩)]:=rfl
theorem ou{P:Program}{g:FuncId}{args:List AV}{i:Nat}{L:SH}{KN:AV→SH→List Nat→Prop}(h:W.callM P g args L (λv K=>∀ks,KN v K ks)):W.dcallM P [] i g args L KN:=
 ⟨L,[],ZM,nofun,h.1.mono λv K' hr=>by simpa using hr _⟩
mutual
def ab.cnt:ab→Nat
 |.mk _ _ _ _ _ _ body els=>ab.cnts body+ab.cnts els
def ab.cnts:List ab→Nat
 |[]=>0
 |x::l=>1+x.cnt+ab.cnts l
end
theorem ab.cnt_eq(x:ab):x.cnt=ab.cnts x.body+ab.cnts x.els:=by cases x;rfl
mutual
theorem ab.cnt_wt:∀x:ab,x.cnt<x.wt
 |.mk a b c d e f body els=>by have:=ab.cnts_wt body;have:=ab.cnts_wt els;simp only[ab.cnt,ab.wt];omega
theorem ab.cnts_wt:∀l:List ab,ab.cnts l≤ab.wts l
 |[]=>X7 _
 |x::l=>by have:=ab.cnt_wt x;have:=ab.cnts_wt l;simp only[ab.cnts,ab.wts];omega
end
def eX(b:UInt8):List AV:=[.int .u8 (b.toNat:Int)]
end
end Go.Proofs.YtdnpdghlggbklaaGreatDoor.Am
