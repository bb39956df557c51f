/- A part of the proof; the statement is proved in the last part. -/
import Derived.Test.YtenbpcngcicamaaGreatDoorQch
set_option linter.unusedSimpArgs false
set_option linter.unusedVariables false
namespace Go.Proofs.YtenbpcngcicamaaGreatDoor.Am
section
set_option maxRecDepth 100000
set_option maxHeartbeats 2000000
set_option linter.unusedSectionVars false
section
variable {w:aN} {s:SyncD} {t k o:Int} (hf:Nu w s) (hr:∀l∈s.locks,l.readers.length<2^40) (ha:allowedS w k o=true) {Q:R} (hq:∀b,cP w s t k o=b→Q (.bool b) [])
include hf hr ha hq
theorem Nz(hk:6≤k∧k≤11):bN (.agg w.enc) (.agg s.enc) (.W9 t) (.W9 k) (.W9 o) [] Q:=by
 have hb:inB o s.locks.length=true:=by
  rw[hf.locks];have:k=6∨k=7∨k=8∨k=9∨k=10∨k=11:=by omega
  rcases this with rfl|rfl|rfl|rfl|rfl|rfl<;>(simp[allowedS]at ha;exact ha.1)
 have hx:=dO (f:=LockD.enc) hb;have ho:=fB hb;have hrd:=Nv hr o;have hll:aM s o=s.locks.getD o.toNat default:=rfl;rw[←hll]at hx;have v6:k=6→cP w s t k o=decide ((aM s o).owner=-1):=λh=>by subst h;rfl
 have v10:k=10→cP w s t k o=(decide ((aM s o).owner=-1)&&decide ((aM s o).readers.length=0)):=λh=>by subst h;rfl
 have v8:k=8→cP w s t k o=(decide ((aM s o).owner=-1)&&!(aM s o).readers.contains t):=λh=>by subst h;rfl
 have v7:k=7∨k=11→cP w s t k o=decide ((aM s o).owner=t):=λh=>by rcases h with rfl|rfl<;>rfl
 have v9:k=9→cP w s t k o=(aM s o).readers.contains t:=λh=>by subst h;rfl
 clear hll hb ha;generalize aM s o=ll at *;obtain⟨ow,rd⟩:=ll;unfold LockD.enc at hx;dsimp only at *;have hc:=Ig rd t hrd;generalize rd.contains t=hcb at *;unfold bN
 repeat' (first|refine st ?_|(refine pf 128 ?_;refine pm (hc) ?_)|refine sb λnb_ hnb_=>?_|refine s2 (λh=>?_) λh=>?_|fail)
 all_goals simp only[decide_eq_true_eq,decide_eq_false_iff_not]at *
 all_goals first
  |(exfalso;clear hq;omega)
  |exact hq _ ((v6 W4).trans (by first|rfl|(simp_all;done)))
  |exact hq _ ((v7 W4).trans (by first|rfl|(simp_all;done)))
  |exact hq _ ((v8 W4).trans (by first|rfl|(simp_all;done)))
  |exact hq _ ((v9 W4).trans (by first|rfl|(simp_all;done)))
  |exact hq _ ((v10 W4).trans (by first|rfl|(simp_all;done)))
theorem NA(hk:k=16∨k=18∨k=19):bN (.agg w.enc) (.agg s.enc) (.W9 t) (.W9 k) (.W9 o) [] Q:=by
 have hb:inB o w.conds.length=true:=by rcases hk with rfl|rfl|rfl<;>simpa[allowedS]using ha
 have hm:=KY hf hb;have hx:=dO (f:=cX.enc) hb;have ho:=fB hb;have hm0:=fB hm;have hx2:=dO (f:=LockD.enc) hm;have v:k=16∨k=18∨k=19→cP w s t k o=decide ((aM s (lU w o)).owner=t):=λh=>by rcases h with rfl|rfl|rfl<;>rfl
 have hll:aM s (lU w o)=s.locks.getD (lU w o).toNat default:=rfl;rw[←hll]at hx2;clear hll;generalize aM s (lU w o)=ll at *;have hmm:lU w o=(w.conds.getD o.toNat default).mutex:=rfl;rw[hmm]at hx2 hm0;generalize w.conds.getD o.toNat default=c at *;obtain⟨nm,mx⟩:=c;obtain⟨ow,rd⟩:=ll;unfold LockD.enc at hx2;unfold cX.enc at hx;dsimp only at *;clear hmm hm hb ha;unfold bN
 repeat' (first|refine st ?_|refine sb λnb_ hnb_=>?_|refine s2 (λh=>?_) λh=>?_|fail)
 all_goals simp only[decide_eq_true_eq,decide_eq_false_iff_not]at *
 all_goals first
  |(exfalso;clear hq;omega)
  |exact hq _ ((v W4).trans (by first|rfl|(simp_all;done)))
theorem PC(hk:k=20∨k=21):bN (.agg w.enc) (.agg s.enc) (.W9 t) (.W9 k) (.W9 o) [] Q:=by
 have hb:inB o s.threads.length=true:=by rw[hf.threads];rcases hk with rfl|rfl<;>simpa[allowedS]using ha
 have hx:=dO (f:=ThrD.enc) hb;have ho:=fB hb;have v20:k=20→cP w s t k o=(decide (o≠t)&&decide ((cm s o).status=0)):=λh=>by subst h;rfl
 have v21:k=21→cP w s t k o=(decide (o≠t)&&decide ((cm s o).status=5)):=λh=>by subst h;rfl
 have hll:cm s o=s.threads.getD o.toNat default:=rfl;rw[←hll]at hx;clear hll hb ha;generalize cm s o=ll at *;obtain⟨st_,cd_,at_⟩:=ll;unfold ThrD.enc at hx;dsimp only at *;unfold bN
 repeat' (first|refine st ?_|refine sb λnb_ hnb_=>?_|refine s2 (λh=>?_) λh=>?_|fail)
 all_goals simp only[decide_eq_true_eq,decide_eq_false_iff_not]at *
 all_goals first
  |(exfalso;clear hq;omega)
  |exact hq _ ((v20 W4).trans (by first|rfl|(simp_all;done)))
  |exact hq _ ((v21 W4).trans (by first|rfl|(simp_all;done)))
theorem PD(hk:k=22∨k=23):bN (.agg w.enc) (.agg s.enc) (.W9 t) (.W9 k) (.W9 o) [] Q:=by
 have hb:inB o s.done.length=true:=by rw[hf.done];rcases hk with rfl|rfl<;>simpa[allowedS]using ha
 have hx:=dO (f:=aV) hb;have ho:=fB hb;have v22:k=22→cP w s t k o=!zD s o:=λh=>by subst h;rfl
 have v23:k=23→cP w s t k o=zD s o:=λh=>by subst h;rfl
 have hll:zD s o=s.done.getD o.toNat default:=rfl;rw[←hll]at hx;clear hll hb ha;generalize zD s o=ll at *;unfold aV at hx;unfold bN
 repeat' (first|refine st ?_|refine sb λnb_ hnb_=>?_|refine s2 (λh=>?_) λh=>?_|fail)
 all_goals simp only[decide_eq_true_eq,decide_eq_false_iff_not]at *
 all_goals first
  |(exfalso;clear hq;omega)
  |exact hq _ ((v22 W4).trans (by first|rfl|(simp_all;done)))
  |exact hq _ ((v23 W4).trans (by first|rfl|(simp_all;done)))
theorem NB(ht:inB t w.threads.length=true)(hk:¬(6≤k∧k≤11)∧¬(k=16∨k=18∨k=19)∧¬(k=20∨k=21)∧¬(k=22∨k=23)):bN (.agg w.enc) (.agg s.enc) (.W9 t) (.W9 k) (.W9 o) [] Q:=by
 have hb:inB t s.threads.length=true:=by rw[hf.threads];exact ht
 have hx:=dO (f:=ThrD.enc) hb;have ho:=fB hb;have v12:k=12→cP w s t k o=decide (s.tx=-1):=λh=>by subst h;rfl
 have v13:k=13→cP w s t k o=decide (s.tx=t):=λh=>by subst h;rfl
 have v14:k=14→cP w s t k o=!(cm s t).atomic:=λh=>by subst h;rfl
 have v15:k=15→cP w s t k o=(cm s t).atomic:=λh=>by subst h;rfl
 have v0:k≠12∧k≠13∧k≠14∧k≠15→cP w s t k o=true:=λh=>by
  obtain⟨a1,a2,a3,a4⟩:=h;unfold cP
  repeat (rw[if_neg W4])
 have hll:cm s t=s.threads.getD t.toNat default:=rfl;rw[←hll]at hx;clear hll hb ha;generalize cm s t=ll at *;obtain⟨st_,cd_,at_⟩:=ll;unfold ThrD.enc at hx;dsimp only at *;unfold bN
 repeat' (first|refine st ?_|refine sb λnb_ hnb_=>?_|refine s2 (λh=>?_) λh=>?_|fail)
 all_goals simp only[decide_eq_true_eq,decide_eq_false_iff_not]at *
 all_goals first
  |(exfalso;clear hq;omega)
  |exact hq _ ((v12 W4).trans (by first|rfl|(simp_all;done)))
  |exact hq _ ((v13 W4).trans (by first|rfl|(simp_all;done)))
  |exact hq _ ((v14 W4).trans (by first|rfl|(simp_all;done)))
  |exact hq _ ((v15 W4).trans (by first|rfl|(simp_all;done)))
  |exact hq _ ((v0 W4).trans (by first|rfl|(simp_all;done)))
end
theorem NC(w:aN)(s:SyncD)(t k o:Int)(hf:Nu w s)(ht:inB t w.threads.length=true)(hr:∀l∈s.locks,l.readers.length<2^40)(ha:allowedS w k o=true):aB Tryz.prog 112 [.agg w.enc,.agg s.enc,.W9 t,.W9 k,.W9 o] (.bool (cP w s t k o)):=by
 refine BK _ _ _ _ _ _ _ ?_;have hq:∀b,cP w s t k o=b→(λ(u:AV) (K:SH)=>u=AV.bool (cP w s t k o)∧K=[]) (.bool b) []:=λb hb=>⟨by rw[hb],rfl⟩
 by_cases h1:6≤k∧k≤11
 ·exact Nz hf hr ha hq h1
 by_cases h2:k=16∨k=18∨k=19
 ·exact NA hf hr ha hq h2
 by_cases h3:k=20∨k=21
 ·exact PC hf hr ha hq h3
 by_cases h4:k=22∨k=23
 ·exact PD hf hr ha hq h4
 exact NB hf hr ha hq ht ⟨h1,h2,h3,h4⟩
theorem JI(w:aN)(s:SyncD)(t k o:Int)(hcn:w.conds.length<2^62)(hr:∀l∈s.locks,l.readers.length<2^40):aB Tryz.prog 84 [.agg w.enc,.agg s.enc,.W9 t,.W9 k,.W9 o] (.bool (bQ w s t k o)):=by
 refine wE _ _ _ _ _ _ _ ?_;unfold lQ;generalize hQ:(λ(u:AV) (K:SH)=>u=AV.bool (bQ w s t k o)∧K=[])=Q;have hq:∀b,bQ w s t k o=b→Q (.bool b) []:=λb hb=>by subst hQ;exact⟨by rw[hb],rfl⟩
 clear hQ;have c1:=PA w s hcn;have c2:=fC t w.threads.length;have c3:=JC w k o;cases h1:fitsS w s with
 |false=>
  rw[h1]at c1;have hv:bQ w s t k o=false:=by simp[bQ,h1]
  repeat' (first|refine st ?_|(refine pf 109 ?_;refine pm (c1) ?_)|refine sb λnb_ hnb_=>?_|refine s2 (λh=>?_) λh=>?_|fail)
  all_goals exact hq _ hv
 |true=>
  rw[h1]at c1;cases h2:inB t w.threads.length with
  |false=>
   rw[h2]at c2;have hv:bQ w s t k o=false:=by simp[bQ,h2]
   repeat' (first|refine st ?_|(refine pf 109 ?_;refine pm (c1) ?_)|(refine pf 110 ?_;refine pm (c2) ?_)|refine sb λnb_ hnb_=>?_|refine s2 (λh=>?_) λh=>?_|fail)
   all_goals exact hq _ hv
  |true=>
   rw[h2]at c2;cases h3:allowedS w k o with
   |false=>
    rw[h3]at c3;have hv:bQ w s t k o=false:=by simp[bQ,h3]
    repeat' (first|refine st ?_|(refine pf 109 ?_;refine pm (c1) ?_)|(refine pf 110 ?_;refine pm (c2) ?_)|(refine pf 111 ?_;refine pm (c3) ?_)|refine sb λnb_ hnb_=>?_|refine s2 (λh=>?_) λh=>?_|fail)
    all_goals exact hq _ hv
   |true=>
    rw[h3]at c3;have hf:=zE.1 h1;have c4:=NC w s t k o hf h2 hr h3;have ht:inB t s.threads.length=true:=by rw[hf.threads];exact h2
    have hx:=dO (f:=ThrD.enc) ht;have ht0:=fB ht;have hll:cm s t=s.threads.getD t.toNat default:=rfl;rw[←hll]at hx;have v1:k=1→bQ w s t k o=decide ((cm s t).status=1):=λh=>by subst h;simp[bQ,h1,h2,h3]
    have v17:k=17→bQ w s t k o=(decide ((cm s t).status=4)&&decide ((cm s t).cond=o)&&decide ((aM s (lU w o)).owner=-1)):=λh=>by subst h;simp[bQ,h1,h2,h3]
    have v0:k≠1∧k≠17→bQ w s t k o=(decide ((cm s t).status=2)&&cP w s t k o):=λh=>by simp[bQ,h1,h2,h3,h.1,h.2]
    clear hll;generalize cm s t=ll at *;generalize cP w s t k o=rb at *;obtain⟨st_,cd_,at_⟩:=ll;unfold ThrD.enc at hx;dsimp only at *;by_cases hk:k=17
    ·subst hk;have hb:inB o w.conds.length=true:=by simpa[allowedS]using h3
     have hm:=KY hf hb;have hx1:=dO (f:=cX.enc) hb;have ho:=fB hb;have hm0:=fB hm;have hx2:=dO (f:=LockD.enc) hm;have hll:aM s (lU w o)=s.locks.getD (lU w o).toNat default:=rfl;rw[←hll]at hx2;clear hll;replace v17:=v17 rfl;generalize aM s (lU w o)=ll at *;have hmm:lU w o=(w.conds.getD o.toNat default).mutex:=rfl;rw[hmm]at hx2 hm0;generalize w.conds.getD o.toNat default=c at *;obtain⟨nm,mx⟩:=c;obtain⟨ow,rd⟩:=ll;unfold LockD.enc at hx2;unfold cX.enc at hx1;dsimp only at *;clear hmm hm hb h3
     repeat' (first|refine st ?_|(refine pf 109 ?_;refine pm (c1) ?_)|(refine pf 110 ?_;refine pm (c2) ?_)|(refine pf 111 ?_;refine pm (c3) ?_)|refine sb λnb_ hnb_=>?_|refine s2 (λh=>?_) λh=>?_|fail)
     all_goals exact hq _ (v17.trans (by first|rfl|(simp_all;done)))
    ·have e17:decide (k=17)=false:=decide_eq_false hk
     repeat' (first|refine st ?_|(refine pf 109 ?_;refine pm (c1) ?_)|(refine pf 110 ?_;refine pm (c2) ?_)|(refine pf 111 ?_;refine pm (c3) ?_)|(refine pf 112 ?_;refine pm (c4) ?_)|refine sb λnb_ hnb_=>?_|refine s2 (λh=>?_) λh=>?_|fail)
     all_goals simp only[decide_eq_true_eq,decide_eq_false_iff_not]at *
     all_goals first
      |(exfalso;clear hq;omega)
      |exact hq _ ((v1 W4).trans (by first|rfl|(simp_all;done)))
      |exact hq _ ((v0 W4).trans (by first|rfl|(simp_all;done)))
end
section
set_option maxRecDepth 100000
set_option linter.unusedSimpArgs false
set_option linter.unusedSectionVars false
def bJ(s:SyncD)(i:Int)(f:ThrD→ThrD):List ThrD:=s.threads.set i.toNat (f (cm s i))
def aK(s:SyncD)(i:Int)(f:LockD→LockD):List LockD:=s.locks.set i.toNat (f (aM s i))
def ND(s:SyncD)(o:Int):List ThrD:=dC s.threads o s.threads.length
def w8(l:List Int)(t:Int):List Int:=Lib.compact (zp (l++[t]))
def cB(w:aN)(s:SyncD)(t k o wake:Int):SyncD×Int:=
 if k=1 then({s with threads:=bJ s t λx=>{x with status:=2}},0)
 else if k=2 then({s with threads:=bJ s t λx=>{x with status:=5}},0)
 else if k=6∨k=10 then({s with locks:=aK s o λx=>{x with owner:=t}},0)
 else if k=7∨k=11 then({s with locks:=aK s o λx=>{x with owner:=-1}},0)
 else if k=8 then({s with locks:=aK s o λx=>{x with readers:=w8 x.readers t}},0)
 else if k=9 then({s with locks:=aK s o λx=>{x with readers:=x.readers.filter λy=>!decide (y=t)}},0)
 else if k=12 then({s with tx:=t},0)
 else if k=13 then({s with tx:=-1},0)
 else if k=14 then({s with threads:=bJ s t λx=>{x with atomic:=true}},0)
 else if k=15 then({s with threads:=bJ s t λx=>{x with atomic:=false}},0)
 else if k=16 then({s with locks:=aK s (lU w o) λx=>{x with owner:=-1},threads:=bJ s t λx=>{x with status:=3,cond:=o}},0)
 else if k=17 then({s with locks:=aK s (lU w o) λx=>{x with owner:=t},threads:=bJ s t λx=>{x with status:=2,cond:=0}},0)
 else if k=18 then({s with threads:=kW s.threads o wake},eg s.threads o wake)
 else if k=19 then({s with threads:=ND s o},(cj s.threads o s.threads.length).length)
 else if k=20 then({s with threads:=bJ s o λx=>{x with status:=1}},0)
 else if k=22 then({s with done:=s.done.set o.toNat true},0)
 else(s,0)
theorem ji{s:SyncD}{t:Int}{f:ThrD→ThrD}{r:List AV}(h:r=(f (cm s t)).enc):(s.threads.map ThrD.enc).set (0+t.toNat) r=(bJ s t f).map ThrD.enc:=by rw[h,Wj,bJ,Wk]
theorem iZ{s:SyncD}{t:Int}{f:LockD→LockD}{r:List AV}(h:r=(f (aM s t)).enc):(s.locks.map LockD.enc).set (0+t.toNat) r=(aK s t f).map LockD.enc:=by rw[h,Wj,aK,Wk]
theorem cQ{s:SyncD}{t:Int}(h:inB t s.threads.length=true):(s.threads.map ThrD.enc)[0+t.toNat]? =some (cm s t).enc:=by rw[Wj];exact dO h
theorem lW{s:SyncD}{t:Int}(h:inB t s.locks.length=true):(s.locks.map LockD.enc)[0+t.toNat]? =some (aM s t).enc:=by rw[Wj];exact dO h
theorem aS{bl n bt m:Nat}{tx:Int}{dv:AV}(h:dv.one=true):([.sl bl 0 n,.W9 tx,dv,.sl bt 0 m]:List AV).all AV.one=true:=by show(true&&(true&&(dv.one&&(true&&true))))=true;rw[h];rfl
theorem FL(T:List ThrD)(c wake:Int):(kW T c wake).length=T.length:=by unfold kW Ii;split<;>simp
theorem NE{α:Type}{l:List α}{i:Nat}{x y:α}(h:l[i]? =some y):(l.set i x)[i]? =some x:=by have:=(V7.1 h).1;simp[this]
section
variable (w:aN) (s:SyncD) (t o wake:Int) (b7 b12 bl bt:Nat) (od:Option Nat)
def fa(R:SH):SH:=(bl,⟨2,s.locks.map LockD.enc⟩)::(bt,⟨3,s.threads.map ThrD.enc⟩)::(b12,⟨4,[[.nils,.W9 0,.nils,.nils]]⟩)::(b7,⟨4,[s.enc]⟩)::R
def eH(k:Int)(R:SH)(dv:AV)(Q:AV→SH→Prop):Prop:=∀(tx val:Int) (ls:List LockD) (th:List ThrD) (L:SH),Fz L (.sl bl 0 s.locks.length) (.lst (ls.map LockD.enc))→Fz L (.sl bt 0 s.threads.length) (.lst (th.map ThrD.enc))→(∀p∈R,p∈L)→
 cB w s t k o wake=(⟨ls,tx,s.done,th⟩,val)→Q (.tup [.agg [.sl bl 0 s.locks.length,.W9 tx,dv,.sl bt 0 s.threads.length],.W9 val,.bool true]) L
variable (R:SH) (dv:AV) (hone:dv.one=true) (Q:AV→SH→Prop) (hf:Nu w s) (ht:inB t s.threads.length=true) (hnd:(fa s b7 b12 bl bt R).names.Nodup)
include hone hf ht hnd
theorem TV(ha:allowedS w 1 o=true)(hq:eH w s t o wake bl bt 1 R dv Q):am Q (.W9 1) (.W9 o) (.W9 wake) (.ptr b7 0 0) (.pptr [[.W9 t]] 0 0) (.ptr b12 0 0) (.pptr [w.enc] 0 0) (.agg [.sl bl 0 s.locks.length,.W9 s.tx,dv,.sl bt 0 s.threads.length]) (fa s b7 b12 bl bt R):=by
 unfold am;simp only[SH.names,fa,Vp,VA,Vq,not_or]at hnd;obtain⟨⟨n1,n2,n3,n4⟩,⟨n5,n6,n7⟩,⟨n8,n9⟩,n10,n11⟩:=hnd;have hb1:([.sl bl 0 s.locks.length,.W9 s.tx,dv,.sl bt 0 s.threads.length]:List AV).all AV.one=true:=aS hone;unfold fa;have hy:=cQ ht;obtain⟨t0,t1⟩:=ay.1 ht;have hb2:∀tx:Int,([.sl bl 0 s.locks.length,.W9 tx,dv,.sl bt 0 s.threads.length]:List AV).all AV.one=true:=λtx=>aS hone
 repeat' (first|refine st ?_|refine av rp rfl rfl hb1 rfl ?_|refine av rp rfl rfl (hb2 _) rfl ?_|refine sb λnb_ hnb_=>?_|refine s2 (λh=>?_) λh=>?_|fail)
 exact hq _ _ (s.locks) (bJ s t λx=>{x with status:=2}) _ (Fz.sls rp rfl W7 (by simp[aK])) (Fz.sls rp (ji rfl) W7 (by simp[bJ])) (λp hp=>by simp only[Vq];simp[hp]) (by simp only[cB,Int.reduceEq,Int.reduceNeg,if_true,if_false,or_self,or_true,true_or,or_false,false_or,reduceIte,reduceCtorEq])
theorem TW(ha:allowedS w 2 o=true)(hq:eH w s t o wake bl bt 2 R dv Q):am Q (.W9 2) (.W9 o) (.W9 wake) (.ptr b7 0 0) (.pptr [[.W9 t]] 0 0) (.ptr b12 0 0) (.pptr [w.enc] 0 0) (.agg [.sl bl 0 s.locks.length,.W9 s.tx,dv,.sl bt 0 s.threads.length]) (fa s b7 b12 bl bt R):=by
 unfold am;simp only[SH.names,fa,Vp,VA,Vq,not_or]at hnd;obtain⟨⟨n1,n2,n3,n4⟩,⟨n5,n6,n7⟩,⟨n8,n9⟩,n10,n11⟩:=hnd;have hb1:([.sl bl 0 s.locks.length,.W9 s.tx,dv,.sl bt 0 s.threads.length]:List AV).all AV.one=true:=aS hone;unfold fa;have hy:=cQ ht;obtain⟨t0,t1⟩:=ay.1 ht;have hb2:∀tx:Int,([.sl bl 0 s.locks.length,.W9 tx,dv,.sl bt 0 s.threads.length]:List AV).all AV.one=true:=λtx=>aS hone
 repeat' (first|refine st ?_|refine av rp rfl rfl hb1 rfl ?_|refine av rp rfl rfl (hb2 _) rfl ?_|refine sb λnb_ hnb_=>?_|refine s2 (λh=>?_) λh=>?_|fail)
 exact hq _ _ (s.locks) (bJ s t λx=>{x with status:=5}) _ (Fz.sls rp rfl W7 (by simp[aK])) (Fz.sls rp (ji rfl) W7 (by simp[bJ])) (λp hp=>by simp only[Vq];simp[hp]) (by simp only[cB,Int.reduceEq,Int.reduceNeg,if_true,if_false,or_self,or_true,true_or,or_false,false_or,reduceIte,reduceCtorEq])
theorem TX(ha:allowedS w 3 o=true)(hq:eH w s t o wake bl bt 3 R dv Q):am Q (.W9 3) (.W9 o) (.W9 wake) (.ptr b7 0 0) (.pptr [[.W9 t]] 0 0) (.ptr b12 0 0) (.pptr [w.enc] 0 0) (.agg [.sl bl 0 s.locks.length,.W9 s.tx,dv,.sl bt 0 s.threads.length]) (fa s b7 b12 bl bt R):=by
 unfold am;simp only[SH.names,fa,Vp,VA,Vq,not_or]at hnd;obtain⟨⟨n1,n2,n3,n4⟩,⟨n5,n6,n7⟩,⟨n8,n9⟩,n10,n11⟩:=hnd;have hb1:([.sl bl 0 s.locks.length,.W9 s.tx,dv,.sl bt 0 s.threads.length]:List AV).all AV.one=true:=aS hone;unfold fa;have hy:=cQ ht;obtain⟨t0,t1⟩:=ay.1 ht;have hb2:∀tx:Int,([.sl bl 0 s.locks.length,.W9 tx,dv,.sl bt 0 s.threads.length]:List AV).all AV.one=true:=λtx=>aS hone
 repeat' (first|refine st ?_|refine av rp rfl rfl hb1 rfl ?_|refine av rp rfl rfl (hb2 _) rfl ?_|refine sb λnb_ hnb_=>?_|refine s2 (λh=>?_) λh=>?_|fail)
 exact hq _ _ (s.locks) (s.threads) _ (Fz.sls rp rfl W7 (by simp[aK])) (Fz.sls rp rfl W7 (by simp[bJ])) (λp hp=>by simp only[Vq];simp[hp]) (by simp only[cB,Int.reduceEq,Int.reduceNeg,if_true,if_false,or_self,or_true,true_or,or_false,false_or,reduceIte,reduceCtorEq])
theorem TY(ha:allowedS w 4 o=true)(hq:eH w s t o wake bl bt 4 R dv Q):am Q (.W9 4) (.W9 o) (.W9 wake) (.ptr b7 0 0) (.pptr [[.W9 t]] 0 0) (.ptr b12 0 0) (.pptr [w.enc] 0 0) (.agg [.sl bl 0 s.locks.length,.W9 s.tx,dv,.sl bt 0 s.threads.length]) (fa s b7 b12 bl bt R):=by
 unfold am;simp only[SH.names,fa,Vp,VA,Vq,not_or]at hnd;obtain⟨⟨n1,n2,n3,n4⟩,⟨n5,n6,n7⟩,⟨n8,n9⟩,n10,n11⟩:=hnd;have hb1:([.sl bl 0 s.locks.length,.W9 s.tx,dv,.sl bt 0 s.threads.length]:List AV).all AV.one=true:=aS hone;unfold fa;have hy:=cQ ht;obtain⟨t0,t1⟩:=ay.1 ht;have hb2:∀tx:Int,([.sl bl 0 s.locks.length,.W9 tx,dv,.sl bt 0 s.threads.length]:List AV).all AV.one=true:=λtx=>aS hone
 repeat' (first|refine st ?_|refine av rp rfl rfl hb1 rfl ?_|refine av rp rfl rfl (hb2 _) rfl ?_|refine sb λnb_ hnb_=>?_|refine s2 (λh=>?_) λh=>?_|fail)
 exact hq _ _ (s.locks) (s.threads) _ (Fz.sls rp rfl W7 (by simp[aK])) (Fz.sls rp rfl W7 (by simp[bJ])) (λp hp=>by simp only[Vq];simp[hp]) (by simp only[cB,Int.reduceEq,Int.reduceNeg,if_true,if_false,or_self,or_true,true_or,or_false,false_or,reduceIte,reduceCtorEq])
theorem TZ(ha:allowedS w 5 o=true)(hq:eH w s t o wake bl bt 5 R dv Q):am Q (.W9 5) (.W9 o) (.W9 wake) (.ptr b7 0 0) (.pptr [[.W9 t]] 0 0) (.ptr b12 0 0) (.pptr [w.enc] 0 0) (.agg [.sl bl 0 s.locks.length,.W9 s.tx,dv,.sl bt 0 s.threads.length]) (fa s b7 b12 bl bt R):=by
 unfold am;simp only[SH.names,fa,Vp,VA,Vq,not_or]at hnd;obtain⟨⟨n1,n2,n3,n4⟩,⟨n5,n6,n7⟩,⟨n8,n9⟩,n10,n11⟩:=hnd;have hb1:([.sl bl 0 s.locks.length,.W9 s.tx,dv,.sl bt 0 s.threads.length]:List AV).all AV.one=true:=aS hone;unfold fa;have hy:=cQ ht;obtain⟨t0,t1⟩:=ay.1 ht;have hb2:∀tx:Int,([.sl bl 0 s.locks.length,.W9 tx,dv,.sl bt 0 s.threads.length]:List AV).all AV.one=true:=λtx=>aS hone
 repeat' (first|refine st ?_|refine av rp rfl rfl hb1 rfl ?_|refine av rp rfl rfl (hb2 _) rfl ?_|refine sb λnb_ hnb_=>?_|refine s2 (λh=>?_) λh=>?_|fail)
 exact hq _ _ (s.locks) (s.threads) _ (Fz.sls rp rfl W7 (by simp[aK])) (Fz.sls rp rfl W7 (by simp[bJ])) (λp hp=>by simp only[Vq];simp[hp]) (by simp only[cB,Int.reduceEq,Int.reduceNeg,if_true,if_false,or_self,or_true,true_or,or_false,false_or,reduceIte,reduceCtorEq])
theorem T0(ha:allowedS w 6 o=true)(hq:eH w s t o wake bl bt 6 R dv Q):am Q (.W9 6) (.W9 o) (.W9 wake) (.ptr b7 0 0) (.pptr [[.W9 t]] 0 0) (.ptr b12 0 0) (.pptr [w.enc] 0 0) (.agg [.sl bl 0 s.locks.length,.W9 s.tx,dv,.sl bt 0 s.threads.length]) (fa s b7 b12 bl bt R):=by
 unfold am;simp only[SH.names,fa,Vp,VA,Vq,not_or]at hnd;obtain⟨⟨n1,n2,n3,n4⟩,⟨n5,n6,n7⟩,⟨n8,n9⟩,n10,n11⟩:=hnd;have hb1:([.sl bl 0 s.locks.length,.W9 s.tx,dv,.sl bt 0 s.threads.length]:List AV).all AV.one=true:=aS hone;unfold fa;have hy:=cQ ht;obtain⟨t0,t1⟩:=ay.1 ht;have hl:inB o s.locks.length=true:=by rw[hf.locks];simp[allowedS]at ha;exact ha.1
 have hx:=lW hl;obtain⟨o0,o1⟩:=ay.1 hl;have hb2:∀tx:Int,([.sl bl 0 s.locks.length,.W9 tx,dv,.sl bt 0 s.threads.length]:List AV).all AV.one=true:=λtx=>aS hone
 repeat' (first|refine st ?_|refine av rp rfl rfl hb1 rfl ?_|refine av rp rfl rfl (hb2 _) rfl ?_|refine sb λnb_ hnb_=>?_|refine s2 (λh=>?_) λh=>?_|fail)
 exact hq _ _ (aK s o λx=>{x with owner:=t}) (s.threads) _ (Fz.sls rp (iZ rfl) W7 (by simp[aK])) (Fz.sls rp rfl W7 (by simp[bJ])) (λp hp=>by simp only[Vq];simp[hp]) (by simp only[cB,Int.reduceEq,Int.reduceNeg,if_true,if_false,or_self,or_true,true_or,or_false,false_or,reduceIte,reduceCtorEq])
theorem T1(ha:allowedS w 7 o=true)(hq:eH w s t o wake bl bt 7 R dv Q):am Q (.W9 7) (.W9 o) (.W9 wake) (.ptr b7 0 0) (.pptr [[.W9 t]] 0 0) (.ptr b12 0 0) (.pptr [w.enc] 0 0) (.agg [.sl bl 0 s.locks.length,.W9 s.tx,dv,.sl bt 0 s.threads.length]) (fa s b7 b12 bl bt R):=by
 unfold am;simp only[SH.names,fa,Vp,VA,Vq,not_or]at hnd;obtain⟨⟨n1,n2,n3,n4⟩,⟨n5,n6,n7⟩,⟨n8,n9⟩,n10,n11⟩:=hnd;have hb1:([.sl bl 0 s.locks.length,.W9 s.tx,dv,.sl bt 0 s.threads.length]:List AV).all AV.one=true:=aS hone;unfold fa;have hy:=cQ ht;obtain⟨t0,t1⟩:=ay.1 ht;have hl:inB o s.locks.length=true:=by rw[hf.locks];simp[allowedS]at ha;exact ha.1
 have hx:=lW hl;obtain⟨o0,o1⟩:=ay.1 hl;have hb2:∀tx:Int,([.sl bl 0 s.locks.length,.W9 tx,dv,.sl bt 0 s.threads.length]:List AV).all AV.one=true:=λtx=>aS hone
 repeat' (first|refine st ?_|refine av rp rfl rfl hb1 rfl ?_|refine av rp rfl rfl (hb2 _) rfl ?_|refine sb λnb_ hnb_=>?_|refine s2 (λh=>?_) λh=>?_|fail)
 exact hq _ _ (aK s o λx=>{x with owner:=-1}) (s.threads) _ (Fz.sls rp (iZ rfl) W7 (by simp[aK])) (Fz.sls rp rfl W7 (by simp[bJ])) (λp hp=>by simp only[Vq];simp[hp]) (by simp only[cB,Int.reduceEq,Int.reduceNeg,if_true,if_false,or_self,or_true,true_or,or_false,false_or,reduceIte,reduceCtorEq])
theorem RH(ha:allowedS w 10 o=true)(hq:eH w s t o wake bl bt 10 R dv Q):am Q (.W9 10) (.W9 o) (.W9 wake) (.ptr b7 0 0) (.pptr [[.W9 t]] 0 0) (.ptr b12 0 0) (.pptr [w.enc] 0 0) (.agg [.sl bl 0 s.locks.length,.W9 s.tx,dv,.sl bt 0 s.threads.length]) (fa s b7 b12 bl bt R):=by
 unfold am;simp only[SH.names,fa,Vp,VA,Vq,not_or]at hnd;obtain⟨⟨n1,n2,n3,n4⟩,⟨n5,n6,n7⟩,⟨n8,n9⟩,n10,n11⟩:=hnd;have hb1:([.sl bl 0 s.locks.length,.W9 s.tx,dv,.sl bt 0 s.threads.length]:List AV).all AV.one=true:=aS hone;unfold fa;have hy:=cQ ht;obtain⟨t0,t1⟩:=ay.1 ht;have hl:inB o s.locks.length=true:=by rw[hf.locks];simp[allowedS]at ha;exact ha.1
 have hx:=lW hl;obtain⟨o0,o1⟩:=ay.1 hl;have hb2:∀tx:Int,([.sl bl 0 s.locks.length,.W9 tx,dv,.sl bt 0 s.threads.length]:List AV).all AV.one=true:=λtx=>aS hone
 repeat' (first|refine st ?_|refine av rp rfl rfl hb1 rfl ?_|refine av rp rfl rfl (hb2 _) rfl ?_|refine sb λnb_ hnb_=>?_|refine s2 (λh=>?_) λh=>?_|fail)
 exact hq _ _ (aK s o λx=>{x with owner:=t}) (s.threads) _ (Fz.sls rp (iZ rfl) W7 (by simp[aK])) (Fz.sls rp rfl W7 (by simp[bJ])) (λp hp=>by simp only[Vq];simp[hp]) (by simp only[cB,Int.reduceEq,Int.reduceNeg,if_true,if_false,or_self,or_true,true_or,or_false,false_or,reduceIte,reduceCtorEq])
theorem RI(ha:allowedS w 11 o=true)(hq:eH w s t o wake bl bt 11 R dv Q):am Q (.W9 11) (.W9 o) (.W9 wake) (.ptr b7 0 0) (.pptr [[.W9 t]] 0 0) (.ptr b12 0 0) (.pptr [w.enc] 0 0) (.agg [.sl bl 0 s.locks.length,.W9 s.tx,dv,.sl bt 0 s.threads.length]) (fa s b7 b12 bl bt R):=by
 unfold am;simp only[SH.names,fa,Vp,VA,Vq,not_or]at hnd;obtain⟨⟨n1,n2,n3,n4⟩,⟨n5,n6,n7⟩,⟨n8,n9⟩,n10,n11⟩:=hnd;have hb1:([.sl bl 0 s.locks.length,.W9 s.tx,dv,.sl bt 0 s.threads.length]:List AV).all AV.one=true:=aS hone;unfold fa;have hy:=cQ ht;obtain⟨t0,t1⟩:=ay.1 ht;have hl:inB o s.locks.length=true:=by rw[hf.locks];simp[allowedS]at ha;exact ha.1
 have hx:=lW hl;obtain⟨o0,o1⟩:=ay.1 hl;have hb2:∀tx:Int,([.sl bl 0 s.locks.length,.W9 tx,dv,.sl bt 0 s.threads.length]:List AV).all AV.one=true:=λtx=>aS hone
 repeat' (first|refine st ?_|refine av rp rfl rfl hb1 rfl ?_|refine av rp rfl rfl (hb2 _) rfl ?_|refine sb λnb_ hnb_=>?_|refine s2 (λh=>?_) λh=>?_|fail)
 exact hq _ _ (aK s o λx=>{x with owner:=-1}) (s.threads) _ (Fz.sls rp (iZ rfl) W7 (by simp[aK])) (Fz.sls rp rfl W7 (by simp[bJ])) (λp hp=>by simp only[Vq];simp[hp]) (by simp only[cB,Int.reduceEq,Int.reduceNeg,if_true,if_false,or_self,or_true,true_or,or_false,false_or,reduceIte,reduceCtorEq])
theorem RJ(ha:allowedS w 12 o=true)(hq:eH w s t o wake bl bt 12 R dv Q):am Q (.W9 12) (.W9 o) (.W9 wake) (.ptr b7 0 0) (.pptr [[.W9 t]] 0 0) (.ptr b12 0 0) (.pptr [w.enc] 0 0) (.agg [.sl bl 0 s.locks.length,.W9 s.tx,dv,.sl bt 0 s.threads.length]) (fa s b7 b12 bl bt R):=by
 unfold am;simp only[SH.names,fa,Vp,VA,Vq,not_or]at hnd;obtain⟨⟨n1,n2,n3,n4⟩,⟨n5,n6,n7⟩,⟨n8,n9⟩,n10,n11⟩:=hnd;have hb1:([.sl bl 0 s.locks.length,.W9 s.tx,dv,.sl bt 0 s.threads.length]:List AV).all AV.one=true:=aS hone;unfold fa;have hy:=cQ ht;obtain⟨t0,t1⟩:=ay.1 ht;have hb2:∀tx:Int,([.sl bl 0 s.locks.length,.W9 tx,dv,.sl bt 0 s.threads.length]:List AV).all AV.one=true:=λtx=>aS hone
 repeat' (first|refine st ?_|refine av rp rfl rfl hb1 rfl ?_|refine av rp rfl rfl (hb2 _) rfl ?_|refine sb λnb_ hnb_=>?_|refine s2 (λh=>?_) λh=>?_|fail)
 exact hq _ _ (s.locks) (s.threads) _ (Fz.sls rp rfl W7 (by simp[aK])) (Fz.sls rp rfl W7 (by simp[bJ])) (λp hp=>by simp only[Vq];simp[hp]) (by simp only[cB,Int.reduceEq,Int.reduceNeg,if_true,if_false,or_self,or_true,true_or,or_false,false_or,reduceIte,reduceCtorEq])
theorem RK(ha:allowedS w 13 o=true)(hq:eH w s t o wake bl bt 13 R dv Q):am Q (.W9 13) (.W9 o) (.W9 wake) (.ptr b7 0 0) (.pptr [[.W9 t]] 0 0) (.ptr b12 0 0) (.pptr [w.enc] 0 0) (.agg [.sl bl 0 s.locks.length,.W9 s.tx,dv,.sl bt 0 s.threads.length]) (fa s b7 b12 bl bt R):=by
 unfold am;simp only[SH.names,fa,Vp,VA,Vq,not_or]at hnd;obtain⟨⟨n1,n2,n3,n4⟩,⟨n5,n6,n7⟩,⟨n8,n9⟩,n10,n11⟩:=hnd;have hb1:([.sl bl 0 s.locks.length,.W9 s.tx,dv,.sl bt 0 s.threads.length]:List AV).all AV.one=true:=aS hone;unfold fa;have hy:=cQ ht;obtain⟨t0,t1⟩:=ay.1 ht;have hb2:∀tx:Int,([.sl bl 0 s.locks.length,.W9 tx,dv,.sl bt 0 s.threads.length]:List AV).all AV.one=true:=λtx=>aS hone
 repeat' (first|refine st ?_|refine av rp rfl rfl hb1 rfl ?_|refine av rp rfl rfl (hb2 _) rfl ?_|refine sb λnb_ hnb_=>?_|refine s2 (λh=>?_) λh=>?_|fail)
 exact hq _ _ (s.locks) (s.threads) _ (Fz.sls rp rfl W7 (by simp[aK])) (Fz.sls rp rfl W7 (by simp[bJ])) (λp hp=>by simp only[Vq];simp[hp]) (by simp only[cB,Int.reduceEq,Int.reduceNeg,if_true,if_false,or_self,or_true,true_or,or_false,false_or,reduceIte,reduceCtorEq])
theorem RL(ha:allowedS w 14 o=true)(hq:eH w s t o wake bl bt 14 R dv Q):am Q (.W9 14) (.W9 o) (.W9 wake) (.ptr b7 0 0) (.pptr [[.W9 t]] 0 0) (.ptr b12 0 0) (.pptr [w.enc] 0 0) (.agg [.sl bl 0 s.locks.length,.W9 s.tx,dv,.sl bt 0 s.threads.length]) (fa s b7 b12 bl bt R):=by
 unfold am;simp only[SH.names,fa,Vp,VA,Vq,not_or]at hnd;obtain⟨⟨n1,n2,n3,n4⟩,⟨n5,n6,n7⟩,⟨n8,n9⟩,n10,n11⟩:=hnd;have hb1:([.sl bl 0 s.locks.length,.W9 s.tx,dv,.sl bt 0 s.threads.length]:List AV).all AV.one=true:=aS hone;unfold fa;have hy:=cQ ht;obtain⟨t0,t1⟩:=ay.1 ht;have hb2:∀tx:Int,([.sl bl 0 s.locks.length,.W9 tx,dv,.sl bt 0 s.threads.length]:List AV).all AV.one=true:=λtx=>aS hone
 repeat' (first|refine st ?_|refine av rp rfl rfl hb1 rfl ?_|refine av rp rfl rfl (hb2 _) rfl ?_|refine sb λnb_ hnb_=>?_|refine s2 (λh=>?_) λh=>?_|fail)
 exact hq _ _ (s.locks) (bJ s t λx=>{x with atomic:=true}) _ (Fz.sls rp rfl W7 (by simp[aK])) (Fz.sls rp (ji rfl) W7 (by simp[bJ])) (λp hp=>by simp only[Vq];simp[hp]) (by simp only[cB,Int.reduceEq,Int.reduceNeg,if_true,if_false,or_self,or_true,true_or,or_false,false_or,reduceIte,reduceCtorEq])
theorem RM(ha:allowedS w 15 o=true)(hq:eH w s t o wake bl bt 15 R dv Q):am Q (.W9 15) (.W9 o) (.W9 wake) (.ptr b7 0 0) (.pptr [[.W9 t]] 0 0) (.ptr b12 0 0) (.pptr [w.enc] 0 0) (.agg [.sl bl 0 s.locks.length,.W9 s.tx,dv,.sl bt 0 s.threads.length]) (fa s b7 b12 bl bt R):=by
 unfold am;simp only[SH.names,fa,Vp,VA,Vq,not_or]at hnd;obtain⟨⟨n1,n2,n3,n4⟩,⟨n5,n6,n7⟩,⟨n8,n9⟩,n10,n11⟩:=hnd;have hb1:([.sl bl 0 s.locks.length,.W9 s.tx,dv,.sl bt 0 s.threads.length]:List AV).all AV.one=true:=aS hone;unfold fa;have hy:=cQ ht;obtain⟨t0,t1⟩:=ay.1 ht;have hb2:∀tx:Int,([.sl bl 0 s.locks.length,.W9 tx,dv,.sl bt 0 s.threads.length]:List AV).all AV.one=true:=λtx=>aS hone
 repeat' (first|refine st ?_|refine av rp rfl rfl hb1 rfl ?_|refine av rp rfl rfl (hb2 _) rfl ?_|refine sb λnb_ hnb_=>?_|refine s2 (λh=>?_) λh=>?_|fail)
 exact hq _ _ (s.locks) (bJ s t λx=>{x with atomic:=false}) _ (Fz.sls rp rfl W7 (by simp[aK])) (Fz.sls rp (ji rfl) W7 (by simp[bJ])) (λp hp=>by simp only[Vq];simp[hp]) (by simp only[cB,Int.reduceEq,Int.reduceNeg,if_true,if_false,or_self,or_true,true_or,or_false,false_or,reduceIte,reduceCtorEq])
theorem RN(ha:allowedS w 16 o=true)(hq:eH w s t o wake bl bt 16 R dv Q):am Q (.W9 16) (.W9 o) (.W9 wake) (.ptr b7 0 0) (.pptr [[.W9 t]] 0 0) (.ptr b12 0 0) (.pptr [w.enc] 0 0) (.agg [.sl bl 0 s.locks.length,.W9 s.tx,dv,.sl bt 0 s.threads.length]) (fa s b7 b12 bl bt R):=by
 unfold am;simp only[SH.names,fa,Vp,VA,Vq,not_or]at hnd;obtain⟨⟨n1,n2,n3,n4⟩,⟨n5,n6,n7⟩,⟨n8,n9⟩,n10,n11⟩:=hnd;have hb1:([.sl bl 0 s.locks.length,.W9 s.tx,dv,.sl bt 0 s.threads.length]:List AV).all AV.one=true:=aS hone;unfold fa;have hy:=cQ ht;obtain⟨t0,t1⟩:=ay.1 ht;have hc:inB o w.conds.length=true:=by simpa[allowedS]using ha
 have hl:=KY hf hc;have hx:=lW hl;obtain⟨o0,o1⟩:=ay.1 hl;unfold lU at hl hx o0 o1;have hy2:((s.threads.map ThrD.enc).set (0+t.toNat) ((cm s t).enc.set 0 (.W9 3)))[0+t.toNat]? =some ((cm s t).enc.set 0 (.W9 3)):=NE hy;have hb2:∀tx:Int,([.sl bl 0 s.locks.length,.W9 tx,dv,.sl bt 0 s.threads.length]:List AV).all AV.one=true:=λtx=>aS hone
 repeat' (first|refine st ?_|refine av rp rfl rfl hb1 rfl ?_|refine av rp rfl rfl (hb2 _) rfl ?_|refine sb λnb_ hnb_=>?_|refine s2 (λh=>?_) λh=>?_|fail)
 exact hq _ _ (aK s (lU w o) λx=>{x with owner:=-1}) (bJ s t λx=>{x with status:=3,cond:=o}) _ (Fz.sls rp (iZ rfl) W7 (by simp[aK])) (Fz.sls rp (by rw[List.set_set];exact ji rfl) W7 (by simp[bJ])) (λp hp=>by simp only[Vq];simp[hp]) (by simp only[cB,Int.reduceEq,Int.reduceNeg,if_true,if_false,or_self,or_true,true_or,or_false,false_or,reduceIte,reduceCtorEq])
theorem RO(ha:allowedS w 17 o=true)(hq:eH w s t o wake bl bt 17 R dv Q):am Q (.W9 17) (.W9 o) (.W9 wake) (.ptr b7 0 0) (.pptr [[.W9 t]] 0 0) (.ptr b12 0 0) (.pptr [w.enc] 0 0) (.agg [.sl bl 0 s.locks.length,.W9 s.tx,dv,.sl bt 0 s.threads.length]) (fa s b7 b12 bl bt R):=by
 unfold am;simp only[SH.names,fa,Vp,VA,Vq,not_or]at hnd;obtain⟨⟨n1,n2,n3,n4⟩,⟨n5,n6,n7⟩,⟨n8,n9⟩,n10,n11⟩:=hnd;have hb1:([.sl bl 0 s.locks.length,.W9 s.tx,dv,.sl bt 0 s.threads.length]:List AV).all AV.one=true:=aS hone;unfold fa;have hy:=cQ ht;obtain⟨t0,t1⟩:=ay.1 ht;have hc:inB o w.conds.length=true:=by simpa[allowedS]using ha
 have hl:=KY hf hc;have hx:=lW hl;obtain⟨o0,o1⟩:=ay.1 hl;unfold lU at hl hx o0 o1;have hy2:((s.threads.map ThrD.enc).set (0+t.toNat) ((cm s t).enc.set 0 (.W9 2)))[0+t.toNat]? =some ((cm s t).enc.set 0 (.W9 2)):=NE hy;have hb2:∀tx:Int,([.sl bl 0 s.locks.length,.W9 tx,dv,.sl bt 0 s.threads.length]:List AV).all AV.one=true:=λtx=>aS hone
 repeat' (first|refine st ?_|refine av rp rfl rfl hb1 rfl ?_|refine av rp rfl rfl (hb2 _) rfl ?_|refine sb λnb_ hnb_=>?_|refine s2 (λh=>?_) λh=>?_|fail)
 exact hq _ _ (aK s (lU w o) λx=>{x with owner:=t}) (bJ s t λx=>{x with status:=2,cond:=0}) _ (Fz.sls rp (iZ rfl) W7 (by simp[aK])) (Fz.sls rp (by rw[List.set_set];exact ji rfl) W7 (by simp[bJ])) (λp hp=>by simp only[Vq];simp[hp]) (by simp only[cB,Int.reduceEq,Int.reduceNeg,if_true,if_false,or_self,or_true,true_or,or_false,false_or,reduceIte,reduceCtorEq])
theorem RP(ha:allowedS w 20 o=true)(hq:eH w s t o wake bl bt 20 R dv Q):am Q (.W9 20) (.W9 o) (.W9 wake) (.ptr b7 0 0) (.pptr [[.W9 t]] 0 0) (.ptr b12 0 0) (.pptr [w.enc] 0 0) (.agg [.sl bl 0 s.locks.length,.W9 s.tx,dv,.sl bt 0 s.threads.length]) (fa s b7 b12 bl bt R):=by
 unfold am;simp only[SH.names,fa,Vp,VA,Vq,not_or]at hnd;obtain⟨⟨n1,n2,n3,n4⟩,⟨n5,n6,n7⟩,⟨n8,n9⟩,n10,n11⟩:=hnd;have hb1:([.sl bl 0 s.locks.length,.W9 s.tx,dv,.sl bt 0 s.threads.length]:List AV).all AV.one=true:=aS hone;unfold fa;have hy:=cQ ht;obtain⟨t0,t1⟩:=ay.1 ht;have hl:inB o s.threads.length=true:=by rw[hf.threads];simpa[allowedS]using ha
 have hx:=cQ hl;obtain⟨o0,o1⟩:=ay.1 hl;have hb2:∀tx:Int,([.sl bl 0 s.locks.length,.W9 tx,dv,.sl bt 0 s.threads.length]:List AV).all AV.one=true:=λtx=>aS hone
 repeat' (first|refine st ?_|refine av rp rfl rfl hb1 rfl ?_|refine av rp rfl rfl (hb2 _) rfl ?_|refine sb λnb_ hnb_=>?_|refine s2 (λh=>?_) λh=>?_|fail)
 exact hq _ _ (s.locks) (bJ s o λx=>{x with status:=1}) _ (Fz.sls rp rfl W7 (by simp[aK])) (Fz.sls rp (ji rfl) W7 (by simp[bJ])) (λp hp=>by simp only[Vq];simp[hp]) (by simp only[cB,Int.reduceEq,Int.reduceNeg,if_true,if_false,or_self,or_true,true_or,or_false,false_or,reduceIte,reduceCtorEq])
theorem RQ(ha:allowedS w 21 o=true)(hq:eH w s t o wake bl bt 21 R dv Q):am Q (.W9 21) (.W9 o) (.W9 wake) (.ptr b7 0 0) (.pptr [[.W9 t]] 0 0) (.ptr b12 0 0) (.pptr [w.enc] 0 0) (.agg [.sl bl 0 s.locks.length,.W9 s.tx,dv,.sl bt 0 s.threads.length]) (fa s b7 b12 bl bt R):=by
 unfold am;simp only[SH.names,fa,Vp,VA,Vq,not_or]at hnd;obtain⟨⟨n1,n2,n3,n4⟩,⟨n5,n6,n7⟩,⟨n8,n9⟩,n10,n11⟩:=hnd;have hb1:([.sl bl 0 s.locks.length,.W9 s.tx,dv,.sl bt 0 s.threads.length]:List AV).all AV.one=true:=aS hone;unfold fa;have hy:=cQ ht;obtain⟨t0,t1⟩:=ay.1 ht;have hb2:∀tx:Int,([.sl bl 0 s.locks.length,.W9 tx,dv,.sl bt 0 s.threads.length]:List AV).all AV.one=true:=λtx=>aS hone
 repeat' (first|refine st ?_|refine av rp rfl rfl hb1 rfl ?_|refine av rp rfl rfl (hb2 _) rfl ?_|refine sb λnb_ hnb_=>?_|refine s2 (λh=>?_) λh=>?_|fail)
 exact hq _ _ (s.locks) (s.threads) _ (Fz.sls rp rfl W7 (by simp[aK])) (Fz.sls rp rfl W7 (by simp[bJ])) (λp hp=>by simp only[Vq];simp[hp]) (by simp only[cB,Int.reduceEq,Int.reduceNeg,if_true,if_false,or_self,or_true,true_or,or_false,false_or,reduceIte,reduceCtorEq])
theorem RS(ha:allowedS w 23 o=true)(hq:eH w s t o wake bl bt 23 R dv Q):am Q (.W9 23) (.W9 o) (.W9 wake) (.ptr b7 0 0) (.pptr [[.W9 t]] 0 0) (.ptr b12 0 0) (.pptr [w.enc] 0 0) (.agg [.sl bl 0 s.locks.length,.W9 s.tx,dv,.sl bt 0 s.threads.length]) (fa s b7 b12 bl bt R):=by
 unfold am;simp only[SH.names,fa,Vp,VA,Vq,not_or]at hnd;obtain⟨⟨n1,n2,n3,n4⟩,⟨n5,n6,n7⟩,⟨n8,n9⟩,n10,n11⟩:=hnd;have hb1:([.sl bl 0 s.locks.length,.W9 s.tx,dv,.sl bt 0 s.threads.length]:List AV).all AV.one=true:=aS hone;unfold fa;have hy:=cQ ht;obtain⟨t0,t1⟩:=ay.1 ht;have hb2:∀tx:Int,([.sl bl 0 s.locks.length,.W9 tx,dv,.sl bt 0 s.threads.length]:List AV).all AV.one=true:=λtx=>aS hone
 repeat' (first|refine st ?_|refine av rp rfl rfl hb1 rfl ?_|refine av rp rfl rfl (hb2 _) rfl ?_|refine sb λnb_ hnb_=>?_|refine s2 (λh=>?_) λh=>?_|fail)
 exact hq _ _ (s.locks) (s.threads) _ (Fz.sls rp rfl W7 (by simp[aK])) (Fz.sls rp rfl W7 (by simp[bJ])) (λp hp=>by simp only[Vq];simp[hp]) (by simp only[cB,Int.reduceEq,Int.reduceNeg,if_true,if_false,or_self,or_true,true_or,or_false,false_or,reduceIte,reduceCtorEq])
theorem RT(hT:s.threads.length<2^40)(hq:eH w s t o wake bl bt 18 R dv Q):am Q (.W9 18) (.W9 o) (.W9 wake) (.ptr b7 0 0) (.pptr [[.W9 t]] 0 0) (.ptr b12 0 0) (.pptr [w.enc] 0 0) (.agg [.sl bl 0 s.locks.length,.W9 s.tx,dv,.sl bt 0 s.threads.length]) (fa s b7 b12 bl bt R):=by
 unfold am;simp only[SH.names,fa,Vp,VA,Vq,not_or]at hnd;obtain⟨⟨n1,n2,n3,n4⟩,⟨n5,n6,n7⟩,⟨n8,n9⟩,n10,n11⟩:=hnd;have hb2:∀tx:Int,([.sl bl 0 s.locks.length,.W9 tx,dv,.sl bt 0 s.threads.length]:List AV).all AV.one=true:=λtx=>aS hone
 unfold fa
 repeat' (first|refine st ?_|refine av rp rfl rfl (hb2 _) rfl ?_|((with_reducible refine aZ 90 ?_);(refine kq (LI _ _ _ bt s.threads o wake hT (hb2 _)) rp ?_;rintro _ _ ⟨rfl,rfl⟩))|refine sb λnb_ hnb_=>?_|refine s2 (λh=>?_) λh=>?_|fail)
 exact hq _ _ s.locks (kW s.threads o wake) _ (Fz.sls rp rfl W7 rfl) (Fz.sls rp rfl W7 (FL _ _ _).symm) (λp hp=>by simp only[Vq,VC];simp[hp]) (by simp only[cB,Int.reduceEq,Int.reduceNeg,if_true,if_false,or_self,or_true,true_or,or_false,false_or,reduceIte,reduceCtorEq])
theorem RU(hT:s.threads.length<2^40)(hq:eH w s t o wake bl bt 19 R dv Q):am Q (.W9 19) (.W9 o) (.W9 wake) (.ptr b7 0 0) (.pptr [[.W9 t]] 0 0) (.ptr b12 0 0) (.pptr [w.enc] 0 0) (.agg [.sl bl 0 s.locks.length,.W9 s.tx,dv,.sl bt 0 s.threads.length]) (fa s b7 b12 bl bt R):=by
 unfold am;simp only[SH.names,fa,Vp,VA,Vq,not_or]at hnd;obtain⟨⟨n1,n2,n3,n4⟩,⟨n5,n6,n7⟩,⟨n8,n9⟩,n10,n11⟩:=hnd;have hb2:∀tx:Int,([.sl bl 0 s.locks.length,.W9 tx,dv,.sl bt 0 s.threads.length]:List AV).all AV.one=true:=λtx=>aS hone
 unfold fa
 repeat' (first|refine st ?_|refine av rp rfl rfl (hb2 _) rfl ?_|((with_reducible refine aZ 91 ?_);(refine kq (Gy _ _ _ bt s.threads o hT (hb2 _)) rp ?_;rintro _ _ ⟨rfl,rfl⟩))|refine sb λnb_ hnb_=>?_|refine s2 (λh=>?_) λh=>?_|fail)
 exact hq _ _ s.locks (ND s o) _ (Fz.sls rp rfl W7 rfl) (Fz.sls rp rfl W7 (eG _ _ _).symm) (λp hp=>by simp only[Vq,VC];simp[hp]) (by simp only[cB,Int.reduceEq,Int.reduceNeg,if_true,if_false,or_self,or_true,true_or,or_false,false_or,reduceIte,reduceCtorEq])
def QM(bd:Nat)(Q:AV→SH→Prop):Prop:=∀(L:SH),Fz L (.sl bl 0 s.locks.length) (.lst (s.locks.map LockD.enc))→Fz L (.sl bt 0 s.threads.length) (.lst (s.threads.map ThrD.enc))→Fz L (.sl bd 0 s.done.length) (.lst ((s.done.set o.toNat true).map aV))→
 Q (.tup [.agg [.sl bl 0 s.locks.length,.W9 s.tx,.sl bd 0 s.done.length,.sl bt 0 s.threads.length],.W9 0,.bool true]) L
omit hone hnd in
theorem RV(bd:Nat)(hnd:(fa s b7 b12 bl bt [(bd,⟨1,s.done.map aV⟩)]).names.Nodup)(ha:allowedS w 22 o=true)(hq:QM s o bl bt bd Q):am Q (.W9 22) (.W9 o) (.W9 wake) (.ptr b7 0 0) (.pptr [[.W9 t]] 0 0) (.ptr b12 0 0) (.pptr [w.enc] 0 0) (.agg [.sl bl 0 s.locks.length,.W9 s.tx,.sl bd 0 s.done.length,.sl bt 0 s.threads.length]) (fa s b7 b12 bl bt [(bd,⟨1,s.done.map aV⟩)]):=by
 unfold am fa;have hl:inB o s.done.length=true:=by rw[hf.done];simpa[allowedS]using ha
 obtain⟨o0,o1⟩:=ay.1 hl;have hx:(s.done.map aV)[0+o.toNat]? =some (aV (s.done.getD o.toNat default)):=by rw[Wj];exact dO hl
 repeat' (first|refine st ?_|refine sb λnb_ hnb_=>?_|refine s2 (λh=>?_) λh=>?_|fail)
 refine hq _ (Fz.sls rp rfl W7 rfl) (Fz.sls rp rfl W7 rfl) (Fz.sls rp ?_ W7 W7);rw[Wk,Wj];rfl
end
end
section
set_option maxRecDepth 100000
set_option linter.unusedSimpArgs false
set_option linter.unusedSectionVars false
theorem Ik{K:SH}{bl:Nat}{rows:List (List AV)}{ls:List LockD}{n:Nat}(hm:(bl,⟨2,rows⟩)∈K)(hn:n=ls.length)(hl:rows.length=ls.length)
  (h:∀(j:Nat) (r:List AV) (x:LockD),rows[j]? =some r→ls[j]? =some x→∃a,r=[.W9 x.owner,a]∧Fz K a (.lst (x.readers.map ao))):Fz K (.sl bl 0 n) (.lst (ls.map LockD.enc)):=by
 subst hn;rcases Wi ls.length with h0|h0
 ·have:ls=[]:=Wr.1 h0;subst this;exact .sl0 bl 0
 ·have get:∀(j:Nat) (r r2:List AV),rows[0+j]? =some r→(ls.map LockD.enc)[j]? =some r2→∃x:LockD,ls[j]? =some x∧r2=x.enc∧∃a,r=[.W9 x.owner,a]∧Fz K a (.lst (x.readers.map ao)):=λj r r2 h1 h2=>by
   rw[Wj]at h1;rw[VD]at h2;cases hj:ls[j]? with
   |none=>rw[hj]at h2;cases h2
   |some x=>rw[hj]at h2;cases h2;exact⟨x,rfl,rfl,h j r x h1 hj⟩
  refine .sl bl 0 _ ⟨2,rows⟩ _ hm W7 h0 W7 (by simp;omega) (λj r r2 h1 h2=>?_) (λj r r2 q a a2 h1 h2 h3 h4=>?_)
  ·obtain⟨x,_,rfl,a,rfl,_⟩:=get j r r2 h1 h2;rfl
  ·obtain⟨x,_,rfl,a',rfl,hz⟩:=get j r r2 h1 h2
   match q with
   |0=>cases h3;cases h4;exact .refl _
   |1=>cases h3;cases h4;exact hz
   |q+2=>simp at h3
theorem enc_row(x:LockD){K:SH}:∃a,x.enc=[.W9 x.owner,a]∧Fz K a (.lst (x.readers.map ao)):=⟨_,rfl,.refl _⟩
theorem KZ{K:SH}{s:SyncD}{o:Int}{ro:Option Nat}{f:LockD→LockD}{a:AV}(hl:inB o s.locks.length=true)(hf:∀x,(f x).owner=x.owner)(ha:Fz K a (.lst ((f (aM s o)).readers.map ao))):
  ∀(j:Nat) (r:List AV) (x:LockD),((bV o.toNat ro s.locks).set (0+o.toNat) [.W9 (aM s o).owner,a])[j]? =some r→(aK s o f)[j]? =some x→∃a,r=[.W9 x.owner,a]∧Fz K a (.lst (x.readers.map ao)):=by
 intro j r x h1 h2;obtain⟨o0,o1⟩:=ay.1 hl;have hlt:o.toNat<s.locks.length:=by omega
 unfold aK at h2;rw[Wj]at h1;by_cases hj:o.toNat=j
 ·subst hj;rw[List.getElem?_set_self (by rw[co];exact hlt)]at h1;rw[List.getElem?_set_self hlt]at h2;cases h1;cases h2;exact⟨a,by rw[hf],ha⟩
 ·rw[List.getElem?_set_ne hj]at h1 h2;have hjl:j<s.locks.length:=(V7.1 h2).1;rw[fJ _ _ _ _ hjl]at h1;rw[Vn hjl]at h2;cases h1;cases h2;unfold nB;rw[if_neg (λe=>hj e.symm)];exact enc_row _
theorem Il{s:SyncD}{o:Int}{ro:Option Nat}(hl:inB o s.locks.length=true):(bV o.toNat ro s.locks)[0+o.toNat]? =some [.W9 (aM s o).owner,aq ro (aM s o).readers.length]:=by
 obtain⟨o0,o1⟩:=ay.1 hl;have hlt:o.toNat<s.locks.length:=by omega
 rw[Wj,fJ _ _ _ _ hlt];unfold nB;rw[if_pos rfl];simp[aM,hlt]
section
variable (w:aN) (s:SyncD) (t o wake:Int) (b7 b12 bl bt:Nat)
def NF(ro:Option Nat)(R:SH):SH:=(bl,⟨2,bV o.toNat ro s.locks⟩)::(bt,⟨3,s.threads.map ThrD.enc⟩)::(b12,⟨4,[[.nils,.W9 0,.nils,.nils]]⟩)::(b7,⟨4,[s.enc]⟩)::(ah ro 1 ((aM s o).readers.map ao)++R)
variable (R:SH) (dv:AV) (hone:dv.one=true) (Q:AV→SH→Prop) (hl:inB o s.locks.length=true) (hrd:(aM s o).readers.length<2^40)
include hone hl hrd
theorem T2(br:Nat)(hnd:(NF s o b7 b12 bl bt (some br) R).names.Nodup)(hq:eH w s t o wake bl bt 9 R dv Q):am Q (.W9 9) (.W9 o) (.W9 wake) (.ptr b7 0 0) (.pptr [[.W9 t]] 0 0) (.ptr b12 0 0) (.pptr [w.enc] 0 0) (.agg [.sl bl 0 s.locks.length,.W9 s.tx,dv,.sl bt 0 s.threads.length]) (NF s o b7 b12 bl bt (some br) R):=by
 unfold am;simp only[SH.names,NF,ah,Vp,VA,Vq,not_or,Wz,Wp]at hnd;obtain⟨⟨n1,n2,n3,n4,n12⟩,⟨n5,n6,n7,n13⟩,⟨n8,n9,n14⟩,⟨n15,n16⟩,n10,n11⟩:=hnd;have hb2:∀tx:Int,([.sl bl 0 s.locks.length,.W9 tx,dv,.sl bt 0 s.threads.length]:List AV).all AV.one=true:=λtx=>aS hone
 obtain⟨o0,o1⟩:=ay.1 hl;have hx:=Il (ro:=some br) hl;have hdel:=EU 89 [.pptr [[.W9 t]] 0 0] (λx=>decide (x=t)) (LK t 0 []) br (aM s o).readers W4;unfold NF;simp only[ah,Wz,Wp]
 repeat' (first|refine st ?_|refine av rp rfl rfl (hb2 _) rfl ?_|((with_reducible refine ef 88 ?_);(refine C4 hdel rp (by(simp only[rm,rc,rz,W.free,ax,↓reduceIte,Nat.reduceEqDiff,aa,dT,W1,V3,VY,not_false_eq_true,implies_true,and_true,true_and,and_self,VQ,reduceCtorEq,forall_const,false_implies,Vv,forall_eq,V5,Wp,Vq,or_false,false_or,forall_eq_or_imp,not_or])<;>(repeat' constructor)<;>first|assumption|(exact Ne.symm W5)|(intro e_;subst e_;simp[SH.names]at *;done)) ?_;rintro _ _ ⟨R',rfl,rfl,hR1,hR2⟩))|refine sb λnb_ hnb_=>?_|refine s2 (λh=>?_) λh=>?_|fail)
 refine hq _ _ (aK s o λx=>{x with readers:=x.readers.filter λy=>!decide (y=t)}) s.threads _ (Ik rp (by simp[aK]) (by simp[aK,co]) (KZ hl (λ_=>rfl) ?_)) (Fz.sls rp rfl W7 rfl) (λp hp=>by simp only[Vq,VC];simp[hp]) (by simp only[cB,Int.reduceEq,if_true,if_false,or_self,reduceIte]);rw[←C8 hR1];exact Fz.rows (x:=⟨1,R'.map ao⟩) rp W7 (by simp[hR2];exact WT _ _)
theorem T3(ro:Option Nat)(hro:ro=none→(aM s o).readers=[])(hnd:(NF s o b7 b12 bl bt ro R).names.Nodup)(hq:eH w s t o wake bl bt 8 R dv Q):am Q (.W9 8) (.W9 o) (.W9 wake) (.ptr b7 0 0) (.pptr [[.W9 t]] 0 0) (.ptr b12 0 0) (.pptr [w.enc] 0 0) (.agg [.sl bl 0 s.locks.length,.W9 s.tx,dv,.sl bt 0 s.threads.length]) (NF s o b7 b12 bl bt ro R):=by
 unfold am;simp only[SH.names,NF,Vp,VA,Vq,not_or]at hnd;obtain⟨⟨n1,n2,n3,n4⟩,⟨n5,n6,n7⟩,⟨n8,n9⟩,n10,n11⟩:=hnd;have hb2:∀tx:Int,([.sl bl 0 s.locks.length,.W9 tx,dv,.sl bt 0 s.threads.length]:List AV).all AV.one=true:=λtx=>aS hone
 obtain⟨o0,o1⟩:=ay.1 hl;have hx:=Il (ro:=ro) hl;have hsort:∀nb,ai Tryz.prog 86 [.sl nb 0 ((aM s o).readers.length+1)] [(nb,⟨1,(aM s o).readers.map ao++[[.W9 t]]⟩)] λv L=>v=.tup []∧L=[(nb,⟨1,(zp ((aM s o).readers++[t])).map ao⟩)]:=λnb=>by have:=KT nb ((aM s o).readers++[t]) (by simp;omega);rw[Vy,Vr]at this;exact this
 have hcomp:∀nb,ai Tryz.prog 87 [.sl nb 0 ((aM s o).readers.length+1)] [(nb,⟨1,(zp ((aM s o).readers++[t])).map ao⟩)] λv L=>∃R':List Int,v=.sl nb 0 (w8 (aM s o).readers t).length∧L=[(nb,⟨1,R'.map ao⟩)]∧R'.take (w8 (aM s o).readers t).length=w8 (aM s o).readers t∧(w8 (aM s o).readers t).length≤R'.length:=λnb=>by
  have:=C9 nb (zp ((aM s o).readers++[t])) (by rw[qo];simp;omega);rw[qo,Vy]at this;refine this.mono λv L ⟨h1,h2⟩=>⟨_,h1,h2,?_,?_⟩
  ·exact List.take_left' rfl
  ·simp[w8]
 unfold NF
 repeat' (first|refine st ?_|refine av rp rfl rfl (hb2 _) rfl ?_|(refine HY [_,_,_,_] W7 (λe=>by rw[hro e];rfl) rfl (Nat.succ_pos 0) (by simp;omega) (by simp;omega) rfl ?_;intro nb_ hnb_;simp only[Vq,VY,or_false,forall_eq_or_imp,forall_eq]at hnb_;obtain⟨q1,q2,q3,q4⟩:=hnb_)|((with_reducible refine aZ 86 ?_);(refine kq (hsort _) rp ?_;rintro _ _ ⟨rfl,rfl⟩))|((with_reducible refine ef 87 ?_);(refine C4 (hcomp _) rp (by(simp only[rm,rc,rz,W.free,ax,↓reduceIte,Nat.reduceEqDiff,aa,dT,W1,V3,VY,not_false_eq_true,implies_true,and_true,true_and,and_self,VQ,reduceCtorEq,forall_const,false_implies,Vv,forall_eq,V5,Wp,Vq,or_false,false_or,forall_eq_or_imp,not_or])<;>(repeat' constructor)<;>first|assumption|(exact Ne.symm W5)|(intro e_;subst e_;simp[SH.names]at *;done)) ?_;rintro _ _ ⟨R',rfl,rfl,hR1,hR2⟩))|refine sb λnb_ hnb_=>?_|refine s2 (λh=>?_) λh=>?_|fail)
 refine hq _ _ (aK s o λx=>{x with readers:=w8 x.readers t}) s.threads _ (Ik rp (by simp[aK]) (by simp[aK,co]) (KZ hl (λ_=>rfl) ?_)) (Fz.sls rp rfl W7 rfl) (λp hp=>by simp only[Vq,VC];simp[hp]) (by simp only[cB,Int.reduceEq,if_true,if_false,or_self,reduceIte]);rw[←C8 hR1];exact Fz.rows (x:=⟨1,R'.map ao⟩) rp W7 (by simp;exact hR2)
end
end
section
set_option maxRecDepth 100000
set_option linter.unusedSimpArgs false
set_option linter.unusedSectionVars false
def K0:SyncD:=⟨[],0,[],[]⟩
def gt(w:aN)(s:SyncD)(t k o wake:Int):SyncD×Int×Bool:=if bQ w s t k o then((cB w s t k o wake).1,(cB w s t k o wake).2,true)else(K0,0,false)
def RW(r:SyncD×Int×Bool):AV:=.tup [.agg r.1.enc,.W9 r.2.1,.bool r.2.2]
theorem GA(ro:Option Nat)(ls:List LockD):bV ls.length ro ls=ls.map LockD.enc:=by
 apply Wt;intro i;rcases Vt i ls.length with hi|hi
 ·rw[fJ _ _ _ _ hi,nB,if_neg W4];simp[hi]
 ·rw[Vu (by rw[co];exact hi),Vu (by simpa using hi)]
section
variable (s:SyncD) (h1:s.locks.length<2^40) (h2:s.done.length≤140737488351232) (h3:s.threads.length<2^40) (hrd:∀l∈s.locks,l.readers.length<2^40) (hne:s.threads≠[])
include h1 h2 h3 hrd hne
theorem Im:ai Tryz.prog 85 [.agg s.enc] [] λv L=>∃bl bt od,v=.agg [.sl bl 0 s.locks.length,.W9 s.tx,aQ od s.done.length,.sl bt 0 s.threads.length]∧L=(bl,⟨2,s.locks.map LockD.enc⟩)::(ah od 1 (s.done.map aV)++[(bt,⟨3,s.threads.map ThrD.enc⟩)])∧(od=none→s.done=[]):=by
 refine(Ih s s.locks.length h1 h2 h3 hrd).mono ?_;rintro v L ⟨bl,ro,od,ot,rfl,rfl,hod,hot,hro⟩;cases ot with
 |none=>exact absurd (hot rfl) hne
 |some bt=>exact⟨bl,bt,od,rfl,by rw[GA,Hg,if_neg (Nat.lt_irrefl _)];rfl,hod⟩
theorem NG(o:Int)(hl:inB o s.locks.length=true):ai Tryz.prog 85 [.agg s.enc] [] λv L=>∃bl bt ro od,v=.agg [.sl bl 0 s.locks.length,.W9 s.tx,aQ od s.done.length,.sl bt 0 s.threads.length]∧L=(bl,⟨2,bV o.toNat ro s.locks⟩)::(ah ro 1 ((aM s o).readers.map ao)++(ah od 1 (s.done.map aV)++[(bt,⟨3,s.threads.map ThrD.enc⟩)]))∧(od=none→s.done=[])∧(ro=none→(aM s o).readers=[]):=by
 obtain⟨o0,o1⟩:=ay.1 hl;have hlt:o.toNat<s.locks.length:=by omega
 refine(Ih s o.toNat h1 h2 h3 hrd).mono ?_;rintro v L ⟨bl,ro,od,ot,rfl,rfl,hod,hot,hro⟩;cases ot with
 |none=>exact absurd (hot rfl) hne
 |some bt=>exact⟨bl,bt,ro,od,rfl,by rw[Hg,if_pos hlt];rfl,hod,λe=>hro e hlt⟩
end
theorem NH{α:Type}(a b c d:α)(X:List α):((a::(X++[b]))++[c,d]).Perm (a::b::c::d::X):=by refine List.Perm.cons a ?_;show((X++[b])++[c,d]).Perm _;rw[V4];exact VT (l₁:=X) (l₂:=[b,c,d])
theorem RX{α:Type}(a b c d:α)(X Y:List α):((a::(X++(Y++[b])))++[c,d]).Perm (a::b::c::d::(X++Y)):=by rw[←V4];exact NH a b c d (X++Y)
theorem bD(od:Option Nat)(n:Nat):(aQ od n).one=true:=by cases od<;>rfl
theorem PE{s:SyncD}{od:Option Nat}(hod:od=none→s.done=[]){L:SH}(hR:∀p∈ah od 1 (s.done.map aV),p∈L):Fz L (aQ od s.done.length) (.lst (s.done.map aV)):=by
 cases od with
 |none=>rw[hod rfl];exact .refl _
 |some bd=>exact Fz.sls (hR _ (Vv.2 rfl)) rfl W7 rfl
structure NI(w:aN)(s:SyncD):Prop where
 conds:w.conds.length<2^40
 locks:s.locks.length<2^40
 done:s.done.length≤140737488351232
 threads:s.threads.length<2^40
 rd:∀l∈s.locks,l.readers.length<2^40
section
variable (w:aN) (s:SyncD) (t k o wake:Int)
def EV(v:AV)(L:SH):Prop:=∃v2 L2,aI [v] L [v2] L2∧v2=RW (gt w s t k o wake)∧L2=[]
theorem T4(hen:bQ w s t k o=true)(bl bt:Nat)(od:Option Nat)(hod:od=none→s.done=[]):eH w s t o wake bl bt k (ah od 1 (s.done.map aV)) (aQ od s.done.length) (EV w s t k o wake):=by intro tx val ls th L f1 f2 hR e;refine⟨_,[],aI.all (Fz.tups (.cons (Fz.aggs (.cons f1 (.cons (.refl _) (.cons (PE hod hR) (.cons f2 .nil))))) (.cons (.refl _) (.cons (.refl _) .nil)))),?_,rfl⟩;unfold gt;rw[if_pos hen,e];rfl
theorem T5(hen:bQ w s t 22 o=true)(bl bt bd:Nat):QM s o bl bt bd (EV w s t 22 o wake):=by intro L f1 f2 f3;refine⟨_,[],aI.all (Fz.tups (.cons (Fz.aggs (.cons f1 (.cons (.refl _) (.cons f3 (.cons f2 .nil))))) (.cons (.refl _) (.cons (.refl _) .nil)))),?_,rfl⟩;unfold gt;rw[if_pos hen];rfl
theorem NJ(hs:NI w s)(hen:bQ w s t k o=true)(b7 b12:Nat):
  W.callM Tryz.prog 85 [.agg s.enc] [(b12,⟨4,[[.nils,.W9 0,.nils,.nils]]⟩),(b7,⟨4,[s.enc]⟩)] (am (EV w s t k o wake) (.W9 k) (.W9 o) (.W9 wake) (.ptr b7 0 0) (.pptr [[.W9 t]] 0 0) (.ptr b12 0 0) (.pptr [w.enc] 0 0)):=by
 have hen':=hen;unfold bQ at hen';simp only[VS]at hen';obtain⟨⟨⟨hfi,hth⟩,hal⟩,hkd⟩:=hen';have hf:=zE.1 hfi;have ht:inB t s.threads.length=true:=by rw[hf.threads];exact hth
 obtain⟨t0,t1⟩:=ay.1 ht;have hne:s.threads≠[]:=λe=>by rw[e]at t1;simp at t1;omega
 have plain:(∀bl bt od,(od=none→s.done=[])→(fa s b7 b12 bl bt (ah od 1 (s.done.map aV))).names.Nodup→am (EV w s t k o wake) (.W9 k) (.W9 o) (.W9 wake) (.ptr b7 0 0) (.pptr [[.W9 t]] 0 0) (.ptr b12 0 0) (.pptr [w.enc] 0 0) (.agg [.sl bl 0 s.locks.length,.W9 s.tx,aQ od s.done.length,.sl bt 0 s.threads.length]) (fa s b7 b12 bl bt (ah od 1 (s.done.map aV))))→
   W.callM Tryz.prog 85 [.agg s.enc] [(b12,⟨4,[[.nils,.W9 0,.nils,.nils]]⟩),(b7,⟨4,[s.enc]⟩)] (am (EV w s t k o wake) (.W9 k) (.W9 o) (.W9 wake) (.ptr b7 0 0) (.pptr [[.W9 t]] 0 0) (.ptr b12 0 0) (.pptr [w.enc] 0 0)):=λh=>by
  refine KQ (Im s hs.locks hs.done hs.threads hs.rd hne) ?_;rintro v K ⟨bl,bt,od,rfl,rfl,hod⟩;exact⟨fa s b7 b12 bl bt (ah od 1 (s.done.map aV)),NH _ _ _ _ _,h bl bt od hod⟩
 have readers:inB o s.locks.length=true→(∀bl bt ro od,(od=none→s.done=[])→(ro=none→(aM s o).readers=[])→(NF s o b7 b12 bl bt ro (ah od 1 (s.done.map aV))).names.Nodup→am (EV w s t k o wake) (.W9 k) (.W9 o) (.W9 wake) (.ptr b7 0 0) (.pptr [[.W9 t]] 0 0) (.ptr b12 0 0) (.pptr [w.enc] 0 0) (.agg [.sl bl 0 s.locks.length,.W9 s.tx,aQ od s.done.length,.sl bt 0 s.threads.length]) (NF s o b7 b12 bl bt ro (ah od 1 (s.done.map aV))))→
   W.callM Tryz.prog 85 [.agg s.enc] [(b12,⟨4,[[.nils,.W9 0,.nils,.nils]]⟩),(b7,⟨4,[s.enc]⟩)] (am (EV w s t k o wake) (.W9 k) (.W9 o) (.W9 wake) (.ptr b7 0 0) (.pptr [[.W9 t]] 0 0) (.ptr b12 0 0) (.pptr [w.enc] 0 0)):=λhl h=>by
  refine KQ (NG s hs.locks hs.done hs.threads hs.rd hne o hl) ?_;rintro v K ⟨bl,bt,ro,od,rfl,rfl,hod,hro⟩;exact⟨NF s o b7 b12 bl bt ro (ah od 1 (s.done.map aV)),RX _ _ _ _ _ _,h bl bt ro od hod hro⟩
 have e1:=λbl bt od hod=>T4 w s t k o wake hen bl bt od hod
 have hrl:∀o,inB o s.locks.length=true→(aM s o).readers.length<2^40:=λo h=>by
  obtain⟨o0,o1⟩:=ay.1 h;have hlt:o.toNat<s.locks.length:=by omega
  unfold aM;rw[show s.locks.getD o.toNat default=s.locks[o.toNat] by simp[hlt]];exact hs.rd _ (VI hlt)
 rcases kinds k with hk|rfl|rfl|rfl|rfl|rfl|rfl|rfl|rfl|rfl|rfl|rfl|rfl|rfl|rfl|rfl|rfl|rfl|rfl|rfl|rfl|rfl|rfl|rfl
 ·simp only[allowedS]at hal
  repeat (rw[if_neg W4]at hal)
  cases hal
 ·exact plain λbl bt od hod hnd=>TV w s t o wake b7 b12 bl bt _ _ (bD _ _) _ hf ht hnd hal (e1 bl bt od hod)
 ·exact plain λbl bt od hod hnd=>TW w s t o wake b7 b12 bl bt _ _ (bD _ _) _ hf ht hnd hal (e1 bl bt od hod)
 ·exact plain λbl bt od hod hnd=>TX w s t o wake b7 b12 bl bt _ _ (bD _ _) _ hf ht hnd hal (e1 bl bt od hod)
 ·exact plain λbl bt od hod hnd=>TY w s t o wake b7 b12 bl bt _ _ (bD _ _) _ hf ht hnd hal (e1 bl bt od hod)
 ·exact plain λbl bt od hod hnd=>TZ w s t o wake b7 b12 bl bt _ _ (bD _ _) _ hf ht hnd hal (e1 bl bt od hod)
 ·exact plain λbl bt od hod hnd=>T0 w s t o wake b7 b12 bl bt _ _ (bD _ _) _ hf ht hnd hal (e1 bl bt od hod)
 ·exact plain λbl bt od hod hnd=>T1 w s t o wake b7 b12 bl bt _ _ (bD _ _) _ hf ht hnd hal (e1 bl bt od hod)
 ·have hl:inB o s.locks.length=true:=by rw[hf.locks];simp[allowedS]at hal;exact hal.1
  exact readers hl λbl bt ro od hod hro hnd=>T3 w s t o wake b7 b12 bl bt _ _ (bD _ _) _ hl (hrl o hl) ro hro hnd (e1 bl bt od hod)
 ·have hl:inB o s.locks.length=true:=by rw[hf.locks];simp[allowedS]at hal;exact hal.1
  refine readers hl λbl bt ro od hod hro hnd=>?_
  cases ro with
  |none=>
   have hc:(aM s o).readers.contains t=true:=by have:=hkd;simp[cP]at this;simpa using this.2
   rw[hro rfl]at hc;cases hc
  |some br=>exact T2 w s t o wake b7 b12 bl bt _ _ (bD _ _) _ hl (hrl o hl) br hnd (e1 bl bt od hod)
 ·exact plain λbl bt od hod hnd=>RH w s t o wake b7 b12 bl bt _ _ (bD _ _) _ hf ht hnd hal (e1 bl bt od hod)
 ·exact plain λbl bt od hod hnd=>RI w s t o wake b7 b12 bl bt _ _ (bD _ _) _ hf ht hnd hal (e1 bl bt od hod)
 ·exact plain λbl bt od hod hnd=>RJ w s t o wake b7 b12 bl bt _ _ (bD _ _) _ hf ht hnd hal (e1 bl bt od hod)
 ·exact plain λbl bt od hod hnd=>RK w s t o wake b7 b12 bl bt _ _ (bD _ _) _ hf ht hnd hal (e1 bl bt od hod)
 ·exact plain λbl bt od hod hnd=>RL w s t o wake b7 b12 bl bt _ _ (bD _ _) _ hf ht hnd hal (e1 bl bt od hod)
 ·exact plain λbl bt od hod hnd=>RM w s t o wake b7 b12 bl bt _ _ (bD _ _) _ hf ht hnd hal (e1 bl bt od hod)
 ·exact plain λbl bt od hod hnd=>RN w s t o wake b7 b12 bl bt _ _ (bD _ _) _ hf ht hnd hal (e1 bl bt od hod)
 ·exact plain λbl bt od hod hnd=>RO w s t o wake b7 b12 bl bt _ _ (bD _ _) _ hf ht hnd hal (e1 bl bt od hod)
 ·exact plain λbl bt od hod hnd=>RT w s t o wake b7 b12 bl bt _ _ (bD _ _) _ hf ht hnd hs.threads (e1 bl bt od hod)
 ·exact plain λbl bt od hod hnd=>RU w s t o wake b7 b12 bl bt _ _ (bD _ _) _ hf ht hnd hs.threads (e1 bl bt od hod)
 ·exact plain λbl bt od hod hnd=>RP w s t o wake b7 b12 bl bt _ _ (bD _ _) _ hf ht hnd hal (e1 bl bt od hod)
 ·exact plain λbl bt od hod hnd=>RQ w s t o wake b7 b12 bl bt _ _ (bD _ _) _ hf ht hnd hal (e1 bl bt od hod)
 ·refine plain λbl bt od hod hnd=>?_
  cases od with
  |none=>
   have hl:inB o s.done.length=true:=by rw[hf.done];simpa[allowedS]using hal
   obtain⟨o0,o1⟩:=ay.1 hl;rw[hod rfl]at o1;simp at o1;omega
  |some bd=>exact RV w s t o wake b7 b12 bl bt _ hf ht bd hnd hal (T5 w s t o wake hen bl bt bd)
 ·exact plain λbl bt od hod hnd=>RS w s t o wake b7 b12 bl bt _ _ (bD _ _) _ hf ht hnd hal (e1 bl bt od hod)
theorem NK(hs:NI w s):aB Tryz.prog 56 [.agg w.enc,.agg s.enc,.W9 t,.W9 k,.W9 o,.W9 wake] (RW (gt w s t k o wake)):=by
 refine ai.fz (Bt _ _ _ _ _ _ _ _ ?_);show jf _ _ _ _ _ _ _ (EV w s t k o wake);unfold jf;have hcn:w.conds.length<2^62:=by have:=hs.conds;omega
 have he:=JI w s t k o hcn hs.rd;have hc8:=NJ w s t k o wake hs;have fin:bQ w s t k o=false→∀L,EV w s t k o wake (.tup [.agg [.nils,.W9 0,.nils,.nils],.W9 0,.bool false]) L:=λhn L=>by refine⟨_,[],aI.all (Fz.tups (.cons (Fz.aggs (.cons .nils (.cons (.refl _) (.cons .nils (.cons .nils .nil))))) (.cons (.refl _) (.cons (.refl _) .nil)))),?_,rfl⟩;unfold gt;rw[hn];rfl
 generalize EV w s t k o wake=Q at *;cases hen:bQ w s t k o with
 |false=>
  rw[hen]at he;have nh:(!false)=true:=rfl;have fin:=fin hen;clear hc8
  repeat' (first|refine st ?_|(refine pf 84 ?_;refine pm (he) ?_)|refine sb λnb_ hnb_=>?_|refine s2 (λh=>?_) λh=>?_|fail)
  exact fin _
 |true=>
  rw[hen]at he;have hc8:=hc8 hen;clear fin
  repeat' (first|exact hc8 _ _|refine st ?_|(refine pf 84 ?_;refine pm (he) ?_)|refine sb λnb_ hnb_=>?_|refine s2 (λh=>?_) λh=>?_|fail)
end
end
theorem ip(d:Array Int)(hs:∀i j,i<j→j<d.size→d[i]!≤d[j]!):∀m,m≤d.size→
  (Lib.compactUpTo d m).Pairwise (·<·)∧(∀x∈Lib.compactUpTo d m,∃j,j<m∧x=d[j]!)∧(∀j,j<m→d[j]!∈Lib.compactUpTo d m)
 |0,_=>⟨by simp[Lib.compactUpTo],by simp[Lib.compactUpTo],by intro j hj;omega⟩
 | m+1,hm=>by
  obtain⟨h1,h2,h3⟩:=ip d hs m W4;rw[Lib.compactUpTo_succ];by_cases hk:Lib.keeps d m=true
  ·rw[if_pos hk];refine⟨?_,?_,?_⟩
   ·rw[List.pairwise_append];refine⟨h1,W7,?_⟩;intro x hx y hy;obtain⟨j,hj,rfl⟩:=h2 x hx;simp at hy;subst hy;have hle:=hs j m hj W4;have hne:d[j]!≠d[m]! :=by
     intro he;have hm0:0<m:=by omega
     have h4:d[m]!≠d[m-1]! :=by intro h5;rw[Lib.keeps_neg hm0 h5]at hk;cases hk
     have h5:d[j]!≤d[m-1]! :=by
      rcases Vt j (m-1)with h|h
      ·exact hs j (m-1) h W4
      ·rw[show j=m-1 from by omega];exact Int.le_refl _
     have h6:d[m-1]!≤d[m]! :=hs (m-1) m W4 W4;exact h4 W4
    omega
   ·intro x hx;rw[VC]at hx;rcases hx with hx|hx
    ·obtain⟨j,hj,e⟩:=h2 x hx;exact⟨j,W4,e⟩
    ·simp at hx;exact⟨m,W4,hx⟩
   ·intro j hj;rw[VC];rcases Vt j m with h|h
    ·exact .inl (h3 j h)
    ·rw[show j=m from by omega];exact .inr W7
  ·rw[if_neg hk,V5];have hm0:0<m:=by
    rcases Wi m with h|h
    ·subst h;exact absurd (Lib.keeps_lt_one d 0 W4) hk
    ·exact h
   have he:d[m]! =d[m-1]! :=by apply Classical.byContradiction;intro h;exact hk (Lib.keeps_pos h)
   refine⟨h1,λx hx=>?_,λj hj=>?_⟩
   ·obtain⟨j,hj,e⟩:=h2 x hx;exact⟨j,W4,e⟩
   ·rcases Vt j m with h|h
    ·exact h3 j h
    ·rw[show j=m from by omega,he];exact h3 (m-1) W4
theorem PF(l:List Int)(j:Nat)(hj:j<l.length):l.toArray[j]! =l[j]:=by rw[getElem!_pos _ _ (by simpa using hj)];simp
theorem Dh(l:List Int):∀i j,i<j→j<(zp l).toArray.size→(zp l).toArray[i]!≤(zp l).toArray[j]! :=by
 intro i j hij hj;have hj':j<(zp l).length:=by simpa using hj
 rw[PF _ i W4,PF _ j hj'];have hp:(zp l).Pairwise (λx y=>(decide (x≤y))=true):=List.pairwise_mergeSort (λa b c=>by simp;omega) (λa b=>by simp;omega) l;have:=(List.pairwise_iff_getElem.1 hp) i j W4 hj' hij;simpa using this
def JK(l:List Int):List Int:=Lib.compact (zp l)
theorem K3(l:List Int)(x:Int):x∈JK l↔x∈l:=by
 obtain⟨h1,h2,h3⟩:=ip (zp l).toArray (Dh _) (zp l).length W7;have hm:∀y,y∈zp l↔y∈l:=λy=>by simp[zp,List.mem_mergeSort]
 unfold JK Lib.compact;constructor
 ·intro hx;obtain⟨j,hj,rfl⟩:=h2 x hx;rw[PF _ j hj];exact(hm _).1 (VI _)
 ·intro hx;obtain⟨j,hj,rfl⟩:=Wq ((hm x).2 hx);rw[←PF _ j hj];exact h3 j hj
theorem PI(l:List Int):(JK l).Pairwise (·<·):=
 (ip (zp l).toArray (Dh _) (zp l).length W7).1
structure aW where
 pc:Int
 regs:List Int
 taint:List (List Int)
 ev:Int
def cp(l:List Int):List AV:=[.lst (l.map ao)]
def aW.enc(s:aW):List AV:=[.W9 s.pc,.lst (s.regs.map ao),.lst (s.taint.map cp),.W9 s.ev]
def aW.zero:aW:=⟨0,[],[],0⟩
def aW.has(s:aW)(r:Int):Bool:=inB r s.regs.length
def aW.reg(s:aW)(r:Int):Int:=s.regs.getD r.toNat 0
def aW.tnt(s:aW)(r:Int):List Int:=s.taint.getD r.toNat []
def aW.put(s:aW)(a v:Int)(t:List Int):aW:=⟨IntKind.i64.wrap (s.pc+1),s.regs.set a.toNat v,s.taint.set a.toNat t,s.ev⟩
def bS(i:bn)(s:aW):Option aW:=
 if i.op=1 then(if s.has i.a then some (s.put i.a i.n [])else none)else
 if i.op=2 then(if s.has i.a&&s.has i.b then some (s.put i.a (s.reg i.b) (s.tnt i.b))else none)else
 if i.op=3 then(if s.has i.a&&s.has i.b&&(OZ i.n (s.reg i.b)).2 then some (s.put i.a (OZ i.n (s.reg i.b)).1 (s.tnt i.b))else none)else
 if i.op=4 then(if s.has i.a&&s.has i.b&&s.has i.c&&(Dd i.n (s.reg i.b) (s.reg i.c)).2 then some (s.put i.a (Dd i.n (s.reg i.b) (s.reg i.c)).1 (JK (s.tnt i.b++s.tnt i.c)))else none)else
 some {s with pc:=i.a}
def hM(ins:List bn):Nat→aW→aW×Bool
 |0,s=>if inB s.pc ins.length then(if(ins.getD s.pc.toNat default).op<1∨5<(ins.getD s.pc.toNat default).op then(s,true)else(aW.zero,false))else(aW.zero,false)
 | k+1,s=>if inB s.pc ins.length then(if(ins.getD s.pc.toNat default).op<1∨5<(ins.getD s.pc.toNat default).op then(s,true)else
   match bS (ins.getD s.pc.toNat default) s with
   |none=>(aW.zero,false)
   |some s2=>hM ins k s2)else(aW.zero,false)
def bY(c:iD)(s:aW):aW×Bool:=
 if(s.regs.length:Int)=c.regs∧(s.taint.length:Int)=c.regs then hM c.ins c.ins.length s else(aW.zero,false)
def Di(p:aW×Bool):AV:=.tup [.agg p.1.enc,.bool p.2]
structure jj(U:List Int)(s:aW):Prop where
 len:s.taint.length=s.regs.length
 small:s.regs.length<2^40
 short:∀l∈s.taint,l.length≤2^30
 sub:∀l∈s.taint,∀x∈l,x∈U
theorem FM:∀{l U:List Int},l.Nodup→(∀x∈l,x∈U)→l.length≤U.length
 |[],U,_,_=>by simp
 | x::l,U,hn,hs=>by
  have hx:x∈U:=hs x W7;have h1:=VA.1 hn;have:=FM (l:=l) (U:=U.erase x) h1.2 λy hy=>(List.mem_erase_of_ne (by rintro rfl;exact h1.1 hy)).2 (hs y (by simp[hy]))
  rw[List.length_erase_of_mem hx]at this;have:=List.length_pos_of_mem hx;simp only[VL];omega
theorem LL{U l:List Int}(h:∀x∈l,x∈U):(JK l).length≤U.length:=by have hnd:(JK l).Nodup:=(PI l).imp (λ{a b} (h:a<b)=>by omega);exact FM hnd λx hx=>h x ((K3 l x).1 hx)
theorem jj.tnt{U:List Int}{s:aW}(h:jj U s)(r:Int):(s.tnt r).length≤2^30∧∀x∈s.tnt r,x∈U:=by
 unfold aW.tnt;rw[WP];cases he:s.taint[r.toNat]? with
 |none=>simp
 |some l=>exact⟨h.short l (V2 he),h.sub l (V2 he)⟩
theorem jj.put{U:List Int}{s:aW}(h:jj U s)(a v:Int){t:List Int}(h1:t.length≤2^30)(h2:∀x∈t,x∈U):jj U (s.put a v t):=by
 refine⟨by simp[aW.put,h.len],by simpa[aW.put]using h.small,λl hl=>?_,λl hl=>?_⟩
 ·rcases WE hl with g|g
  ·exact h.short l g
  ·rw[g];exact h1
 ·rcases WE hl with g|g
  ·exact h.sub l g
  ·rw[g];exact h2
theorem jj.step{U:List Int}(hU:U.length≤2^30){s s2:aW}{i:bn}(h:jj U s)(he:bS i s=some s2):jj U s2:=by
 unfold bS at he;split at he
 ·split at he
  ·cases he;exact h.put _ _ W7 W7
  ·cases he
 ·split at he
  ·split at he
   ·cases he;exact h.put _ _ (h.tnt _).1 (h.tnt _).2
   ·cases he
  ·split at he
   ·split at he
    ·cases he;exact h.put _ _ (h.tnt _).1 (h.tnt _).2
    ·cases he
   ·split at he
    ·split at he
     ·cases he;have hs:∀x∈s.tnt i.b++s.tnt i.c,x∈U:=λx hx=>by
       rcases VC.1 hx with g|g
       ·exact(h.tnt _).2 x g
       ·exact(h.tnt _).2 x g
      exact h.put _ _ (VG (LL hs) hU) λx hx=>hs x ((K3 _ _).1 hx)
     ·cases he
    ·cases he;exact⟨h.len,h.small,h.short,h.sub⟩
end Go.Proofs.YtenbpcngcicamaaGreatDoor.Am
