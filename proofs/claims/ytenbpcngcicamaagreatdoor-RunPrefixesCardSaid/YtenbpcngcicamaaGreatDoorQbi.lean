/- A part of the proof; the statement is proved in the last part. -/
import Derived.Test.YtenbpcngcicamaaGreatDoorQbh
set_option linter.unusedSimpArgs false
set_option linter.unusedVariables false
namespace Go.Proofs.YtenbpcngcicamaaGreatDoor.Am
section
set_option maxRecDepth 100000
set_option maxHeartbeats 2000000
set_option linter.unusedSectionVars false
section
variable {w:aM} {s:SyncD} {t k o:Int} (hf:Nz w s) (hr:∀l∈s.locks,l.readers.length<2^40) (ha:allowedS w k o=true) {Q:R} (hq:∀b,cL w s t k o=b→Q (.bool b) [])
include hf hr ha hq
theorem NE(hk:6≤k∧k≤11):bK (.agg w.enc) (.agg s.enc) (.W6 t) (.W6 k) (.W6 o) [] Q:=by
 have hb:inB o s.locks.length=true:=by
  rw[hf.locks];have:k=6∨k=7∨k=8∨k=9∨k=10∨k=11:=by omega
  rcases this with rfl|rfl|rfl|rfl|rfl|rfl<;>(simp[allowedS]at ha;exact ha.1)
 have hx:=dJ (f:=LockD.enc) hb;have ho:=fw hb;have hrd:=NA hr o;have hll:aK s o=s.locks.getD o.toNat default:=rfl;rw[←hll]at hx;have v6:k=6→cL w s t k o=decide ((aK s o).owner=-1):=λh=>by subst h;rfl
 have v10:k=10→cL w s t k o=(decide ((aK s o).owner=-1)&&decide ((aK s o).readers.length=0)):=λh=>by subst h;rfl
 have v8:k=8→cL w s t k o=(decide ((aK s o).owner=-1)&&!(aK s o).readers.contains t):=λh=>by subst h;rfl
 have v7:k=7∨k=11→cL w s t k o=decide ((aK s o).owner=t):=λh=>by rcases h with rfl|rfl<;>rfl
 have v9:k=9→cL w s t k o=(aK s o).readers.contains t:=λh=>by subst h;rfl
 clear hll hb ha;generalize aK s o=ll at *;obtain⟨ow,rd⟩:=ll;unfold LockD.enc at hx;dsimp only at *;have hc:=Im rd t hrd;generalize rd.contains t=hcb at *;unfold bK
 repeat' (first|refine st ?_|(refine pf 128 ?_;refine pm (hc) ?_)|refine sb λnb_ hnb_=>?_|refine s2 (λh=>?_) λh=>?_|fail)
 all_goals simp only[decide_eq_true_eq,decide_eq_false_iff_not]at *
 all_goals first
  |(exfalso;clear hq;omega)
  |exact hq _ ((v6 W1).trans (by first|rfl|(simp_all;done)))
  |exact hq _ ((v7 W1).trans (by first|rfl|(simp_all;done)))
  |exact hq _ ((v8 W1).trans (by first|rfl|(simp_all;done)))
  |exact hq _ ((v9 W1).trans (by first|rfl|(simp_all;done)))
  |exact hq _ ((v10 W1).trans (by first|rfl|(simp_all;done)))
theorem NF(hk:k=16∨k=18∨k=19):bK (.agg w.enc) (.agg s.enc) (.W6 t) (.W6 k) (.W6 o) [] Q:=by
 have hb:inB o w.conds.length=true:=by rcases hk with rfl|rfl|rfl<;>simpa[allowedS]using ha
 have hm:=La hf hb;have hx:=dJ (f:=cS.enc) hb;have ho:=fw hb;have hm0:=fw hm;have hx2:=dJ (f:=LockD.enc) hm;have v:k=16∨k=18∨k=19→cL w s t k o=decide ((aK s (lM w o)).owner=t):=λh=>by rcases h with rfl|rfl|rfl<;>rfl
 have hll:aK s (lM w o)=s.locks.getD (lM w o).toNat default:=rfl;rw[←hll]at hx2;clear hll;generalize aK s (lM w o)=ll at *;have hmm:lM w o=(w.conds.getD o.toNat default).mutex:=rfl;rw[hmm]at hx2 hm0;generalize w.conds.getD o.toNat default=c at *;obtain⟨nm,mx⟩:=c;obtain⟨ow,rd⟩:=ll;unfold LockD.enc at hx2;unfold cS.enc at hx;dsimp only at *;clear hmm hm hb ha;unfold bK
 repeat' (first|refine st ?_|refine sb λnb_ hnb_=>?_|refine s2 (λh=>?_) λh=>?_|fail)
 all_goals simp only[decide_eq_true_eq,decide_eq_false_iff_not]at *
 all_goals first
  |(exfalso;clear hq;omega)
  |exact hq _ ((v W1).trans (by first|rfl|(simp_all;done)))
theorem PD(hk:k=20∨k=21):bK (.agg w.enc) (.agg s.enc) (.W6 t) (.W6 k) (.W6 o) [] Q:=by
 have hb:inB o s.threads.length=true:=by rw[hf.threads];rcases hk with rfl|rfl<;>simpa[allowedS]using ha
 have hx:=dJ (f:=ThrD.enc) hb;have ho:=fw hb;have v20:k=20→cL w s t k o=(decide (o≠t)&&decide ((cj s o).status=0)):=λh=>by subst h;rfl
 have v21:k=21→cL w s t k o=(decide (o≠t)&&decide ((cj s o).status=5)):=λh=>by subst h;rfl
 have hll:cj s o=s.threads.getD o.toNat default:=rfl;rw[←hll]at hx;clear hll hb ha;generalize cj s o=ll at *;obtain⟨st_,cd_,at_⟩:=ll;unfold ThrD.enc at hx;dsimp only at *;unfold bK
 repeat' (first|refine st ?_|refine sb λnb_ hnb_=>?_|refine s2 (λh=>?_) λh=>?_|fail)
 all_goals simp only[decide_eq_true_eq,decide_eq_false_iff_not]at *
 all_goals first
  |(exfalso;clear hq;omega)
  |exact hq _ ((v20 W1).trans (by first|rfl|(simp_all;done)))
  |exact hq _ ((v21 W1).trans (by first|rfl|(simp_all;done)))
theorem PE(hk:k=22∨k=23):bK (.agg w.enc) (.agg s.enc) (.W6 t) (.W6 k) (.W6 o) [] Q:=by
 have hb:inB o s.done.length=true:=by rw[hf.done];rcases hk with rfl|rfl<;>simpa[allowedS]using ha
 have hx:=dJ (f:=aT) hb;have ho:=fw hb;have v22:k=22→cL w s t k o=!zF s o:=λh=>by subst h;rfl
 have v23:k=23→cL w s t k o=zF s o:=λh=>by subst h;rfl
 have hll:zF s o=s.done.getD o.toNat default:=rfl;rw[←hll]at hx;clear hll hb ha;generalize zF s o=ll at *;unfold aT at hx;unfold bK
 repeat' (first|refine st ?_|refine sb λnb_ hnb_=>?_|refine s2 (λh=>?_) λh=>?_|fail)
 all_goals simp only[decide_eq_true_eq,decide_eq_false_iff_not]at *
 all_goals first
  |(exfalso;clear hq;omega)
  |exact hq _ ((v22 W1).trans (by first|rfl|(simp_all;done)))
  |exact hq _ ((v23 W1).trans (by first|rfl|(simp_all;done)))
theorem NG(ht:inB t w.threads.length=true)(hk:¬(6≤k∧k≤11)∧¬(k=16∨k=18∨k=19)∧¬(k=20∨k=21)∧¬(k=22∨k=23)):bK (.agg w.enc) (.agg s.enc) (.W6 t) (.W6 k) (.W6 o) [] Q:=by
 have hb:inB t s.threads.length=true:=by rw[hf.threads];exact ht
 have hx:=dJ (f:=ThrD.enc) hb;have ho:=fw hb;have v12:k=12→cL w s t k o=decide (s.tx=-1):=λh=>by subst h;rfl
 have v13:k=13→cL w s t k o=decide (s.tx=t):=λh=>by subst h;rfl
 have v14:k=14→cL w s t k o=!(cj s t).atomic:=λh=>by subst h;rfl
 have v15:k=15→cL w s t k o=(cj s t).atomic:=λh=>by subst h;rfl
 have v0:k≠12∧k≠13∧k≠14∧k≠15→cL w s t k o=true:=λh=>by
  obtain⟨a1,a2,a3,a4⟩:=h;unfold cL
  repeat (rw[if_neg W1])
 have hll:cj s t=s.threads.getD t.toNat default:=rfl;rw[←hll]at hx;clear hll hb ha;generalize cj s t=ll at *;obtain⟨st_,cd_,at_⟩:=ll;unfold ThrD.enc at hx;dsimp only at *;unfold bK
 repeat' (first|refine st ?_|refine sb λnb_ hnb_=>?_|refine s2 (λh=>?_) λh=>?_|fail)
 all_goals simp only[decide_eq_true_eq,decide_eq_false_iff_not]at *
 all_goals first
  |(exfalso;clear hq;omega)
  |exact hq _ ((v12 W1).trans (by first|rfl|(simp_all;done)))
  |exact hq _ ((v13 W1).trans (by first|rfl|(simp_all;done)))
  |exact hq _ ((v14 W1).trans (by first|rfl|(simp_all;done)))
  |exact hq _ ((v15 W1).trans (by first|rfl|(simp_all;done)))
  |exact hq _ ((v0 W1).trans (by first|rfl|(simp_all;done)))
end
theorem NH(w:aM)(s:SyncD)(t k o:Int)(hf:Nz w s)(ht:inB t w.threads.length=true)(hr:∀l∈s.locks,l.readers.length<2^40)(ha:allowedS w k o=true):az Tryz.prog 112 [.agg w.enc,.agg s.enc,.W6 t,.W6 k,.W6 o] (.bool (cL w s t k o)):=by
 refine BL _ _ _ _ _ _ _ ?_;have hq:∀b,cL w s t k o=b→(λ(u:AV) (K:SH)=>u=AV.bool (cL w s t k o)∧K=[]) (.bool b) []:=λb hb=>⟨by rw[hb],rfl⟩
 by_cases h1:6≤k∧k≤11
 ·exact NE hf hr ha hq h1
 by_cases h2:k=16∨k=18∨k=19
 ·exact NF hf hr ha hq h2
 by_cases h3:k=20∨k=21
 ·exact PD hf hr ha hq h3
 by_cases h4:k=22∨k=23
 ·exact PE hf hr ha hq h4
 exact NG hf hr ha hq ht ⟨h1,h2,h3,h4⟩
theorem JP(w:aM)(s:SyncD)(t k o:Int)(hcn:w.conds.length<2^62)(hr:∀l∈s.locks,l.readers.length<2^40):az Tryz.prog 84 [.agg w.enc,.agg s.enc,.W6 t,.W6 k,.W6 o] (.bool (bM w s t k o)):=by
 refine wD _ _ _ _ _ _ _ ?_;unfold lI;generalize hQ:(λ(u:AV) (K:SH)=>u=AV.bool (bM w s t k o)∧K=[])=Q;have hq:∀b,bM w s t k o=b→Q (.bool b) []:=λb hb=>by subst hQ;exact⟨by rw[hb],rfl⟩
 clear hQ;have c1:=PB w s hcn;have c2:=fx t w.threads.length;have c3:=JI w k o;cases h1:fitsS w s with
 |false=>
  rw[h1]at c1;have hv:bM w s t k o=false:=by simp[bM,h1]
  repeat' (first|refine st ?_|(refine pf 109 ?_;refine pm (c1) ?_)|refine sb λnb_ hnb_=>?_|refine s2 (λh=>?_) λh=>?_|fail)
  all_goals exact hq _ hv
 |true=>
  rw[h1]at c1;cases h2:inB t w.threads.length with
  |false=>
   rw[h2]at c2;have hv:bM w s t k o=false:=by simp[bM,h2]
   repeat' (first|refine st ?_|(refine pf 109 ?_;refine pm (c1) ?_)|(refine pf 110 ?_;refine pm (c2) ?_)|refine sb λnb_ hnb_=>?_|refine s2 (λh=>?_) λh=>?_|fail)
   all_goals exact hq _ hv
  |true=>
   rw[h2]at c2;cases h3:allowedS w k o with
   |false=>
    rw[h3]at c3;have hv:bM w s t k o=false:=by simp[bM,h3]
    repeat' (first|refine st ?_|(refine pf 109 ?_;refine pm (c1) ?_)|(refine pf 110 ?_;refine pm (c2) ?_)|(refine pf 111 ?_;refine pm (c3) ?_)|refine sb λnb_ hnb_=>?_|refine s2 (λh=>?_) λh=>?_|fail)
    all_goals exact hq _ hv
   |true=>
    rw[h3]at c3;have hf:=zG.1 h1;have c4:=NH w s t k o hf h2 hr h3;have ht:inB t s.threads.length=true:=by rw[hf.threads];exact h2
    have hx:=dJ (f:=ThrD.enc) ht;have ht0:=fw ht;have hll:cj s t=s.threads.getD t.toNat default:=rfl;rw[←hll]at hx;have v1:k=1→bM w s t k o=decide ((cj s t).status=1):=λh=>by subst h;simp[bM,h1,h2,h3]
    have v17:k=17→bM w s t k o=(decide ((cj s t).status=4)&&decide ((cj s t).cond=o)&&decide ((aK s (lM w o)).owner=-1)):=λh=>by subst h;simp[bM,h1,h2,h3]
    have v0:k≠1∧k≠17→bM w s t k o=(decide ((cj s t).status=2)&&cL w s t k o):=λh=>by simp[bM,h1,h2,h3,h.1,h.2]
    clear hll;generalize cj s t=ll at *;generalize cL w s t k o=rb at *;obtain⟨st_,cd_,at_⟩:=ll;unfold ThrD.enc at hx;dsimp only at *;by_cases hk:k=17
    ·subst hk;have hb:inB o w.conds.length=true:=by simpa[allowedS]using h3
     have hm:=La hf hb;have hx1:=dJ (f:=cS.enc) hb;have ho:=fw hb;have hm0:=fw hm;have hx2:=dJ (f:=LockD.enc) hm;have hll:aK s (lM w o)=s.locks.getD (lM w o).toNat default:=rfl;rw[←hll]at hx2;clear hll;replace v17:=v17 rfl;generalize aK s (lM w o)=ll at *;have hmm:lM w o=(w.conds.getD o.toNat default).mutex:=rfl;rw[hmm]at hx2 hm0;generalize w.conds.getD o.toNat default=c at *;obtain⟨nm,mx⟩:=c;obtain⟨ow,rd⟩:=ll;unfold LockD.enc at hx2;unfold cS.enc at hx1;dsimp only at *;clear hmm hm hb h3
     repeat' (first|refine st ?_|(refine pf 109 ?_;refine pm (c1) ?_)|(refine pf 110 ?_;refine pm (c2) ?_)|(refine pf 111 ?_;refine pm (c3) ?_)|refine sb λnb_ hnb_=>?_|refine s2 (λh=>?_) λh=>?_|fail)
     all_goals exact hq _ (v17.trans (by first|rfl|(simp_all;done)))
    ·have e17:decide (k=17)=false:=decide_eq_false hk
     repeat' (first|refine st ?_|(refine pf 109 ?_;refine pm (c1) ?_)|(refine pf 110 ?_;refine pm (c2) ?_)|(refine pf 111 ?_;refine pm (c3) ?_)|(refine pf 112 ?_;refine pm (c4) ?_)|refine sb λnb_ hnb_=>?_|refine s2 (λh=>?_) λh=>?_|fail)
     all_goals simp only[decide_eq_true_eq,decide_eq_false_iff_not]at *
     all_goals first
      |(exfalso;clear hq;omega)
      |exact hq _ ((v1 W1).trans (by first|rfl|(simp_all;done)))
      |exact hq _ ((v0 W1).trans (by first|rfl|(simp_all;done)))
end
section
set_option maxRecDepth 100000
set_option linter.unusedSimpArgs false
set_option linter.unusedSectionVars false
def bF(s:SyncD)(i:Int)(f:ThrD→ThrD):List ThrD:=s.threads.set i.toNat (f (cj s i))
def aI(s:SyncD)(i:Int)(f:LockD→LockD):List LockD:=s.locks.set i.toNat (f (aK s i))
def NI(s:SyncD)(o:Int):List ThrD:=dw s.threads o s.threads.length
def w7(l:List Int)(t:Int):List Int:=Lib.compact (zr (l++[t]))
def cz(w:aM)(s:SyncD)(t k o wake:Int):SyncD×Int:=
 if k=1 then({s with threads:=bF s t λx=>{x with status:=2}},0)
 else if k=2 then({s with threads:=bF s t λx=>{x with status:=5}},0)
 else if k=6∨k=10 then({s with locks:=aI s o λx=>{x with owner:=t}},0)
 else if k=7∨k=11 then({s with locks:=aI s o λx=>{x with owner:=-1}},0)
 else if k=8 then({s with locks:=aI s o λx=>{x with readers:=w7 x.readers t}},0)
 else if k=9 then({s with locks:=aI s o λx=>{x with readers:=x.readers.filter λy=>!decide (y=t)}},0)
 else if k=12 then({s with tx:=t},0)
 else if k=13 then({s with tx:=-1},0)
 else if k=14 then({s with threads:=bF s t λx=>{x with atomic:=true}},0)
 else if k=15 then({s with threads:=bF s t λx=>{x with atomic:=false}},0)
 else if k=16 then({s with locks:=aI s (lM w o) λx=>{x with owner:=-1},threads:=bF s t λx=>{x with status:=3,cond:=o}},0)
 else if k=17 then({s with locks:=aI s (lM w o) λx=>{x with owner:=t},threads:=bF s t λx=>{x with status:=2,cond:=0}},0)
 else if k=18 then({s with threads:=kN s.threads o wake},ea s.threads o wake)
 else if k=19 then({s with threads:=NI s o},(cf s.threads o s.threads.length).length)
 else if k=20 then({s with threads:=bF s o λx=>{x with status:=1}},0)
 else if k=22 then({s with done:=s.done.set o.toNat true},0)
 else(s,0)
theorem je{s:SyncD}{t:Int}{f:ThrD→ThrD}{r:List AV}(h:r=(f (cj s t)).enc):(s.threads.map ThrD.enc).set (0+t.toNat) r=(bF s t f).map ThrD.enc:=by rw[h,Wg,bF,Wh]
theorem iV{s:SyncD}{t:Int}{f:LockD→LockD}{r:List AV}(h:r=(f (aK s t)).enc):(s.locks.map LockD.enc).set (0+t.toNat) r=(aI s t f).map LockD.enc:=by rw[h,Wg,aI,Wh]
theorem cM{s:SyncD}{t:Int}(h:inB t s.threads.length=true):(s.threads.map ThrD.enc)[0+t.toNat]? =some (cj s t).enc:=by rw[Wg];exact dJ h
theorem lO{s:SyncD}{t:Int}(h:inB t s.locks.length=true):(s.locks.map LockD.enc)[0+t.toNat]? =some (aK s t).enc:=by rw[Wg];exact dJ h
theorem aQ{bl n bt m:Nat}{tx:Int}{dv:AV}(h:dv.one=true):([.sl bl 0 n,.W6 tx,dv,.sl bt 0 m]:List AV).all AV.one=true:=by show(true&&(true&&(dv.one&&(true&&true))))=true;rw[h];rfl
theorem FQ(T:List ThrD)(c wake:Int):(kN T c wake).length=T.length:=by unfold kN Io;split<;>simp
theorem NJ{α:Type}{l:List α}{i:Nat}{x y:α}(h:l[i]? =some y):(l.set i x)[i]? =some x:=by have:=(V4.1 h).1;simp[this]
section
variable (w:aM) (s:SyncD) (t o wake:Int) (b7 b12 bl bt:Nat) (od:Option Nat)
def eX(R:SH):SH:=(bl,⟨2,s.locks.map LockD.enc⟩)::(bt,⟨3,s.threads.map ThrD.enc⟩)::(b12,⟨4,[[.nils,.W6 0,.nils,.nils]]⟩)::(b7,⟨4,[s.enc]⟩)::R
def eC(k:Int)(R:SH)(dv:AV)(Q:AV→SH→Prop):Prop:=∀(tx val:Int) (ls:List LockD) (th:List ThrD) (L:SH),Fz L (.sl bl 0 s.locks.length) (.lst (ls.map LockD.enc))→Fz L (.sl bt 0 s.threads.length) (.lst (th.map ThrD.enc))→(∀p∈R,p∈L)→
 cz w s t k o wake=(⟨ls,tx,s.done,th⟩,val)→Q (.tup [.agg [.sl bl 0 s.locks.length,.W6 tx,dv,.sl bt 0 s.threads.length],.W6 val,.bool true]) L
variable (R:SH) (dv:AV) (hone:dv.one=true) (Q:AV→SH→Prop) (hf:Nz w s) (ht:inB t s.threads.length=true) (hnd:(eX s b7 b12 bl bt R).names.Nodup)
include hone hf ht hnd
theorem TT(ha:allowedS w 1 o=true)(hq:eC w s t o wake bl bt 1 R dv Q):ai Q (.W6 1) (.W6 o) (.W6 wake) (.ptr b7 0 0) (.pptr [[.W6 t]] 0 0) (.ptr b12 0 0) (.pptr [w.enc] 0 0) (.agg [.sl bl 0 s.locks.length,.W6 s.tx,dv,.sl bt 0 s.threads.length]) (eX s b7 b12 bl bt R):=by
 unfold ai;simp only[SH.names,eX,Vm,Vx,Vn,not_or]at hnd;obtain⟨⟨n1,n2,n3,n4⟩,⟨n5,n6,n7⟩,⟨n8,n9⟩,n10,n11⟩:=hnd;have hb1:([.sl bl 0 s.locks.length,.W6 s.tx,dv,.sl bt 0 s.threads.length]:List AV).all AV.one=true:=aQ hone;unfold eX;have hy:=cM ht;obtain⟨t0,t1⟩:=ax.1 ht;have hb2:∀tx:Int,([.sl bl 0 s.locks.length,.W6 tx,dv,.sl bt 0 s.threads.length]:List AV).all AV.one=true:=λtx=>aQ hone
 repeat' (first|refine st ?_|refine aq rp rfl rfl hb1 rfl ?_|refine aq rp rfl rfl (hb2 _) rfl ?_|refine sb λnb_ hnb_=>?_|refine s2 (λh=>?_) λh=>?_|fail)
 exact hq _ _ (s.locks) (bF s t λx=>{x with status:=2}) _ (Fz.sls rp rfl W4 (by simp[aI])) (Fz.sls rp (je rfl) W4 (by simp[bF])) (λp hp=>by simp only[Vn];simp[hp]) (by simp only[cz,Int.reduceEq,Int.reduceNeg,if_true,if_false,or_self,or_true,true_or,or_false,false_or,reduceIte,reduceCtorEq])
theorem TU(ha:allowedS w 2 o=true)(hq:eC w s t o wake bl bt 2 R dv Q):ai Q (.W6 2) (.W6 o) (.W6 wake) (.ptr b7 0 0) (.pptr [[.W6 t]] 0 0) (.ptr b12 0 0) (.pptr [w.enc] 0 0) (.agg [.sl bl 0 s.locks.length,.W6 s.tx,dv,.sl bt 0 s.threads.length]) (eX s b7 b12 bl bt R):=by
 unfold ai;simp only[SH.names,eX,Vm,Vx,Vn,not_or]at hnd;obtain⟨⟨n1,n2,n3,n4⟩,⟨n5,n6,n7⟩,⟨n8,n9⟩,n10,n11⟩:=hnd;have hb1:([.sl bl 0 s.locks.length,.W6 s.tx,dv,.sl bt 0 s.threads.length]:List AV).all AV.one=true:=aQ hone;unfold eX;have hy:=cM ht;obtain⟨t0,t1⟩:=ax.1 ht;have hb2:∀tx:Int,([.sl bl 0 s.locks.length,.W6 tx,dv,.sl bt 0 s.threads.length]:List AV).all AV.one=true:=λtx=>aQ hone
 repeat' (first|refine st ?_|refine aq rp rfl rfl hb1 rfl ?_|refine aq rp rfl rfl (hb2 _) rfl ?_|refine sb λnb_ hnb_=>?_|refine s2 (λh=>?_) λh=>?_|fail)
 exact hq _ _ (s.locks) (bF s t λx=>{x with status:=5}) _ (Fz.sls rp rfl W4 (by simp[aI])) (Fz.sls rp (je rfl) W4 (by simp[bF])) (λp hp=>by simp only[Vn];simp[hp]) (by simp only[cz,Int.reduceEq,Int.reduceNeg,if_true,if_false,or_self,or_true,true_or,or_false,false_or,reduceIte,reduceCtorEq])
theorem TV(ha:allowedS w 3 o=true)(hq:eC w s t o wake bl bt 3 R dv Q):ai Q (.W6 3) (.W6 o) (.W6 wake) (.ptr b7 0 0) (.pptr [[.W6 t]] 0 0) (.ptr b12 0 0) (.pptr [w.enc] 0 0) (.agg [.sl bl 0 s.locks.length,.W6 s.tx,dv,.sl bt 0 s.threads.length]) (eX s b7 b12 bl bt R):=by
 unfold ai;simp only[SH.names,eX,Vm,Vx,Vn,not_or]at hnd;obtain⟨⟨n1,n2,n3,n4⟩,⟨n5,n6,n7⟩,⟨n8,n9⟩,n10,n11⟩:=hnd;have hb1:([.sl bl 0 s.locks.length,.W6 s.tx,dv,.sl bt 0 s.threads.length]:List AV).all AV.one=true:=aQ hone;unfold eX;have hy:=cM ht;obtain⟨t0,t1⟩:=ax.1 ht;have hb2:∀tx:Int,([.sl bl 0 s.locks.length,.W6 tx,dv,.sl bt 0 s.threads.length]:List AV).all AV.one=true:=λtx=>aQ hone
 repeat' (first|refine st ?_|refine aq rp rfl rfl hb1 rfl ?_|refine aq rp rfl rfl (hb2 _) rfl ?_|refine sb λnb_ hnb_=>?_|refine s2 (λh=>?_) λh=>?_|fail)
 exact hq _ _ (s.locks) (s.threads) _ (Fz.sls rp rfl W4 (by simp[aI])) (Fz.sls rp rfl W4 (by simp[bF])) (λp hp=>by simp only[Vn];simp[hp]) (by simp only[cz,Int.reduceEq,Int.reduceNeg,if_true,if_false,or_self,or_true,true_or,or_false,false_or,reduceIte,reduceCtorEq])
theorem TW(ha:allowedS w 4 o=true)(hq:eC w s t o wake bl bt 4 R dv Q):ai Q (.W6 4) (.W6 o) (.W6 wake) (.ptr b7 0 0) (.pptr [[.W6 t]] 0 0) (.ptr b12 0 0) (.pptr [w.enc] 0 0) (.agg [.sl bl 0 s.locks.length,.W6 s.tx,dv,.sl bt 0 s.threads.length]) (eX s b7 b12 bl bt R):=by
 unfold ai;simp only[SH.names,eX,Vm,Vx,Vn,not_or]at hnd;obtain⟨⟨n1,n2,n3,n4⟩,⟨n5,n6,n7⟩,⟨n8,n9⟩,n10,n11⟩:=hnd;have hb1:([.sl bl 0 s.locks.length,.W6 s.tx,dv,.sl bt 0 s.threads.length]:List AV).all AV.one=true:=aQ hone;unfold eX;have hy:=cM ht;obtain⟨t0,t1⟩:=ax.1 ht;have hb2:∀tx:Int,([.sl bl 0 s.locks.length,.W6 tx,dv,.sl bt 0 s.threads.length]:List AV).all AV.one=true:=λtx=>aQ hone
 repeat' (first|refine st ?_|refine aq rp rfl rfl hb1 rfl ?_|refine aq rp rfl rfl (hb2 _) rfl ?_|refine sb λnb_ hnb_=>?_|refine s2 (λh=>?_) λh=>?_|fail)
 exact hq _ _ (s.locks) (s.threads) _ (Fz.sls rp rfl W4 (by simp[aI])) (Fz.sls rp rfl W4 (by simp[bF])) (λp hp=>by simp only[Vn];simp[hp]) (by simp only[cz,Int.reduceEq,Int.reduceNeg,if_true,if_false,or_self,or_true,true_or,or_false,false_or,reduceIte,reduceCtorEq])
theorem TX(ha:allowedS w 5 o=true)(hq:eC w s t o wake bl bt 5 R dv Q):ai Q (.W6 5) (.W6 o) (.W6 wake) (.ptr b7 0 0) (.pptr [[.W6 t]] 0 0) (.ptr b12 0 0) (.pptr [w.enc] 0 0) (.agg [.sl bl 0 s.locks.length,.W6 s.tx,dv,.sl bt 0 s.threads.length]) (eX s b7 b12 bl bt R):=by
 unfold ai;simp only[SH.names,eX,Vm,Vx,Vn,not_or]at hnd;obtain⟨⟨n1,n2,n3,n4⟩,⟨n5,n6,n7⟩,⟨n8,n9⟩,n10,n11⟩:=hnd;have hb1:([.sl bl 0 s.locks.length,.W6 s.tx,dv,.sl bt 0 s.threads.length]:List AV).all AV.one=true:=aQ hone;unfold eX;have hy:=cM ht;obtain⟨t0,t1⟩:=ax.1 ht;have hb2:∀tx:Int,([.sl bl 0 s.locks.length,.W6 tx,dv,.sl bt 0 s.threads.length]:List AV).all AV.one=true:=λtx=>aQ hone
 repeat' (first|refine st ?_|refine aq rp rfl rfl hb1 rfl ?_|refine aq rp rfl rfl (hb2 _) rfl ?_|refine sb λnb_ hnb_=>?_|refine s2 (λh=>?_) λh=>?_|fail)
 exact hq _ _ (s.locks) (s.threads) _ (Fz.sls rp rfl W4 (by simp[aI])) (Fz.sls rp rfl W4 (by simp[bF])) (λp hp=>by simp only[Vn];simp[hp]) (by simp only[cz,Int.reduceEq,Int.reduceNeg,if_true,if_false,or_self,or_true,true_or,or_false,false_or,reduceIte,reduceCtorEq])
theorem TY(ha:allowedS w 6 o=true)(hq:eC w s t o wake bl bt 6 R dv Q):ai Q (.W6 6) (.W6 o) (.W6 wake) (.ptr b7 0 0) (.pptr [[.W6 t]] 0 0) (.ptr b12 0 0) (.pptr [w.enc] 0 0) (.agg [.sl bl 0 s.locks.length,.W6 s.tx,dv,.sl bt 0 s.threads.length]) (eX s b7 b12 bl bt R):=by
 unfold ai;simp only[SH.names,eX,Vm,Vx,Vn,not_or]at hnd;obtain⟨⟨n1,n2,n3,n4⟩,⟨n5,n6,n7⟩,⟨n8,n9⟩,n10,n11⟩:=hnd;have hb1:([.sl bl 0 s.locks.length,.W6 s.tx,dv,.sl bt 0 s.threads.length]:List AV).all AV.one=true:=aQ hone;unfold eX;have hy:=cM ht;obtain⟨t0,t1⟩:=ax.1 ht;have hl:inB o s.locks.length=true:=by rw[hf.locks];simp[allowedS]at ha;exact ha.1
 have hx:=lO hl;obtain⟨o0,o1⟩:=ax.1 hl;have hb2:∀tx:Int,([.sl bl 0 s.locks.length,.W6 tx,dv,.sl bt 0 s.threads.length]:List AV).all AV.one=true:=λtx=>aQ hone
 repeat' (first|refine st ?_|refine aq rp rfl rfl hb1 rfl ?_|refine aq rp rfl rfl (hb2 _) rfl ?_|refine sb λnb_ hnb_=>?_|refine s2 (λh=>?_) λh=>?_|fail)
 exact hq _ _ (aI s o λx=>{x with owner:=t}) (s.threads) _ (Fz.sls rp (iV rfl) W4 (by simp[aI])) (Fz.sls rp rfl W4 (by simp[bF])) (λp hp=>by simp only[Vn];simp[hp]) (by simp only[cz,Int.reduceEq,Int.reduceNeg,if_true,if_false,or_self,or_true,true_or,or_false,false_or,reduceIte,reduceCtorEq])
theorem TZ(ha:allowedS w 7 o=true)(hq:eC w s t o wake bl bt 7 R dv Q):ai Q (.W6 7) (.W6 o) (.W6 wake) (.ptr b7 0 0) (.pptr [[.W6 t]] 0 0) (.ptr b12 0 0) (.pptr [w.enc] 0 0) (.agg [.sl bl 0 s.locks.length,.W6 s.tx,dv,.sl bt 0 s.threads.length]) (eX s b7 b12 bl bt R):=by
 unfold ai;simp only[SH.names,eX,Vm,Vx,Vn,not_or]at hnd;obtain⟨⟨n1,n2,n3,n4⟩,⟨n5,n6,n7⟩,⟨n8,n9⟩,n10,n11⟩:=hnd;have hb1:([.sl bl 0 s.locks.length,.W6 s.tx,dv,.sl bt 0 s.threads.length]:List AV).all AV.one=true:=aQ hone;unfold eX;have hy:=cM ht;obtain⟨t0,t1⟩:=ax.1 ht;have hl:inB o s.locks.length=true:=by rw[hf.locks];simp[allowedS]at ha;exact ha.1
 have hx:=lO hl;obtain⟨o0,o1⟩:=ax.1 hl;have hb2:∀tx:Int,([.sl bl 0 s.locks.length,.W6 tx,dv,.sl bt 0 s.threads.length]:List AV).all AV.one=true:=λtx=>aQ hone
 repeat' (first|refine st ?_|refine aq rp rfl rfl hb1 rfl ?_|refine aq rp rfl rfl (hb2 _) rfl ?_|refine sb λnb_ hnb_=>?_|refine s2 (λh=>?_) λh=>?_|fail)
 exact hq _ _ (aI s o λx=>{x with owner:=-1}) (s.threads) _ (Fz.sls rp (iV rfl) W4 (by simp[aI])) (Fz.sls rp rfl W4 (by simp[bF])) (λp hp=>by simp only[Vn];simp[hp]) (by simp only[cz,Int.reduceEq,Int.reduceNeg,if_true,if_false,or_self,or_true,true_or,or_false,false_or,reduceIte,reduceCtorEq])
theorem RE(ha:allowedS w 10 o=true)(hq:eC w s t o wake bl bt 10 R dv Q):ai Q (.W6 10) (.W6 o) (.W6 wake) (.ptr b7 0 0) (.pptr [[.W6 t]] 0 0) (.ptr b12 0 0) (.pptr [w.enc] 0 0) (.agg [.sl bl 0 s.locks.length,.W6 s.tx,dv,.sl bt 0 s.threads.length]) (eX s b7 b12 bl bt R):=by
 unfold ai;simp only[SH.names,eX,Vm,Vx,Vn,not_or]at hnd;obtain⟨⟨n1,n2,n3,n4⟩,⟨n5,n6,n7⟩,⟨n8,n9⟩,n10,n11⟩:=hnd;have hb1:([.sl bl 0 s.locks.length,.W6 s.tx,dv,.sl bt 0 s.threads.length]:List AV).all AV.one=true:=aQ hone;unfold eX;have hy:=cM ht;obtain⟨t0,t1⟩:=ax.1 ht;have hl:inB o s.locks.length=true:=by rw[hf.locks];simp[allowedS]at ha;exact ha.1
 have hx:=lO hl;obtain⟨o0,o1⟩:=ax.1 hl;have hb2:∀tx:Int,([.sl bl 0 s.locks.length,.W6 tx,dv,.sl bt 0 s.threads.length]:List AV).all AV.one=true:=λtx=>aQ hone
 repeat' (first|refine st ?_|refine aq rp rfl rfl hb1 rfl ?_|refine aq rp rfl rfl (hb2 _) rfl ?_|refine sb λnb_ hnb_=>?_|refine s2 (λh=>?_) λh=>?_|fail)
 exact hq _ _ (aI s o λx=>{x with owner:=t}) (s.threads) _ (Fz.sls rp (iV rfl) W4 (by simp[aI])) (Fz.sls rp rfl W4 (by simp[bF])) (λp hp=>by simp only[Vn];simp[hp]) (by simp only[cz,Int.reduceEq,Int.reduceNeg,if_true,if_false,or_self,or_true,true_or,or_false,false_or,reduceIte,reduceCtorEq])
theorem RF(ha:allowedS w 11 o=true)(hq:eC w s t o wake bl bt 11 R dv Q):ai Q (.W6 11) (.W6 o) (.W6 wake) (.ptr b7 0 0) (.pptr [[.W6 t]] 0 0) (.ptr b12 0 0) (.pptr [w.enc] 0 0) (.agg [.sl bl 0 s.locks.length,.W6 s.tx,dv,.sl bt 0 s.threads.length]) (eX s b7 b12 bl bt R):=by
 unfold ai;simp only[SH.names,eX,Vm,Vx,Vn,not_or]at hnd;obtain⟨⟨n1,n2,n3,n4⟩,⟨n5,n6,n7⟩,⟨n8,n9⟩,n10,n11⟩:=hnd;have hb1:([.sl bl 0 s.locks.length,.W6 s.tx,dv,.sl bt 0 s.threads.length]:List AV).all AV.one=true:=aQ hone;unfold eX;have hy:=cM ht;obtain⟨t0,t1⟩:=ax.1 ht;have hl:inB o s.locks.length=true:=by rw[hf.locks];simp[allowedS]at ha;exact ha.1
 have hx:=lO hl;obtain⟨o0,o1⟩:=ax.1 hl;have hb2:∀tx:Int,([.sl bl 0 s.locks.length,.W6 tx,dv,.sl bt 0 s.threads.length]:List AV).all AV.one=true:=λtx=>aQ hone
 repeat' (first|refine st ?_|refine aq rp rfl rfl hb1 rfl ?_|refine aq rp rfl rfl (hb2 _) rfl ?_|refine sb λnb_ hnb_=>?_|refine s2 (λh=>?_) λh=>?_|fail)
 exact hq _ _ (aI s o λx=>{x with owner:=-1}) (s.threads) _ (Fz.sls rp (iV rfl) W4 (by simp[aI])) (Fz.sls rp rfl W4 (by simp[bF])) (λp hp=>by simp only[Vn];simp[hp]) (by simp only[cz,Int.reduceEq,Int.reduceNeg,if_true,if_false,or_self,or_true,true_or,or_false,false_or,reduceIte,reduceCtorEq])
theorem RG(ha:allowedS w 12 o=true)(hq:eC w s t o wake bl bt 12 R dv Q):ai Q (.W6 12) (.W6 o) (.W6 wake) (.ptr b7 0 0) (.pptr [[.W6 t]] 0 0) (.ptr b12 0 0) (.pptr [w.enc] 0 0) (.agg [.sl bl 0 s.locks.length,.W6 s.tx,dv,.sl bt 0 s.threads.length]) (eX s b7 b12 bl bt R):=by
 unfold ai;simp only[SH.names,eX,Vm,Vx,Vn,not_or]at hnd;obtain⟨⟨n1,n2,n3,n4⟩,⟨n5,n6,n7⟩,⟨n8,n9⟩,n10,n11⟩:=hnd;have hb1:([.sl bl 0 s.locks.length,.W6 s.tx,dv,.sl bt 0 s.threads.length]:List AV).all AV.one=true:=aQ hone;unfold eX;have hy:=cM ht;obtain⟨t0,t1⟩:=ax.1 ht;have hb2:∀tx:Int,([.sl bl 0 s.locks.length,.W6 tx,dv,.sl bt 0 s.threads.length]:List AV).all AV.one=true:=λtx=>aQ hone
 repeat' (first|refine st ?_|refine aq rp rfl rfl hb1 rfl ?_|refine aq rp rfl rfl (hb2 _) rfl ?_|refine sb λnb_ hnb_=>?_|refine s2 (λh=>?_) λh=>?_|fail)
 exact hq _ _ (s.locks) (s.threads) _ (Fz.sls rp rfl W4 (by simp[aI])) (Fz.sls rp rfl W4 (by simp[bF])) (λp hp=>by simp only[Vn];simp[hp]) (by simp only[cz,Int.reduceEq,Int.reduceNeg,if_true,if_false,or_self,or_true,true_or,or_false,false_or,reduceIte,reduceCtorEq])
theorem RH(ha:allowedS w 13 o=true)(hq:eC w s t o wake bl bt 13 R dv Q):ai Q (.W6 13) (.W6 o) (.W6 wake) (.ptr b7 0 0) (.pptr [[.W6 t]] 0 0) (.ptr b12 0 0) (.pptr [w.enc] 0 0) (.agg [.sl bl 0 s.locks.length,.W6 s.tx,dv,.sl bt 0 s.threads.length]) (eX s b7 b12 bl bt R):=by
 unfold ai;simp only[SH.names,eX,Vm,Vx,Vn,not_or]at hnd;obtain⟨⟨n1,n2,n3,n4⟩,⟨n5,n6,n7⟩,⟨n8,n9⟩,n10,n11⟩:=hnd;have hb1:([.sl bl 0 s.locks.length,.W6 s.tx,dv,.sl bt 0 s.threads.length]:List AV).all AV.one=true:=aQ hone;unfold eX;have hy:=cM ht;obtain⟨t0,t1⟩:=ax.1 ht;have hb2:∀tx:Int,([.sl bl 0 s.locks.length,.W6 tx,dv,.sl bt 0 s.threads.length]:List AV).all AV.one=true:=λtx=>aQ hone
 repeat' (first|refine st ?_|refine aq rp rfl rfl hb1 rfl ?_|refine aq rp rfl rfl (hb2 _) rfl ?_|refine sb λnb_ hnb_=>?_|refine s2 (λh=>?_) λh=>?_|fail)
 exact hq _ _ (s.locks) (s.threads) _ (Fz.sls rp rfl W4 (by simp[aI])) (Fz.sls rp rfl W4 (by simp[bF])) (λp hp=>by simp only[Vn];simp[hp]) (by simp only[cz,Int.reduceEq,Int.reduceNeg,if_true,if_false,or_self,or_true,true_or,or_false,false_or,reduceIte,reduceCtorEq])
theorem RI(ha:allowedS w 14 o=true)(hq:eC w s t o wake bl bt 14 R dv Q):ai Q (.W6 14) (.W6 o) (.W6 wake) (.ptr b7 0 0) (.pptr [[.W6 t]] 0 0) (.ptr b12 0 0) (.pptr [w.enc] 0 0) (.agg [.sl bl 0 s.locks.length,.W6 s.tx,dv,.sl bt 0 s.threads.length]) (eX s b7 b12 bl bt R):=by
 unfold ai;simp only[SH.names,eX,Vm,Vx,Vn,not_or]at hnd;obtain⟨⟨n1,n2,n3,n4⟩,⟨n5,n6,n7⟩,⟨n8,n9⟩,n10,n11⟩:=hnd;have hb1:([.sl bl 0 s.locks.length,.W6 s.tx,dv,.sl bt 0 s.threads.length]:List AV).all AV.one=true:=aQ hone;unfold eX;have hy:=cM ht;obtain⟨t0,t1⟩:=ax.1 ht;have hb2:∀tx:Int,([.sl bl 0 s.locks.length,.W6 tx,dv,.sl bt 0 s.threads.length]:List AV).all AV.one=true:=λtx=>aQ hone
 repeat' (first|refine st ?_|refine aq rp rfl rfl hb1 rfl ?_|refine aq rp rfl rfl (hb2 _) rfl ?_|refine sb λnb_ hnb_=>?_|refine s2 (λh=>?_) λh=>?_|fail)
 exact hq _ _ (s.locks) (bF s t λx=>{x with atomic:=true}) _ (Fz.sls rp rfl W4 (by simp[aI])) (Fz.sls rp (je rfl) W4 (by simp[bF])) (λp hp=>by simp only[Vn];simp[hp]) (by simp only[cz,Int.reduceEq,Int.reduceNeg,if_true,if_false,or_self,or_true,true_or,or_false,false_or,reduceIte,reduceCtorEq])
theorem RJ(ha:allowedS w 15 o=true)(hq:eC w s t o wake bl bt 15 R dv Q):ai Q (.W6 15) (.W6 o) (.W6 wake) (.ptr b7 0 0) (.pptr [[.W6 t]] 0 0) (.ptr b12 0 0) (.pptr [w.enc] 0 0) (.agg [.sl bl 0 s.locks.length,.W6 s.tx,dv,.sl bt 0 s.threads.length]) (eX s b7 b12 bl bt R):=by
 unfold ai;simp only[SH.names,eX,Vm,Vx,Vn,not_or]at hnd;obtain⟨⟨n1,n2,n3,n4⟩,⟨n5,n6,n7⟩,⟨n8,n9⟩,n10,n11⟩:=hnd;have hb1:([.sl bl 0 s.locks.length,.W6 s.tx,dv,.sl bt 0 s.threads.length]:List AV).all AV.one=true:=aQ hone;unfold eX;have hy:=cM ht;obtain⟨t0,t1⟩:=ax.1 ht;have hb2:∀tx:Int,([.sl bl 0 s.locks.length,.W6 tx,dv,.sl bt 0 s.threads.length]:List AV).all AV.one=true:=λtx=>aQ hone
 repeat' (first|refine st ?_|refine aq rp rfl rfl hb1 rfl ?_|refine aq rp rfl rfl (hb2 _) rfl ?_|refine sb λnb_ hnb_=>?_|refine s2 (λh=>?_) λh=>?_|fail)
 exact hq _ _ (s.locks) (bF s t λx=>{x with atomic:=false}) _ (Fz.sls rp rfl W4 (by simp[aI])) (Fz.sls rp (je rfl) W4 (by simp[bF])) (λp hp=>by simp only[Vn];simp[hp]) (by simp only[cz,Int.reduceEq,Int.reduceNeg,if_true,if_false,or_self,or_true,true_or,or_false,false_or,reduceIte,reduceCtorEq])
theorem RK(ha:allowedS w 16 o=true)(hq:eC w s t o wake bl bt 16 R dv Q):ai Q (.W6 16) (.W6 o) (.W6 wake) (.ptr b7 0 0) (.pptr [[.W6 t]] 0 0) (.ptr b12 0 0) (.pptr [w.enc] 0 0) (.agg [.sl bl 0 s.locks.length,.W6 s.tx,dv,.sl bt 0 s.threads.length]) (eX s b7 b12 bl bt R):=by
 unfold ai;simp only[SH.names,eX,Vm,Vx,Vn,not_or]at hnd;obtain⟨⟨n1,n2,n3,n4⟩,⟨n5,n6,n7⟩,⟨n8,n9⟩,n10,n11⟩:=hnd;have hb1:([.sl bl 0 s.locks.length,.W6 s.tx,dv,.sl bt 0 s.threads.length]:List AV).all AV.one=true:=aQ hone;unfold eX;have hy:=cM ht;obtain⟨t0,t1⟩:=ax.1 ht;have hc:inB o w.conds.length=true:=by simpa[allowedS]using ha
 have hl:=La hf hc;have hx:=lO hl;obtain⟨o0,o1⟩:=ax.1 hl;unfold lM at hl hx o0 o1;have hy2:((s.threads.map ThrD.enc).set (0+t.toNat) ((cj s t).enc.set 0 (.W6 3)))[0+t.toNat]? =some ((cj s t).enc.set 0 (.W6 3)):=NJ hy;have hb2:∀tx:Int,([.sl bl 0 s.locks.length,.W6 tx,dv,.sl bt 0 s.threads.length]:List AV).all AV.one=true:=λtx=>aQ hone
 repeat' (first|refine st ?_|refine aq rp rfl rfl hb1 rfl ?_|refine aq rp rfl rfl (hb2 _) rfl ?_|refine sb λnb_ hnb_=>?_|refine s2 (λh=>?_) λh=>?_|fail)
 exact hq _ _ (aI s (lM w o) λx=>{x with owner:=-1}) (bF s t λx=>{x with status:=3,cond:=o}) _ (Fz.sls rp (iV rfl) W4 (by simp[aI])) (Fz.sls rp (by rw[List.set_set];exact je rfl) W4 (by simp[bF])) (λp hp=>by simp only[Vn];simp[hp]) (by simp only[cz,Int.reduceEq,Int.reduceNeg,if_true,if_false,or_self,or_true,true_or,or_false,false_or,reduceIte,reduceCtorEq])
theorem RL(ha:allowedS w 17 o=true)(hq:eC w s t o wake bl bt 17 R dv Q):ai Q (.W6 17) (.W6 o) (.W6 wake) (.ptr b7 0 0) (.pptr [[.W6 t]] 0 0) (.ptr b12 0 0) (.pptr [w.enc] 0 0) (.agg [.sl bl 0 s.locks.length,.W6 s.tx,dv,.sl bt 0 s.threads.length]) (eX s b7 b12 bl bt R):=by
 unfold ai;simp only[SH.names,eX,Vm,Vx,Vn,not_or]at hnd;obtain⟨⟨n1,n2,n3,n4⟩,⟨n5,n6,n7⟩,⟨n8,n9⟩,n10,n11⟩:=hnd;have hb1:([.sl bl 0 s.locks.length,.W6 s.tx,dv,.sl bt 0 s.threads.length]:List AV).all AV.one=true:=aQ hone;unfold eX;have hy:=cM ht;obtain⟨t0,t1⟩:=ax.1 ht;have hc:inB o w.conds.length=true:=by simpa[allowedS]using ha
 have hl:=La hf hc;have hx:=lO hl;obtain⟨o0,o1⟩:=ax.1 hl;unfold lM at hl hx o0 o1;have hy2:((s.threads.map ThrD.enc).set (0+t.toNat) ((cj s t).enc.set 0 (.W6 2)))[0+t.toNat]? =some ((cj s t).enc.set 0 (.W6 2)):=NJ hy;have hb2:∀tx:Int,([.sl bl 0 s.locks.length,.W6 tx,dv,.sl bt 0 s.threads.length]:List AV).all AV.one=true:=λtx=>aQ hone
 repeat' (first|refine st ?_|refine aq rp rfl rfl hb1 rfl ?_|refine aq rp rfl rfl (hb2 _) rfl ?_|refine sb λnb_ hnb_=>?_|refine s2 (λh=>?_) λh=>?_|fail)
 exact hq _ _ (aI s (lM w o) λx=>{x with owner:=t}) (bF s t λx=>{x with status:=2,cond:=0}) _ (Fz.sls rp (iV rfl) W4 (by simp[aI])) (Fz.sls rp (by rw[List.set_set];exact je rfl) W4 (by simp[bF])) (λp hp=>by simp only[Vn];simp[hp]) (by simp only[cz,Int.reduceEq,Int.reduceNeg,if_true,if_false,or_self,or_true,true_or,or_false,false_or,reduceIte,reduceCtorEq])
theorem RM(ha:allowedS w 20 o=true)(hq:eC w s t o wake bl bt 20 R dv Q):ai Q (.W6 20) (.W6 o) (.W6 wake) (.ptr b7 0 0) (.pptr [[.W6 t]] 0 0) (.ptr b12 0 0) (.pptr [w.enc] 0 0) (.agg [.sl bl 0 s.locks.length,.W6 s.tx,dv,.sl bt 0 s.threads.length]) (eX s b7 b12 bl bt R):=by
 unfold ai;simp only[SH.names,eX,Vm,Vx,Vn,not_or]at hnd;obtain⟨⟨n1,n2,n3,n4⟩,⟨n5,n6,n7⟩,⟨n8,n9⟩,n10,n11⟩:=hnd;have hb1:([.sl bl 0 s.locks.length,.W6 s.tx,dv,.sl bt 0 s.threads.length]:List AV).all AV.one=true:=aQ hone;unfold eX;have hy:=cM ht;obtain⟨t0,t1⟩:=ax.1 ht;have hl:inB o s.threads.length=true:=by rw[hf.threads];simpa[allowedS]using ha
 have hx:=cM hl;obtain⟨o0,o1⟩:=ax.1 hl;have hb2:∀tx:Int,([.sl bl 0 s.locks.length,.W6 tx,dv,.sl bt 0 s.threads.length]:List AV).all AV.one=true:=λtx=>aQ hone
 repeat' (first|refine st ?_|refine aq rp rfl rfl hb1 rfl ?_|refine aq rp rfl rfl (hb2 _) rfl ?_|refine sb λnb_ hnb_=>?_|refine s2 (λh=>?_) λh=>?_|fail)
 exact hq _ _ (s.locks) (bF s o λx=>{x with status:=1}) _ (Fz.sls rp rfl W4 (by simp[aI])) (Fz.sls rp (je rfl) W4 (by simp[bF])) (λp hp=>by simp only[Vn];simp[hp]) (by simp only[cz,Int.reduceEq,Int.reduceNeg,if_true,if_false,or_self,or_true,true_or,or_false,false_or,reduceIte,reduceCtorEq])
theorem RN(ha:allowedS w 21 o=true)(hq:eC w s t o wake bl bt 21 R dv Q):ai Q (.W6 21) (.W6 o) (.W6 wake) (.ptr b7 0 0) (.pptr [[.W6 t]] 0 0) (.ptr b12 0 0) (.pptr [w.enc] 0 0) (.agg [.sl bl 0 s.locks.length,.W6 s.tx,dv,.sl bt 0 s.threads.length]) (eX s b7 b12 bl bt R):=by
 unfold ai;simp only[SH.names,eX,Vm,Vx,Vn,not_or]at hnd;obtain⟨⟨n1,n2,n3,n4⟩,⟨n5,n6,n7⟩,⟨n8,n9⟩,n10,n11⟩:=hnd;have hb1:([.sl bl 0 s.locks.length,.W6 s.tx,dv,.sl bt 0 s.threads.length]:List AV).all AV.one=true:=aQ hone;unfold eX;have hy:=cM ht;obtain⟨t0,t1⟩:=ax.1 ht;have hb2:∀tx:Int,([.sl bl 0 s.locks.length,.W6 tx,dv,.sl bt 0 s.threads.length]:List AV).all AV.one=true:=λtx=>aQ hone
 repeat' (first|refine st ?_|refine aq rp rfl rfl hb1 rfl ?_|refine aq rp rfl rfl (hb2 _) rfl ?_|refine sb λnb_ hnb_=>?_|refine s2 (λh=>?_) λh=>?_|fail)
 exact hq _ _ (s.locks) (s.threads) _ (Fz.sls rp rfl W4 (by simp[aI])) (Fz.sls rp rfl W4 (by simp[bF])) (λp hp=>by simp only[Vn];simp[hp]) (by simp only[cz,Int.reduceEq,Int.reduceNeg,if_true,if_false,or_self,or_true,true_or,or_false,false_or,reduceIte,reduceCtorEq])
theorem RO(ha:allowedS w 23 o=true)(hq:eC w s t o wake bl bt 23 R dv Q):ai Q (.W6 23) (.W6 o) (.W6 wake) (.ptr b7 0 0) (.pptr [[.W6 t]] 0 0) (.ptr b12 0 0) (.pptr [w.enc] 0 0) (.agg [.sl bl 0 s.locks.length,.W6 s.tx,dv,.sl bt 0 s.threads.length]) (eX s b7 b12 bl bt R):=by
 unfold ai;simp only[SH.names,eX,Vm,Vx,Vn,not_or]at hnd;obtain⟨⟨n1,n2,n3,n4⟩,⟨n5,n6,n7⟩,⟨n8,n9⟩,n10,n11⟩:=hnd;have hb1:([.sl bl 0 s.locks.length,.W6 s.tx,dv,.sl bt 0 s.threads.length]:List AV).all AV.one=true:=aQ hone;unfold eX;have hy:=cM ht;obtain⟨t0,t1⟩:=ax.1 ht;have hb2:∀tx:Int,([.sl bl 0 s.locks.length,.W6 tx,dv,.sl bt 0 s.threads.length]:List AV).all AV.one=true:=λtx=>aQ hone
 repeat' (first|refine st ?_|refine aq rp rfl rfl hb1 rfl ?_|refine aq rp rfl rfl (hb2 _) rfl ?_|refine sb λnb_ hnb_=>?_|refine s2 (λh=>?_) λh=>?_|fail)
 exact hq _ _ (s.locks) (s.threads) _ (Fz.sls rp rfl W4 (by simp[aI])) (Fz.sls rp rfl W4 (by simp[bF])) (λp hp=>by simp only[Vn];simp[hp]) (by simp only[cz,Int.reduceEq,Int.reduceNeg,if_true,if_false,or_self,or_true,true_or,or_false,false_or,reduceIte,reduceCtorEq])
theorem RP(hT:s.threads.length<2^40)(hq:eC w s t o wake bl bt 18 R dv Q):ai Q (.W6 18) (.W6 o) (.W6 wake) (.ptr b7 0 0) (.pptr [[.W6 t]] 0 0) (.ptr b12 0 0) (.pptr [w.enc] 0 0) (.agg [.sl bl 0 s.locks.length,.W6 s.tx,dv,.sl bt 0 s.threads.length]) (eX s b7 b12 bl bt R):=by
 unfold ai;simp only[SH.names,eX,Vm,Vx,Vn,not_or]at hnd;obtain⟨⟨n1,n2,n3,n4⟩,⟨n5,n6,n7⟩,⟨n8,n9⟩,n10,n11⟩:=hnd;have hb2:∀tx:Int,([.sl bl 0 s.locks.length,.W6 tx,dv,.sl bt 0 s.threads.length]:List AV).all AV.one=true:=λtx=>aQ hone
 unfold eX
 repeat' (first|refine st ?_|refine aq rp rfl rfl (hb2 _) rfl ?_|((with_reducible refine aX 90 ?_);(refine j7 (LS _ _ _ bt s.threads o wake hT (hb2 _)) rp ?_;rintro _ _ ⟨rfl,rfl⟩))|refine sb λnb_ hnb_=>?_|refine s2 (λh=>?_) λh=>?_|fail)
 exact hq _ _ s.locks (kN s.threads o wake) _ (Fz.sls rp rfl W4 rfl) (Fz.sls rp rfl W4 (FQ _ _ _).symm) (λp hp=>by simp only[Vn,Vz];simp[hp]) (by simp only[cz,Int.reduceEq,Int.reduceNeg,if_true,if_false,or_self,or_true,true_or,or_false,false_or,reduceIte,reduceCtorEq])
theorem RQ(hT:s.threads.length<2^40)(hq:eC w s t o wake bl bt 19 R dv Q):ai Q (.W6 19) (.W6 o) (.W6 wake) (.ptr b7 0 0) (.pptr [[.W6 t]] 0 0) (.ptr b12 0 0) (.pptr [w.enc] 0 0) (.agg [.sl bl 0 s.locks.length,.W6 s.tx,dv,.sl bt 0 s.threads.length]) (eX s b7 b12 bl bt R):=by
 unfold ai;simp only[SH.names,eX,Vm,Vx,Vn,not_or]at hnd;obtain⟨⟨n1,n2,n3,n4⟩,⟨n5,n6,n7⟩,⟨n8,n9⟩,n10,n11⟩:=hnd;have hb2:∀tx:Int,([.sl bl 0 s.locks.length,.W6 tx,dv,.sl bt 0 s.threads.length]:List AV).all AV.one=true:=λtx=>aQ hone
 unfold eX
 repeat' (first|refine st ?_|refine aq rp rfl rfl (hb2 _) rfl ?_|((with_reducible refine aX 91 ?_);(refine j7 (GE _ _ _ bt s.threads o hT (hb2 _)) rp ?_;rintro _ _ ⟨rfl,rfl⟩))|refine sb λnb_ hnb_=>?_|refine s2 (λh=>?_) λh=>?_|fail)
 exact hq _ _ s.locks (NI s o) _ (Fz.sls rp rfl W4 rfl) (Fz.sls rp rfl W4 (eB _ _ _).symm) (λp hp=>by simp only[Vn,Vz];simp[hp]) (by simp only[cz,Int.reduceEq,Int.reduceNeg,if_true,if_false,or_self,or_true,true_or,or_false,false_or,reduceIte,reduceCtorEq])
def QK(bd:Nat)(Q:AV→SH→Prop):Prop:=∀(L:SH),Fz L (.sl bl 0 s.locks.length) (.lst (s.locks.map LockD.enc))→Fz L (.sl bt 0 s.threads.length) (.lst (s.threads.map ThrD.enc))→Fz L (.sl bd 0 s.done.length) (.lst ((s.done.set o.toNat true).map aT))→
 Q (.tup [.agg [.sl bl 0 s.locks.length,.W6 s.tx,.sl bd 0 s.done.length,.sl bt 0 s.threads.length],.W6 0,.bool true]) L
omit hone hnd in
theorem RS(bd:Nat)(hnd:(eX s b7 b12 bl bt [(bd,⟨1,s.done.map aT⟩)]).names.Nodup)(ha:allowedS w 22 o=true)(hq:QK s o bl bt bd Q):ai Q (.W6 22) (.W6 o) (.W6 wake) (.ptr b7 0 0) (.pptr [[.W6 t]] 0 0) (.ptr b12 0 0) (.pptr [w.enc] 0 0) (.agg [.sl bl 0 s.locks.length,.W6 s.tx,.sl bd 0 s.done.length,.sl bt 0 s.threads.length]) (eX s b7 b12 bl bt [(bd,⟨1,s.done.map aT⟩)]):=by
 unfold ai eX;have hl:inB o s.done.length=true:=by rw[hf.done];simpa[allowedS]using ha
 obtain⟨o0,o1⟩:=ax.1 hl;have hx:(s.done.map aT)[0+o.toNat]? =some (aT (s.done.getD o.toNat default)):=by rw[Wg];exact dJ hl
 repeat' (first|refine st ?_|refine sb λnb_ hnb_=>?_|refine s2 (λh=>?_) λh=>?_|fail)
 refine hq _ (Fz.sls rp rfl W4 rfl) (Fz.sls rp rfl W4 rfl) (Fz.sls rp ?_ W4 W4);rw[Wh,Wg];rfl
end
end
section
set_option maxRecDepth 100000
set_option linter.unusedSimpArgs false
set_option linter.unusedSectionVars false
theorem Iq{K:SH}{bl:Nat}{rows:List (List AV)}{ls:List LockD}{n:Nat}(hm:(bl,⟨2,rows⟩)∈K)(hn:n=ls.length)(hl:rows.length=ls.length)
  (h:∀(j:Nat) (r:List AV) (x:LockD),rows[j]? =some r→ls[j]? =some x→∃a,r=[.W6 x.owner,a]∧Fz K a (.lst (x.readers.map aj))):Fz K (.sl bl 0 n) (.lst (ls.map LockD.enc)):=by
 subst hn;rcases We ls.length with h0|h0
 ·have:ls=[]:=Wo.1 h0;subst this;exact .sl0 bl 0
 ·have get:∀(j:Nat) (r r2:List AV),rows[0+j]? =some r→(ls.map LockD.enc)[j]? =some r2→∃x:LockD,ls[j]? =some x∧r2=x.enc∧∃a,r=[.W6 x.owner,a]∧Fz K a (.lst (x.readers.map aj)):=λj r r2 h1 h2=>by
   rw[Wg]at h1;rw[VA]at h2;cases hj:ls[j]? with
   |none=>rw[hj]at h2;cases h2
   |some x=>rw[hj]at h2;cases h2;exact⟨x,rfl,rfl,h j r x h1 hj⟩
  refine .sl bl 0 _ ⟨2,rows⟩ _ hm W4 h0 W4 (by simp;omega) (λj r r2 h1 h2=>?_) (λj r r2 q a a2 h1 h2 h3 h4=>?_)
  ·obtain⟨x,_,rfl,a,rfl,_⟩:=get j r r2 h1 h2;rfl
  ·obtain⟨x,_,rfl,a',rfl,hz⟩:=get j r r2 h1 h2
   match q with
   |0=>cases h3;cases h4;exact .refl _
   |1=>cases h3;cases h4;exact hz
   |q+2=>simp at h3
theorem enc_row(x:LockD){K:SH}:∃a,x.enc=[.W6 x.owner,a]∧Fz K a (.lst (x.readers.map aj)):=⟨_,rfl,.refl _⟩
theorem Lb{K:SH}{s:SyncD}{o:Int}{ro:Option Nat}{f:LockD→LockD}{a:AV}(hl:inB o s.locks.length=true)(hf:∀x,(f x).owner=x.owner)(ha:Fz K a (.lst ((f (aK s o)).readers.map aj))):
  ∀(j:Nat) (r:List AV) (x:LockD),((bT o.toNat ro s.locks).set (0+o.toNat) [.W6 (aK s o).owner,a])[j]? =some r→(aI s o f)[j]? =some x→∃a,r=[.W6 x.owner,a]∧Fz K a (.lst (x.readers.map aj)):=by
 intro j r x h1 h2;obtain⟨o0,o1⟩:=ax.1 hl;have hlt:o.toNat<s.locks.length:=by omega
 unfold aI at h2;rw[Wg]at h1;by_cases hj:o.toNat=j
 ·subst hj;rw[List.getElem?_set_self (by rw[cl];exact hlt)]at h1;rw[List.getElem?_set_self hlt]at h2;cases h1;cases h2;exact⟨a,by rw[hf],ha⟩
 ·rw[List.getElem?_set_ne hj]at h1 h2;have hjl:j<s.locks.length:=(V4.1 h2).1;rw[fF _ _ _ _ hjl]at h1;rw[Vk hjl]at h2;cases h1;cases h2;unfold nq;rw[if_neg (λe=>hj e.symm)];exact enc_row _
theorem Ir{s:SyncD}{o:Int}{ro:Option Nat}(hl:inB o s.locks.length=true):(bT o.toNat ro s.locks)[0+o.toNat]? =some [.W6 (aK s o).owner,am ro (aK s o).readers.length]:=by
 obtain⟨o0,o1⟩:=ax.1 hl;have hlt:o.toNat<s.locks.length:=by omega
 rw[Wg,fF _ _ _ _ hlt];unfold nq;rw[if_pos rfl];simp[aK,hlt]
section
variable (w:aM) (s:SyncD) (t o wake:Int) (b7 b12 bl bt:Nat)
def NK(ro:Option Nat)(R:SH):SH:=(bl,⟨2,bT o.toNat ro s.locks⟩)::(bt,⟨3,s.threads.map ThrD.enc⟩)::(b12,⟨4,[[.nils,.W6 0,.nils,.nils]]⟩)::(b7,⟨4,[s.enc]⟩)::(ae ro 1 ((aK s o).readers.map aj)++R)
variable (R:SH) (dv:AV) (hone:dv.one=true) (Q:AV→SH→Prop) (hl:inB o s.locks.length=true) (hrd:(aK s o).readers.length<2^40)
include hone hl hrd
theorem T0(br:Nat)(hnd:(NK s o b7 b12 bl bt (some br) R).names.Nodup)(hq:eC w s t o wake bl bt 9 R dv Q):ai Q (.W6 9) (.W6 o) (.W6 wake) (.ptr b7 0 0) (.pptr [[.W6 t]] 0 0) (.ptr b12 0 0) (.pptr [w.enc] 0 0) (.agg [.sl bl 0 s.locks.length,.W6 s.tx,dv,.sl bt 0 s.threads.length]) (NK s o b7 b12 bl bt (some br) R):=by
 unfold ai;simp only[SH.names,NK,ae,Vm,Vx,Vn,not_or,Ww,Wm]at hnd;obtain⟨⟨n1,n2,n3,n4,n12⟩,⟨n5,n6,n7,n13⟩,⟨n8,n9,n14⟩,⟨n15,n16⟩,n10,n11⟩:=hnd;have hb2:∀tx:Int,([.sl bl 0 s.locks.length,.W6 tx,dv,.sl bt 0 s.threads.length]:List AV).all AV.one=true:=λtx=>aQ hone
 obtain⟨o0,o1⟩:=ax.1 hl;have hx:=Ir (ro:=some br) hl;have hdel:=EY 89 [.pptr [[.W6 t]] 0 0] (λx=>decide (x=t)) (LU t 0 []) br (aK s o).readers W1;unfold NK;simp only[ae,Ww,Wm]
 repeat' (first|refine st ?_|refine aq rp rfl rfl (hb2 _) rfl ?_|((with_reducible refine dZ 88 ?_);(refine C6 hdel rp (by(simp only[rm,rc,rz,W.free,av,↓reduceIte,Nat.reduceEqDiff,aa,dq,WX,V1,VV,not_false_eq_true,implies_true,and_true,true_and,and_self,VN,reduceCtorEq,forall_const,false_implies,Vr,forall_eq,V2,Wm,Vn,or_false,false_or,forall_eq_or_imp,not_or])<;>(repeat' constructor)<;>first|assumption|(exact Ne.symm W2)|(intro e_;subst e_;simp[SH.names]at *;done)) ?_;rintro _ _ ⟨R',rfl,rfl,hR1,hR2⟩))|refine sb λnb_ hnb_=>?_|refine s2 (λh=>?_) λh=>?_|fail)
 refine hq _ _ (aI s o λx=>{x with readers:=x.readers.filter λy=>!decide (y=t)}) s.threads _ (Iq rp (by simp[aI]) (by simp[aI,cl]) (Lb hl (λ_=>rfl) ?_)) (Fz.sls rp rfl W4 rfl) (λp hp=>by simp only[Vn,Vz];simp[hp]) (by simp only[cz,Int.reduceEq,if_true,if_false,or_self,reduceIte]);rw[←Da hR1];exact Fz.rows (x:=⟨1,R'.map aj⟩) rp W4 (by simp[hR2];exact WO _ _)
theorem T1(ro:Option Nat)(hro:ro=none→(aK s o).readers=[])(hnd:(NK s o b7 b12 bl bt ro R).names.Nodup)(hq:eC w s t o wake bl bt 8 R dv Q):ai Q (.W6 8) (.W6 o) (.W6 wake) (.ptr b7 0 0) (.pptr [[.W6 t]] 0 0) (.ptr b12 0 0) (.pptr [w.enc] 0 0) (.agg [.sl bl 0 s.locks.length,.W6 s.tx,dv,.sl bt 0 s.threads.length]) (NK s o b7 b12 bl bt ro R):=by
 unfold ai;simp only[SH.names,NK,Vm,Vx,Vn,not_or]at hnd;obtain⟨⟨n1,n2,n3,n4⟩,⟨n5,n6,n7⟩,⟨n8,n9⟩,n10,n11⟩:=hnd;have hb2:∀tx:Int,([.sl bl 0 s.locks.length,.W6 tx,dv,.sl bt 0 s.threads.length]:List AV).all AV.one=true:=λtx=>aQ hone
 obtain⟨o0,o1⟩:=ax.1 hl;have hx:=Ir (ro:=ro) hl;have hsort:∀nb,af Tryz.prog 86 [.sl nb 0 ((aK s o).readers.length+1)] [(nb,⟨1,(aK s o).readers.map aj++[[.W6 t]]⟩)] λv L=>v=.tup []∧L=[(nb,⟨1,(zr ((aK s o).readers++[t])).map aj⟩)]:=λnb=>by have:=K5 nb ((aK s o).readers++[t]) (by simp;omega);rw[Vu,Vo]at this;exact this
 have hcomp:∀nb,af Tryz.prog 87 [.sl nb 0 ((aK s o).readers.length+1)] [(nb,⟨1,(zr ((aK s o).readers++[t])).map aj⟩)] λv L=>∃R':List Int,v=.sl nb 0 (w7 (aK s o).readers t).length∧L=[(nb,⟨1,R'.map aj⟩)]∧R'.take (w7 (aK s o).readers t).length=w7 (aK s o).readers t∧(w7 (aK s o).readers t).length≤R'.length:=λnb=>by
  have:=Db nb (zr ((aK s o).readers++[t])) (by rw[ql];simp;omega);rw[ql,Vu]at this;refine this.mono λv L ⟨h1,h2⟩=>⟨_,h1,h2,?_,?_⟩
  ·exact List.take_left' rfl
  ·simp[w7]
 unfold NK
 repeat' (first|refine st ?_|refine aq rp rfl rfl (hb2 _) rfl ?_|(refine H6 [_,_,_,_] W4 (λe=>by rw[hro e];rfl) rfl (Nat.succ_pos 0) (by simp;omega) (by simp;omega) rfl ?_;intro nb_ hnb_;simp only[Vn,VV,or_false,forall_eq_or_imp,forall_eq]at hnb_;obtain⟨q1,q2,q3,q4⟩:=hnb_)|((with_reducible refine aX 86 ?_);(refine j7 (hsort _) rp ?_;rintro _ _ ⟨rfl,rfl⟩))|((with_reducible refine dZ 87 ?_);(refine C6 (hcomp _) rp (by(simp only[rm,rc,rz,W.free,av,↓reduceIte,Nat.reduceEqDiff,aa,dq,WX,V1,VV,not_false_eq_true,implies_true,and_true,true_and,and_self,VN,reduceCtorEq,forall_const,false_implies,Vr,forall_eq,V2,Wm,Vn,or_false,false_or,forall_eq_or_imp,not_or])<;>(repeat' constructor)<;>first|assumption|(exact Ne.symm W2)|(intro e_;subst e_;simp[SH.names]at *;done)) ?_;rintro _ _ ⟨R',rfl,rfl,hR1,hR2⟩))|refine sb λnb_ hnb_=>?_|refine s2 (λh=>?_) λh=>?_|fail)
 refine hq _ _ (aI s o λx=>{x with readers:=w7 x.readers t}) s.threads _ (Iq rp (by simp[aI]) (by simp[aI,cl]) (Lb hl (λ_=>rfl) ?_)) (Fz.sls rp rfl W4 rfl) (λp hp=>by simp only[Vn,Vz];simp[hp]) (by simp only[cz,Int.reduceEq,if_true,if_false,or_self,reduceIte]);rw[←Da hR1];exact Fz.rows (x:=⟨1,R'.map aj⟩) rp W4 (by simp;exact hR2)
end
end
section
set_option maxRecDepth 100000
set_option linter.unusedSimpArgs false
set_option linter.unusedSectionVars false
def Lc:SyncD:=⟨[],0,[],[]⟩
def gX(w:aM)(s:SyncD)(t k o wake:Int):SyncD×Int×Bool:=if bM w s t k o then((cz w s t k o wake).1,(cz w s t k o wake).2,true)else(Lc,0,false)
def RT(r:SyncD×Int×Bool):AV:=.tup [.agg r.1.enc,.W6 r.2.1,.bool r.2.2]
theorem GG(ro:Option Nat)(ls:List LockD):bT ls.length ro ls=ls.map LockD.enc:=by
 apply Wr;intro i;rcases Vp i ls.length with hi|hi
 ·rw[fF _ _ _ _ hi,nq,if_neg W1];simp[hi]
 ·rw[Vq (by rw[cl];exact hi),Vq (by simpa using hi)]
section
variable (s:SyncD) (h1:s.locks.length<2^40) (h2:s.done.length≤140737488351232) (h3:s.threads.length<2^40) (hrd:∀l∈s.locks,l.readers.length<2^40) (hne:s.threads≠[])
include h1 h2 h3 hrd hne
theorem Is:af Tryz.prog 85 [.agg s.enc] [] λv L=>∃bl bt od,v=.agg [.sl bl 0 s.locks.length,.W6 s.tx,aO od s.done.length,.sl bt 0 s.threads.length]∧L=(bl,⟨2,s.locks.map LockD.enc⟩)::(ae od 1 (s.done.map aT)++[(bt,⟨3,s.threads.map ThrD.enc⟩)])∧(od=none→s.done=[]):=by
 refine(In s s.locks.length h1 h2 h3 hrd).mono ?_;rintro v L ⟨bl,ro,od,ot,rfl,rfl,hod,hot,hro⟩;cases ot with
 |none=>exact absurd (hot rfl) hne
 |some bt=>exact⟨bl,bt,od,rfl,by rw[GG,Hm,if_neg (Nat.lt_irrefl _)];rfl,hod⟩
theorem NL(o:Int)(hl:inB o s.locks.length=true):af Tryz.prog 85 [.agg s.enc] [] λv L=>∃bl bt ro od,v=.agg [.sl bl 0 s.locks.length,.W6 s.tx,aO od s.done.length,.sl bt 0 s.threads.length]∧L=(bl,⟨2,bT o.toNat ro s.locks⟩)::(ae ro 1 ((aK s o).readers.map aj)++(ae od 1 (s.done.map aT)++[(bt,⟨3,s.threads.map ThrD.enc⟩)]))∧(od=none→s.done=[])∧(ro=none→(aK s o).readers=[]):=by
 obtain⟨o0,o1⟩:=ax.1 hl;have hlt:o.toNat<s.locks.length:=by omega
 refine(In s o.toNat h1 h2 h3 hrd).mono ?_;rintro v L ⟨bl,ro,od,ot,rfl,rfl,hod,hot,hro⟩;cases ot with
 |none=>exact absurd (hot rfl) hne
 |some bt=>exact⟨bl,bt,ro,od,rfl,by rw[Hm,if_pos hlt];rfl,hod,λe=>hro e hlt⟩
end
theorem NM{α:Type}(a b c d:α)(X:List α):((a::(X++[b]))++[c,d]).Perm (a::b::c::d::X):=by refine List.Perm.cons a ?_;show((X++[b])++[c,d]).Perm _;rw[VZ];exact VQ (l₁:=X) (l₂:=[b,c,d])
theorem RU{α:Type}(a b c d:α)(X Y:List α):((a::(X++(Y++[b])))++[c,d]).Perm (a::b::c::d::(X++Y)):=by rw[←VZ];exact NM a b c d (X++Y)
theorem bB(od:Option Nat)(n:Nat):(aO od n).one=true:=by cases od<;>rfl
theorem PF{s:SyncD}{od:Option Nat}(hod:od=none→s.done=[]){L:SH}(hR:∀p∈ae od 1 (s.done.map aT),p∈L):Fz L (aO od s.done.length) (.lst (s.done.map aT)):=by
 cases od with
 |none=>rw[hod rfl];exact .refl _
 |some bd=>exact Fz.sls (hR _ (Vr.2 rfl)) rfl W4 rfl
structure NN(w:aM)(s:SyncD):Prop where
 conds:w.conds.length<2^40
 locks:s.locks.length<2^40
 done:s.done.length≤140737488351232
 threads:s.threads.length<2^40
 rd:∀l∈s.locks,l.readers.length<2^40
section
variable (w:aM) (s:SyncD) (t k o wake:Int)
def EZ(v:AV)(L:SH):Prop:=∃v2 L2,aG [v] L [v2] L2∧v2=RT (gX w s t k o wake)∧L2=[]
theorem T2(hen:bM w s t k o=true)(bl bt:Nat)(od:Option Nat)(hod:od=none→s.done=[]):eC w s t o wake bl bt k (ae od 1 (s.done.map aT)) (aO od s.done.length) (EZ w s t k o wake):=by intro tx val ls th L f1 f2 hR e;refine⟨_,[],aG.all (Fz.tups (.cons (Fz.aggs (.cons f1 (.cons (.refl _) (.cons (PF hod hR) (.cons f2 .nil))))) (.cons (.refl _) (.cons (.refl _) .nil)))),?_,rfl⟩;unfold gX;rw[if_pos hen,e];rfl
theorem T3(hen:bM w s t 22 o=true)(bl bt bd:Nat):QK s o bl bt bd (EZ w s t 22 o wake):=by intro L f1 f2 f3;refine⟨_,[],aG.all (Fz.tups (.cons (Fz.aggs (.cons f1 (.cons (.refl _) (.cons f3 (.cons f2 .nil))))) (.cons (.refl _) (.cons (.refl _) .nil)))),?_,rfl⟩;unfold gX;rw[if_pos hen];rfl
theorem NO(hs:NN w s)(hen:bM w s t k o=true)(b7 b12:Nat):
  W.callM Tryz.prog 85 [.agg s.enc] [(b12,⟨4,[[.nils,.W6 0,.nils,.nils]]⟩),(b7,⟨4,[s.enc]⟩)] (ai (EZ w s t k o wake) (.W6 k) (.W6 o) (.W6 wake) (.ptr b7 0 0) (.pptr [[.W6 t]] 0 0) (.ptr b12 0 0) (.pptr [w.enc] 0 0)):=by
 have hen':=hen;unfold bM at hen';simp only[VP]at hen';obtain⟨⟨⟨hfi,hth⟩,hal⟩,hkd⟩:=hen';have hf:=zG.1 hfi;have ht:inB t s.threads.length=true:=by rw[hf.threads];exact hth
 obtain⟨t0,t1⟩:=ax.1 ht;have hne:s.threads≠[]:=λe=>by rw[e]at t1;simp at t1;omega
 have plain:(∀bl bt od,(od=none→s.done=[])→(eX s b7 b12 bl bt (ae od 1 (s.done.map aT))).names.Nodup→ai (EZ w s t k o wake) (.W6 k) (.W6 o) (.W6 wake) (.ptr b7 0 0) (.pptr [[.W6 t]] 0 0) (.ptr b12 0 0) (.pptr [w.enc] 0 0) (.agg [.sl bl 0 s.locks.length,.W6 s.tx,aO od s.done.length,.sl bt 0 s.threads.length]) (eX s b7 b12 bl bt (ae od 1 (s.done.map aT))))→
   W.callM Tryz.prog 85 [.agg s.enc] [(b12,⟨4,[[.nils,.W6 0,.nils,.nils]]⟩),(b7,⟨4,[s.enc]⟩)] (ai (EZ w s t k o wake) (.W6 k) (.W6 o) (.W6 wake) (.ptr b7 0 0) (.pptr [[.W6 t]] 0 0) (.ptr b12 0 0) (.pptr [w.enc] 0 0)):=λh=>by
  refine K3 (Is s hs.locks hs.done hs.threads hs.rd hne) ?_;rintro v K ⟨bl,bt,od,rfl,rfl,hod⟩;exact⟨eX s b7 b12 bl bt (ae od 1 (s.done.map aT)),NM _ _ _ _ _,h bl bt od hod⟩
 have readers:inB o s.locks.length=true→(∀bl bt ro od,(od=none→s.done=[])→(ro=none→(aK s o).readers=[])→(NK s o b7 b12 bl bt ro (ae od 1 (s.done.map aT))).names.Nodup→ai (EZ w s t k o wake) (.W6 k) (.W6 o) (.W6 wake) (.ptr b7 0 0) (.pptr [[.W6 t]] 0 0) (.ptr b12 0 0) (.pptr [w.enc] 0 0) (.agg [.sl bl 0 s.locks.length,.W6 s.tx,aO od s.done.length,.sl bt 0 s.threads.length]) (NK s o b7 b12 bl bt ro (ae od 1 (s.done.map aT))))→
   W.callM Tryz.prog 85 [.agg s.enc] [(b12,⟨4,[[.nils,.W6 0,.nils,.nils]]⟩),(b7,⟨4,[s.enc]⟩)] (ai (EZ w s t k o wake) (.W6 k) (.W6 o) (.W6 wake) (.ptr b7 0 0) (.pptr [[.W6 t]] 0 0) (.ptr b12 0 0) (.pptr [w.enc] 0 0)):=λhl h=>by
  refine K3 (NL s hs.locks hs.done hs.threads hs.rd hne o hl) ?_;rintro v K ⟨bl,bt,ro,od,rfl,rfl,hod,hro⟩;exact⟨NK s o b7 b12 bl bt ro (ae od 1 (s.done.map aT)),RU _ _ _ _ _ _,h bl bt ro od hod hro⟩
 have e1:=λbl bt od hod=>T2 w s t k o wake hen bl bt od hod
 have hrl:∀o,inB o s.locks.length=true→(aK s o).readers.length<2^40:=λo h=>by
  obtain⟨o0,o1⟩:=ax.1 h;have hlt:o.toNat<s.locks.length:=by omega
  unfold aK;rw[show s.locks.getD o.toNat default=s.locks[o.toNat] by simp[hlt]];exact hs.rd _ (VF hlt)
 rcases kinds k with hk|rfl|rfl|rfl|rfl|rfl|rfl|rfl|rfl|rfl|rfl|rfl|rfl|rfl|rfl|rfl|rfl|rfl|rfl|rfl|rfl|rfl|rfl|rfl
 ·simp only[allowedS]at hal
  repeat (rw[if_neg W1]at hal)
  cases hal
 ·exact plain λbl bt od hod hnd=>TT w s t o wake b7 b12 bl bt _ _ (bB _ _) _ hf ht hnd hal (e1 bl bt od hod)
 ·exact plain λbl bt od hod hnd=>TU w s t o wake b7 b12 bl bt _ _ (bB _ _) _ hf ht hnd hal (e1 bl bt od hod)
 ·exact plain λbl bt od hod hnd=>TV w s t o wake b7 b12 bl bt _ _ (bB _ _) _ hf ht hnd hal (e1 bl bt od hod)
 ·exact plain λbl bt od hod hnd=>TW w s t o wake b7 b12 bl bt _ _ (bB _ _) _ hf ht hnd hal (e1 bl bt od hod)
 ·exact plain λbl bt od hod hnd=>TX w s t o wake b7 b12 bl bt _ _ (bB _ _) _ hf ht hnd hal (e1 bl bt od hod)
 ·exact plain λbl bt od hod hnd=>TY w s t o wake b7 b12 bl bt _ _ (bB _ _) _ hf ht hnd hal (e1 bl bt od hod)
 ·exact plain λbl bt od hod hnd=>TZ w s t o wake b7 b12 bl bt _ _ (bB _ _) _ hf ht hnd hal (e1 bl bt od hod)
 ·have hl:inB o s.locks.length=true:=by rw[hf.locks];simp[allowedS]at hal;exact hal.1
  exact readers hl λbl bt ro od hod hro hnd=>T1 w s t o wake b7 b12 bl bt _ _ (bB _ _) _ hl (hrl o hl) ro hro hnd (e1 bl bt od hod)
 ·have hl:inB o s.locks.length=true:=by rw[hf.locks];simp[allowedS]at hal;exact hal.1
  refine readers hl λbl bt ro od hod hro hnd=>?_
  cases ro with
  |none=>
   have hc:(aK s o).readers.contains t=true:=by have:=hkd;simp[cL]at this;simpa using this.2
   rw[hro rfl]at hc;cases hc
  |some br=>exact T0 w s t o wake b7 b12 bl bt _ _ (bB _ _) _ hl (hrl o hl) br hnd (e1 bl bt od hod)
 ·exact plain λbl bt od hod hnd=>RE w s t o wake b7 b12 bl bt _ _ (bB _ _) _ hf ht hnd hal (e1 bl bt od hod)
 ·exact plain λbl bt od hod hnd=>RF w s t o wake b7 b12 bl bt _ _ (bB _ _) _ hf ht hnd hal (e1 bl bt od hod)
 ·exact plain λbl bt od hod hnd=>RG w s t o wake b7 b12 bl bt _ _ (bB _ _) _ hf ht hnd hal (e1 bl bt od hod)
 ·exact plain λbl bt od hod hnd=>RH w s t o wake b7 b12 bl bt _ _ (bB _ _) _ hf ht hnd hal (e1 bl bt od hod)
 ·exact plain λbl bt od hod hnd=>RI w s t o wake b7 b12 bl bt _ _ (bB _ _) _ hf ht hnd hal (e1 bl bt od hod)
 ·exact plain λbl bt od hod hnd=>RJ w s t o wake b7 b12 bl bt _ _ (bB _ _) _ hf ht hnd hal (e1 bl bt od hod)
 ·exact plain λbl bt od hod hnd=>RK w s t o wake b7 b12 bl bt _ _ (bB _ _) _ hf ht hnd hal (e1 bl bt od hod)
 ·exact plain λbl bt od hod hnd=>RL w s t o wake b7 b12 bl bt _ _ (bB _ _) _ hf ht hnd hal (e1 bl bt od hod)
 ·exact plain λbl bt od hod hnd=>RP w s t o wake b7 b12 bl bt _ _ (bB _ _) _ hf ht hnd hs.threads (e1 bl bt od hod)
 ·exact plain λbl bt od hod hnd=>RQ w s t o wake b7 b12 bl bt _ _ (bB _ _) _ hf ht hnd hs.threads (e1 bl bt od hod)
 ·exact plain λbl bt od hod hnd=>RM w s t o wake b7 b12 bl bt _ _ (bB _ _) _ hf ht hnd hal (e1 bl bt od hod)
 ·exact plain λbl bt od hod hnd=>RN w s t o wake b7 b12 bl bt _ _ (bB _ _) _ hf ht hnd hal (e1 bl bt od hod)
 ·refine plain λbl bt od hod hnd=>?_
  cases od with
  |none=>
   have hl:inB o s.done.length=true:=by rw[hf.done];simpa[allowedS]using hal
   obtain⟨o0,o1⟩:=ax.1 hl;rw[hod rfl]at o1;simp at o1;omega
  |some bd=>exact RS w s t o wake b7 b12 bl bt _ hf ht bd hnd hal (T3 w s t o wake hen bl bt bd)
 ·exact plain λbl bt od hod hnd=>RO w s t o wake b7 b12 bl bt _ _ (bB _ _) _ hf ht hnd hal (e1 bl bt od hod)
theorem NP(hs:NN w s):az Tryz.prog 56 [.agg w.enc,.agg s.enc,.W6 t,.W6 k,.W6 o,.W6 wake] (RT (gX w s t k o wake)):=by
 refine af.fz (Bu _ _ _ _ _ _ _ _ ?_);show jb _ _ _ _ _ _ _ (EZ w s t k o wake);unfold jb;have hcn:w.conds.length<2^62:=by have:=hs.conds;omega
 have he:=JP w s t k o hcn hs.rd;have hc8:=NO w s t k o wake hs;have fin:bM w s t k o=false→∀L,EZ w s t k o wake (.tup [.agg [.nils,.W6 0,.nils,.nils],.W6 0,.bool false]) L:=λhn L=>by refine⟨_,[],aG.all (Fz.tups (.cons (Fz.aggs (.cons .nils (.cons (.refl _) (.cons .nils (.cons .nils .nil))))) (.cons (.refl _) (.cons (.refl _) .nil)))),?_,rfl⟩;unfold gX;rw[hn];rfl
 generalize EZ w s t k o wake=Q at *;cases hen:bM w s t k o with
 |false=>
  rw[hen]at he;have nh:(!false)=true:=rfl;have fin:=fin hen;clear hc8
  repeat' (first|refine st ?_|(refine pf 84 ?_;refine pm (he) ?_)|refine sb λnb_ hnb_=>?_|refine s2 (λh=>?_) λh=>?_|fail)
  exact fin _
 |true=>
  rw[hen]at he;have hc8:=hc8 hen;clear fin
  repeat' (first|exact hc8 _ _|refine st ?_|(refine pf 84 ?_;refine pm (he) ?_)|refine sb λnb_ hnb_=>?_|refine s2 (λh=>?_) λh=>?_|fail)
end
end
theorem ik(d:Array Int)(hs:∀i j,i<j→j<d.size→d[i]!≤d[j]!):∀m,m≤d.size→
  (Lib.compactUpTo d m).Pairwise (·<·)∧(∀x∈Lib.compactUpTo d m,∃j,j<m∧x=d[j]!)∧(∀j,j<m→d[j]!∈Lib.compactUpTo d m)
 |0,_=>⟨by simp[Lib.compactUpTo],by simp[Lib.compactUpTo],by intro j hj;omega⟩
 | m+1,hm=>by
  obtain⟨h1,h2,h3⟩:=ik d hs m W1;rw[Lib.compactUpTo_succ];by_cases hk:Lib.keeps d m=true
  ·rw[if_pos hk];refine⟨?_,?_,?_⟩
   ·rw[List.pairwise_append];refine⟨h1,W4,?_⟩;intro x hx y hy;obtain⟨j,hj,rfl⟩:=h2 x hx;simp at hy;subst hy;have hle:=hs j m hj W1;have hne:d[j]!≠d[m]! :=by
     intro he;have hm0:0<m:=by omega
     have h4:d[m]!≠d[m-1]! :=by intro h5;rw[Lib.keeps_neg hm0 h5]at hk;cases hk
     have h5:d[j]!≤d[m-1]! :=by
      rcases Vp j (m-1)with h|h
      ·exact hs j (m-1) h W1
      ·rw[show j=m-1 from by omega];exact Int.le_refl _
     have h6:d[m-1]!≤d[m]! :=hs (m-1) m W1 W1;exact h4 W1
    omega
   ·intro x hx;rw[Vz]at hx;rcases hx with hx|hx
    ·obtain⟨j,hj,e⟩:=h2 x hx;exact⟨j,W1,e⟩
    ·simp at hx;exact⟨m,W1,hx⟩
   ·intro j hj;rw[Vz];rcases Vp j m with h|h
    ·exact .inl (h3 j h)
    ·rw[show j=m from by omega];exact .inr W4
  ·rw[if_neg hk,V2];have hm0:0<m:=by
    rcases We m with h|h
    ·subst h;exact absurd (Lib.keeps_lt_one d 0 W1) hk
    ·exact h
   have he:d[m]! =d[m-1]! :=by apply Classical.byContradiction;intro h;exact hk (Lib.keeps_pos h)
   refine⟨h1,λx hx=>?_,λj hj=>?_⟩
   ·obtain⟨j,hj,e⟩:=h2 x hx;exact⟨j,W1,e⟩
   ·rcases Vp j m with h|h
    ·exact h3 j h
    ·rw[show j=m from by omega,he];exact h3 (m-1) W1
theorem PI(l:List Int)(j:Nat)(hj:j<l.length):l.toArray[j]! =l[j]:=by rw[getElem!_pos _ _ (by simpa using hj)];simp
theorem Dj(l:List Int):∀i j,i<j→j<(zr l).toArray.size→(zr l).toArray[i]!≤(zr l).toArray[j]! :=by
 intro i j hij hj;have hj':j<(zr l).length:=by simpa using hj
 rw[PI _ i W1,PI _ j hj'];have hp:(zr l).Pairwise (λx y=>(decide (x≤y))=true):=List.pairwise_mergeSort (λa b c=>by simp;omega) (λa b=>by simp;omega) l;have:=(List.pairwise_iff_getElem.1 hp) i j W1 hj' hij;simpa using this
def JQ(l:List Int):List Int:=Lib.compact (zr l)
theorem Ld(l:List Int)(x:Int):x∈JQ l↔x∈l:=by
 obtain⟨h1,h2,h3⟩:=ik (zr l).toArray (Dj _) (zr l).length W4;have hm:∀y,y∈zr l↔y∈l:=λy=>by simp[zr,List.mem_mergeSort]
 unfold JQ Lib.compact;constructor
 ·intro hx;obtain⟨j,hj,rfl⟩:=h2 x hx;rw[PI _ j hj];exact(hm _).1 (VF _)
 ·intro hx;obtain⟨j,hj,rfl⟩:=Wn ((hm x).2 hx);rw[←PI _ j hj];exact h3 j hj
theorem PJ(l:List Int):(JQ l).Pairwise (·<·):=
 (ik (zr l).toArray (Dj _) (zr l).length W4).1
structure aV where
 pc:Int
 regs:List Int
 taint:List (List Int)
 ev:Int
def cm(l:List Int):List AV:=[.lst (l.map aj)]
def aV.enc(s:aV):List AV:=[.W6 s.pc,.lst (s.regs.map aj),.lst (s.taint.map cm),.W6 s.ev]
def aV.zero:aV:=⟨0,[],[],0⟩
def aV.has(s:aV)(r:Int):Bool:=inB r s.regs.length
def aV.reg(s:aV)(r:Int):Int:=s.regs.getD r.toNat 0
def aV.tnt(s:aV)(r:Int):List Int:=s.taint.getD r.toNat []
def aV.put(s:aV)(a v:Int)(t:List Int):aV:=⟨IntKind.i64.wrap (s.pc+1),s.regs.set a.toNat v,s.taint.set a.toNat t,s.ev⟩
def bQ(i:bj)(s:aV):Option aV:=
 if i.op=1 then(if s.has i.a then some (s.put i.a i.n [])else none)else
 if i.op=2 then(if s.has i.a&&s.has i.b then some (s.put i.a (s.reg i.b) (s.tnt i.b))else none)else
 if i.op=3 then(if s.has i.a&&s.has i.b&&(O1 i.n (s.reg i.b)).2 then some (s.put i.a (O1 i.n (s.reg i.b)).1 (s.tnt i.b))else none)else
 if i.op=4 then(if s.has i.a&&s.has i.b&&s.has i.c&&(Df i.n (s.reg i.b) (s.reg i.c)).2 then some (s.put i.a (Df i.n (s.reg i.b) (s.reg i.c)).1 (JQ (s.tnt i.b++s.tnt i.c)))else none)else
 some {s with pc:=i.a}
def gY(ins:List bj):Nat→aV→aV×Bool
 |0,s=>if inB s.pc ins.length then(if(ins.getD s.pc.toNat default).op<1∨5<(ins.getD s.pc.toNat default).op then(s,true)else(aV.zero,false))else(aV.zero,false)
 | k+1,s=>if inB s.pc ins.length then(if(ins.getD s.pc.toNat default).op<1∨5<(ins.getD s.pc.toNat default).op then(s,true)else
   match bQ (ins.getD s.pc.toNat default) s with
   |none=>(aV.zero,false)
   |some s2=>gY ins k s2)else(aV.zero,false)
def bV(c:iy)(s:aV):aV×Bool:=
 if(s.regs.length:Int)=c.regs∧(s.taint.length:Int)=c.regs then gY c.ins c.ins.length s else(aV.zero,false)
def Dk(p:aV×Bool):AV:=.tup [.agg p.1.enc,.bool p.2]
structure jf(U:List Int)(s:aV):Prop where
 len:s.taint.length=s.regs.length
 small:s.regs.length<2^40
 short:∀l∈s.taint,l.length≤2^30
 sub:∀l∈s.taint,∀x∈l,x∈U
theorem FR:∀{l U:List Int},l.Nodup→(∀x∈l,x∈U)→l.length≤U.length
 |[],U,_,_=>by simp
 | x::l,U,hn,hs=>by
  have hx:x∈U:=hs x W4;have h1:=Vx.1 hn;have:=FR (l:=l) (U:=U.erase x) h1.2 λy hy=>(List.mem_erase_of_ne (by rintro rfl;exact h1.1 hy)).2 (hs y (by simp[hy]))
  rw[List.length_erase_of_mem hx]at this;have:=List.length_pos_of_mem hx;simp only[VI];omega
theorem LV{U l:List Int}(h:∀x∈l,x∈U):(JQ l).length≤U.length:=by have hnd:(JQ l).Nodup:=(PJ l).imp (λ{a b} (h:a<b)=>by omega);exact FR hnd λx hx=>h x ((Ld l x).1 hx)
theorem jf.tnt{U:List Int}{s:aV}(h:jf U s)(r:Int):(s.tnt r).length≤2^30∧∀x∈s.tnt r,x∈U:=by
 unfold aV.tnt;rw[WM];cases he:s.taint[r.toNat]? with
 |none=>simp
 |some l=>exact⟨h.short l (V0 he),h.sub l (V0 he)⟩
theorem jf.put{U:List Int}{s:aV}(h:jf U s)(a v:Int){t:List Int}(h1:t.length≤2^30)(h2:∀x∈t,x∈U):jf U (s.put a v t):=by
 refine⟨by simp[aV.put,h.len],by simpa[aV.put]using h.small,λl hl=>?_,λl hl=>?_⟩
 ·rcases WA hl with g|g
  ·exact h.short l g
  ·rw[g];exact h1
 ·rcases WA hl with g|g
  ·exact h.sub l g
  ·rw[g];exact h2
theorem jf.step{U:List Int}(hU:U.length≤2^30){s s2:aV}{i:bj}(h:jf U s)(he:bQ i s=some s2):jf U s2:=by
 unfold bQ at he;split at he
 ·split at he
  ·cases he;exact h.put _ _ W4 W4
  ·cases he
 ·split at he
  ·split at he
   ·cases he;exact h.put _ _ (h.tnt _).1 (h.tnt _).2
   ·cases he
  ·split at he
   ·split at he
    ·cases he;exact h.put _ _ (h.tnt _).1 (h.tnt _).2
    ·cases he
   ·split at he
    ·split at he
     ·cases he;have hs:∀x∈s.tnt i.b++s.tnt i.c,x∈U:=λx hx=>by
       rcases Vz.1 hx with g|g
       ·exact(h.tnt _).2 x g
       ·exact(h.tnt _).2 x g
      exact h.put _ _ (VD (LV hs) hU) λx hx=>hs x ((Ld _ _).1 hx)
     ·cases he
    ·cases he;exact⟨h.len,h.small,h.short,h.sub⟩
end Go.Proofs.YtenbpcngcicamaaGreatDoor.Am
