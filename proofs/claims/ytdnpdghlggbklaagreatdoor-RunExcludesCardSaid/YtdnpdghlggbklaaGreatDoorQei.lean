/- A part of the proof; the statement is proved in the last part. -/
import Derived.Test.YtdnpdghlggbklaaGreatDoorQeh
set_option linter.unusedSimpArgs false
set_option linter.unusedVariables false
namespace Go.Proofs.YtdnpdghlggbklaaGreatDoor.Am
section
set_option maxRecDepth 100000
set_option maxHeartbeats 2000000
set_option linter.unusedSectionVars false
section
variable {w:aH} {s:SyncD} {t k o:Int} (hf:NA w s) (hr:∀l∈s.locks,l.readers.length<2^40) (ha:allowedS w k o=true) {Q:R} (hq:∀b,cy w s t k o=b→Q (.bool b) [])
include hf hr ha hq
theorem NF(hk:6≤k∧k≤11):bO (.agg w.enc) (.agg s.enc) (.Xm t) (.Xm k) (.Xm o) [] Q:=by
 have hb:inB o s.locks.length=true:=by
  rw[hf.locks];have:k=6∨k=7∨k=8∨k=9∨k=10∨k=11:=by omega
  rcases this with rfl|rfl|rfl|rfl|rfl|rfl<;>(simp[allowedS]at ha;exact ha.1)
 have hx:=dN (f:=LockD.enc) hb;have ho:=fE hb;have hrd:=NB hr o;have hll:aD s o=s.locks.getD o.toNat default:=rfl;rw[←hll]at hx;have v6:k=6→cy w s t k o=decide ((aD s o).owner=-1):=λh=>by subst h;rfl
 have v10:k=10→cy w s t k o=(decide ((aD s o).owner=-1)&&decide ((aD s o).readers.length=0)):=λh=>by subst h;rfl
 have v8:k=8→cy w s t k o=(decide ((aD s o).owner=-1)&&!(aD s o).readers.contains t):=λh=>by subst h;rfl
 have v7:k=7∨k=11→cy w s t k o=decide ((aD s o).owner=t):=λh=>by rcases h with rfl|rfl<;>rfl
 have v9:k=9→cy w s t k o=(aD s o).readers.contains t:=λh=>by subst h;rfl
 clear hll hb ha;generalize aD s o=ll at *;obtain⟨ow,rd⟩:=ll;unfold LockD.enc at hx;dsimp only at *;have hc:=Im rd t hrd;generalize rd.contains t=hcb at *;unfold bO
 repeat' (first|refine st ?_|(refine pf 72 ?_;refine pm (hc) ?_)|refine sb λnb_ hnb_=>?_|refine s2 (λh=>?_) λh=>?_|fail)
 all_goals simp only[decide_eq_true_eq,decide_eq_false_iff_not]at *
 all_goals first
  |(exfalso;clear hq;omega)
  |exact hq _ ((v6 Xh).trans (by first|rfl|(simp_all;done)))
  |exact hq _ ((v7 Xh).trans (by first|rfl|(simp_all;done)))
  |exact hq _ ((v8 Xh).trans (by first|rfl|(simp_all;done)))
  |exact hq _ ((v9 Xh).trans (by first|rfl|(simp_all;done)))
  |exact hq _ ((v10 Xh).trans (by first|rfl|(simp_all;done)))
theorem NG(hk:k=16∨k=18∨k=19):bO (.agg w.enc) (.agg s.enc) (.Xm t) (.Xm k) (.Xm o) [] Q:=by
 have hb:inB o w.conds.length=true:=by rcases hk with rfl|rfl|rfl<;>simpa[allowedS]using ha
 have hm:=FM hf hb;have hx:=dN (f:=cP.enc) hb;have ho:=fE hb;have hm0:=fE hm;have hx2:=dN (f:=LockD.enc) hm;have v:k=16∨k=18∨k=19→cy w s t k o=decide ((aD s (jo w o)).owner=t):=λh=>by rcases h with rfl|rfl|rfl<;>rfl
 have hll:aD s (jo w o)=s.locks.getD (jo w o).toNat default:=rfl;rw[←hll]at hx2;clear hll;generalize aD s (jo w o)=ll at *;have hmm:jo w o=(w.conds.getD o.toNat default).mutex:=rfl;rw[hmm]at hx2 hm0;generalize w.conds.getD o.toNat default=c at *;obtain⟨nm,mx⟩:=c;obtain⟨ow,rd⟩:=ll;unfold LockD.enc at hx2;unfold cP.enc at hx;dsimp only at *;clear hmm hm hb ha;unfold bO
 repeat' (first|refine st ?_|refine sb λnb_ hnb_=>?_|refine s2 (λh=>?_) λh=>?_|fail)
 all_goals simp only[decide_eq_true_eq,decide_eq_false_iff_not]at *
 all_goals first
  |(exfalso;clear hq;omega)
  |exact hq _ ((v Xh).trans (by first|rfl|(simp_all;done)))
theorem PF(hk:k=20∨k=21):bO (.agg w.enc) (.agg s.enc) (.Xm t) (.Xm k) (.Xm o) [] Q:=by
 have hb:inB o s.threads.length=true:=by rw[hf.threads];rcases hk with rfl|rfl<;>simpa[allowedS]using ha
 have hx:=dN (f:=ThrD.enc) hb;have ho:=fE hb;have v20:k=20→cy w s t k o=(decide (o≠t)&&decide ((cm s o).status=0)):=λh=>by subst h;rfl
 have v21:k=21→cy w s t k o=(decide (o≠t)&&decide ((cm s o).status=5)):=λh=>by subst h;rfl
 have hll:cm s o=s.threads.getD o.toNat default:=rfl;rw[←hll]at hx;clear hll hb ha;generalize cm s o=ll at *;obtain⟨st_,cd_,at_⟩:=ll;unfold ThrD.enc at hx;dsimp only at *;unfold bO
 repeat' (first|refine st ?_|refine sb λnb_ hnb_=>?_|refine s2 (λh=>?_) λh=>?_|fail)
 all_goals simp only[decide_eq_true_eq,decide_eq_false_iff_not]at *
 all_goals first
  |(exfalso;clear hq;omega)
  |exact hq _ ((v20 Xh).trans (by first|rfl|(simp_all;done)))
  |exact hq _ ((v21 Xh).trans (by first|rfl|(simp_all;done)))
theorem PI(hk:k=22∨k=23):bO (.agg w.enc) (.agg s.enc) (.Xm t) (.Xm k) (.Xm o) [] Q:=by
 have hb:inB o s.done.length=true:=by rw[hf.done];rcases hk with rfl|rfl<;>simpa[allowedS]using ha
 have hx:=dN (f:=aT) hb;have ho:=fE hb;have v22:k=22→cy w s t k o=!zM s o:=λh=>by subst h;rfl
 have v23:k=23→cy w s t k o=zM s o:=λh=>by subst h;rfl
 have hll:zM s o=s.done.getD o.toNat default:=rfl;rw[←hll]at hx;clear hll hb ha;generalize zM s o=ll at *;unfold aT at hx;unfold bO
 repeat' (first|refine st ?_|refine sb λnb_ hnb_=>?_|refine s2 (λh=>?_) λh=>?_|fail)
 all_goals simp only[decide_eq_true_eq,decide_eq_false_iff_not]at *
 all_goals first
  |(exfalso;clear hq;omega)
  |exact hq _ ((v22 Xh).trans (by first|rfl|(simp_all;done)))
  |exact hq _ ((v23 Xh).trans (by first|rfl|(simp_all;done)))
theorem NH(ht:inB t w.threads.length=true)(hk:¬(6≤k∧k≤11)∧¬(k=16∨k=18∨k=19)∧¬(k=20∨k=21)∧¬(k=22∨k=23)):bO (.agg w.enc) (.agg s.enc) (.Xm t) (.Xm k) (.Xm o) [] Q:=by
 have hb:inB t s.threads.length=true:=by rw[hf.threads];exact ht
 have hx:=dN (f:=ThrD.enc) hb;have ho:=fE hb;have v12:k=12→cy w s t k o=decide (s.tx=-1):=λh=>by subst h;rfl
 have v13:k=13→cy w s t k o=decide (s.tx=t):=λh=>by subst h;rfl
 have v14:k=14→cy w s t k o=!(cm s t).atomic:=λh=>by subst h;rfl
 have v15:k=15→cy w s t k o=(cm s t).atomic:=λh=>by subst h;rfl
 have v0:k≠12∧k≠13∧k≠14∧k≠15→cy w s t k o=true:=λh=>by
  obtain⟨a1,a2,a3,a4⟩:=h;unfold cy
  repeat (rw[if_neg Xh])
 have hll:cm s t=s.threads.getD t.toNat default:=rfl;rw[←hll]at hx;clear hll hb ha;generalize cm s t=ll at *;obtain⟨st_,cd_,at_⟩:=ll;unfold ThrD.enc at hx;dsimp only at *;unfold bO
 repeat' (first|refine st ?_|refine sb λnb_ hnb_=>?_|refine s2 (λh=>?_) λh=>?_|fail)
 all_goals simp only[decide_eq_true_eq,decide_eq_false_iff_not]at *
 all_goals first
  |(exfalso;clear hq;omega)
  |exact hq _ ((v12 Xh).trans (by first|rfl|(simp_all;done)))
  |exact hq _ ((v13 Xh).trans (by first|rfl|(simp_all;done)))
  |exact hq _ ((v14 Xh).trans (by first|rfl|(simp_all;done)))
  |exact hq _ ((v15 Xh).trans (by first|rfl|(simp_all;done)))
  |exact hq _ ((v0 Xh).trans (by first|rfl|(simp_all;done)))
end
theorem NI(w:aH)(s:SyncD)(t k o:Int)(hf:NA w s)(ht:inB t w.threads.length=true)(hr:∀l∈s.locks,l.readers.length<2^40)(ha:allowedS w k o=true):az Tryz.prog 49 [.agg w.enc,.agg s.enc,.Xm t,.Xm k,.Xm o] (.bool (cy w s t k o)):=by
 refine BQ _ _ _ _ _ _ _ ?_;have hq:∀b,cy w s t k o=b→(λ(u:AV) (K:SH)=>u=AV.bool (cy w s t k o)∧K=[]) (.bool b) []:=λb hb=>⟨by rw[hb],rfl⟩
 by_cases h1:6≤k∧k≤11
 ·exact NF hf hr ha hq h1
 by_cases h2:k=16∨k=18∨k=19
 ·exact NG hf hr ha hq h2
 by_cases h3:k=20∨k=21
 ·exact PF hf hr ha hq h3
 by_cases h4:k=22∨k=23
 ·exact PI hf hr ha hq h4
 exact NH hf hr ha hq ht ⟨h1,h2,h3,h4⟩
theorem JQ(w:aH)(s:SyncD)(t k o:Int)(hcn:w.conds.length<2^62)(hr:∀l∈s.locks,l.readers.length<2^40):az Tryz.prog 24 [.agg w.enc,.agg s.enc,.Xm t,.Xm k,.Xm o] (.bool (bC w s t k o)):=by
 refine wO _ _ _ _ _ _ _ ?_;unfold lP;generalize hQ:(λ(u:AV) (K:SH)=>u=AV.bool (bC w s t k o)∧K=[])=Q;have hq:∀b,bC w s t k o=b→Q (.bool b) []:=λb hb=>by subst hQ;exact⟨by rw[hb],rfl⟩
 clear hQ;have c1:=PD w s hcn;have c2:=fF t w.threads.length;have c3:=JK w k o;cases h1:fitsS w s with
 |false=>
  rw[h1]at c1;have hv:bC w s t k o=false:=by simp[bC,h1]
  repeat' (first|refine st ?_|(refine pf 46 ?_;refine pm (c1) ?_)|refine sb λnb_ hnb_=>?_|refine s2 (λh=>?_) λh=>?_|fail)
  all_goals exact hq _ hv
 |true=>
  rw[h1]at c1;cases h2:inB t w.threads.length with
  |false=>
   rw[h2]at c2;have hv:bC w s t k o=false:=by simp[bC,h2]
   repeat' (first|refine st ?_|(refine pf 46 ?_;refine pm (c1) ?_)|(refine pf 47 ?_;refine pm (c2) ?_)|refine sb λnb_ hnb_=>?_|refine s2 (λh=>?_) λh=>?_|fail)
   all_goals exact hq _ hv
  |true=>
   rw[h2]at c2;cases h3:allowedS w k o with
   |false=>
    rw[h3]at c3;have hv:bC w s t k o=false:=by simp[bC,h3]
    repeat' (first|refine st ?_|(refine pf 46 ?_;refine pm (c1) ?_)|(refine pf 47 ?_;refine pm (c2) ?_)|(refine pf 48 ?_;refine pm (c3) ?_)|refine sb λnb_ hnb_=>?_|refine s2 (λh=>?_) λh=>?_|fail)
    all_goals exact hq _ hv
   |true=>
    rw[h3]at c3;have hf:=qx.1 h1;have c4:=NI w s t k o hf h2 hr h3;have ht:inB t s.threads.length=true:=by rw[hf.threads];exact h2
    have hx:=dN (f:=ThrD.enc) ht;have ht0:=fE ht;have hll:cm s t=s.threads.getD t.toNat default:=rfl;rw[←hll]at hx;have v1:k=1→bC w s t k o=decide ((cm s t).status=1):=λh=>by subst h;simp[bC,h1,h2,h3]
    have v17:k=17→bC w s t k o=(decide ((cm s t).status=4)&&decide ((cm s t).cond=o)&&decide ((aD s (jo w o)).owner=-1)):=λh=>by subst h;simp[bC,h1,h2,h3]
    have v0:k≠1∧k≠17→bC w s t k o=(decide ((cm s t).status=2)&&cy w s t k o):=λh=>by simp[bC,h1,h2,h3,h.1,h.2]
    clear hll;generalize cm s t=ll at *;generalize cy w s t k o=rb at *;obtain⟨st_,cd_,at_⟩:=ll;unfold ThrD.enc at hx;dsimp only at *;by_cases hk:k=17
    ·subst hk;have hb:inB o w.conds.length=true:=by simpa[allowedS]using h3
     have hm:=FM hf hb;have hx1:=dN (f:=cP.enc) hb;have ho:=fE hb;have hm0:=fE hm;have hx2:=dN (f:=LockD.enc) hm;have hll:aD s (jo w o)=s.locks.getD (jo w o).toNat default:=rfl;rw[←hll]at hx2;clear hll;replace v17:=v17 rfl;generalize aD s (jo w o)=ll at *;have hmm:jo w o=(w.conds.getD o.toNat default).mutex:=rfl;rw[hmm]at hx2 hm0;generalize w.conds.getD o.toNat default=c at *;obtain⟨nm,mx⟩:=c;obtain⟨ow,rd⟩:=ll;unfold LockD.enc at hx2;unfold cP.enc at hx1;dsimp only at *;clear hmm hm hb h3
     repeat' (first|refine st ?_|(refine pf 46 ?_;refine pm (c1) ?_)|(refine pf 47 ?_;refine pm (c2) ?_)|(refine pf 48 ?_;refine pm (c3) ?_)|refine sb λnb_ hnb_=>?_|refine s2 (λh=>?_) λh=>?_|fail)
     all_goals exact hq _ (v17.trans (by first|rfl|(simp_all;done)))
    ·have e17:decide (k=17)=false:=decide_eq_false hk
     repeat' (first|refine st ?_|(refine pf 46 ?_;refine pm (c1) ?_)|(refine pf 47 ?_;refine pm (c2) ?_)|(refine pf 48 ?_;refine pm (c3) ?_)|(refine pf 49 ?_;refine pm (c4) ?_)|refine sb λnb_ hnb_=>?_|refine s2 (λh=>?_) λh=>?_|fail)
     all_goals simp only[decide_eq_true_eq,decide_eq_false_iff_not]at *
     all_goals first
      |(exfalso;clear hq;omega)
      |exact hq _ ((v1 Xh).trans (by first|rfl|(simp_all;done)))
      |exact hq _ ((v0 Xh).trans (by first|rfl|(simp_all;done)))
end
section
set_option maxRecDepth 100000
set_option linter.unusedSimpArgs false
set_option linter.unusedSectionVars false
def bJ(s:SyncD)(i:Int)(f:ThrD→ThrD):List ThrD:=s.threads.set i.toNat (f (cm s i))
def aG(s:SyncD)(i:Int)(f:LockD→LockD):List LockD:=s.locks.set i.toNat (f (aD s i))
def NJ(s:SyncD)(o:Int):List ThrD:=dy s.threads o s.threads.length
def sB(l:List Int)(t:Int):List Int:=Lib.compact (zA (l++[t]))
def bG(w:aH)(s:SyncD)(t k o wake:Int):SyncD×Int:=
 if k=1 then({s with threads:=bJ s t λx=>{x with status:=2}},0)
 else if k=2 then({s with threads:=bJ s t λx=>{x with status:=5}},0)
 else if k=6∨k=10 then({s with locks:=aG s o λx=>{x with owner:=t}},0)
 else if k=7∨k=11 then({s with locks:=aG s o λx=>{x with owner:=-1}},0)
 else if k=8 then({s with locks:=aG s o λx=>{x with readers:=sB x.readers t}},0)
 else if k=9 then({s with locks:=aG s o λx=>{x with readers:=x.readers.filter λy=>!decide (y=t)}},0)
 else if k=12 then({s with tx:=t},0)
 else if k=13 then({s with tx:=-1},0)
 else if k=14 then({s with threads:=bJ s t λx=>{x with atomic:=true}},0)
 else if k=15 then({s with threads:=bJ s t λx=>{x with atomic:=false}},0)
 else if k=16 then({s with locks:=aG s (jo w o) λx=>{x with owner:=-1},threads:=bJ s t λx=>{x with status:=3,cond:=o}},0)
 else if k=17 then({s with locks:=aG s (jo w o) λx=>{x with owner:=t},threads:=bJ s t λx=>{x with status:=2,cond:=0}},0)
 else if k=18 then({s with threads:=kV s.threads o wake},eg s.threads o wake)
 else if k=19 then({s with threads:=NJ s o},(cj s.threads o s.threads.length).length)
 else if k=20 then({s with threads:=bJ s o λx=>{x with status:=1}},0)
 else if k=22 then({s with done:=s.done.set o.toNat true},0)
 else(s,0)
theorem jp{s:SyncD}{t:Int}{f:ThrD→ThrD}{r:List AV}(h:r=(f (cm s t)).enc):(s.threads.map ThrD.enc).set (0+t.toNat) r=(bJ s t f).map ThrD.enc:=by rw[h,Ww,bJ,Wx]
theorem jc{s:SyncD}{t:Int}{f:LockD→LockD}{r:List AV}(h:r=(f (aD s t)).enc):(s.locks.map LockD.enc).set (0+t.toNat) r=(aG s t f).map LockD.enc:=by rw[h,Ww,aG,Wx]
theorem cQ{s:SyncD}{t:Int}(h:inB t s.threads.length=true):(s.threads.map ThrD.enc)[0+t.toNat]? =some (cm s t).enc:=by rw[Ww];exact dN h
theorem lU{s:SyncD}{t:Int}(h:inB t s.locks.length=true):(s.locks.map LockD.enc)[0+t.toNat]? =some (aD s t).enc:=by rw[Ww];exact dN h
theorem aQ{bl n bt m:Nat}{tx:Int}{dv:AV}(h:dv.one=true):([.sl bl 0 n,.Xm tx,dv,.sl bt 0 m]:List AV).all AV.one=true:=by show(true&&(true&&(dv.one&&(true&&true))))=true;rw[h];rfl
theorem FS(T:List ThrD)(c wake:Int):(kV T c wake).length=T.length:=by unfold kV Io;split<;>simp
theorem NK{α:Type}{l:List α}{i:Nat}{x y:α}(h:l[i]? =some y):(l.set i x)[i]? =some x:=by have:=(Wk.1 h).1;simp[this]
section
variable (w:aH) (s:SyncD) (t o wake:Int) (b7 b12 bl bt:Nat) (od:Option Nat)
def ff(R:SH):SH:=(bl,⟨2,s.locks.map LockD.enc⟩)::(bt,⟨3,s.threads.map ThrD.enc⟩)::(b12,⟨4,[[.nils,.Xm 0,.nils,.nils]]⟩)::(b7,⟨4,[s.enc]⟩)::R
def eG(k:Int)(R:SH)(dv:AV)(Q:AV→SH→Prop):Prop:=∀(tx val:Int) (ls:List LockD) (th:List ThrD) (L:SH),Fz L (.sl bl 0 s.locks.length) (.lst (ls.map LockD.enc))→Fz L (.sl bt 0 s.threads.length) (.lst (th.map ThrD.enc))→(∀p∈R,p∈L)→
 bG w s t k o wake=(⟨ls,tx,s.done,th⟩,val)→Q (.tup [.agg [.sl bl 0 s.locks.length,.Xm tx,dv,.sl bt 0 s.threads.length],.Xm val,.bool true]) L
variable (R:SH) (dv:AV) (hone:dv.one=true) (Q:AV→SH→Prop) (hf:NA w s) (ht:inB t s.threads.length=true) (hnd:(ff s b7 b12 bl bt R).names.Nodup)
include hone hf ht hnd
theorem T6(ha:allowedS w 1 o=true)(hq:eG w s t o wake bl bt 1 R dv Q):ai Q (.Xm 1) (.Xm o) (.Xm wake) (.ptr b7 0 0) (.pptr [[.Xm t]] 0 0) (.ptr b12 0 0) (.pptr [w.enc] 0 0) (.agg [.sl bl 0 s.locks.length,.Xm s.tx,dv,.sl bt 0 s.threads.length]) (ff s b7 b12 bl bt R):=by
 unfold ai;simp only[SH.names,ff,VD,VN,VE,not_or]at hnd;obtain⟨⟨n1,n2,n3,n4⟩,⟨n5,n6,n7⟩,⟨n8,n9⟩,n10,n11⟩:=hnd;have hb1:([.sl bl 0 s.locks.length,.Xm s.tx,dv,.sl bt 0 s.threads.length]:List AV).all AV.one=true:=aQ hone;unfold ff;have hy:=cQ ht;obtain⟨t0,t1⟩:=ax.1 ht;have hb2:∀tx:Int,([.sl bl 0 s.locks.length,.Xm tx,dv,.sl bt 0 s.threads.length]:List AV).all AV.one=true:=λtx=>aQ hone
 repeat' (first|refine st ?_|refine aq rp rfl rfl hb1 rfl ?_|refine aq rp rfl rfl (hb2 _) rfl ?_|refine sb λnb_ hnb_=>?_|refine s2 (λh=>?_) λh=>?_|fail)
 exact hq _ _ (s.locks) (bJ s t λx=>{x with status:=2}) _ (Fz.sls rp rfl Xk (by simp[aG])) (Fz.sls rp (jp rfl) Xk (by simp[bJ])) (λp hp=>by simp only[VE];simp[hp]) (by simp only[bG,Int.reduceEq,Int.reduceNeg,if_true,if_false,or_self,or_true,true_or,or_false,false_or,reduceIte,reduceCtorEq])
theorem T7(ha:allowedS w 2 o=true)(hq:eG w s t o wake bl bt 2 R dv Q):ai Q (.Xm 2) (.Xm o) (.Xm wake) (.ptr b7 0 0) (.pptr [[.Xm t]] 0 0) (.ptr b12 0 0) (.pptr [w.enc] 0 0) (.agg [.sl bl 0 s.locks.length,.Xm s.tx,dv,.sl bt 0 s.threads.length]) (ff s b7 b12 bl bt R):=by
 unfold ai;simp only[SH.names,ff,VD,VN,VE,not_or]at hnd;obtain⟨⟨n1,n2,n3,n4⟩,⟨n5,n6,n7⟩,⟨n8,n9⟩,n10,n11⟩:=hnd;have hb1:([.sl bl 0 s.locks.length,.Xm s.tx,dv,.sl bt 0 s.threads.length]:List AV).all AV.one=true:=aQ hone;unfold ff;have hy:=cQ ht;obtain⟨t0,t1⟩:=ax.1 ht;have hb2:∀tx:Int,([.sl bl 0 s.locks.length,.Xm tx,dv,.sl bt 0 s.threads.length]:List AV).all AV.one=true:=λtx=>aQ hone
 repeat' (first|refine st ?_|refine aq rp rfl rfl hb1 rfl ?_|refine aq rp rfl rfl (hb2 _) rfl ?_|refine sb λnb_ hnb_=>?_|refine s2 (λh=>?_) λh=>?_|fail)
 exact hq _ _ (s.locks) (bJ s t λx=>{x with status:=5}) _ (Fz.sls rp rfl Xk (by simp[aG])) (Fz.sls rp (jp rfl) Xk (by simp[bJ])) (λp hp=>by simp only[VE];simp[hp]) (by simp only[bG,Int.reduceEq,Int.reduceNeg,if_true,if_false,or_self,or_true,true_or,or_false,false_or,reduceIte,reduceCtorEq])
theorem T8(ha:allowedS w 3 o=true)(hq:eG w s t o wake bl bt 3 R dv Q):ai Q (.Xm 3) (.Xm o) (.Xm wake) (.ptr b7 0 0) (.pptr [[.Xm t]] 0 0) (.ptr b12 0 0) (.pptr [w.enc] 0 0) (.agg [.sl bl 0 s.locks.length,.Xm s.tx,dv,.sl bt 0 s.threads.length]) (ff s b7 b12 bl bt R):=by
 unfold ai;simp only[SH.names,ff,VD,VN,VE,not_or]at hnd;obtain⟨⟨n1,n2,n3,n4⟩,⟨n5,n6,n7⟩,⟨n8,n9⟩,n10,n11⟩:=hnd;have hb1:([.sl bl 0 s.locks.length,.Xm s.tx,dv,.sl bt 0 s.threads.length]:List AV).all AV.one=true:=aQ hone;unfold ff;have hy:=cQ ht;obtain⟨t0,t1⟩:=ax.1 ht;have hb2:∀tx:Int,([.sl bl 0 s.locks.length,.Xm tx,dv,.sl bt 0 s.threads.length]:List AV).all AV.one=true:=λtx=>aQ hone
 repeat' (first|refine st ?_|refine aq rp rfl rfl hb1 rfl ?_|refine aq rp rfl rfl (hb2 _) rfl ?_|refine sb λnb_ hnb_=>?_|refine s2 (λh=>?_) λh=>?_|fail)
 exact hq _ _ (s.locks) (s.threads) _ (Fz.sls rp rfl Xk (by simp[aG])) (Fz.sls rp rfl Xk (by simp[bJ])) (λp hp=>by simp only[VE];simp[hp]) (by simp only[bG,Int.reduceEq,Int.reduceNeg,if_true,if_false,or_self,or_true,true_or,or_false,false_or,reduceIte,reduceCtorEq])
theorem T9(ha:allowedS w 4 o=true)(hq:eG w s t o wake bl bt 4 R dv Q):ai Q (.Xm 4) (.Xm o) (.Xm wake) (.ptr b7 0 0) (.pptr [[.Xm t]] 0 0) (.ptr b12 0 0) (.pptr [w.enc] 0 0) (.agg [.sl bl 0 s.locks.length,.Xm s.tx,dv,.sl bt 0 s.threads.length]) (ff s b7 b12 bl bt R):=by
 unfold ai;simp only[SH.names,ff,VD,VN,VE,not_or]at hnd;obtain⟨⟨n1,n2,n3,n4⟩,⟨n5,n6,n7⟩,⟨n8,n9⟩,n10,n11⟩:=hnd;have hb1:([.sl bl 0 s.locks.length,.Xm s.tx,dv,.sl bt 0 s.threads.length]:List AV).all AV.one=true:=aQ hone;unfold ff;have hy:=cQ ht;obtain⟨t0,t1⟩:=ax.1 ht;have hb2:∀tx:Int,([.sl bl 0 s.locks.length,.Xm tx,dv,.sl bt 0 s.threads.length]:List AV).all AV.one=true:=λtx=>aQ hone
 repeat' (first|refine st ?_|refine aq rp rfl rfl hb1 rfl ?_|refine aq rp rfl rfl (hb2 _) rfl ?_|refine sb λnb_ hnb_=>?_|refine s2 (λh=>?_) λh=>?_|fail)
 exact hq _ _ (s.locks) (s.threads) _ (Fz.sls rp rfl Xk (by simp[aG])) (Fz.sls rp rfl Xk (by simp[bJ])) (λp hp=>by simp only[VE];simp[hp]) (by simp only[bG,Int.reduceEq,Int.reduceNeg,if_true,if_false,or_self,or_true,true_or,or_false,false_or,reduceIte,reduceCtorEq])
theorem Ua(ha:allowedS w 5 o=true)(hq:eG w s t o wake bl bt 5 R dv Q):ai Q (.Xm 5) (.Xm o) (.Xm wake) (.ptr b7 0 0) (.pptr [[.Xm t]] 0 0) (.ptr b12 0 0) (.pptr [w.enc] 0 0) (.agg [.sl bl 0 s.locks.length,.Xm s.tx,dv,.sl bt 0 s.threads.length]) (ff s b7 b12 bl bt R):=by
 unfold ai;simp only[SH.names,ff,VD,VN,VE,not_or]at hnd;obtain⟨⟨n1,n2,n3,n4⟩,⟨n5,n6,n7⟩,⟨n8,n9⟩,n10,n11⟩:=hnd;have hb1:([.sl bl 0 s.locks.length,.Xm s.tx,dv,.sl bt 0 s.threads.length]:List AV).all AV.one=true:=aQ hone;unfold ff;have hy:=cQ ht;obtain⟨t0,t1⟩:=ax.1 ht;have hb2:∀tx:Int,([.sl bl 0 s.locks.length,.Xm tx,dv,.sl bt 0 s.threads.length]:List AV).all AV.one=true:=λtx=>aQ hone
 repeat' (first|refine st ?_|refine aq rp rfl rfl hb1 rfl ?_|refine aq rp rfl rfl (hb2 _) rfl ?_|refine sb λnb_ hnb_=>?_|refine s2 (λh=>?_) λh=>?_|fail)
 exact hq _ _ (s.locks) (s.threads) _ (Fz.sls rp rfl Xk (by simp[aG])) (Fz.sls rp rfl Xk (by simp[bJ])) (λp hp=>by simp only[VE];simp[hp]) (by simp only[bG,Int.reduceEq,Int.reduceNeg,if_true,if_false,or_self,or_true,true_or,or_false,false_or,reduceIte,reduceCtorEq])
theorem Ub(ha:allowedS w 6 o=true)(hq:eG w s t o wake bl bt 6 R dv Q):ai Q (.Xm 6) (.Xm o) (.Xm wake) (.ptr b7 0 0) (.pptr [[.Xm t]] 0 0) (.ptr b12 0 0) (.pptr [w.enc] 0 0) (.agg [.sl bl 0 s.locks.length,.Xm s.tx,dv,.sl bt 0 s.threads.length]) (ff s b7 b12 bl bt R):=by
 unfold ai;simp only[SH.names,ff,VD,VN,VE,not_or]at hnd;obtain⟨⟨n1,n2,n3,n4⟩,⟨n5,n6,n7⟩,⟨n8,n9⟩,n10,n11⟩:=hnd;have hb1:([.sl bl 0 s.locks.length,.Xm s.tx,dv,.sl bt 0 s.threads.length]:List AV).all AV.one=true:=aQ hone;unfold ff;have hy:=cQ ht;obtain⟨t0,t1⟩:=ax.1 ht;have hl:inB o s.locks.length=true:=by rw[hf.locks];simp[allowedS]at ha;exact ha.1
 have hx:=lU hl;obtain⟨o0,o1⟩:=ax.1 hl;have hb2:∀tx:Int,([.sl bl 0 s.locks.length,.Xm tx,dv,.sl bt 0 s.threads.length]:List AV).all AV.one=true:=λtx=>aQ hone
 repeat' (first|refine st ?_|refine aq rp rfl rfl hb1 rfl ?_|refine aq rp rfl rfl (hb2 _) rfl ?_|refine sb λnb_ hnb_=>?_|refine s2 (λh=>?_) λh=>?_|fail)
 exact hq _ _ (aG s o λx=>{x with owner:=t}) (s.threads) _ (Fz.sls rp (jc rfl) Xk (by simp[aG])) (Fz.sls rp rfl Xk (by simp[bJ])) (λp hp=>by simp only[VE];simp[hp]) (by simp only[bG,Int.reduceEq,Int.reduceNeg,if_true,if_false,or_self,or_true,true_or,or_false,false_or,reduceIte,reduceCtorEq])
theorem Uc(ha:allowedS w 7 o=true)(hq:eG w s t o wake bl bt 7 R dv Q):ai Q (.Xm 7) (.Xm o) (.Xm wake) (.ptr b7 0 0) (.pptr [[.Xm t]] 0 0) (.ptr b12 0 0) (.pptr [w.enc] 0 0) (.agg [.sl bl 0 s.locks.length,.Xm s.tx,dv,.sl bt 0 s.threads.length]) (ff s b7 b12 bl bt R):=by
 unfold ai;simp only[SH.names,ff,VD,VN,VE,not_or]at hnd;obtain⟨⟨n1,n2,n3,n4⟩,⟨n5,n6,n7⟩,⟨n8,n9⟩,n10,n11⟩:=hnd;have hb1:([.sl bl 0 s.locks.length,.Xm s.tx,dv,.sl bt 0 s.threads.length]:List AV).all AV.one=true:=aQ hone;unfold ff;have hy:=cQ ht;obtain⟨t0,t1⟩:=ax.1 ht;have hl:inB o s.locks.length=true:=by rw[hf.locks];simp[allowedS]at ha;exact ha.1
 have hx:=lU hl;obtain⟨o0,o1⟩:=ax.1 hl;have hb2:∀tx:Int,([.sl bl 0 s.locks.length,.Xm tx,dv,.sl bt 0 s.threads.length]:List AV).all AV.one=true:=λtx=>aQ hone
 repeat' (first|refine st ?_|refine aq rp rfl rfl hb1 rfl ?_|refine aq rp rfl rfl (hb2 _) rfl ?_|refine sb λnb_ hnb_=>?_|refine s2 (λh=>?_) λh=>?_|fail)
 exact hq _ _ (aG s o λx=>{x with owner:=-1}) (s.threads) _ (Fz.sls rp (jc rfl) Xk (by simp[aG])) (Fz.sls rp rfl Xk (by simp[bJ])) (λp hp=>by simp only[VE];simp[hp]) (by simp only[bG,Int.reduceEq,Int.reduceNeg,if_true,if_false,or_self,or_true,true_or,or_false,false_or,reduceIte,reduceCtorEq])
theorem RO(ha:allowedS w 10 o=true)(hq:eG w s t o wake bl bt 10 R dv Q):ai Q (.Xm 10) (.Xm o) (.Xm wake) (.ptr b7 0 0) (.pptr [[.Xm t]] 0 0) (.ptr b12 0 0) (.pptr [w.enc] 0 0) (.agg [.sl bl 0 s.locks.length,.Xm s.tx,dv,.sl bt 0 s.threads.length]) (ff s b7 b12 bl bt R):=by
 unfold ai;simp only[SH.names,ff,VD,VN,VE,not_or]at hnd;obtain⟨⟨n1,n2,n3,n4⟩,⟨n5,n6,n7⟩,⟨n8,n9⟩,n10,n11⟩:=hnd;have hb1:([.sl bl 0 s.locks.length,.Xm s.tx,dv,.sl bt 0 s.threads.length]:List AV).all AV.one=true:=aQ hone;unfold ff;have hy:=cQ ht;obtain⟨t0,t1⟩:=ax.1 ht;have hl:inB o s.locks.length=true:=by rw[hf.locks];simp[allowedS]at ha;exact ha.1
 have hx:=lU hl;obtain⟨o0,o1⟩:=ax.1 hl;have hb2:∀tx:Int,([.sl bl 0 s.locks.length,.Xm tx,dv,.sl bt 0 s.threads.length]:List AV).all AV.one=true:=λtx=>aQ hone
 repeat' (first|refine st ?_|refine aq rp rfl rfl hb1 rfl ?_|refine aq rp rfl rfl (hb2 _) rfl ?_|refine sb λnb_ hnb_=>?_|refine s2 (λh=>?_) λh=>?_|fail)
 exact hq _ _ (aG s o λx=>{x with owner:=t}) (s.threads) _ (Fz.sls rp (jc rfl) Xk (by simp[aG])) (Fz.sls rp rfl Xk (by simp[bJ])) (λp hp=>by simp only[VE];simp[hp]) (by simp only[bG,Int.reduceEq,Int.reduceNeg,if_true,if_false,or_self,or_true,true_or,or_false,false_or,reduceIte,reduceCtorEq])
theorem RP(ha:allowedS w 11 o=true)(hq:eG w s t o wake bl bt 11 R dv Q):ai Q (.Xm 11) (.Xm o) (.Xm wake) (.ptr b7 0 0) (.pptr [[.Xm t]] 0 0) (.ptr b12 0 0) (.pptr [w.enc] 0 0) (.agg [.sl bl 0 s.locks.length,.Xm s.tx,dv,.sl bt 0 s.threads.length]) (ff s b7 b12 bl bt R):=by
 unfold ai;simp only[SH.names,ff,VD,VN,VE,not_or]at hnd;obtain⟨⟨n1,n2,n3,n4⟩,⟨n5,n6,n7⟩,⟨n8,n9⟩,n10,n11⟩:=hnd;have hb1:([.sl bl 0 s.locks.length,.Xm s.tx,dv,.sl bt 0 s.threads.length]:List AV).all AV.one=true:=aQ hone;unfold ff;have hy:=cQ ht;obtain⟨t0,t1⟩:=ax.1 ht;have hl:inB o s.locks.length=true:=by rw[hf.locks];simp[allowedS]at ha;exact ha.1
 have hx:=lU hl;obtain⟨o0,o1⟩:=ax.1 hl;have hb2:∀tx:Int,([.sl bl 0 s.locks.length,.Xm tx,dv,.sl bt 0 s.threads.length]:List AV).all AV.one=true:=λtx=>aQ hone
 repeat' (first|refine st ?_|refine aq rp rfl rfl hb1 rfl ?_|refine aq rp rfl rfl (hb2 _) rfl ?_|refine sb λnb_ hnb_=>?_|refine s2 (λh=>?_) λh=>?_|fail)
 exact hq _ _ (aG s o λx=>{x with owner:=-1}) (s.threads) _ (Fz.sls rp (jc rfl) Xk (by simp[aG])) (Fz.sls rp rfl Xk (by simp[bJ])) (λp hp=>by simp only[VE];simp[hp]) (by simp only[bG,Int.reduceEq,Int.reduceNeg,if_true,if_false,or_self,or_true,true_or,or_false,false_or,reduceIte,reduceCtorEq])
theorem RQ(ha:allowedS w 12 o=true)(hq:eG w s t o wake bl bt 12 R dv Q):ai Q (.Xm 12) (.Xm o) (.Xm wake) (.ptr b7 0 0) (.pptr [[.Xm t]] 0 0) (.ptr b12 0 0) (.pptr [w.enc] 0 0) (.agg [.sl bl 0 s.locks.length,.Xm s.tx,dv,.sl bt 0 s.threads.length]) (ff s b7 b12 bl bt R):=by
 unfold ai;simp only[SH.names,ff,VD,VN,VE,not_or]at hnd;obtain⟨⟨n1,n2,n3,n4⟩,⟨n5,n6,n7⟩,⟨n8,n9⟩,n10,n11⟩:=hnd;have hb1:([.sl bl 0 s.locks.length,.Xm s.tx,dv,.sl bt 0 s.threads.length]:List AV).all AV.one=true:=aQ hone;unfold ff;have hy:=cQ ht;obtain⟨t0,t1⟩:=ax.1 ht;have hb2:∀tx:Int,([.sl bl 0 s.locks.length,.Xm tx,dv,.sl bt 0 s.threads.length]:List AV).all AV.one=true:=λtx=>aQ hone
 repeat' (first|refine st ?_|refine aq rp rfl rfl hb1 rfl ?_|refine aq rp rfl rfl (hb2 _) rfl ?_|refine sb λnb_ hnb_=>?_|refine s2 (λh=>?_) λh=>?_|fail)
 exact hq _ _ (s.locks) (s.threads) _ (Fz.sls rp rfl Xk (by simp[aG])) (Fz.sls rp rfl Xk (by simp[bJ])) (λp hp=>by simp only[VE];simp[hp]) (by simp only[bG,Int.reduceEq,Int.reduceNeg,if_true,if_false,or_self,or_true,true_or,or_false,false_or,reduceIte,reduceCtorEq])
theorem RS(ha:allowedS w 13 o=true)(hq:eG w s t o wake bl bt 13 R dv Q):ai Q (.Xm 13) (.Xm o) (.Xm wake) (.ptr b7 0 0) (.pptr [[.Xm t]] 0 0) (.ptr b12 0 0) (.pptr [w.enc] 0 0) (.agg [.sl bl 0 s.locks.length,.Xm s.tx,dv,.sl bt 0 s.threads.length]) (ff s b7 b12 bl bt R):=by
 unfold ai;simp only[SH.names,ff,VD,VN,VE,not_or]at hnd;obtain⟨⟨n1,n2,n3,n4⟩,⟨n5,n6,n7⟩,⟨n8,n9⟩,n10,n11⟩:=hnd;have hb1:([.sl bl 0 s.locks.length,.Xm s.tx,dv,.sl bt 0 s.threads.length]:List AV).all AV.one=true:=aQ hone;unfold ff;have hy:=cQ ht;obtain⟨t0,t1⟩:=ax.1 ht;have hb2:∀tx:Int,([.sl bl 0 s.locks.length,.Xm tx,dv,.sl bt 0 s.threads.length]:List AV).all AV.one=true:=λtx=>aQ hone
 repeat' (first|refine st ?_|refine aq rp rfl rfl hb1 rfl ?_|refine aq rp rfl rfl (hb2 _) rfl ?_|refine sb λnb_ hnb_=>?_|refine s2 (λh=>?_) λh=>?_|fail)
 exact hq _ _ (s.locks) (s.threads) _ (Fz.sls rp rfl Xk (by simp[aG])) (Fz.sls rp rfl Xk (by simp[bJ])) (λp hp=>by simp only[VE];simp[hp]) (by simp only[bG,Int.reduceEq,Int.reduceNeg,if_true,if_false,or_self,or_true,true_or,or_false,false_or,reduceIte,reduceCtorEq])
theorem RT(ha:allowedS w 14 o=true)(hq:eG w s t o wake bl bt 14 R dv Q):ai Q (.Xm 14) (.Xm o) (.Xm wake) (.ptr b7 0 0) (.pptr [[.Xm t]] 0 0) (.ptr b12 0 0) (.pptr [w.enc] 0 0) (.agg [.sl bl 0 s.locks.length,.Xm s.tx,dv,.sl bt 0 s.threads.length]) (ff s b7 b12 bl bt R):=by
 unfold ai;simp only[SH.names,ff,VD,VN,VE,not_or]at hnd;obtain⟨⟨n1,n2,n3,n4⟩,⟨n5,n6,n7⟩,⟨n8,n9⟩,n10,n11⟩:=hnd;have hb1:([.sl bl 0 s.locks.length,.Xm s.tx,dv,.sl bt 0 s.threads.length]:List AV).all AV.one=true:=aQ hone;unfold ff;have hy:=cQ ht;obtain⟨t0,t1⟩:=ax.1 ht;have hb2:∀tx:Int,([.sl bl 0 s.locks.length,.Xm tx,dv,.sl bt 0 s.threads.length]:List AV).all AV.one=true:=λtx=>aQ hone
 repeat' (first|refine st ?_|refine aq rp rfl rfl hb1 rfl ?_|refine aq rp rfl rfl (hb2 _) rfl ?_|refine sb λnb_ hnb_=>?_|refine s2 (λh=>?_) λh=>?_|fail)
 exact hq _ _ (s.locks) (bJ s t λx=>{x with atomic:=true}) _ (Fz.sls rp rfl Xk (by simp[aG])) (Fz.sls rp (jp rfl) Xk (by simp[bJ])) (λp hp=>by simp only[VE];simp[hp]) (by simp only[bG,Int.reduceEq,Int.reduceNeg,if_true,if_false,or_self,or_true,true_or,or_false,false_or,reduceIte,reduceCtorEq])
theorem RU(ha:allowedS w 15 o=true)(hq:eG w s t o wake bl bt 15 R dv Q):ai Q (.Xm 15) (.Xm o) (.Xm wake) (.ptr b7 0 0) (.pptr [[.Xm t]] 0 0) (.ptr b12 0 0) (.pptr [w.enc] 0 0) (.agg [.sl bl 0 s.locks.length,.Xm s.tx,dv,.sl bt 0 s.threads.length]) (ff s b7 b12 bl bt R):=by
 unfold ai;simp only[SH.names,ff,VD,VN,VE,not_or]at hnd;obtain⟨⟨n1,n2,n3,n4⟩,⟨n5,n6,n7⟩,⟨n8,n9⟩,n10,n11⟩:=hnd;have hb1:([.sl bl 0 s.locks.length,.Xm s.tx,dv,.sl bt 0 s.threads.length]:List AV).all AV.one=true:=aQ hone;unfold ff;have hy:=cQ ht;obtain⟨t0,t1⟩:=ax.1 ht;have hb2:∀tx:Int,([.sl bl 0 s.locks.length,.Xm tx,dv,.sl bt 0 s.threads.length]:List AV).all AV.one=true:=λtx=>aQ hone
 repeat' (first|refine st ?_|refine aq rp rfl rfl hb1 rfl ?_|refine aq rp rfl rfl (hb2 _) rfl ?_|refine sb λnb_ hnb_=>?_|refine s2 (λh=>?_) λh=>?_|fail)
 exact hq _ _ (s.locks) (bJ s t λx=>{x with atomic:=false}) _ (Fz.sls rp rfl Xk (by simp[aG])) (Fz.sls rp (jp rfl) Xk (by simp[bJ])) (λp hp=>by simp only[VE];simp[hp]) (by simp only[bG,Int.reduceEq,Int.reduceNeg,if_true,if_false,or_self,or_true,true_or,or_false,false_or,reduceIte,reduceCtorEq])
theorem RV(ha:allowedS w 16 o=true)(hq:eG w s t o wake bl bt 16 R dv Q):ai Q (.Xm 16) (.Xm o) (.Xm wake) (.ptr b7 0 0) (.pptr [[.Xm t]] 0 0) (.ptr b12 0 0) (.pptr [w.enc] 0 0) (.agg [.sl bl 0 s.locks.length,.Xm s.tx,dv,.sl bt 0 s.threads.length]) (ff s b7 b12 bl bt R):=by
 unfold ai;simp only[SH.names,ff,VD,VN,VE,not_or]at hnd;obtain⟨⟨n1,n2,n3,n4⟩,⟨n5,n6,n7⟩,⟨n8,n9⟩,n10,n11⟩:=hnd;have hb1:([.sl bl 0 s.locks.length,.Xm s.tx,dv,.sl bt 0 s.threads.length]:List AV).all AV.one=true:=aQ hone;unfold ff;have hy:=cQ ht;obtain⟨t0,t1⟩:=ax.1 ht;have hc:inB o w.conds.length=true:=by simpa[allowedS]using ha
 have hl:=FM hf hc;have hx:=lU hl;obtain⟨o0,o1⟩:=ax.1 hl;unfold jo at hl hx o0 o1;have hy2:((s.threads.map ThrD.enc).set (0+t.toNat) ((cm s t).enc.set 0 (.Xm 3)))[0+t.toNat]? =some ((cm s t).enc.set 0 (.Xm 3)):=NK hy;have hb2:∀tx:Int,([.sl bl 0 s.locks.length,.Xm tx,dv,.sl bt 0 s.threads.length]:List AV).all AV.one=true:=λtx=>aQ hone
 repeat' (first|refine st ?_|refine aq rp rfl rfl hb1 rfl ?_|refine aq rp rfl rfl (hb2 _) rfl ?_|refine sb λnb_ hnb_=>?_|refine s2 (λh=>?_) λh=>?_|fail)
 exact hq _ _ (aG s (jo w o) λx=>{x with owner:=-1}) (bJ s t λx=>{x with status:=3,cond:=o}) _ (Fz.sls rp (jc rfl) Xk (by simp[aG])) (Fz.sls rp (by rw[List.set_set];exact jp rfl) Xk (by simp[bJ])) (λp hp=>by simp only[VE];simp[hp]) (by simp only[bG,Int.reduceEq,Int.reduceNeg,if_true,if_false,or_self,or_true,true_or,or_false,false_or,reduceIte,reduceCtorEq])
theorem RW(ha:allowedS w 17 o=true)(hq:eG w s t o wake bl bt 17 R dv Q):ai Q (.Xm 17) (.Xm o) (.Xm wake) (.ptr b7 0 0) (.pptr [[.Xm t]] 0 0) (.ptr b12 0 0) (.pptr [w.enc] 0 0) (.agg [.sl bl 0 s.locks.length,.Xm s.tx,dv,.sl bt 0 s.threads.length]) (ff s b7 b12 bl bt R):=by
 unfold ai;simp only[SH.names,ff,VD,VN,VE,not_or]at hnd;obtain⟨⟨n1,n2,n3,n4⟩,⟨n5,n6,n7⟩,⟨n8,n9⟩,n10,n11⟩:=hnd;have hb1:([.sl bl 0 s.locks.length,.Xm s.tx,dv,.sl bt 0 s.threads.length]:List AV).all AV.one=true:=aQ hone;unfold ff;have hy:=cQ ht;obtain⟨t0,t1⟩:=ax.1 ht;have hc:inB o w.conds.length=true:=by simpa[allowedS]using ha
 have hl:=FM hf hc;have hx:=lU hl;obtain⟨o0,o1⟩:=ax.1 hl;unfold jo at hl hx o0 o1;have hy2:((s.threads.map ThrD.enc).set (0+t.toNat) ((cm s t).enc.set 0 (.Xm 2)))[0+t.toNat]? =some ((cm s t).enc.set 0 (.Xm 2)):=NK hy;have hb2:∀tx:Int,([.sl bl 0 s.locks.length,.Xm tx,dv,.sl bt 0 s.threads.length]:List AV).all AV.one=true:=λtx=>aQ hone
 repeat' (first|refine st ?_|refine aq rp rfl rfl hb1 rfl ?_|refine aq rp rfl rfl (hb2 _) rfl ?_|refine sb λnb_ hnb_=>?_|refine s2 (λh=>?_) λh=>?_|fail)
 exact hq _ _ (aG s (jo w o) λx=>{x with owner:=t}) (bJ s t λx=>{x with status:=2,cond:=0}) _ (Fz.sls rp (jc rfl) Xk (by simp[aG])) (Fz.sls rp (by rw[List.set_set];exact jp rfl) Xk (by simp[bJ])) (λp hp=>by simp only[VE];simp[hp]) (by simp only[bG,Int.reduceEq,Int.reduceNeg,if_true,if_false,or_self,or_true,true_or,or_false,false_or,reduceIte,reduceCtorEq])
theorem RX(ha:allowedS w 20 o=true)(hq:eG w s t o wake bl bt 20 R dv Q):ai Q (.Xm 20) (.Xm o) (.Xm wake) (.ptr b7 0 0) (.pptr [[.Xm t]] 0 0) (.ptr b12 0 0) (.pptr [w.enc] 0 0) (.agg [.sl bl 0 s.locks.length,.Xm s.tx,dv,.sl bt 0 s.threads.length]) (ff s b7 b12 bl bt R):=by
 unfold ai;simp only[SH.names,ff,VD,VN,VE,not_or]at hnd;obtain⟨⟨n1,n2,n3,n4⟩,⟨n5,n6,n7⟩,⟨n8,n9⟩,n10,n11⟩:=hnd;have hb1:([.sl bl 0 s.locks.length,.Xm s.tx,dv,.sl bt 0 s.threads.length]:List AV).all AV.one=true:=aQ hone;unfold ff;have hy:=cQ ht;obtain⟨t0,t1⟩:=ax.1 ht;have hl:inB o s.threads.length=true:=by rw[hf.threads];simpa[allowedS]using ha
 have hx:=cQ hl;obtain⟨o0,o1⟩:=ax.1 hl;have hb2:∀tx:Int,([.sl bl 0 s.locks.length,.Xm tx,dv,.sl bt 0 s.threads.length]:List AV).all AV.one=true:=λtx=>aQ hone
 repeat' (first|refine st ?_|refine aq rp rfl rfl hb1 rfl ?_|refine aq rp rfl rfl (hb2 _) rfl ?_|refine sb λnb_ hnb_=>?_|refine s2 (λh=>?_) λh=>?_|fail)
 exact hq _ _ (s.locks) (bJ s o λx=>{x with status:=1}) _ (Fz.sls rp rfl Xk (by simp[aG])) (Fz.sls rp (jp rfl) Xk (by simp[bJ])) (λp hp=>by simp only[VE];simp[hp]) (by simp only[bG,Int.reduceEq,Int.reduceNeg,if_true,if_false,or_self,or_true,true_or,or_false,false_or,reduceIte,reduceCtorEq])
theorem RY(ha:allowedS w 21 o=true)(hq:eG w s t o wake bl bt 21 R dv Q):ai Q (.Xm 21) (.Xm o) (.Xm wake) (.ptr b7 0 0) (.pptr [[.Xm t]] 0 0) (.ptr b12 0 0) (.pptr [w.enc] 0 0) (.agg [.sl bl 0 s.locks.length,.Xm s.tx,dv,.sl bt 0 s.threads.length]) (ff s b7 b12 bl bt R):=by
 unfold ai;simp only[SH.names,ff,VD,VN,VE,not_or]at hnd;obtain⟨⟨n1,n2,n3,n4⟩,⟨n5,n6,n7⟩,⟨n8,n9⟩,n10,n11⟩:=hnd;have hb1:([.sl bl 0 s.locks.length,.Xm s.tx,dv,.sl bt 0 s.threads.length]:List AV).all AV.one=true:=aQ hone;unfold ff;have hy:=cQ ht;obtain⟨t0,t1⟩:=ax.1 ht;have hb2:∀tx:Int,([.sl bl 0 s.locks.length,.Xm tx,dv,.sl bt 0 s.threads.length]:List AV).all AV.one=true:=λtx=>aQ hone
 repeat' (first|refine st ?_|refine aq rp rfl rfl hb1 rfl ?_|refine aq rp rfl rfl (hb2 _) rfl ?_|refine sb λnb_ hnb_=>?_|refine s2 (λh=>?_) λh=>?_|fail)
 exact hq _ _ (s.locks) (s.threads) _ (Fz.sls rp rfl Xk (by simp[aG])) (Fz.sls rp rfl Xk (by simp[bJ])) (λp hp=>by simp only[VE];simp[hp]) (by simp only[bG,Int.reduceEq,Int.reduceNeg,if_true,if_false,or_self,or_true,true_or,or_false,false_or,reduceIte,reduceCtorEq])
theorem R0(ha:allowedS w 23 o=true)(hq:eG w s t o wake bl bt 23 R dv Q):ai Q (.Xm 23) (.Xm o) (.Xm wake) (.ptr b7 0 0) (.pptr [[.Xm t]] 0 0) (.ptr b12 0 0) (.pptr [w.enc] 0 0) (.agg [.sl bl 0 s.locks.length,.Xm s.tx,dv,.sl bt 0 s.threads.length]) (ff s b7 b12 bl bt R):=by
 unfold ai;simp only[SH.names,ff,VD,VN,VE,not_or]at hnd;obtain⟨⟨n1,n2,n3,n4⟩,⟨n5,n6,n7⟩,⟨n8,n9⟩,n10,n11⟩:=hnd;have hb1:([.sl bl 0 s.locks.length,.Xm s.tx,dv,.sl bt 0 s.threads.length]:List AV).all AV.one=true:=aQ hone;unfold ff;have hy:=cQ ht;obtain⟨t0,t1⟩:=ax.1 ht;have hb2:∀tx:Int,([.sl bl 0 s.locks.length,.Xm tx,dv,.sl bt 0 s.threads.length]:List AV).all AV.one=true:=λtx=>aQ hone
 repeat' (first|refine st ?_|refine aq rp rfl rfl hb1 rfl ?_|refine aq rp rfl rfl (hb2 _) rfl ?_|refine sb λnb_ hnb_=>?_|refine s2 (λh=>?_) λh=>?_|fail)
 exact hq _ _ (s.locks) (s.threads) _ (Fz.sls rp rfl Xk (by simp[aG])) (Fz.sls rp rfl Xk (by simp[bJ])) (λp hp=>by simp only[VE];simp[hp]) (by simp only[bG,Int.reduceEq,Int.reduceNeg,if_true,if_false,or_self,or_true,true_or,or_false,false_or,reduceIte,reduceCtorEq])
theorem R3(hT:s.threads.length<2^40)(hq:eG w s t o wake bl bt 18 R dv Q):ai Q (.Xm 18) (.Xm o) (.Xm wake) (.ptr b7 0 0) (.pptr [[.Xm t]] 0 0) (.ptr b12 0 0) (.pptr [w.enc] 0 0) (.agg [.sl bl 0 s.locks.length,.Xm s.tx,dv,.sl bt 0 s.threads.length]) (ff s b7 b12 bl bt R):=by
 unfold ai;simp only[SH.names,ff,VD,VN,VE,not_or]at hnd;obtain⟨⟨n1,n2,n3,n4⟩,⟨n5,n6,n7⟩,⟨n8,n9⟩,n10,n11⟩:=hnd;have hb2:∀tx:Int,([.sl bl 0 s.locks.length,.Xm tx,dv,.sl bt 0 s.threads.length]:List AV).all AV.one=true:=λtx=>aQ hone
 unfold ff
 repeat' (first|refine st ?_|refine aq rp rfl rfl (hb2 _) rfl ?_|((with_reducible refine aX 78 ?_);(refine km (LP _ _ _ bt s.threads o wake hT (hb2 _)) rp ?_;rintro _ _ ⟨rfl,rfl⟩))|refine sb λnb_ hnb_=>?_|refine s2 (λh=>?_) λh=>?_|fail)
 exact hq _ _ s.locks (kV s.threads o wake) _ (Fz.sls rp rfl Xk rfl) (Fz.sls rp rfl Xk (FS _ _ _).symm) (λp hp=>by simp only[VE,VP];simp[hp]) (by simp only[bG,Int.reduceEq,Int.reduceNeg,if_true,if_false,or_self,or_true,true_or,or_false,false_or,reduceIte,reduceCtorEq])
theorem R4(hT:s.threads.length<2^40)(hq:eG w s t o wake bl bt 19 R dv Q):ai Q (.Xm 19) (.Xm o) (.Xm wake) (.ptr b7 0 0) (.pptr [[.Xm t]] 0 0) (.ptr b12 0 0) (.pptr [w.enc] 0 0) (.agg [.sl bl 0 s.locks.length,.Xm s.tx,dv,.sl bt 0 s.threads.length]) (ff s b7 b12 bl bt R):=by
 unfold ai;simp only[SH.names,ff,VD,VN,VE,not_or]at hnd;obtain⟨⟨n1,n2,n3,n4⟩,⟨n5,n6,n7⟩,⟨n8,n9⟩,n10,n11⟩:=hnd;have hb2:∀tx:Int,([.sl bl 0 s.locks.length,.Xm tx,dv,.sl bt 0 s.threads.length]:List AV).all AV.one=true:=λtx=>aQ hone
 unfold ff
 repeat' (first|refine st ?_|refine aq rp rfl rfl (hb2 _) rfl ?_|((with_reducible refine aX 79 ?_);(refine km (GH _ _ _ bt s.threads o hT (hb2 _)) rp ?_;rintro _ _ ⟨rfl,rfl⟩))|refine sb λnb_ hnb_=>?_|refine s2 (λh=>?_) λh=>?_|fail)
 exact hq _ _ s.locks (NJ s o) _ (Fz.sls rp rfl Xk rfl) (Fz.sls rp rfl Xk (eF _ _ _).symm) (λp hp=>by simp only[VE,VP];simp[hp]) (by simp only[bG,Int.reduceEq,Int.reduceNeg,if_true,if_false,or_self,or_true,true_or,or_false,false_or,reduceIte,reduceCtorEq])
def QU(bd:Nat)(Q:AV→SH→Prop):Prop:=∀(L:SH),Fz L (.sl bl 0 s.locks.length) (.lst (s.locks.map LockD.enc))→Fz L (.sl bt 0 s.threads.length) (.lst (s.threads.map ThrD.enc))→Fz L (.sl bd 0 s.done.length) (.lst ((s.done.set o.toNat true).map aT))→
 Q (.tup [.agg [.sl bl 0 s.locks.length,.Xm s.tx,.sl bd 0 s.done.length,.sl bt 0 s.threads.length],.Xm 0,.bool true]) L
omit hone hnd in
theorem R5(bd:Nat)(hnd:(ff s b7 b12 bl bt [(bd,⟨1,s.done.map aT⟩)]).names.Nodup)(ha:allowedS w 22 o=true)(hq:QU s o bl bt bd Q):ai Q (.Xm 22) (.Xm o) (.Xm wake) (.ptr b7 0 0) (.pptr [[.Xm t]] 0 0) (.ptr b12 0 0) (.pptr [w.enc] 0 0) (.agg [.sl bl 0 s.locks.length,.Xm s.tx,.sl bd 0 s.done.length,.sl bt 0 s.threads.length]) (ff s b7 b12 bl bt [(bd,⟨1,s.done.map aT⟩)]):=by
 unfold ai ff;have hl:inB o s.done.length=true:=by rw[hf.done];simpa[allowedS]using ha
 obtain⟨o0,o1⟩:=ax.1 hl;have hx:(s.done.map aT)[0+o.toNat]? =some (aT (s.done.getD o.toNat default)):=by rw[Ww];exact dN hl
 repeat' (first|refine st ?_|refine sb λnb_ hnb_=>?_|refine s2 (λh=>?_) λh=>?_|fail)
 refine hq _ (Fz.sls rp rfl Xk rfl) (Fz.sls rp rfl Xk rfl) (Fz.sls rp ?_ Xk Xk);rw[Wx,Ww];rfl
end
end
section
set_option maxRecDepth 100000
set_option linter.unusedSimpArgs false
set_option linter.unusedSectionVars false
theorem Iq{K:SH}{bl:Nat}{rows:List (List AV)}{ls:List LockD}{n:Nat}(hm:(bl,⟨2,rows⟩)∈K)(hn:n=ls.length)(hl:rows.length=ls.length)
  (h:∀(j:Nat) (r:List AV) (x:LockD),rows[j]? =some r→ls[j]? =some x→∃a,r=[.Xm x.owner,a]∧Fz K a (.lst (x.readers.map aj))):Fz K (.sl bl 0 n) (.lst (ls.map LockD.enc)):=by
 subst hn;rcases Wv ls.length with h0|h0
 ·have:ls=[]:=WF.1 h0;subst this;exact .sl0 bl 0
 ·have get:∀(j:Nat) (r r2:List AV),rows[0+j]? =some r→(ls.map LockD.enc)[j]? =some r2→∃x:LockD,ls[j]? =some x∧r2=x.enc∧∃a,r=[.Xm x.owner,a]∧Fz K a (.lst (x.readers.map aj)):=λj r r2 h1 h2=>by
   rw[Ww]at h1;rw[VQ]at h2;cases hj:ls[j]? with
   |none=>rw[hj]at h2;cases h2
   |some x=>rw[hj]at h2;cases h2;exact⟨x,rfl,rfl,h j r x h1 hj⟩
  refine .sl bl 0 _ ⟨2,rows⟩ _ hm Xk h0 Xk (by simp;omega) (λj r r2 h1 h2=>?_) (λj r r2 q a a2 h1 h2 h3 h4=>?_)
  ·obtain⟨x,_,rfl,a,rfl,_⟩:=get j r r2 h1 h2;rfl
  ·obtain⟨x,_,rfl,a',rfl,hz⟩:=get j r r2 h1 h2
   match q with
   |0=>cases h3;cases h4;exact .refl _
   |1=>cases h3;cases h4;exact hz
   |q+2=>simp at h3
theorem enc_row(x:LockD){K:SH}:∃a,x.enc=[.Xm x.owner,a]∧Fz K a (.lst (x.readers.map aj)):=⟨_,rfl,.refl _⟩
theorem K7{K:SH}{s:SyncD}{o:Int}{ro:Option Nat}{f:LockD→LockD}{a:AV}(hl:inB o s.locks.length=true)(hf:∀x,(f x).owner=x.owner)(ha:Fz K a (.lst ((f (aD s o)).readers.map aj))):
  ∀(j:Nat) (r:List AV) (x:LockD),((bU o.toNat ro s.locks).set (0+o.toNat) [.Xm (aD s o).owner,a])[j]? =some r→(aG s o f)[j]? =some x→∃a,r=[.Xm x.owner,a]∧Fz K a (.lst (x.readers.map aj)):=by
 intro j r x h1 h2;obtain⟨o0,o1⟩:=ax.1 hl;have hlt:o.toNat<s.locks.length:=by omega
 unfold aG at h2;rw[Ww]at h1;by_cases hj:o.toNat=j
 ·subst hj;rw[List.getElem?_set_self (by rw[co];exact hlt)]at h1;rw[List.getElem?_set_self hlt]at h2;cases h1;cases h2;exact⟨a,by rw[hf],ha⟩
 ·rw[List.getElem?_set_ne hj]at h1 h2;have hjl:j<s.locks.length:=(Wk.1 h2).1;rw[fM _ _ _ _ hjl]at h1;rw[VB hjl]at h2;cases h1;cases h2;unfold nw;rw[if_neg (λe=>hj e.symm)];exact enc_row _
theorem Ir{s:SyncD}{o:Int}{ro:Option Nat}(hl:inB o s.locks.length=true):(bU o.toNat ro s.locks)[0+o.toNat]? =some [.Xm (aD s o).owner,am ro (aD s o).readers.length]:=by
 obtain⟨o0,o1⟩:=ax.1 hl;have hlt:o.toNat<s.locks.length:=by omega
 rw[Ww,fM _ _ _ _ hlt];unfold nw;rw[if_pos rfl];simp[aD,hlt]
section
variable (w:aH) (s:SyncD) (t o wake:Int) (b7 b12 bl bt:Nat)
def NL(ro:Option Nat)(R:SH):SH:=(bl,⟨2,bU o.toNat ro s.locks⟩)::(bt,⟨3,s.threads.map ThrD.enc⟩)::(b12,⟨4,[[.nils,.Xm 0,.nils,.nils]]⟩)::(b7,⟨4,[s.enc]⟩)::(ae ro 1 ((aD s o).readers.map aj)++R)
variable (R:SH) (dv:AV) (hone:dv.one=true) (Q:AV→SH→Prop) (hl:inB o s.locks.length=true) (hrd:(aD s o).readers.length<2^40)
include hone hl hrd
theorem Ud(br:Nat)(hnd:(NL s o b7 b12 bl bt (some br) R).names.Nodup)(hq:eG w s t o wake bl bt 9 R dv Q):ai Q (.Xm 9) (.Xm o) (.Xm wake) (.ptr b7 0 0) (.pptr [[.Xm t]] 0 0) (.ptr b12 0 0) (.pptr [w.enc] 0 0) (.agg [.sl bl 0 s.locks.length,.Xm s.tx,dv,.sl bt 0 s.threads.length]) (NL s o b7 b12 bl bt (some br) R):=by
 unfold ai;simp only[SH.names,NL,ae,VD,VN,VE,not_or,WO,WC]at hnd;obtain⟨⟨n1,n2,n3,n4,n12⟩,⟨n5,n6,n7,n13⟩,⟨n8,n9,n14⟩,⟨n15,n16⟩,n10,n11⟩:=hnd;have hb2:∀tx:Int,([.sl bl 0 s.locks.length,.Xm tx,dv,.sl bt 0 s.threads.length]:List AV).all AV.one=true:=λtx=>aQ hone
 obtain⟨o0,o1⟩:=ax.1 hl;have hx:=Ir (ro:=some br) hl;have hdel:=E0 77 [.pptr [[.Xm t]] 0 0] (λx=>decide (x=t)) (LR t 0 []) br (aD s o).readers Xh;unfold NL;simp only[ae,WO,WC]
 repeat' (first|refine st ?_|refine aq rp rfl rfl (hb2 _) rfl ?_|((with_reducible refine ef 76 ?_);(refine Da hdel rp (by(simp only[rm,rc,rz,W.free,av,↓reduceIte,Nat.reduceEqDiff,aa,dS,Xe,Wg,V9,not_false_eq_true,implies_true,and_true,true_and,and_self,V4,reduceCtorEq,forall_const,false_implies,VI,forall_eq,Wi,WC,VE,or_false,false_or,forall_eq_or_imp,not_or])<;>(repeat' constructor)<;>first|assumption|(exact Ne.symm Xi)|(intro e_;subst e_;simp[SH.names]at *;done)) ?_;rintro _ _ ⟨R',rfl,rfl,hR1,hR2⟩))|refine sb λnb_ hnb_=>?_|refine s2 (λh=>?_) λh=>?_|fail)
 refine hq _ _ (aG s o λx=>{x with readers:=x.readers.filter λy=>!decide (y=t)}) s.threads _ (Iq rp (by simp[aG]) (by simp[aG,co]) (K7 hl (λ_=>rfl) ?_)) (Fz.sls rp rfl Xk rfl) (λp hp=>by simp only[VE,VP];simp[hp]) (by simp only[bG,Int.reduceEq,if_true,if_false,or_self,reduceIte]);rw[←De hR1];exact Fz.rows (x:=⟨1,R'.map aj⟩) rp Xk (by simp[hR2];exact W8 _ _)
theorem Ue(ro:Option Nat)(hro:ro=none→(aD s o).readers=[])(hnd:(NL s o b7 b12 bl bt ro R).names.Nodup)(hq:eG w s t o wake bl bt 8 R dv Q):ai Q (.Xm 8) (.Xm o) (.Xm wake) (.ptr b7 0 0) (.pptr [[.Xm t]] 0 0) (.ptr b12 0 0) (.pptr [w.enc] 0 0) (.agg [.sl bl 0 s.locks.length,.Xm s.tx,dv,.sl bt 0 s.threads.length]) (NL s o b7 b12 bl bt ro R):=by
 unfold ai;simp only[SH.names,NL,VD,VN,VE,not_or]at hnd;obtain⟨⟨n1,n2,n3,n4⟩,⟨n5,n6,n7⟩,⟨n8,n9⟩,n10,n11⟩:=hnd;have hb2:∀tx:Int,([.sl bl 0 s.locks.length,.Xm tx,dv,.sl bt 0 s.threads.length]:List AV).all AV.one=true:=λtx=>aQ hone
 obtain⟨o0,o1⟩:=ax.1 hl;have hx:=Ir (ro:=ro) hl;have hsort:∀nb,af Tryz.prog 74 [.sl nb 0 ((aD s o).readers.length+1)] [(nb,⟨1,(aD s o).readers.map aj++[[.Xm t]]⟩)] λv L=>v=.tup []∧L=[(nb,⟨1,(zA ((aD s o).readers++[t])).map aj⟩)]:=λnb=>by have:=K0 nb ((aD s o).readers++[t]) (by simp;omega);rw[VL,VF]at this;exact this
 have hcomp:∀nb,af Tryz.prog 75 [.sl nb 0 ((aD s o).readers.length+1)] [(nb,⟨1,(zA ((aD s o).readers++[t])).map aj⟩)] λv L=>∃R':List Int,v=.sl nb 0 (sB (aD s o).readers t).length∧L=[(nb,⟨1,R'.map aj⟩)]∧R'.take (sB (aD s o).readers t).length=sB (aD s o).readers t∧(sB (aD s o).readers t).length≤R'.length:=λnb=>by
  have:=Df nb (zA ((aD s o).readers++[t])) (by rw[qw];simp;omega);rw[qw,VL]at this;refine this.mono λv L ⟨h1,h2⟩=>⟨_,h1,h2,?_,?_⟩
  ·exact List.take_left' rfl
  ·simp[sB]
 unfold NL
 repeat' (first|refine st ?_|refine aq rp rfl rfl (hb2 _) rfl ?_|(refine H7 [_,_,_,_] Xk (λe=>by rw[hro e];rfl) rfl (Nat.succ_pos 0) (by simp;omega) (by simp;omega) rfl ?_;intro nb_ hnb_;simp only[VE,V9,or_false,forall_eq_or_imp,forall_eq]at hnb_;obtain⟨q1,q2,q3,q4⟩:=hnb_)|((with_reducible refine aX 74 ?_);(refine km (hsort _) rp ?_;rintro _ _ ⟨rfl,rfl⟩))|((with_reducible refine ef 75 ?_);(refine Da (hcomp _) rp (by(simp only[rm,rc,rz,W.free,av,↓reduceIte,Nat.reduceEqDiff,aa,dS,Xe,Wg,V9,not_false_eq_true,implies_true,and_true,true_and,and_self,V4,reduceCtorEq,forall_const,false_implies,VI,forall_eq,Wi,WC,VE,or_false,false_or,forall_eq_or_imp,not_or])<;>(repeat' constructor)<;>first|assumption|(exact Ne.symm Xi)|(intro e_;subst e_;simp[SH.names]at *;done)) ?_;rintro _ _ ⟨R',rfl,rfl,hR1,hR2⟩))|refine sb λnb_ hnb_=>?_|refine s2 (λh=>?_) λh=>?_|fail)
 refine hq _ _ (aG s o λx=>{x with readers:=sB x.readers t}) s.threads _ (Iq rp (by simp[aG]) (by simp[aG,co]) (K7 hl (λ_=>rfl) ?_)) (Fz.sls rp rfl Xk rfl) (λp hp=>by simp only[VE,VP];simp[hp]) (by simp only[bG,Int.reduceEq,if_true,if_false,or_self,reduceIte]);rw[←De hR1];exact Fz.rows (x:=⟨1,R'.map aj⟩) rp Xk (by simp;exact hR2)
end
end
section
set_option maxRecDepth 100000
set_option linter.unusedSimpArgs false
set_option linter.unusedSectionVars false
def K8:SyncD:=⟨[],0,[],[]⟩
def fZ(w:aH)(s:SyncD)(t k o wake:Int):SyncD×Int×Bool:=if bC w s t k o then((bG w s t k o wake).1,(bG w s t k o wake).2,true)else(K8,0,false)
def R6(r:SyncD×Int×Bool):AV:=.tup [.agg r.1.enc,.Xm r.2.1,.bool r.2.2]
theorem GJ(ro:Option Nat)(ls:List LockD):bU ls.length ro ls=ls.map LockD.enc:=by
 apply WI;intro i;rcases VG i ls.length with hi|hi
 ·rw[fM _ _ _ _ hi,nw,if_neg Xh];simp[hi]
 ·rw[VH (by rw[co];exact hi),VH (by simpa using hi)]
section
variable (s:SyncD) (h1:s.locks.length<2^40) (h2:s.done.length≤140737488351232) (h3:s.threads.length<2^40) (hrd:∀l∈s.locks,l.readers.length<2^40) (hne:s.threads≠[])
include h1 h2 h3 hrd hne
theorem Is:af Tryz.prog 73 [.agg s.enc] [] λv L=>∃bl bt od,v=.agg [.sl bl 0 s.locks.length,.Xm s.tx,aO od s.done.length,.sl bt 0 s.threads.length]∧L=(bl,⟨2,s.locks.map LockD.enc⟩)::(ae od 1 (s.done.map aT)++[(bt,⟨3,s.threads.map ThrD.enc⟩)])∧(od=none→s.done=[]):=by
 refine(In s s.locks.length h1 h2 h3 hrd).mono ?_;rintro v L ⟨bl,ro,od,ot,rfl,rfl,hod,hot,hro⟩;cases ot with
 |none=>exact absurd (hot rfl) hne
 |some bt=>exact⟨bl,bt,od,rfl,by rw[GJ,Hq,if_neg (Nat.lt_irrefl _)];rfl,hod⟩
theorem NM(o:Int)(hl:inB o s.locks.length=true):af Tryz.prog 73 [.agg s.enc] [] λv L=>∃bl bt ro od,v=.agg [.sl bl 0 s.locks.length,.Xm s.tx,aO od s.done.length,.sl bt 0 s.threads.length]∧L=(bl,⟨2,bU o.toNat ro s.locks⟩)::(ae ro 1 ((aD s o).readers.map aj)++(ae od 1 (s.done.map aT)++[(bt,⟨3,s.threads.map ThrD.enc⟩)]))∧(od=none→s.done=[])∧(ro=none→(aD s o).readers=[]):=by
 obtain⟨o0,o1⟩:=ax.1 hl;have hlt:o.toNat<s.locks.length:=by omega
 refine(In s o.toNat h1 h2 h3 hrd).mono ?_;rintro v L ⟨bl,ro,od,ot,rfl,rfl,hod,hot,hro⟩;cases ot with
 |none=>exact absurd (hot rfl) hne
 |some bt=>exact⟨bl,bt,ro,od,rfl,by rw[Hq,if_pos hlt];rfl,hod,λe=>hro e hlt⟩
end
theorem NN{α:Type}(a b c d:α)(X:List α):((a::(X++[b]))++[c,d]).Perm (a::b::c::d::X):=by refine List.Perm.cons a ?_;show((X++[b])++[c,d]).Perm _;rw[Wh];exact V6 (l₁:=X) (l₂:=[b,c,d])
theorem R7{α:Type}(a b c d:α)(X Y:List α):((a::(X++(Y++[b])))++[c,d]).Perm (a::b::c::d::(X++Y)):=by rw[←Wh];exact NN a b c d (X++Y)
theorem bD(od:Option Nat)(n:Nat):(aO od n).one=true:=by cases od<;>rfl
theorem PJ{s:SyncD}{od:Option Nat}(hod:od=none→s.done=[]){L:SH}(hR:∀p∈ae od 1 (s.done.map aT),p∈L):Fz L (aO od s.done.length) (.lst (s.done.map aT)):=by
 cases od with
 |none=>rw[hod rfl];exact .refl _
 |some bd=>exact Fz.sls (hR _ (VI.2 rfl)) rfl Xk rfl
structure NO(w:aH)(s:SyncD):Prop where
 conds:w.conds.length<2^40
 locks:s.locks.length<2^40
 done:s.done.length≤140737488351232
 threads:s.threads.length<2^40
 rd:∀l∈s.locks,l.readers.length<2^40
section
variable (w:aH) (s:SyncD) (t k o wake:Int)
def E1(v:AV)(L:SH):Prop:=∃v2 L2,aJ [v] L [v2] L2∧v2=R6 (fZ w s t k o wake)∧L2=[]
theorem Uf(hen:bC w s t k o=true)(bl bt:Nat)(od:Option Nat)(hod:od=none→s.done=[]):eG w s t o wake bl bt k (ae od 1 (s.done.map aT)) (aO od s.done.length) (E1 w s t k o wake):=by intro tx val ls th L f1 f2 hR e;refine⟨_,[],aJ.all (Fz.tups (.cons (Fz.aggs (.cons f1 (.cons (.refl _) (.cons (PJ hod hR) (.cons f2 .nil))))) (.cons (.refl _) (.cons (.refl _) .nil)))),?_,rfl⟩;unfold fZ;rw[if_pos hen,e];rfl
theorem Ug(hen:bC w s t 22 o=true)(bl bt bd:Nat):QU s o bl bt bd (E1 w s t 22 o wake):=by intro L f1 f2 f3;refine⟨_,[],aJ.all (Fz.tups (.cons (Fz.aggs (.cons f1 (.cons (.refl _) (.cons f3 (.cons f2 .nil))))) (.cons (.refl _) (.cons (.refl _) .nil)))),?_,rfl⟩;unfold fZ;rw[if_pos hen];rfl
theorem NP(hs:NO w s)(hen:bC w s t k o=true)(b7 b12:Nat):
  W.callM Tryz.prog 73 [.agg s.enc] [(b12,⟨4,[[.nils,.Xm 0,.nils,.nils]]⟩),(b7,⟨4,[s.enc]⟩)] (ai (E1 w s t k o wake) (.Xm k) (.Xm o) (.Xm wake) (.ptr b7 0 0) (.pptr [[.Xm t]] 0 0) (.ptr b12 0 0) (.pptr [w.enc] 0 0)):=by
 have hen':=hen;unfold bC at hen';simp only[VW]at hen';obtain⟨⟨⟨hfi,hth⟩,hal⟩,hkd⟩:=hen';have hf:=qx.1 hfi;have ht:inB t s.threads.length=true:=by rw[hf.threads];exact hth
 obtain⟨t0,t1⟩:=ax.1 ht;have hne:s.threads≠[]:=λe=>by rw[e]at t1;simp at t1;omega
 have plain:(∀bl bt od,(od=none→s.done=[])→(ff s b7 b12 bl bt (ae od 1 (s.done.map aT))).names.Nodup→ai (E1 w s t k o wake) (.Xm k) (.Xm o) (.Xm wake) (.ptr b7 0 0) (.pptr [[.Xm t]] 0 0) (.ptr b12 0 0) (.pptr [w.enc] 0 0) (.agg [.sl bl 0 s.locks.length,.Xm s.tx,aO od s.done.length,.sl bt 0 s.threads.length]) (ff s b7 b12 bl bt (ae od 1 (s.done.map aT))))→
   W.callM Tryz.prog 73 [.agg s.enc] [(b12,⟨4,[[.nils,.Xm 0,.nils,.nils]]⟩),(b7,⟨4,[s.enc]⟩)] (ai (E1 w s t k o wake) (.Xm k) (.Xm o) (.Xm wake) (.ptr b7 0 0) (.pptr [[.Xm t]] 0 0) (.ptr b12 0 0) (.pptr [w.enc] 0 0)):=λh=>by
  refine KY (Is s hs.locks hs.done hs.threads hs.rd hne) ?_;rintro v K ⟨bl,bt,od,rfl,rfl,hod⟩;exact⟨ff s b7 b12 bl bt (ae od 1 (s.done.map aT)),NN _ _ _ _ _,h bl bt od hod⟩
 have readers:inB o s.locks.length=true→(∀bl bt ro od,(od=none→s.done=[])→(ro=none→(aD s o).readers=[])→(NL s o b7 b12 bl bt ro (ae od 1 (s.done.map aT))).names.Nodup→ai (E1 w s t k o wake) (.Xm k) (.Xm o) (.Xm wake) (.ptr b7 0 0) (.pptr [[.Xm t]] 0 0) (.ptr b12 0 0) (.pptr [w.enc] 0 0) (.agg [.sl bl 0 s.locks.length,.Xm s.tx,aO od s.done.length,.sl bt 0 s.threads.length]) (NL s o b7 b12 bl bt ro (ae od 1 (s.done.map aT))))→
   W.callM Tryz.prog 73 [.agg s.enc] [(b12,⟨4,[[.nils,.Xm 0,.nils,.nils]]⟩),(b7,⟨4,[s.enc]⟩)] (ai (E1 w s t k o wake) (.Xm k) (.Xm o) (.Xm wake) (.ptr b7 0 0) (.pptr [[.Xm t]] 0 0) (.ptr b12 0 0) (.pptr [w.enc] 0 0)):=λhl h=>by
  refine KY (NM s hs.locks hs.done hs.threads hs.rd hne o hl) ?_;rintro v K ⟨bl,bt,ro,od,rfl,rfl,hod,hro⟩;exact⟨NL s o b7 b12 bl bt ro (ae od 1 (s.done.map aT)),R7 _ _ _ _ _ _,h bl bt ro od hod hro⟩
 have e1:=λbl bt od hod=>Uf w s t k o wake hen bl bt od hod
 have hrl:∀o,inB o s.locks.length=true→(aD s o).readers.length<2^40:=λo h=>by
  obtain⟨o0,o1⟩:=ax.1 h;have hlt:o.toNat<s.locks.length:=by omega
  unfold aD;rw[show s.locks.getD o.toNat default=s.locks[o.toNat] by simp[hlt]];exact hs.rd _ (VV hlt)
 rcases kinds k with hk|rfl|rfl|rfl|rfl|rfl|rfl|rfl|rfl|rfl|rfl|rfl|rfl|rfl|rfl|rfl|rfl|rfl|rfl|rfl|rfl|rfl|rfl|rfl
 ·simp only[allowedS]at hal
  repeat (rw[if_neg Xh]at hal)
  cases hal
 ·exact plain λbl bt od hod hnd=>T6 w s t o wake b7 b12 bl bt _ _ (bD _ _) _ hf ht hnd hal (e1 bl bt od hod)
 ·exact plain λbl bt od hod hnd=>T7 w s t o wake b7 b12 bl bt _ _ (bD _ _) _ hf ht hnd hal (e1 bl bt od hod)
 ·exact plain λbl bt od hod hnd=>T8 w s t o wake b7 b12 bl bt _ _ (bD _ _) _ hf ht hnd hal (e1 bl bt od hod)
 ·exact plain λbl bt od hod hnd=>T9 w s t o wake b7 b12 bl bt _ _ (bD _ _) _ hf ht hnd hal (e1 bl bt od hod)
 ·exact plain λbl bt od hod hnd=>Ua w s t o wake b7 b12 bl bt _ _ (bD _ _) _ hf ht hnd hal (e1 bl bt od hod)
 ·exact plain λbl bt od hod hnd=>Ub w s t o wake b7 b12 bl bt _ _ (bD _ _) _ hf ht hnd hal (e1 bl bt od hod)
 ·exact plain λbl bt od hod hnd=>Uc w s t o wake b7 b12 bl bt _ _ (bD _ _) _ hf ht hnd hal (e1 bl bt od hod)
 ·have hl:inB o s.locks.length=true:=by rw[hf.locks];simp[allowedS]at hal;exact hal.1
  exact readers hl λbl bt ro od hod hro hnd=>Ue w s t o wake b7 b12 bl bt _ _ (bD _ _) _ hl (hrl o hl) ro hro hnd (e1 bl bt od hod)
 ·have hl:inB o s.locks.length=true:=by rw[hf.locks];simp[allowedS]at hal;exact hal.1
  refine readers hl λbl bt ro od hod hro hnd=>?_
  cases ro with
  |none=>
   have hc:(aD s o).readers.contains t=true:=by have:=hkd;simp[cy]at this;simpa using this.2
   rw[hro rfl]at hc;cases hc
  |some br=>exact Ud w s t o wake b7 b12 bl bt _ _ (bD _ _) _ hl (hrl o hl) br hnd (e1 bl bt od hod)
 ·exact plain λbl bt od hod hnd=>RO w s t o wake b7 b12 bl bt _ _ (bD _ _) _ hf ht hnd hal (e1 bl bt od hod)
 ·exact plain λbl bt od hod hnd=>RP w s t o wake b7 b12 bl bt _ _ (bD _ _) _ hf ht hnd hal (e1 bl bt od hod)
 ·exact plain λbl bt od hod hnd=>RQ w s t o wake b7 b12 bl bt _ _ (bD _ _) _ hf ht hnd hal (e1 bl bt od hod)
 ·exact plain λbl bt od hod hnd=>RS w s t o wake b7 b12 bl bt _ _ (bD _ _) _ hf ht hnd hal (e1 bl bt od hod)
 ·exact plain λbl bt od hod hnd=>RT w s t o wake b7 b12 bl bt _ _ (bD _ _) _ hf ht hnd hal (e1 bl bt od hod)
 ·exact plain λbl bt od hod hnd=>RU w s t o wake b7 b12 bl bt _ _ (bD _ _) _ hf ht hnd hal (e1 bl bt od hod)
 ·exact plain λbl bt od hod hnd=>RV w s t o wake b7 b12 bl bt _ _ (bD _ _) _ hf ht hnd hal (e1 bl bt od hod)
 ·exact plain λbl bt od hod hnd=>RW w s t o wake b7 b12 bl bt _ _ (bD _ _) _ hf ht hnd hal (e1 bl bt od hod)
 ·exact plain λbl bt od hod hnd=>R3 w s t o wake b7 b12 bl bt _ _ (bD _ _) _ hf ht hnd hs.threads (e1 bl bt od hod)
 ·exact plain λbl bt od hod hnd=>R4 w s t o wake b7 b12 bl bt _ _ (bD _ _) _ hf ht hnd hs.threads (e1 bl bt od hod)
 ·exact plain λbl bt od hod hnd=>RX w s t o wake b7 b12 bl bt _ _ (bD _ _) _ hf ht hnd hal (e1 bl bt od hod)
 ·exact plain λbl bt od hod hnd=>RY w s t o wake b7 b12 bl bt _ _ (bD _ _) _ hf ht hnd hal (e1 bl bt od hod)
 ·refine plain λbl bt od hod hnd=>?_
  cases od with
  |none=>
   have hl:inB o s.done.length=true:=by rw[hf.done];simpa[allowedS]using hal
   obtain⟨o0,o1⟩:=ax.1 hl;rw[hod rfl]at o1;simp at o1;omega
  |some bd=>exact R5 w s t o wake b7 b12 bl bt _ hf ht bd hnd hal (Ug w s t o wake hen bl bt bd)
 ·exact plain λbl bt od hod hnd=>R0 w s t o wake b7 b12 bl bt _ _ (bD _ _) _ hf ht hnd hal (e1 bl bt od hod)
theorem NQ(hs:NO w s):az Tryz.prog 50 [.agg w.enc,.agg s.enc,.Xm t,.Xm k,.Xm o,.Xm wake] (R6 (fZ w s t k o wake)):=by
 refine af.fz (Bz _ _ _ _ _ _ _ _ ?_);show jk _ _ _ _ _ _ _ (E1 w s t k o wake);unfold jk;have hcn:w.conds.length<2^62:=by have:=hs.conds;omega
 have he:=JQ w s t k o hcn hs.rd;have hc8:=NP w s t k o wake hs;have fin:bC w s t k o=false→∀L,E1 w s t k o wake (.tup [.agg [.nils,.Xm 0,.nils,.nils],.Xm 0,.bool false]) L:=λhn L=>by refine⟨_,[],aJ.all (Fz.tups (.cons (Fz.aggs (.cons .nils (.cons (.refl _) (.cons .nils (.cons .nils .nil))))) (.cons (.refl _) (.cons (.refl _) .nil)))),?_,rfl⟩;unfold fZ;rw[hn];rfl
 generalize E1 w s t k o wake=Q at *;cases hen:bC w s t k o with
 |false=>
  rw[hen]at he;have nh:(!false)=true:=rfl;have fin:=fin hen;clear hc8
  repeat' (first|refine st ?_|(refine pf 24 ?_;refine pm (he) ?_)|refine sb λnb_ hnb_=>?_|refine s2 (λh=>?_) λh=>?_|fail)
  exact fin _
 |true=>
  rw[hen]at he;have hc8:=hc8 hen;clear fin
  repeat' (first|exact hc8 _ _|refine st ?_|(refine pf 24 ?_;refine pm (he) ?_)|refine sb λnb_ hnb_=>?_|refine s2 (λh=>?_) λh=>?_|fail)
end
end
theorem iw(d:Array Int)(hs:∀i j,i<j→j<d.size→d[i]!≤d[j]!):∀m,m≤d.size→
  (Lib.compactUpTo d m).Pairwise (·<·)∧(∀x∈Lib.compactUpTo d m,∃j,j<m∧x=d[j]!)∧(∀j,j<m→d[j]!∈Lib.compactUpTo d m)
 |0,_=>⟨by simp[Lib.compactUpTo],by simp[Lib.compactUpTo],by intro j hj;omega⟩
 | m+1,hm=>by
  obtain⟨h1,h2,h3⟩:=iw d hs m Xh;rw[Lib.compactUpTo_succ];by_cases hk:Lib.keeps d m=true
  ·rw[if_pos hk];refine⟨?_,?_,?_⟩
   ·rw[List.pairwise_append];refine⟨h1,Xk,?_⟩;intro x hx y hy;obtain⟨j,hj,rfl⟩:=h2 x hx;simp at hy;subst hy;have hle:=hs j m hj Xh;have hne:d[j]!≠d[m]! :=by
     intro he;have hm0:0<m:=by omega
     have h4:d[m]!≠d[m-1]! :=by intro h5;rw[Lib.keeps_neg hm0 h5]at hk;cases hk
     have h5:d[j]!≤d[m-1]! :=by
      rcases VG j (m-1)with h|h
      ·exact hs j (m-1) h Xh
      ·rw[show j=m-1 from by omega];exact Int.le_refl _
     have h6:d[m-1]!≤d[m]! :=hs (m-1) m Xh Xh;exact h4 Xh
    omega
   ·intro x hx;rw[VP]at hx;rcases hx with hx|hx
    ·obtain⟨j,hj,e⟩:=h2 x hx;exact⟨j,Xh,e⟩
    ·simp at hx;exact⟨m,Xh,hx⟩
   ·intro j hj;rw[VP];rcases VG j m with h|h
    ·exact .inl (h3 j h)
    ·rw[show j=m from by omega];exact .inr Xk
  ·rw[if_neg hk,Wi];have hm0:0<m:=by
    rcases Wv m with h|h
    ·subst h;exact absurd (Lib.keeps_lt_one d 0 Xh) hk
    ·exact h
   have he:d[m]! =d[m-1]! :=by apply Classical.byContradiction;intro h;exact hk (Lib.keeps_pos h)
   refine⟨h1,λx hx=>?_,λj hj=>?_⟩
   ·obtain⟨j,hj,e⟩:=h2 x hx;exact⟨j,Xh,e⟩
   ·rcases VG j m with h|h
    ·exact h3 j h
    ·rw[show j=m from by omega,he];exact h3 (m-1) Xh
theorem PK(l:List Int)(j:Nat)(hj:j<l.length):l.toArray[j]! =l[j]:=by rw[getElem!_pos _ _ (by simpa using hj)];simp
theorem Dn(l:List Int):∀i j,i<j→j<(zA l).toArray.size→(zA l).toArray[i]!≤(zA l).toArray[j]! :=by
 intro i j hij hj;have hj':j<(zA l).length:=by simpa using hj
 rw[PK _ i Xh,PK _ j hj'];have hp:(zA l).Pairwise (λx y=>(decide (x≤y))=true):=List.pairwise_mergeSort (λa b c=>by simp;omega) (λa b=>by simp;omega) l;have:=(List.pairwise_iff_getElem.1 hp) i j Xh hj' hij;simpa using this
def JR(l:List Int):List Int:=Lib.compact (zA l)
theorem K9(l:List Int)(x:Int):x∈JR l↔x∈l:=by
 obtain⟨h1,h2,h3⟩:=iw (zA l).toArray (Dn _) (zA l).length Xk;have hm:∀y,y∈zA l↔y∈l:=λy=>by simp[zA,List.mem_mergeSort]
 unfold JR Lib.compact;constructor
 ·intro hx;obtain⟨j,hj,rfl⟩:=h2 x hx;rw[PK _ j hj];exact(hm _).1 (VV _)
 ·intro hx;obtain⟨j,hj,rfl⟩:=WE ((hm x).2 hx);rw[←PK _ j hj];exact h3 j hj
theorem PL(l:List Int):(JR l).Pairwise (·<·):=
 (iw (zA l).toArray (Dn _) (zA l).length Xk).1
structure aV where
 pc:Int
 regs:List Int
 taint:List (List Int)
 ev:Int
def cp(l:List Int):List AV:=[.lst (l.map aj)]
def aV.enc(s:aV):List AV:=[.Xm s.pc,.lst (s.regs.map aj),.lst (s.taint.map cp),.Xm s.ev]
def aV.zero:aV:=⟨0,[],[],0⟩
def aV.has(s:aV)(r:Int):Bool:=inB r s.regs.length
def aV.reg(s:aV)(r:Int):Int:=s.regs.getD r.toNat 0
def aV.tnt(s:aV)(r:Int):List Int:=s.taint.getD r.toNat []
def aV.put(s:aV)(a v:Int)(t:List Int):aV:=⟨IntKind.i64.wrap (s.pc+1),s.regs.set a.toNat v,s.taint.set a.toNat t,s.ev⟩
def bR(i:bj)(s:aV):Option aV:=
 if i.op=1 then(if s.has i.a then some (s.put i.a i.n [])else none)else
 if i.op=2 then(if s.has i.a&&s.has i.b then some (s.put i.a (s.reg i.b) (s.tnt i.b))else none)else
 if i.op=3 then(if s.has i.a&&s.has i.b&&(O3 i.n (s.reg i.b)).2 then some (s.put i.a (O3 i.n (s.reg i.b)).1 (s.tnt i.b))else none)else
 if i.op=4 then(if s.has i.a&&s.has i.b&&s.has i.c&&(Dj i.n (s.reg i.b) (s.reg i.c)).2 then some (s.put i.a (Dj i.n (s.reg i.b) (s.reg i.c)).1 (JR (s.tnt i.b++s.tnt i.c)))else none)else
 some {s with pc:=i.a}
def ig(ins:List bj):Nat→aV→aV×Bool
 |0,s=>if inB s.pc ins.length then(if(ins.getD s.pc.toNat default).op<1∨5<(ins.getD s.pc.toNat default).op then(s,true)else(aV.zero,false))else(aV.zero,false)
 | k+1,s=>if inB s.pc ins.length then(if(ins.getD s.pc.toNat default).op<1∨5<(ins.getD s.pc.toNat default).op then(s,true)else
   match bR (ins.getD s.pc.toNat default) s with
   |none=>(aV.zero,false)
   |some s2=>ig ins k s2)else(aV.zero,false)
def bW(c:iH)(s:aV):aV×Bool:=
 if(s.regs.length:Int)=c.regs∧(s.taint.length:Int)=c.regs then ig c.ins c.ins.length s else(aV.zero,false)
def Do(p:aV×Bool):AV:=.tup [.agg p.1.enc,.bool p.2]
structure jq(U:List Int)(s:aV):Prop where
 len:s.taint.length=s.regs.length
 small:s.regs.length<2^40
 short:∀l∈s.taint,l.length≤2^30
 sub:∀l∈s.taint,∀x∈l,x∈U
theorem FT:∀{l U:List Int},l.Nodup→(∀x∈l,x∈U)→l.length≤U.length
 |[],U,_,_=>by simp
 | x::l,U,hn,hs=>by
  have hx:x∈U:=hs x Xk;have h1:=VN.1 hn;have:=FT (l:=l) (U:=U.erase x) h1.2 λy hy=>(List.mem_erase_of_ne (by rintro rfl;exact h1.1 hy)).2 (hs y (by simp[hy]))
  rw[List.length_erase_of_mem hx]at this;have:=List.length_pos_of_mem hx;simp only[VZ];omega
theorem LS{U l:List Int}(h:∀x∈l,x∈U):(JR l).length≤U.length:=by have hnd:(JR l).Nodup:=(PL l).imp (λ{a b} (h:a<b)=>by omega);exact FT hnd λx hx=>h x ((K9 l x).1 hx)
theorem jq.tnt{U:List Int}{s:aV}(h:jq U s)(r:Int):(s.tnt r).length≤2^30∧∀x∈s.tnt r,x∈U:=by
 unfold aV.tnt;rw[W6];cases he:s.taint[r.toNat]? with
 |none=>simp
 |some l=>exact⟨h.short l (Wf he),h.sub l (Wf he)⟩
theorem jq.put{U:List Int}{s:aV}(h:jq U s)(a v:Int){t:List Int}(h1:t.length≤2^30)(h2:∀x∈t,x∈U):jq U (s.put a v t):=by
 refine⟨by simp[aV.put,h.len],by simpa[aV.put]using h.small,λl hl=>?_,λl hl=>?_⟩
 ·rcases WU hl with g|g
  ·exact h.short l g
  ·rw[g];exact h1
 ·rcases WU hl with g|g
  ·exact h.sub l g
  ·rw[g];exact h2
theorem jq.step{U:List Int}(hU:U.length≤2^30){s s2:aV}{i:bj}(h:jq U s)(he:bR i s=some s2):jq U s2:=by
 unfold bR at he;split at he
 ·split at he
  ·cases he;exact h.put _ _ Xk Xk
  ·cases he
 ·split at he
  ·split at he
   ·cases he;exact h.put _ _ (h.tnt _).1 (h.tnt _).2
   ·cases he
  ·split at he
   ·split at he
    ·cases he;exact h.put _ _ (h.tnt _).1 (h.tnt _).2
    ·cases he
   ·split at he
    ·split at he
     ·cases he;have hs:∀x∈s.tnt i.b++s.tnt i.c,x∈U:=λx hx=>by
       rcases VP.1 hx with g|g
       ·exact(h.tnt _).2 x g
       ·exact(h.tnt _).2 x g
      exact h.put _ _ (VT (LS hs) hU) λx hx=>hs x ((K9 _ _).1 hx)
     ·cases he
    ·cases he;exact⟨h.len,h.small,h.short,h.sub⟩
end Go.Proofs.YtdnpdghlggbklaaGreatDoor.Am
