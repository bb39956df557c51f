/- part -/
import Derived.Test.YtfcfhjadaknphaaGreatDoorQxh
set_option linter.all false
set_option maxRecDepth 100000
set_option maxHeartbeats 0
namespace Go.Proofs.YtfcfhjadaknphaaGreatDoor.Am
section
section
variable {w:aK} {s:SyncD} {t k o:Int} (hf:yE w s) (hr:∀l∈s.locks,l.readers.length<2^40) (ha:allowedS w k o=true) {Q:R} (hq:∀b,c9 w s t k o=b->Q (.bool b) [])
include hf hr ha hq
theorem Ng(hk:6<=k/\k<=11):eR (.agg w.enc) (.agg s.enc) (.YJ t) (.YJ k) (.YJ o) [] Q:=by
 have D:inB o s.locks.length=true:=by
  rw[hf.locks];have:k=6\/k=7\/k=8\/k=9\/k=10\/k=11:=by omega
  rcases this with rfl|rfl|rfl|rfl|rfl|rfl<;>(simp[allowedS]at ha;exact ha.1)
 have G:=co (f:=LockD.enc) D;have ho:=cT D;have B:=GQ hr o;have j:aP s o=s.locks.getD o.toNat default:=rfl;rw[<-j]at G;have Y:k=6->c9 w s t k o=decide ((aP s o).owner=-1):=λh=>by subst h;rfl
 have u:k=10->c9 w s t k o=(decide ((aP s o).owner=-1)&&decide ((aP s o).readers.length=0)):=λh=>by subst h;rfl
 have O:k=8->c9 w s t k o=(decide ((aP s o).owner=-1)&&!(aP s o).readers.contains t):=λh=>by subst h;rfl
 have S:k=7\/k=11->c9 w s t k o=decide ((aP s o).owner=t):=λh=>by rcases h with rfl|rfl<;>rfl
 have M:k=9->c9 w s t k o=(aP s o).readers.contains t:=λh=>by subst h;rfl
 clear j D ha;generalize aP s o=ll at *;obtain⟨Z,E⟩:=ll;unfold LockD.enc at G;dsimp only at *;have hc:=GR E t B;generalize E.contains t=hcb at *;refine vw ?_
 repeat' (first|refine sy ?_|refine s2 ?_ ?_|intro)
 all_goals simp only[decide_eq_true_eq,decide_eq_false_iff_not]at *
 all_goals first
  |(exfalso;clear hq;omega)
  |exact hq _ ((Y YC).trans (by first|rfl|(simp_all;done)))
  |exact hq _ ((S YC).trans (by first|rfl|(simp_all;done)))
  |exact hq _ ((O YC).trans (by first|rfl|(simp_all;done)))
  |exact hq _ ((M YC).trans (by first|rfl|(simp_all;done)))
  |exact hq _ ((u YC).trans (by first|rfl|(simp_all;done)))
theorem Nh(O:k=16\/k=18\/k=19):eR (.agg w.enc) (.agg s.enc) (.YJ t) (.YJ k) (.YJ o) [] Q:=by
 have D:inB o w.conds.length=true:=by rcases O with rfl|rfl|rfl<;>simpa[allowedS]using ha
 have G:=DK hf D;have M:=co (f:=bO.enc) D;have ho:=cT D;have E:=cT G;have j:=co (f:=LockD.enc) G;have v:k=16\/k=18\/k=19->c9 w s t k o=decide ((aP s (jC w o)).owner=t):=λh=>by rcases h with rfl|rfl|rfl<;>rfl
 have B:aP s (jC w o)=s.locks.getD (jC w o).toNat default:=rfl;rw[<-B]at j;clear B;generalize aP s (jC w o)=ll at *;have u:jC w o=(w.conds.getD o.toNat default).mutex:=rfl;rw[u]at j E;generalize w.conds.getD o.toNat default=c at *;obtain⟨Z,mx⟩:=c;obtain⟨Y,S⟩:=ll;unfold LockD.enc at j;unfold bO.enc at M;dsimp only at *;clear u G D ha;refine vw ?_
 repeat' (first|refine sy ?_|refine s2 ?_ ?_|intro)
 all_goals simp only[decide_eq_true_eq,decide_eq_false_iff_not]at *
 all_goals first
  |(exfalso;clear hq;omega)
  |exact hq _ ((v YC).trans (by first|rfl|(simp_all;done)))
theorem PV(M:k=20\/k=21):eR (.agg w.enc) (.agg s.enc) (.YJ t) (.YJ k) (.YJ o) [] Q:=by
 have D:inB o s.threads.length=true:=by rw[hf.threads];rcases M with rfl|rfl<;>simpa[allowedS]using ha
 have E:=co (f:=ThrD.enc) D;have S:=cT D;have B:k=20->c9 w s t k o=(decide (o≠t)&&decide ((a7 s o).status=0)):=λh=>by subst h;rfl
 have u:k=21->c9 w s t k o=(decide (o≠t)&&decide ((a7 s o).status=5)):=λh=>by subst h;rfl
 have j:a7 s o=s.threads.getD o.toNat default:=rfl;rw[<-j]at E;clear j D ha;generalize a7 s o=ll at *;obtain⟨G,O,at_⟩:=ll;unfold ThrD.enc at E;dsimp only at *;refine vw ?_
 repeat' (first|refine sy ?_|refine s2 ?_ ?_|intro)
 all_goals simp only[decide_eq_true_eq,decide_eq_false_iff_not]at *
 all_goals first
  |(exfalso;clear hq;omega)
  |exact hq _ ((B YC).trans (by first|rfl|(simp_all;done)))
  |exact hq _ ((u YC).trans (by first|rfl|(simp_all;done)))
theorem PW(G:k=22\/k=23):eR (.agg w.enc) (.agg s.enc) (.YJ t) (.YJ k) (.YJ o) [] Q:=by
 have D:inB o s.done.length=true:=by rw[hf.done];rcases G with rfl|rfl<;>simpa[allowedS]using ha
 have E:=co (f:=aD) D;have M:=cT D;have B:k=22->c9 w s t k o=!pN s o:=λh=>by subst h;rfl
 have u:k=23->c9 w s t k o=pN s o:=λh=>by subst h;rfl
 have j:pN s o=s.done.getD o.toNat default:=rfl;rw[<-j]at E;clear j D ha;generalize pN s o=ll at *;unfold aD at E;refine vw ?_
 repeat' (first|refine sy ?_|refine s2 ?_ ?_|intro)
 all_goals simp only[decide_eq_true_eq,decide_eq_false_iff_not]at *
 all_goals first
  |(exfalso;clear hq;omega)
  |exact hq _ ((B YC).trans (by first|rfl|(simp_all;done)))
  |exact hq _ ((u YC).trans (by first|rfl|(simp_all;done)))
theorem Ni(ht:inB t w.threads.length=true)(hk:¬(6<=k/\k<=11)/\¬(k=16\/k=18\/k=19)/\¬(k=20\/k=21)/\¬(k=22\/k=23)):eR (.agg w.enc) (.agg s.enc) (.YJ t) (.YJ k) (.YJ o) [] Q:=by
 have G:inB t s.threads.length=true:=by rw[hf.threads];exact ht
 have M:=co (f:=ThrD.enc) G;have Z:=cT G;have E:k=12->c9 w s t k o=decide (s.tx=-1):=λh=>by subst h;rfl
 have D:k=13->c9 w s t k o=decide (s.tx=t):=λh=>by subst h;rfl
 have B:k=14->c9 w s t k o=!(a7 s t).atomic:=λh=>by subst h;rfl
 have u:k=15->c9 w s t k o=(a7 s t).atomic:=λh=>by subst h;rfl
 have O:k≠12/\k≠13/\k≠14/\k≠15->c9 w s t k o=true:=λh=>by
  obtain⟨a1,a2,a3,a4⟩:=h;unfold c9
  repeat (rw[if_neg YC])
 have j:a7 s t=s.threads.getD t.toNat default:=rfl;rw[<-j]at M;clear j G ha;generalize a7 s t=ll at *;obtain⟨S,Y,at_⟩:=ll;unfold ThrD.enc at M;dsimp only at *;refine vw ?_
 repeat' (first|refine sy ?_|refine s2 ?_ ?_|intro)
 all_goals simp only[decide_eq_true_eq,decide_eq_false_iff_not]at *
 all_goals first
  |(exfalso;clear hq;omega)
  |exact hq _ ((E YC).trans (by first|rfl|(simp_all;done)))
  |exact hq _ ((D YC).trans (by first|rfl|(simp_all;done)))
  |exact hq _ ((B YC).trans (by first|rfl|(simp_all;done)))
  |exact hq _ ((u YC).trans (by first|rfl|(simp_all;done)))
  |exact hq _ ((O YC).trans (by first|rfl|(simp_all;done)))
end
theorem Nj(w:aK)(s:SyncD)(t k o:Int)(hf:yE w s)(ht:inB t w.threads.length=true)(hr:∀l∈s.locks,l.readers.length<2^40)(ha:allowedS w k o=true):ao Tryz.prog 85 [.agg w.enc,.agg s.enc,.YJ t,.YJ k,.YJ o] (.bool (c9 w s t k o)):=by
 refine yw _ _ _ _ _ _ _ ?_;have hq:∀b,c9 w s t k o=b->(λ(u:AV) (K:SH)=>u=AV.bool (c9 w s t k o)/\K=[]) (.bool b) []:=λb G=>⟨by rw[G],rfl⟩
 by_cases E:6<=k/\k<=11
 .exact Ng hf hr ha hq E
 by_cases D:k=16\/k=18\/k=19
 .exact Nh hf hr ha hq D
 by_cases B:k=20\/k=21
 .exact PV hf hr ha hq B
 by_cases j:k=22\/k=23
 .exact PW hf hr ha hq j
 exact Ni hf hr ha hq ht ⟨E,D,B,j⟩
theorem AC(w:aK)(s:SyncD)(t k o:Int)(hcn:w.conds.length<2^62)(hr:∀l∈s.locks,l.readers.length<2^40):ao Tryz.prog 44 [.agg w.enc,.agg s.enc,.YJ t,.YJ k,.YJ o] (.bool (aI w s t k o)):=by
 refine uB _ _ _ _ _ _ _ ?_;refine vw ?_;generalize hQ:(λ(u:AV) (K:SH)=>u=AV.bool (aI w s t k o)/\K=[])=Q;have hq:∀b,aI w s t k o=b->Q (.bool b) []:=λb O=>by subst hQ;exact⟨by rw[O],rfl⟩
 clear hQ;have c1:=PU w s hcn;have c2:=gW t w.threads.length;have c3:=IL w k o;cases M:fitsS w s with
 |false=>
  rw[M]at c1;have S:aI w s t k o=false:=by simp[aI,M]
  repeat' (first|refine sy ?_|refine s2 ?_ ?_|intro)
  all_goals exact hq _ S
 |true=>
  rw[M]at c1;cases D:inB t w.threads.length with
  |false=>
   rw[D]at c2;have S:aI w s t k o=false:=by simp[aI,D]
   repeat' (first|refine sy ?_|refine s2 ?_ ?_|intro)
   all_goals exact hq _ S
  |true=>
   rw[D]at c2;cases B:allowedS w k o with
   |false=>
    rw[B]at c3;have S:aI w s t k o=false:=by simp[aI,B]
    repeat' (first|refine sy ?_|refine s2 ?_ ?_|intro)
    all_goals exact hq _ S
   |true=>
    rw[B]at c3;have hf:=fE.1 M;have c4:=Nj w s t k o hf D hr B;have ht:inB t s.threads.length=true:=by rw[hf.threads];exact D
    have hx:=co (f:=ThrD.enc) ht;have ht0:=cT ht;have j:a7 s t=s.threads.getD t.toNat default:=rfl;rw[<-j]at hx;have v1:k=1->aI w s t k o=decide ((a7 s t).status=1):=λh=>by subst h;simp[aI,M,D,B]
    have E:k=17->aI w s t k o=(decide ((a7 s t).status=4)&&decide ((a7 s t).cond=o)&&decide ((aP s (jC w o)).owner=-1)):=λh=>by subst h;simp[aI,M,D,B]
    have v0:k≠1/\k≠17->aI w s t k o=(decide ((a7 s t).status=2)&&c9 w s t k o):=λh=>by simp[aI,M,D,B,h.1,h.2]
    clear j;generalize a7 s t=ll at *;generalize c9 w s t k o=rb at *;obtain⟨st_,cd_,at_⟩:=ll;unfold ThrD.enc at hx;dsimp only at *;by_cases hk:k=17
    .subst hk;have O:inB o w.conds.length=true:=by simpa[allowedS]using B
     have hm:=DK hf O;have Z:=co (f:=bO.enc) O;have ho:=cT O;have hm0:=cT hm;have G:=co (f:=LockD.enc) hm;have j:aP s (jC w o)=s.locks.getD (jC w o).toNat default:=rfl;rw[<-j]at G;clear j;replace E:=E rfl;generalize aP s (jC w o)=ll at *;have Y:jC w o=(w.conds.getD o.toNat default).mutex:=rfl;rw[Y]at G hm0;generalize w.conds.getD o.toNat default=c at *;obtain⟨nm,mx⟩:=c;obtain⟨ow,rd⟩:=ll;unfold LockD.enc at G;unfold bO.enc at Z;dsimp only at *;clear Y hm O B
     repeat' (first|refine sy ?_|refine s2 ?_ ?_|intro)
     all_goals exact hq _ (E.trans (by first|rfl|(simp_all;done)))
    .have e17:decide (k=17)=false:=decide_eq_false hk
     repeat' (first|refine sy ?_|refine s2 ?_ ?_|intro)
     all_goals simp only[decide_eq_true_eq,decide_eq_false_iff_not]at *
     all_goals first
      |(exfalso;clear hq;omega)
      |exact hq _ ((v1 YC).trans (by first|rfl|(simp_all;done)))
      |exact hq _ ((v0 YC).trans (by first|rfl|(simp_all;done)))
end
