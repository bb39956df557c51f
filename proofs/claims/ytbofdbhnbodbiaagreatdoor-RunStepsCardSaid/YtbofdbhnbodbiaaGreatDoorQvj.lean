/- A part of the proof; the statement is proved in the last part. -/
import Derived.Test.YtbofdbhnbodbiaaGreatDoorQvi
set_option linter.all false
set_option maxRecDepth 100000
set_option maxHeartbeats 20000000
namespace Go.Proofs.YtbofdbhnbodbiaaGreatDoor.Am
section
section
variable {w:aI} {s:SyncD} {t k o:Int} (hf:wi w s) (hr:∀l∈s.locks,l.readers.length<2^40) (ha:allowedS w k o=true) {Q:R} (hq:∀b,cJ w s t k o=b->Q (.bool b) [])
include hf hr ha hq
theorem JK(hk:6<=k/\k<=11):dO (.agg w.enc) (.agg s.enc) (.Uf t) (.Uf k) (.Uf o) [] Q:=by
 have D:inB o s.locks.length=true:=by
  rw[hf.locks];have:k=6\/k=7\/k=8\/k=9\/k=10\/k=11:=by omega
  rcases this with rfl|rfl|rfl|rfl|rfl|rfl<;>(simp[allowedS]at ha;exact ha.1)
 have G:=bQ (f:=LockD.enc) D;have ho:=cG D;have B:=DX hr o;have j:aF s o=s.locks.getD o.toNat default:=rfl;rw[<-j]at G;have Y:k=6->cJ w s t k o=decide ((aF s o).owner=-1):=λh=>by subst h;rfl
 have u:k=10->cJ w s t k o=(decide ((aF s o).owner=-1)&&decide ((aF s o).readers.length=0)):=λh=>by subst h;rfl
 have O:k=8->cJ w s t k o=(decide ((aF s o).owner=-1)&&!(aF s o).readers.contains t):=λh=>by subst h;rfl
 have S:k=7\/k=11->cJ w s t k o=decide ((aF s o).owner=t):=λh=>by rcases h with rfl|rfl<;>rfl
 have N:k=9->cJ w s t k o=(aF s o).readers.contains t:=λh=>by subst h;rfl
 clear j D ha;generalize aF s o=ll at *;obtain⟨ow,E⟩:=ll;unfold LockD.enc at G;dsimp only at *;have hc:=DY E t B;generalize E.contains t=hcb at *;refine vw ?_
 repeat' (first|refine st ?_|(refine pf 130 ?_;refine pm (hc) ?_)|refine sb λZ M=>?_|refine s2 (λh=>?_) λh=>?_|fail)
 all_goals simp only[decide_eq_true_eq,decide_eq_false_iff_not]at *
 all_goals first
  |(exfalso;clear hq;omega)
  |exact hq _ ((Y Ua).trans (by first|rfl|(simp_all;done)))
  |exact hq _ ((S Ua).trans (by first|rfl|(simp_all;done)))
  |exact hq _ ((O Ua).trans (by first|rfl|(simp_all;done)))
  |exact hq _ ((N Ua).trans (by first|rfl|(simp_all;done)))
  |exact hq _ ((u Ua).trans (by first|rfl|(simp_all;done)))
theorem JL(S:k=16\/k=18\/k=19):dO (.agg w.enc) (.agg s.enc) (.Uf t) (.Uf k) (.Uf o) [] Q:=by
 have D:inB o w.conds.length=true:=by rcases S with rfl|rfl|rfl<;>simpa[allowedS]using ha
 have G:=Bi hf D;have O:=bQ (f:=bR.enc) D;have ho:=cG D;have E:=cG G;have j:=bQ (f:=LockD.enc) G;have v:k=16\/k=18\/k=19->cJ w s t k o=decide ((aF s (ig w o)).owner=t):=λh=>by rcases h with rfl|rfl|rfl<;>rfl
 have B:aF s (ig w o)=s.locks.getD (ig w o).toNat default:=rfl;rw[<-B]at j;clear B;generalize aF s (ig w o)=ll at *;have u:ig w o=(w.conds.getD o.toNat default).mutex:=rfl;rw[u]at j E;generalize w.conds.getD o.toNat default=c at *;obtain⟨nm,mx⟩:=c;obtain⟨Z,Y⟩:=ll;unfold LockD.enc at j;unfold bR.enc at O;dsimp only at *;clear u G D ha;refine vw ?_
 repeat' (first|refine st ?_|refine sb λN M=>?_|refine s2 (λh=>?_) λh=>?_|fail)
 all_goals simp only[decide_eq_true_eq,decide_eq_false_iff_not]at *
 all_goals first
  |(exfalso;clear hq;omega)
  |exact hq _ ((v Ua).trans (by first|rfl|(simp_all;done)))
theorem LY(O:k=20\/k=21):dO (.agg w.enc) (.agg s.enc) (.Uf t) (.Uf k) (.Uf o) [] Q:=by
 have D:inB o s.threads.length=true:=by rw[hf.threads];rcases O with rfl|rfl<;>simpa[allowedS]using ha
 have E:=bQ (f:=ThrD.enc) D;have Y:=cG D;have B:k=20->cJ w s t k o=(decide (o≠t)&&decide ((aR s o).status=0)):=λh=>by subst h;rfl
 have u:k=21->cJ w s t k o=(decide (o≠t)&&decide ((aR s o).status=5)):=λh=>by subst h;rfl
 have j:aR s o=s.threads.getD o.toNat default:=rfl;rw[<-j]at E;clear j D ha;generalize aR s o=ll at *;obtain⟨M,S,at_⟩:=ll;unfold ThrD.enc at E;dsimp only at *;refine vw ?_
 repeat' (first|refine st ?_|refine sb λN G=>?_|refine s2 (λh=>?_) λh=>?_|fail)
 all_goals simp only[decide_eq_true_eq,decide_eq_false_iff_not]at *
 all_goals first
  |(exfalso;clear hq;omega)
  |exact hq _ ((B Ua).trans (by first|rfl|(simp_all;done)))
  |exact hq _ ((u Ua).trans (by first|rfl|(simp_all;done)))
theorem LZ(N:k=22\/k=23):dO (.agg w.enc) (.agg s.enc) (.Uf t) (.Uf k) (.Uf o) [] Q:=by
 have D:inB o s.done.length=true:=by rw[hf.done];rcases N with rfl|rfl<;>simpa[allowedS]using ha
 have E:=bQ (f:=aB) D;have O:=cG D;have B:k=22->cJ w s t k o=!nI s o:=λh=>by subst h;rfl
 have u:k=23->cJ w s t k o=nI s o:=λh=>by subst h;rfl
 have j:nI s o=s.done.getD o.toNat default:=rfl;rw[<-j]at E;clear j D ha;generalize nI s o=ll at *;unfold aB at E;refine vw ?_
 repeat' (first|refine st ?_|refine sb λM G=>?_|refine s2 (λh=>?_) λh=>?_|fail)
 all_goals simp only[decide_eq_true_eq,decide_eq_false_iff_not]at *
 all_goals first
  |(exfalso;clear hq;omega)
  |exact hq _ ((B Ua).trans (by first|rfl|(simp_all;done)))
  |exact hq _ ((u Ua).trans (by first|rfl|(simp_all;done)))
theorem JM(ht:inB t w.threads.length=true)(hk:¬(6<=k/\k<=11)/\¬(k=16\/k=18\/k=19)/\¬(k=20\/k=21)/\¬(k=22\/k=23)):dO (.agg w.enc) (.agg s.enc) (.Uf t) (.Uf k) (.Uf o) [] Q:=by
 have G:inB t s.threads.length=true:=by rw[hf.threads];exact ht
 have M:=bQ (f:=ThrD.enc) G;have ho:=cG G;have E:k=12->cJ w s t k o=decide (s.tx=-1):=λh=>by subst h;rfl
 have D:k=13->cJ w s t k o=decide (s.tx=t):=λh=>by subst h;rfl
 have B:k=14->cJ w s t k o=!(aR s t).atomic:=λh=>by subst h;rfl
 have u:k=15->cJ w s t k o=(aR s t).atomic:=λh=>by subst h;rfl
 have O:k≠12/\k≠13/\k≠14/\k≠15->cJ w s t k o=true:=λh=>by
  obtain⟨a1,a2,a3,a4⟩:=h;unfold cJ
  repeat (rw[if_neg Ua])
 have j:aR s t=s.threads.getD t.toNat default:=rfl;rw[<-j]at M;clear j G ha;generalize aR s t=ll at *;obtain⟨S,Z,at_⟩:=ll;unfold ThrD.enc at M;dsimp only at *;refine vw ?_
 repeat' (first|refine st ?_|refine sb λY N=>?_|refine s2 (λh=>?_) λh=>?_|fail)
 all_goals simp only[decide_eq_true_eq,decide_eq_false_iff_not]at *
 all_goals first
  |(exfalso;clear hq;omega)
  |exact hq _ ((E Ua).trans (by first|rfl|(simp_all;done)))
  |exact hq _ ((D Ua).trans (by first|rfl|(simp_all;done)))
  |exact hq _ ((B Ua).trans (by first|rfl|(simp_all;done)))
  |exact hq _ ((u Ua).trans (by first|rfl|(simp_all;done)))
  |exact hq _ ((O Ua).trans (by first|rfl|(simp_all;done)))
end
theorem JN(w:aI)(s:SyncD)(t k o:Int)(hf:wi w s)(ht:inB t w.threads.length=true)(hr:∀l∈s.locks,l.readers.length<2^40)(ha:allowedS w k o=true):aq Tryz.prog 88 [.agg w.enc,.agg s.enc,.Uf t,.Uf k,.Uf o] (.bool (cJ w s t k o)):=by
 refine vV _ _ _ _ _ _ _ ?_;have hq:∀b,cJ w s t k o=b->(λ(u:AV) (K:SH)=>u=AV.bool (cJ w s t k o)/\K=[]) (.bool b) []:=λb G=>⟨by rw[G],rfl⟩
 by_cases E:6<=k/\k<=11
 .exact JK hf hr ha hq E
 by_cases D:k=16\/k=18\/k=19
 .exact JL hf hr ha hq D
 by_cases B:k=20\/k=21
 .exact LY hf hr ha hq B
 by_cases j:k=22\/k=23
 .exact LZ hf hr ha hq j
 exact JM hf hr ha hq ht ⟨E,D,B,j⟩
theorem yi(w:aI)(s:SyncD)(t k o:Int)(hcn:w.conds.length<2^62)(hr:∀l∈s.locks,l.readers.length<2^40):aq Tryz.prog 47 [.agg w.enc,.agg s.enc,.Uf t,.Uf k,.Uf o] (.bool (aE w s t k o)):=by
 refine sd _ _ _ _ _ _ _ ?_;refine vw ?_;generalize hQ:(λ(u:AV) (K:SH)=>u=AV.bool (aE w s t k o)/\K=[])=Q;have hq:∀b,aE w s t k o=b->Q (.bool b) []:=λb Y=>by subst hQ;exact⟨by rw[Y],rfl⟩
 clear hQ;have S:=LX w s hcn;have Z:=fJ t w.threads.length;have c3:=FJ w k o;cases O:fitsS w s with
 |false=>
  rw[O]at S;have hv:aE w s t k o=false:=by simp[aE,O]
  repeat' (first|refine st ?_|(refine pf 85 ?_;refine pm (S) ?_)|refine sb λD j=>?_|refine s2 (λh=>?_) λh=>?_|fail)
  all_goals exact hq _ hv
 |true=>
  rw[O]at S;cases G:inB t w.threads.length with
  |false=>
   rw[G]at Z;have hv:aE w s t k o=false:=by simp[aE,G]
   repeat' (first|refine st ?_|(refine pf 85 ?_;refine pm (S) ?_)|(refine pf 86 ?_;refine pm (Z) ?_)|refine sb λD j=>?_|refine s2 (λh=>?_) λh=>?_|fail)
   all_goals exact hq _ hv
  |true=>
   rw[G]at Z;cases E:allowedS w k o with
   |false=>
    rw[E]at c3;have hv:aE w s t k o=false:=by simp[aE,E]
    repeat' (first|refine st ?_|(refine pf 85 ?_;refine pm (S) ?_)|(refine pf 86 ?_;refine pm (Z) ?_)|(refine pf 87 ?_;refine pm (c3) ?_)|refine sb λD j=>?_|refine s2 (λh=>?_) λh=>?_|fail)
    all_goals exact hq _ hv
   |true=>
    rw[E]at c3;have hf:=fO.1 O;have c4:=JN w s t k o hf G hr E;have ht:inB t s.threads.length=true:=by rw[hf.threads];exact G
    have hx:=bQ (f:=ThrD.enc) ht;have ht0:=cG ht;have B:aR s t=s.threads.getD t.toNat default:=rfl;rw[<-B]at hx;have v1:k=1->aE w s t k o=decide ((aR s t).status=1):=λh=>by subst h;simp[aE,O,G,E]
    have M:k=17->aE w s t k o=(decide ((aR s t).status=4)&&decide ((aR s t).cond=o)&&decide ((aF s (ig w o)).owner=-1)):=λh=>by subst h;simp[aE,O,G,E]
    have v0:k≠1/\k≠17->aE w s t k o=(decide ((aR s t).status=2)&&cJ w s t k o):=λh=>by simp[aE,O,G,E,h.1,h.2]
    clear B;generalize aR s t=ll at *;generalize cJ w s t k o=rb at *;obtain⟨st_,cd_,at_⟩:=ll;unfold ThrD.enc at hx;dsimp only at *;by_cases hk:k=17
    .subst hk;have Y:inB o w.conds.length=true:=by simpa[allowedS]using E
     have hm:=Bi hf Y;have hx1:=bQ (f:=bR.enc) Y;have ho:=cG Y;have hm0:=cG hm;have N:=bQ (f:=LockD.enc) hm;have B:aF s (ig w o)=s.locks.getD (ig w o).toNat default:=rfl;rw[<-B]at N;clear B;replace M:=M rfl;generalize aF s (ig w o)=ll at *;have hmm:ig w o=(w.conds.getD o.toNat default).mutex:=rfl;rw[hmm]at N hm0;generalize w.conds.getD o.toNat default=c at *;obtain⟨nm,mx⟩:=c;obtain⟨ow,rd⟩:=ll;unfold LockD.enc at N;unfold bR.enc at hx1;dsimp only at *;clear hmm hm Y E
     repeat' (first|refine st ?_|(refine pf 85 ?_;refine pm (S) ?_)|(refine pf 86 ?_;refine pm (Z) ?_)|(refine pf 87 ?_;refine pm (c3) ?_)|refine sb λD j=>?_|refine s2 (λh=>?_) λh=>?_|fail)
     all_goals exact hq _ (M.trans (by first|rfl|(simp_all;done)))
    .have e17:decide (k=17)=false:=decide_eq_false hk
     repeat' (first|refine st ?_|(refine pf 85 ?_;refine pm (S) ?_)|(refine pf 86 ?_;refine pm (Z) ?_)|(refine pf 87 ?_;refine pm (c3) ?_)|(refine pf 88 ?_;refine pm (c4) ?_)|refine sb λD j=>?_|refine s2 (λh=>?_) λh=>?_|fail)
     all_goals simp only[decide_eq_true_eq,decide_eq_false_iff_not]at *
     all_goals first
      |(exfalso;clear hq;omega)
      |exact hq _ ((v1 Ua).trans (by first|rfl|(simp_all;done)))
      |exact hq _ ((v0 Ua).trans (by first|rfl|(simp_all;done)))
end
end Go.Proofs.YtbofdbhnbodbiaaGreatDoor.Am
