/- A part of the proof; the statement is proved in the last part. -/
import Derived.Test.YtdnpdghlggbklaaGreatDoorQtg
set_option linter.unusedSimpArgs false
set_option linter.unusedVariables false
namespace Go.Proofs.YtdnpdghlggbklaaGreatDoor.Am
section
set_option maxRecDepth 100000
set_option maxHeartbeats 1000000
theorem fO(i:Int)(n:Nat):az Tryz.prog 47 [.ZO i,.ZO n] (.bool (inB i n)):=by
 refine A7 _ _ _ _ ?_;unfold oG;generalize hQ:(λ(u:AV) (K:SH)=>u=AV.bool (inB i n)∧K=[])=Q
 repeat' (first|refine st ?_|refine sb λnb_ hnb_=>?_|refine s2 (λh=>?_) λh=>?_|fail)
 all_goals
  subst hQ;refine⟨?_,rfl⟩;simp_all[inB]<;>omega
theorem my(t:ThrD)(c:Int):az Tryz.prog 115 [.agg t.enc,.ZO c] (.bool (eh t c)):=by
 obtain⟨a,b,d⟩:=t;refine Dc _ _ _ _ ?_;unfold qm ThrD.enc;generalize hQ:(λ(u:AV) (K:SH)=>u=AV.bool (eh ⟨a,b,d⟩ c)∧K=[])=Q
 repeat' (first|refine st ?_|refine sb λnb_ hnb_=>?_|refine s2 (λh=>?_) λh=>?_|fail)
 all_goals
  subst hQ;refine⟨?_,rfl⟩;simp_all[eh]
theorem PI(l:List Int)(n:Int)(hl:l.length<2^62):az Tryz.prog 109 [.lst (l.map aj),.ZO n] (.ZO (nL (λx=>decide (n=x)) l 0)):=by
 refine jD _ _ _ _ ?_;unfold fk
 repeat' (first|refine st ?_|refine sb λnb_ hnb_=>?_|refine s2 (λh=>?_) λh=>?_|fail)
 refine fH l (λx=>decide (n=x)) (λi=>[.lst (l.map aj),.ZO n,.ZO l.length,.ZO i]) hl rfl (λi h1 hd hi hno nx hn=>?_) (λi h1 hd hno nx=>?_)
 all_goals unfold eR
 ·have hx:=ay (f:=aj) h1
  repeat' (first|refine st ?_|refine sb λnb_ hnb_=>?_|refine s2 (λh=>?_) λh=>?_|fail)
  ·exact⟨by rw[qo h1 hno h],rfl⟩
  ·exact hn h
 ·repeat' (first|refine st ?_|refine sb λnb_ hnb_=>?_|refine s2 (λh=>?_) λh=>?_|fail)
  exact⟨by rw[hZ hno],rfl⟩
theorem R0{l:List Int}{n:Int}:decide (nL (λx=>decide (n=x)) l 0≥0)=l.contains n:=by
  by_cases h:n∈l
  · have h1:l.contains n=true:=by simpa using h
    rw[h1];refine decide_eq_true ?_;have:∀(l:List Int) (k:Nat),n∈l→0≤nL (λx=>decide (n=x)) l k:=by
      intro l
      induction l with
      |nil=>intro k h;simp at h
      |cons x l ih=>
        intro k h;rw[nL];by_cases hx:n=x
        · rw[if_pos (decide_eq_true hx)];omega
        · rw[if_neg (by simpa using hx)]
          exact ih _ (by rcases Ya.1 h with h | h
                         · exact absurd h hx
                         · exact h)
    exact this l 0 h
  · have h1:l.contains n=false:=by simpa using h
    rw[h1,hZ (λx hx=>decide_eq_false λ(e:n=x)=>h (e▸hx))];rfl
theorem J6(l:List Int)(n:Int)(hl:l.length<2^62):az Tryz.prog 72 [.lst (l.map aj),.ZO n] (.bool (l.contains n)):=by
 have hi:=PI l n hl;refine iz _ _ _ _ ?_;unfold ee
 repeat' (first|refine st ?_|(refine pf 109 ?_;refine pm (hi) ?_)|refine sb λnb_ hnb_=>?_|refine s2 (λh=>?_) λh=>?_|fail)
 exact⟨by rw[R0],rfl⟩
theorem R3(w:aO)(s:SyncD)(hc:w.conds.length<2^62):az Tryz.prog 46 [.agg w.enc,.agg s.enc] (.bool (fitsS w s)):=by
 refine EH _ _ _ _ ?_;unfold tJ;generalize hQ:(λ(u:AV) (K:SH)=>u=AV.bool (fitsS w s)∧K=[])=Q;have hq:∀b,fitsS w s=b→Q (.bool b) []:=λb hb=>by subst hQ;exact⟨by rw[hb],rfl⟩
 clear hQ;by_cases h0:s.locks.length=w.locks.length∧s.done.length=w.futures.length∧s.threads.length=w.threads.length
 ·have e1:decide ((s.locks.length:Int)≠w.locks.length)=false:=by simp[h0]
  have e2:decide ((s.done.length:Int)≠w.futures.length)=false:=by simp[h0]
  have e3:decide ((s.threads.length:Int)≠w.threads.length)=false:=by simp[h0]
  have hf:fitsS w s=w.conds.all λc=>inB c.mutex w.locks.length:=by simp[fitsS,h0]
  repeat' (first|refine st ?_|refine sb λnb_ hnb_=>?_|refine s2 (λh=>?_) λh=>?_|fail)
  refine fH w.conds (λc=>!inB c.mutex w.locks.length) (λi=>[.pptr [w.enc] 0 0,.lst (w.conds.map db.enc),.ZO w.conds.length,.ZO i]) hc rfl (λi h1 hd hi hno nx hn=>?_) (λi h1 hd hno nx=>?_)
  all_goals unfold qk
  ·have hx:=ay (f:=db.enc) h1;have hw:=fO w.conds[i].mutex w.locks.length;have hbad:inB w.conds[i].mutex w.locks.length=false→fitsS w s=false:=λh=>by rw[hf];exact PC h1 h
   generalize w.conds[i]=c at *;obtain⟨nm,mx⟩:=c;unfold db.enc at hx;dsimp only at *;cases hb:inB mx w.locks.length with
   |false=>
    rw[hb]at hw
    repeat' (first|refine st ?_|(refine pf 47 ?_;refine pm (hw) ?_)|refine sb λnb_ hnb_=>?_|refine s2 (λh=>?_) λh=>?_|fail)
    exact hq _ (hbad hb)
   |true=>
    rw[hb]at hw
    repeat' (first|refine st ?_|(refine pf 47 ?_;refine pm (hw) ?_)|refine sb λnb_ hnb_=>?_|refine s2 (λh=>?_) λh=>?_|fail)
    exact hn (by rw[hb];rfl)
  ·repeat' (first|refine st ?_|refine sb λnb_ hnb_=>?_|refine s2 (λh=>?_) λh=>?_|fail)
   exact hq _ (by rw[hf];exact Yo.2 λc hc=>by simpa using hno c hc)
 ·have hb:fitsS w s=false:=by
   cases hf:fitsS w s with
   |false=>rfl
   |true=>have:=A9.1 hf;exact absurd ⟨this.locks,this.done,this.threads⟩ h0
  repeat' (first|refine st ?_|refine sb λnb_ hnb_=>?_|refine s2 (λh=>?_) λh=>?_|fail)
  all_goals first
   |exact hq _ hb
   |(exfalso;refine h0 ?_;clear hq hb h0;simp only[decide_eq_true_eq,decide_eq_false_iff_not,ne_eq,Decidable.not_not]at *;omega)
theorem LE(w:aO)(k o:Int):az Tryz.prog 48 [.agg w.enc,.ZO k,.ZO o] (.bool (allowedS w k o)):=by
 refine yp _ _ _ _ _ ?_;unfold mq;generalize hQ:(λ(u:AV) (K:SH)=>u=AV.bool (allowedS w k o)∧K=[])=Q;have hq:∀b,allowedS w k o=b→Q (.bool b) []:=λb hb=>by subst hQ;exact⟨by rw[hb],rfl⟩
 clear hQ;have hc:=fO o w.cells.length;have hl:=fO o w.locks.length;have hd:=fO o w.conds.length;have ht:=fO o w.threads.length;have hf:=fO o w.futures.length;rcases kinds k with hk|hk
 ·repeat' (first|refine st ?_|refine sb λnb_ hnb_=>?_|refine s2 (λh=>?_) λh=>?_|fail)
  all_goals first
   |exact hq _ (qq hk)
   |(exfalso;clear hq;simp only[decide_eq_true_eq,decide_eq_false_iff_not]at *;omega)
 by_cases hlk:6≤k∧k≤11
 ·cases h1:inB o w.locks.length with
  |false=>
   rw[h1]at hl;have hv:allowedS w k o=false:=by
    have:k=6∨k=7∨k=8∨k=9∨k=10∨k=11:=by omega
    rcases this with rfl|rfl|rfl|rfl|rfl|rfl<;>simp[allowedS,h1]
   repeat' (first|refine st ?_|(refine pf 47 ?_;refine pm (hl) ?_)|refine sb λnb_ hnb_=>?_|refine s2 (λh=>?_) λh=>?_|fail)
   all_goals first
    |exact hq _ hv
    |(exfalso;clear hq;simp only[decide_eq_true_eq,decide_eq_false_iff_not]at *;omega)
  |true=>
   rw[h1]at hl;obtain⟨j,rfl⟩:=Zw (fN h1);have hj:j<w.locks.length:=by have:=(ax.1 h1).2;omega
   have hx:=ay (f:=cq.enc) hj;have hr:rwAt w (j:Int)=w.locks[j].rw:=by unfold rwAt;rw[Y7,Ze,X6 hj,Zr]
   generalize w.locks[j]=c at *;obtain⟨nm,r⟩:=c;unfold cq.enc at hx;dsimp only at *;have hv1:k=6∨k=7→allowedS w k (j:Int)=!r:=λh=>by rcases h with rfl|rfl<;>simp[allowedS,h1,hr]
   have hv2:k=8∨k=9∨k=10∨k=11→allowedS w k (j:Int)=r:=λh=>by rcases h with rfl|rfl|rfl|rfl<;>simp[allowedS,h1,hr]
   repeat' (first|refine st ?_|(refine pf 47 ?_;refine pm (hl) ?_)|refine sb λnb_ hnb_=>?_|refine s2 (λh=>?_) λh=>?_|fail)
   all_goals simp only[decide_eq_true_eq,decide_eq_false_iff_not]at *
   all_goals first
    |exact hq _ (hv1 ZJ)
    |exact hq _ (hv2 ZJ)
    |(exfalso;clear hq;omega)
 ·have hv3:k=3∨k=4→allowedS w k o=inB o w.cells.length:=λh=>by rcases h with rfl|rfl<;>rfl
  have hv4:k=16∨k=17∨k=18∨k=19→allowedS w k o=inB o w.conds.length:=λh=>by rcases h with rfl|rfl|rfl|rfl<;>rfl
  have hv5:k=20∨k=21→allowedS w k o=inB o w.threads.length:=λh=>by rcases h with rfl|rfl<;>rfl
  have hv6:k=22∨k=23→allowedS w k o=inB o w.futures.length:=λh=>by rcases h with rfl|rfl<;>rfl
  have hv7:k=1∨k=2∨k=5∨k=12∨k=13∨k=14∨k=15→allowedS w k o=decide (o=-1):=λh=>by unfold allowedS;rw[if_pos h]
  repeat' (first|refine st ?_|(refine pf 47 ?_;refine pm (hc) ?_)|(refine pf 47 ?_;refine pm (hd) ?_)|(refine pf 47 ?_;refine pm (ht) ?_)|(refine pf 47 ?_;refine pm (hf) ?_)|refine sb λnb_ hnb_=>?_|refine s2 (λh=>?_) λh=>?_|fail)
  all_goals simp only[decide_eq_true_eq,decide_eq_false_iff_not]at *
  all_goals first
   |exact hq _ (hv3 ZJ)
   |exact hq _ (hv4 ZJ)
   |exact hq _ (hv5 ZJ)
   |exact hq _ (hv6 ZJ)
   |exact hq _ (hv7 ZJ)
   |(exfalso;clear hq;omega)
end
end Go.Proofs.YtdnpdghlggbklaaGreatDoor.Am
