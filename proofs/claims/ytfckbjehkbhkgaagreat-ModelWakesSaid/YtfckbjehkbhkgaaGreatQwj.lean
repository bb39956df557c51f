/- part -/
import Derived.Test.YtfckbjehkbhkgaaGreatQwi
set_option linter.all false
set_option maxRecDepth 100000
set_option maxHeartbeats 0
namespace Go.Proofs.YtfckbjehkbhkgaaGreat.Am
def ig(i:Int)(n:Nat):aq Tryz.prog 72 [.acU i,.acU n] (.bool (inB i n)):=by
 refine yl _ _ _ _ ?_;refine vw ?_;generalize j:(λ(u:AV) (K:SH)=>u=AV.bool (inB i n)/\K=[])=Q
 repeat' (first|refine sy ?_|refine s2 ?_ ?_|intro)
 all_goals
  subst j;refine⟨?_,rfl⟩;simp_all[inB]<;>omega
def nq(t:ThrD)(c:Int):aq Tryz.prog 110 [.agg t.enc,.acU c] (.bool (bH t c)):=by
 obtain⟨a,b,d⟩:=t;refine Ak _ _ _ _ ?_;unfold ThrD.enc;refine vw ?_;generalize j:(λ(u:AV) (K:SH)=>u=AV.bool (bH ⟨a,b,d⟩ c)/\K=[])=Q
 repeat' (first|refine sy ?_|refine s2 ?_ ?_|intro)
 all_goals
  subst j;refine⟨?_,rfl⟩;simp_all[bH]
def Q9(l:List Int)(n:Int)(E:l.length<2^62):aq Tryz.prog 70 [.lst (l.map aa),.acU n] (.acU (lm (λx=>decide (n=x)) l 0)):=by
 refine kP _ _ _ _ ?_;refine vw ?_
 repeat' (first|refine sy ?_|refine s2 (λh=>?_) λh=>?_|intro)
 refine eO l (λx=>decide (n=x)) (λi=>[.lst (l.map aa),.acU n,.acU l.length,.acU i]) E rfl (λi u G N j B D=>?_) (λi u G j B=>?_)
 all_goals refine vw ?_
 .have M:=aj (f:=aa) u
  repeat' (first|refine sy ?_|refine s2 (λh=>?_) λh=>?_|intro)
  .exact⟨by rw[mR u j h],rfl⟩
  .exact D h
 .repeat' (first|refine sy ?_|refine s2 ?_ ?_|intro)
  exact⟨by rw[gz j],rfl⟩
def T4{l:List Int}{n:Int}:decide (lm (λx=>decide (n=x)) l 0≥0)=l.contains n:=by
  by_cases h:n∈l
  · have h1:l.contains n=true:=by simpa using h
    rw[h1];refine decide_eq_true ?_;have:∀(l:List Int) (k:Nat),n∈l→0≤lm (λx=>decide (n=x)) l k:=by
      intro l
      induction l with
      |nil=>intro k h;simp at h
      |cons x l ih=>
        intro k h;rw[lm];by_cases hx:n=x
        · rw[if_pos (decide_eq_true hx)];omega
        · rw[if_neg (by simpa using hx)]
          exact ih _ (by rcases aaj.1 h with h | h
                         · exact absurd h hx
                         · exact h)
    exact this l 0 h
  · have h1:l.contains n=false:=by simpa using h
    rw[h1,gz (λx hx=>decide_eq_false λ(e:n=x)=>h (e▸hx))];rfl
def zz(l:List Int)(n:Int)(j:l.length<2^62):aq Tryz.prog 45 [.lst (l.map aa),.acU n] (.bool (l.contains n)):=by
 have u:=Q9 l n j;refine jt _ _ _ _ ?_;refine vw ?_
 repeat' (first|refine sy ?_|refine s2 ?_ ?_|intro)
 exact⟨by rw[T4],rfl⟩
def T5(w:aF)(s:SyncD)(N:w.conds.length<2^62):aq Tryz.prog 71 [.agg w.enc,.agg s.enc] (.bool (fitsS w s)):=by
 refine Cz _ _ _ _ ?_;refine vw ?_;generalize Y:(λ(u:AV) (K:SH)=>u=AV.bool (fitsS w s)/\K=[])=Q;have G:∀b,fitsS w s=b->Q (.bool b) []:=λb j=>by subst Y;exact⟨by rw[j],rfl⟩
 clear Y;by_cases B:s.locks.length=w.locks.length/\s.done.length=w.futures.length/\s.threads.length=w.threads.length
 .have e1:decide ((s.locks.length:Int)≠w.locks.length)=false:=by simp[B]
  have e2:decide ((s.done.length:Int)≠w.futures.length)=false:=by simp[B]
  have e3:decide ((s.threads.length:Int)≠w.threads.length)=false:=by simp[B]
  have M:fitsS w s=w.conds.all λc=>inB c.mutex w.locks.length:=by simp[fitsS,B]
  repeat' (first|refine sy ?_|refine s2 ?_ ?_|intro)
  refine eO w.conds (λc=>!inB c.mutex w.locks.length) (λi=>[.pptr [w.enc] 0 0,.lst (w.conds.map cM.enc),.acU w.conds.length,.acU i]) N rfl (λi O hd hi D Z hn=>?_) (λi O hd D Z=>?_)
  all_goals refine vw ?_
  .have hx:=aj (f:=cM.enc) O;have S:=ig w.conds[i].mutex w.locks.length;have E:inB w.conds[i].mutex w.locks.length=false->fitsS w s=false:=λh=>by rw[M];exact L7 O h
   generalize w.conds[i]=c at *;obtain⟨nm,mx⟩:=c;unfold cM.enc at hx;dsimp only at *;cases j:inB mx w.locks.length with
   |false=>
    rw[j]at S
    repeat' (first|refine sy ?_|refine s2 ?_ ?_|intro)
    exact G _ (E j)
   |true=>
    rw[j]at S
    repeat' (first|refine sy ?_|refine s2 ?_ ?_|intro)
    exact hn (by rw[j];rfl)
  .repeat' (first|refine sy ?_|refine s2 ?_ ?_|intro)
   exact G _ (by rw[M];exact abh.2 λc N=>by simpa using D c N)
 .have j:fitsS w s=false:=by
   cases M:fitsS w s with
   |false=>rfl
   |true=>have:=cH.1 M;exact absurd ⟨this.locks,this.done,this.threads⟩ B
  repeat' (first|refine sy ?_|refine s2 ?_ ?_|intro)
  all_goals first
   |exact G _ j
   |(exfalso;refine B ?_;clear G j B;simp only[decide_eq_true_eq,decide_eq_false_iff_not,ne_eq,Decidable.not_not]at *;omega)
def Mf(w:aF)(k o:Int):aq Tryz.prog 73 [.agg w.enc,.acU k,.acU o] (.bool (allowedS w k o)):=by
 refine wC _ _ _ _ _ ?_;refine vw ?_;generalize hQ:(λ(u:AV) (K:SH)=>u=AV.bool (allowedS w k o)/\K=[])=Q;have B:∀b,allowedS w k o=b->Q (.bool b) []:=λb hb=>by subst hQ;exact⟨by rw[hb],rfl⟩
 clear hQ;have hc:=ig o w.cells.length;have hl:=ig o w.locks.length;have hd:=ig o w.conds.length;have ht:=ig o w.threads.length;have hf:=ig o w.futures.length;rcases wF k with hk|hk
 .repeat' (first|refine sy ?_|refine s2 ?_ ?_|intro)
  all_goals first
   |exact B _ (fD hk)
   |(exfalso;clear B;simp only[decide_eq_true_eq,decide_eq_false_iff_not]at *;omega)
 by_cases hlk:6<=k/\k<=11
 .cases D:inB o w.locks.length with
  |false=>
   rw[D]at hl;have hv:allowedS w k o=false:=by
    have:k=6\/k=7\/k=8\/k=9\/k=10\/k=11:=by omega
    rcases this with rfl|rfl|rfl|rfl|rfl|rfl<;>simp[allowedS,D]
   repeat' (first|refine sy ?_|refine s2 ?_ ?_|intro)
   all_goals first
    |exact B _ hv
    |(exfalso;clear B;simp only[decide_eq_true_eq,decide_eq_false_iff_not]at *;omega)
  |true=>
   rw[D]at hl;obtain⟨j,rfl⟩:=abH (dY D);have hj:j<w.locks.length:=by have:=(ao.1 D).2;omega
   have hx:=aj (f:=bZ.enc) hj;have Z:rwAt w (j:Int)=w.locks[j].rw:=by unfold rwAt;rw[abw,acG,mt hj,abS]
   generalize w.locks[j]=c at *;obtain⟨nm,r⟩:=c;unfold bZ.enc at hx;dsimp only at *;have Y:k=6\/k=7->allowedS w k (j:Int)=!r:=λh=>by rcases h with rfl|rfl<;>simp[allowedS,D,Z]
   have S:k=8\/k=9\/k=10\/k=11->allowedS w k (j:Int)=r:=λh=>by rcases h with rfl|rfl|rfl|rfl<;>simp[allowedS,D,Z]
   repeat' (first|refine sy ?_|refine s2 ?_ ?_|intro)
   all_goals simp only[decide_eq_true_eq,decide_eq_false_iff_not]at *
   all_goals first
    |exact B _ (Y acN)
    |exact B _ (S acN)
    |(exfalso;clear B;omega)
 .have O:k=3\/k=4->allowedS w k o=inB o w.cells.length:=λh=>by rcases h with rfl|rfl<;>rfl
  have N:k=16\/k=17\/k=18\/k=19->allowedS w k o=inB o w.conds.length:=λh=>by rcases h with rfl|rfl|rfl|rfl<;>rfl
  have M:k=20\/k=21->allowedS w k o=inB o w.threads.length:=λh=>by rcases h with rfl|rfl<;>rfl
  have G:k=22\/k=23->allowedS w k o=inB o w.futures.length:=λh=>by rcases h with rfl|rfl<;>rfl
  have E:k=1\/k=2\/k=5\/k=12\/k=13\/k=14\/k=15->allowedS w k o=decide (o=-1):=λh=>by unfold allowedS;rw[if_pos h]
  repeat' (first|refine sy ?_|refine s2 ?_ ?_|intro)
  all_goals simp only[decide_eq_true_eq,decide_eq_false_iff_not]at *
  all_goals first
   |exact B _ (O acN)
   |exact B _ (N acN)
   |exact B _ (M acN)
   |exact B _ (G acN)
   |exact B _ (E acN)
   |(exfalso;clear B;omega)
