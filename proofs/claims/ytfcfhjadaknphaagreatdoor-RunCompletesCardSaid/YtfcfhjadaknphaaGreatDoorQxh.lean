/- part -/
import Derived.Test.YtfcfhjadaknphaaGreatDoorQxg
set_option linter.all false
set_option maxRecDepth 100000
set_option maxHeartbeats 0
namespace Go.Proofs.YtfcfhjadaknphaaGreatDoor.Am
def gW(i:Int)(n:Nat):ao Tryz.prog 83 [.YJ i,.YJ n] (.bool (inB i n)):=by
 refine wB _ _ _ _ ?_;refine vw ?_;generalize j:(λ(u:AV) (K:SH)=>u=AV.bool (inB i n)/\K=[])=Q
 repeat' (first|refine sy ?_|refine s2 ?_ ?_|intro)
 all_goals
  subst j;refine⟨?_,rfl⟩;simp_all[inB]<;>omega
def mC(t:ThrD)(c:Int):ao Tryz.prog 190 [.agg t.enc,.YJ c] (.bool (dH t c)):=by
 obtain⟨a,b,d⟩:=t;refine yx _ _ _ _ ?_;unfold ThrD.enc;refine vw ?_;generalize j:(λ(u:AV) (K:SH)=>u=AV.bool (dH ⟨a,b,d⟩ c)/\K=[])=Q
 repeat' (first|refine sy ?_|refine s2 ?_ ?_|intro)
 all_goals
  subst j;refine⟨?_,rfl⟩;simp_all[dH]
def Nc(l:List Int)(n:Int)(E:l.length<2^62):ao Tryz.prog 175 [.lst (l.map ah),.YJ n] (.YJ (iy (λx=>decide (n=x)) l 0)):=by
 refine kg _ _ _ _ ?_;refine vw ?_
 repeat' (first|refine sy ?_|refine s2 (λh=>?_) λh=>?_|intro)
 refine cF l (λx=>decide (n=x)) (λi=>[.lst (l.map ah),.YJ n,.YJ l.length,.YJ i]) E rfl (λi u G O j B D=>?_) (λi u G j B=>?_)
 all_goals refine vw ?_
 .have M:=aq (f:=ah) u
  repeat' (first|refine sy ?_|refine s2 (λh=>?_) λh=>?_|intro)
  .exact⟨by rw[jg u j h],rfl⟩
  .exact D h
 .repeat' (first|refine sy ?_|refine s2 ?_ ?_|intro)
  exact⟨by rw[eU j],rfl⟩
def PT{l:List Int}{n:Int}:decide (iy (λx=>decide (n=x)) l 0≥0)=l.contains n:=by
  by_cases h:n∈l
  · have h1:l.contains n=true:=by simpa using h
    rw[h1];refine decide_eq_true ?_;have:∀(l:List Int) (k:Nat),n∈l→0≤iy (λx=>decide (n=x)) l k:=by
      intro l
      induction l with
      |nil=>intro k h;simp at h
      |cons x l ih=>
        intro k h;rw[iy];by_cases hx:n=x
        · rw[if_pos (decide_eq_true hx)];omega
        · rw[if_neg (by simpa using hx)]
          exact ih _ (by rcases WX.1 h with h | h
                         · exact absurd h hx
                         · exact h)
    exact this l 0 h
  · have h1:l.contains n=false:=by simpa using h
    rw[h1,eU (λx hx=>decide_eq_false λ(e:n=x)=>h (e▸hx))];rfl
def GR(l:List Int)(n:Int)(j:l.length<2^62):ao Tryz.prog 132 [.lst (l.map ah),.YJ n] (.bool (l.contains n)):=by
 have u:=Nc l n j;refine je _ _ _ _ ?_;refine vw ?_
 repeat' (first|refine sy ?_|refine s2 ?_ ?_|intro)
 exact⟨by rw[PT],rfl⟩
def PU(w:aK)(s:SyncD)(O:w.conds.length<2^62):ao Tryz.prog 82 [.agg w.enc,.agg s.enc] (.bool (fitsS w s)):=by
 refine Au _ _ _ _ ?_;refine vw ?_;generalize Z:(λ(u:AV) (K:SH)=>u=AV.bool (fitsS w s)/\K=[])=Q;have G:∀b,fitsS w s=b->Q (.bool b) []:=λb j=>by subst Z;exact⟨by rw[j],rfl⟩
 clear Z;by_cases B:s.locks.length=w.locks.length/\s.done.length=w.futures.length/\s.threads.length=w.threads.length
 .have e1:decide ((s.locks.length:Int)≠w.locks.length)=false:=by simp[B]
  have e2:decide ((s.done.length:Int)≠w.futures.length)=false:=by simp[B]
  have e3:decide ((s.threads.length:Int)≠w.threads.length)=false:=by simp[B]
  have M:fitsS w s=w.conds.all λc=>inB c.mutex w.locks.length:=by simp[fitsS,B]
  repeat' (first|refine sy ?_|refine s2 ?_ ?_|intro)
  refine cF w.conds (λc=>!inB c.mutex w.locks.length) (λi=>[.pptr [w.enc] 0 0,.lst (w.conds.map bO.enc),.YJ w.conds.length,.YJ i]) O rfl (λi S hd hi D nx hn=>?_) (λi S hd D nx=>?_)
  all_goals refine vw ?_
  .have hx:=aq (f:=bO.enc) S;have Y:=gW w.conds[i].mutex w.locks.length;have E:inB w.conds[i].mutex w.locks.length=false->fitsS w s=false:=λh=>by rw[M];exact pL S h
   generalize w.conds[i]=c at *;obtain⟨nm,mx⟩:=c;unfold bO.enc at hx;dsimp only at *;cases j:inB mx w.locks.length with
   |false=>
    rw[j]at Y
    repeat' (first|refine sy ?_|refine s2 ?_ ?_|intro)
    exact G _ (E j)
   |true=>
    rw[j]at Y
    repeat' (first|refine sy ?_|refine s2 ?_ ?_|intro)
    exact hn (by rw[j];rfl)
  .repeat' (first|refine sy ?_|refine s2 ?_ ?_|intro)
   exact G _ (by rw[M];exact W2.2 λc O=>by simpa using D c O)
 .have j:fitsS w s=false:=by
   cases M:fitsS w s with
   |false=>rfl
   |true=>have:=fE.1 M;exact absurd ⟨this.locks,this.done,this.threads⟩ B
  repeat' (first|refine sy ?_|refine s2 ?_ ?_|intro)
  all_goals first
   |exact G _ j
   |(exfalso;refine B ?_;clear G j B;simp only[decide_eq_true_eq,decide_eq_false_iff_not,ne_eq,Decidable.not_not]at *;omega)
def IL(w:aK)(k o:Int):ao Tryz.prog 84 [.agg w.enc,.YJ k,.YJ o] (.bool (allowedS w k o)):=by
 refine uC _ _ _ _ _ ?_;refine vw ?_;generalize hQ:(λ(u:AV) (K:SH)=>u=AV.bool (allowedS w k o)/\K=[])=Q;have B:∀b,allowedS w k o=b->Q (.bool b) []:=λb hb=>by subst hQ;exact⟨by rw[hb],rfl⟩
 clear hQ;have hc:=gW o w.cells.length;have hl:=gW o w.locks.length;have hd:=gW o w.conds.length;have ht:=gW o w.threads.length;have hf:=gW o w.futures.length;rcases kinds k with hk|hk
 .repeat' (first|refine sy ?_|refine s2 ?_ ?_|intro)
  all_goals first
   |exact B _ (fZ hk)
   |(exfalso;clear B;simp only[decide_eq_true_eq,decide_eq_false_iff_not]at *;omega)
 by_cases hlk:6<=k/\k<=11
 .cases D:inB o w.locks.length with
  |false=>
   rw[D]at hl;have hv:allowedS w k o=false:=by
    have:k=6\/k=7\/k=8\/k=9\/k=10\/k=11:=by omega
    rcases this with rfl|rfl|rfl|rfl|rfl|rfl<;>simp[allowedS,D]
   repeat' (first|refine sy ?_|refine s2 ?_ ?_|intro)
   all_goals first
    |exact B _ hv
    |(exfalso;clear B;simp only[decide_eq_true_eq,decide_eq_false_iff_not]at *;omega)
  |true=>
   rw[D]at hl;obtain⟨j,rfl⟩:=Xg (cT D);have hj:j<w.locks.length:=by have:=(aw.1 D).2;omega
   have hx:=aq (f:=bv.enc) hj;have hr:rwAt w (j:Int)=w.locks[j].rw:=by unfold rwAt;rw[Xx,XP,mt hj,XU]
   generalize w.locks[j]=c at *;obtain⟨nm,r⟩:=c;unfold bv.enc at hx;dsimp only at *;have Z:k=6\/k=7->allowedS w k (j:Int)=!r:=λh=>by rcases h with rfl|rfl<;>simp[allowedS,D,hr]
   have Y:k=8\/k=9\/k=10\/k=11->allowedS w k (j:Int)=r:=λh=>by rcases h with rfl|rfl|rfl|rfl<;>simp[allowedS,D,hr]
   repeat' (first|refine sy ?_|refine s2 ?_ ?_|intro)
   all_goals simp only[decide_eq_true_eq,decide_eq_false_iff_not]at *
   all_goals first
    |exact B _ (Z YC)
    |exact B _ (Y YC)
    |(exfalso;clear B;omega)
 .have S:k=3\/k=4->allowedS w k o=inB o w.cells.length:=λh=>by rcases h with rfl|rfl<;>rfl
  have O:k=16\/k=17\/k=18\/k=19->allowedS w k o=inB o w.conds.length:=λh=>by rcases h with rfl|rfl|rfl|rfl<;>rfl
  have M:k=20\/k=21->allowedS w k o=inB o w.threads.length:=λh=>by rcases h with rfl|rfl<;>rfl
  have G:k=22\/k=23->allowedS w k o=inB o w.futures.length:=λh=>by rcases h with rfl|rfl<;>rfl
  have E:k=1\/k=2\/k=5\/k=12\/k=13\/k=14\/k=15->allowedS w k o=decide (o=-1):=λh=>by unfold allowedS;rw[if_pos h]
  repeat' (first|refine sy ?_|refine s2 ?_ ?_|intro)
  all_goals simp only[decide_eq_true_eq,decide_eq_false_iff_not]at *
  all_goals first
   |exact B _ (S YC)
   |exact B _ (O YC)
   |exact B _ (M YC)
   |exact B _ (G YC)
   |exact B _ (E YC)
   |(exfalso;clear B;omega)
