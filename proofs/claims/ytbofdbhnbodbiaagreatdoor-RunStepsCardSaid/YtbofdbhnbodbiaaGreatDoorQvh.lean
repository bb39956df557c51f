/- A part of the proof; the statement is proved in the last part. -/
import Derived.Test.YtbofdbhnbodbiaaGreatDoorQvg
set_option linter.all false
set_option maxRecDepth 100000
set_option maxHeartbeats 20000000
namespace Go.Proofs.YtbofdbhnbodbiaaGreatDoor.Am
def fJ(i:Int)(n:Nat):aq Tryz.prog 86 [.Uf i,.Uf n] (.bool (inB i n)):=by
 refine t7 _ _ _ _ ?_;refine vw ?_;generalize D:(λ(u:AV) (K:SH)=>u=AV.bool (inB i n)/\K=[])=Q
 repeat' (first|refine st ?_|refine sb λB j=>?_|refine s2 (λh=>?_) λh=>?_|fail)
 all_goals
  subst D;refine⟨?_,rfl⟩;simp_all[inB]<;>omega
def kR(t:ThrD)(c:Int):aq Tryz.prog 162 [.agg t.enc,.Uf c] (.bool (cU t c)):=by
 obtain⟨a,b,d⟩:=t;refine vW _ _ _ _ ?_;unfold ThrD.enc;refine vw ?_;generalize D:(λ(u:AV) (K:SH)=>u=AV.bool (cU ⟨a,b,d⟩ c)/\K=[])=Q
 repeat' (first|refine st ?_|refine sb λB j=>?_|refine s2 (λh=>?_) λh=>?_|fail)
 all_goals
  subst D;refine⟨?_,rfl⟩;simp_all[cU]
def JG(l:List Int)(n:Int)(M:l.length<2^62):aq Tryz.prog 166 [.lst (l.map ah),.Uf n] (.Uf (jv (λx=>decide (n=x)) l 0)):=by
 refine iV _ _ _ _ ?_;refine vw ?_
 repeat' (first|refine st ?_|refine sb λB j=>?_|refine s2 (λh=>?_) λh=>?_|fail)
 refine dy l (λx=>decide (n=x)) (λi=>[.lst (l.map ah),.Uf n,.Uf l.length,.Uf i]) M rfl (λi D N S u E G=>?_) (λi D N u E=>?_)
 all_goals refine vw ?_
 .have O:=ao (f:=ah) D
  repeat' (first|refine st ?_|refine sb λB j=>?_|refine s2 (λh=>?_) λh=>?_|fail)
  .exact⟨by rw[kQ D u h],rfl⟩
  .exact G h
 .repeat' (first|refine st ?_|refine sb λB j=>?_|refine s2 (λh=>?_) λh=>?_|fail)
  exact⟨by rw[eY u],rfl⟩
def LV{l:List Int}{n:Int}:decide (jv (λx=>decide (n=x)) l 0≥0)=l.contains n:=by
  by_cases h:n∈l
  · have h1:l.contains n=true:=by simpa using h
    rw[h1];refine decide_eq_true ?_;have:∀(l:List Int) (k:Nat),n∈l→0≤jv (λx=>decide (n=x)) l k:=by
      intro l
      induction l with
      |nil=>intro k h;simp at h
      |cons x l ih=>
        intro k h;rw[jv];by_cases hx:n=x
        · rw[if_pos (decide_eq_true hx)];omega
        · rw[if_neg (by simpa using hx)]
          exact ih _ (by rcases SB.1 h with h | h
                         · exact absurd h hx
                         · exact h)
    exact this l 0 h
  · have h1:l.contains n=false:=by simpa using h
    rw[h1,eY (λx hx=>decide_eq_false λ(e:n=x)=>h (e▸hx))];rfl
def DY(l:List Int)(n:Int)(B:l.length<2^62):aq Tryz.prog 130 [.lst (l.map ah),.Uf n] (.bool (l.contains n)):=by
 have D:=JG l n B;refine gV _ _ _ _ ?_;refine vw ?_
 repeat' (first|refine st ?_|(refine pf 166 ?_;refine pm (D) ?_)|refine sb λu j=>?_|refine s2 (λh=>?_) λh=>?_|fail)
 exact⟨by rw[LV],rfl⟩
def LX(w:aI)(s:SyncD)(Y:w.conds.length<2^62):aq Tryz.prog 85 [.agg w.enc,.agg s.enc] (.bool (fitsS w s)):=by
 refine xX _ _ _ _ ?_;refine vw ?_;generalize hQ:(λ(u:AV) (K:SH)=>u=AV.bool (fitsS w s)/\K=[])=Q;have O:∀b,fitsS w s=b->Q (.bool b) []:=λb D=>by subst hQ;exact⟨by rw[D],rfl⟩
 clear hQ;by_cases E:s.locks.length=w.locks.length/\s.done.length=w.futures.length/\s.threads.length=w.threads.length
 .have e1:decide ((s.locks.length:Int)≠w.locks.length)=false:=by simp[E]
  have e2:decide ((s.done.length:Int)≠w.futures.length)=false:=by simp[E]
  have e3:decide ((s.threads.length:Int)≠w.threads.length)=false:=by simp[E]
  have S:fitsS w s=w.conds.all λc=>inB c.mutex w.locks.length:=by simp[fitsS,E]
  repeat' (first|refine st ?_|refine sb λB j=>?_|refine s2 (λh=>?_) λh=>?_|fail)
  refine dy w.conds (λc=>!inB c.mutex w.locks.length) (λi=>[.pptr [w.enc] 0 0,.lst (w.conds.map bR.enc),.Uf w.conds.length,.Uf i]) Y rfl (λi Z hd hi G nx hn=>?_) (λi Z hd G nx=>?_)
  all_goals refine vw ?_
  .have hx:=ao (f:=bR.enc) Z;have N:=fJ w.conds[i].mutex w.locks.length;have M:inB w.conds[i].mutex w.locks.length=false->fitsS w s=false:=λh=>by rw[S];exact FI Z h
   generalize w.conds[i]=c at *;obtain⟨nm,mx⟩:=c;unfold bR.enc at hx;dsimp only at *;cases D:inB mx w.locks.length with
   |false=>
    rw[D]at N
    repeat' (first|refine st ?_|(refine pf 86 ?_;refine pm (N) ?_)|refine sb λB j=>?_|refine s2 (λh=>?_) λh=>?_|fail)
    exact O _ (M D)
   |true=>
    rw[D]at N
    repeat' (first|refine st ?_|(refine pf 86 ?_;refine pm (N) ?_)|refine sb λB j=>?_|refine s2 (λh=>?_) λh=>?_|fail)
    exact hn (by rw[D];rfl)
  .repeat' (first|refine st ?_|refine sb λB j=>?_|refine s2 (λh=>?_) λh=>?_|fail)
   exact O _ (by rw[S];exact SM.2 λc Y=>by simpa using G c Y)
 .have D:fitsS w s=false:=by
   cases S:fitsS w s with
   |false=>rfl
   |true=>have:=fO.1 S;exact absurd ⟨this.locks,this.done,this.threads⟩ E
  repeat' (first|refine st ?_|refine sb λB j=>?_|refine s2 (λh=>?_) λh=>?_|fail)
  all_goals first
   |exact O _ D
   |(exfalso;refine E ?_;clear O D E;simp only[decide_eq_true_eq,decide_eq_false_iff_not,ne_eq,Decidable.not_not]at *;omega)
def FJ(w:aI)(k o:Int):aq Tryz.prog 87 [.agg w.enc,.Uf k,.Uf o] (.bool (allowedS w k o)):=by
 refine sf _ _ _ _ _ ?_;refine vw ?_;generalize hQ:(λ(u:AV) (K:SH)=>u=AV.bool (allowedS w k o)/\K=[])=Q;have B:∀b,allowedS w k o=b->Q (.bool b) []:=λb hb=>by subst hQ;exact⟨by rw[hb],rfl⟩
 clear hQ;have hc:=fJ o w.cells.length;have M:=fJ o w.locks.length;have hd:=fJ o w.conds.length;have ht:=fJ o w.threads.length;have hf:=fJ o w.futures.length;rcases kinds k with hk|hk
 .repeat' (first|refine st ?_|refine sb λE D=>?_|refine s2 (λh=>?_) λh=>?_|fail)
  all_goals first
   |exact B _ (eQ hk)
   |(exfalso;clear B;simp only[decide_eq_true_eq,decide_eq_false_iff_not]at *;omega)
 by_cases hlk:6<=k/\k<=11
 .cases G:inB o w.locks.length with
  |false=>
   rw[G]at M;have hv:allowedS w k o=false:=by
    have:k=6\/k=7\/k=8\/k=9\/k=10\/k=11:=by omega
    rcases this with rfl|rfl|rfl|rfl|rfl|rfl<;>simp[allowedS,G]
   repeat' (first|refine st ?_|(refine pf 86 ?_;refine pm (M) ?_)|refine sb λE D=>?_|refine s2 (λh=>?_) λh=>?_|fail)
   all_goals first
    |exact B _ hv
    |(exfalso;clear B;simp only[decide_eq_true_eq,decide_eq_false_iff_not]at *;omega)
  |true=>
   rw[G]at M;obtain⟨j,rfl⟩:=SZ (cG G);have hj:j<w.locks.length:=by have:=(av.1 G).2;omega
   have hx:=ao (f:=bC.enc) hj;have hr:rwAt w (j:Int)=w.locks[j].rw:=by unfold rwAt;rw[Td,Tz,mt hj,TC]
   generalize w.locks[j]=c at *;obtain⟨nm,r⟩:=c;unfold bC.enc at hx;dsimp only at *;have hv1:k=6\/k=7->allowedS w k (j:Int)=!r:=λh=>by rcases h with rfl|rfl<;>simp[allowedS,G,hr]
   have hv2:k=8\/k=9\/k=10\/k=11->allowedS w k (j:Int)=r:=λh=>by rcases h with rfl|rfl|rfl|rfl<;>simp[allowedS,G,hr]
   repeat' (first|refine st ?_|(refine pf 86 ?_;refine pm (M) ?_)|refine sb λE D=>?_|refine s2 (λh=>?_) λh=>?_|fail)
   all_goals simp only[decide_eq_true_eq,decide_eq_false_iff_not]at *
   all_goals first
    |exact B _ (hv1 Ua)
    |exact B _ (hv2 Ua)
    |(exfalso;clear B;omega)
 .have Z:k=3\/k=4->allowedS w k o=inB o w.cells.length:=λh=>by rcases h with rfl|rfl<;>rfl
  have Y:k=16\/k=17\/k=18\/k=19->allowedS w k o=inB o w.conds.length:=λh=>by rcases h with rfl|rfl|rfl|rfl<;>rfl
  have S:k=20\/k=21->allowedS w k o=inB o w.threads.length:=λh=>by rcases h with rfl|rfl<;>rfl
  have O:k=22\/k=23->allowedS w k o=inB o w.futures.length:=λh=>by rcases h with rfl|rfl<;>rfl
  have N:k=1\/k=2\/k=5\/k=12\/k=13\/k=14\/k=15->allowedS w k o=decide (o=-1):=λh=>by unfold allowedS;rw[if_pos h]
  repeat' (first|refine st ?_|(refine pf 86 ?_;refine pm (hc) ?_)|(refine pf 86 ?_;refine pm (hd) ?_)|(refine pf 86 ?_;refine pm (ht) ?_)|(refine pf 86 ?_;refine pm (hf) ?_)|refine sb λE D=>?_|refine s2 (λh=>?_) λh=>?_|fail)
  all_goals simp only[decide_eq_true_eq,decide_eq_false_iff_not]at *
  all_goals first
   |exact B _ (Z Ua)
   |exact B _ (Y Ua)
   |exact B _ (S Ua)
   |exact B _ (O Ua)
   |exact B _ (N Ua)
   |(exfalso;clear B;omega)
end Go.Proofs.YtbofdbhnbodbiaaGreatDoor.Am
