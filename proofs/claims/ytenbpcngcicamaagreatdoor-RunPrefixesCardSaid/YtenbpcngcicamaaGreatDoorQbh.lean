/- A part of the proof; the statement is proved in the last part. -/
import Derived.Test.YtenbpcngcicamaaGreatDoorQbg
set_option linter.unusedSimpArgs false
set_option linter.unusedVariables false
namespace Go.Proofs.YtenbpcngcicamaaGreatDoor.Am
section
set_option maxRecDepth 100000
set_option maxHeartbeats 1000000
theorem fx(i:Int)(n:Nat):az Tryz.prog 110 [.W6 i,.W6 n] (.bool (inB i n)):=by
 refine zE _ _ _ _ ?_;unfold ng;generalize hQ:(λ(u:AV) (K:SH)=>u=AV.bool (inB i n)∧K=[])=Q
 repeat' (first|refine st ?_|refine sb λnb_ hnb_=>?_|refine s2 (λh=>?_) λh=>?_|fail)
 all_goals
  subst hQ;refine⟨?_,rfl⟩;simp_all[inB]<;>omega
theorem lN(t:ThrD)(c:Int):az Tryz.prog 118 [.agg t.enc,.W6 c] (.bool (fR t c)):=by
 obtain⟨a,b,d⟩:=t;refine BM _ _ _ _ ?_;unfold pe ThrD.enc;generalize hQ:(λ(u:AV) (K:SH)=>u=AV.bool (fR ⟨a,b,d⟩ c)∧K=[])=Q
 repeat' (first|refine st ?_|refine sb λnb_ hnb_=>?_|refine s2 (λh=>?_) λh=>?_|fail)
 all_goals
  subst hQ;refine⟨?_,rfl⟩;simp_all[fR]
theorem NB(l:List Int)(n:Int)(hl:l.length<2^62):az Tryz.prog 141 [.lst (l.map aj),.W6 n] (.W6 (mG (λx=>decide (n=x)) l 0)):=by
 refine jd _ _ _ _ ?_;unfold eR
 repeat' (first|refine st ?_|refine sb λnb_ hnb_=>?_|refine s2 (λh=>?_) λh=>?_|fail)
 refine ez l (λx=>decide (n=x)) (λi=>[.lst (l.map aj),.W6 n,.W6 l.length,.W6 i]) hl rfl (λi h1 hd hi hno nx hn=>?_) (λi h1 hd hno nx=>?_)
 all_goals unfold ey
 ·have hx:=aw (f:=aj) h1
  repeat' (first|refine st ?_|refine sb λnb_ hnb_=>?_|refine s2 (λh=>?_) λh=>?_|fail)
  ·exact⟨by rw[ph h1 hno h],rfl⟩
  ·exact hn h
 ·repeat' (first|refine st ?_|refine sb λnb_ hnb_=>?_|refine s2 (λh=>?_) λh=>?_|fail)
  exact⟨by rw[gG hno],rfl⟩
theorem PA{l:List Int}{n:Int}:decide (mG (λx=>decide (n=x)) l 0≥0)=l.contains n:=by
  by_cases h:n∈l
  · have h1:l.contains n=true:=by simpa using h
    rw[h1];refine decide_eq_true ?_;have:∀(l:List Int) (k:Nat),n∈l→0≤mG (λx=>decide (n=x)) l k:=by
      intro l
      induction l with
      |nil=>intro k h;simp at h
      |cons x l ih=>
        intro k h;rw[mG];by_cases hx:n=x
        · rw[if_pos (decide_eq_true hx)];omega
        · rw[if_neg (by simpa using hx)]
          exact ih _ (by rcases Vn.1 h with h | h
                         · exact absurd h hx
                         · exact h)
    exact this l 0 h
  · have h1:l.contains n=false:=by simpa using h
    rw[h1,gG (λx hx=>decide_eq_false λ(e:n=x)=>h (e▸hx))];rfl
theorem Im(l:List Int)(n:Int)(hl:l.length<2^62):az Tryz.prog 128 [.lst (l.map aj),.W6 n] (.bool (l.contains n)):=by
 have hi:=NB l n hl;refine gW _ _ _ _ ?_;unfold dO
 repeat' (first|refine st ?_|(refine pf 141 ?_;refine pm (hi) ?_)|refine sb λnb_ hnb_=>?_|refine s2 (λh=>?_) λh=>?_|fail)
 exact⟨by rw[PA],rfl⟩
theorem PB(w:aM)(s:SyncD)(hc:w.conds.length<2^62):az Tryz.prog 109 [.agg w.enc,.agg s.enc] (.bool (fitsS w s)):=by
 refine De _ _ _ _ ?_;unfold sh;generalize hQ:(λ(u:AV) (K:SH)=>u=AV.bool (fitsS w s)∧K=[])=Q;have hq:∀b,fitsS w s=b→Q (.bool b) []:=λb hb=>by subst hQ;exact⟨by rw[hb],rfl⟩
 clear hQ;by_cases h0:s.locks.length=w.locks.length∧s.done.length=w.futures.length∧s.threads.length=w.threads.length
 ·have e1:decide ((s.locks.length:Int)≠w.locks.length)=false:=by simp[h0]
  have e2:decide ((s.done.length:Int)≠w.futures.length)=false:=by simp[h0]
  have e3:decide ((s.threads.length:Int)≠w.threads.length)=false:=by simp[h0]
  have hf:fitsS w s=w.conds.all λc=>inB c.mutex w.locks.length:=by simp[fitsS,h0]
  repeat' (first|refine st ?_|refine sb λnb_ hnb_=>?_|refine s2 (λh=>?_) λh=>?_|fail)
  refine ez w.conds (λc=>!inB c.mutex w.locks.length) (λi=>[.pptr [w.enc] 0 0,.lst (w.conds.map cS.enc),.W6 w.conds.length,.W6 i]) hc rfl (λi h1 hd hi hno nx hn=>?_) (λi h1 hd hno nx=>?_)
  all_goals unfold pb
  ·have hx:=aw (f:=cS.enc) h1;have hw:=fx w.conds[i].mutex w.locks.length;have hbad:inB w.conds[i].mutex w.locks.length=false→fitsS w s=false:=λh=>by rw[hf];exact Nx h1 h
   generalize w.conds[i]=c at *;obtain⟨nm,mx⟩:=c;unfold cS.enc at hx;dsimp only at *;cases hb:inB mx w.locks.length with
   |false=>
    rw[hb]at hw
    repeat' (first|refine st ?_|(refine pf 110 ?_;refine pm (hw) ?_)|refine sb λnb_ hnb_=>?_|refine s2 (λh=>?_) λh=>?_|fail)
    exact hq _ (hbad hb)
   |true=>
    rw[hb]at hw
    repeat' (first|refine st ?_|(refine pf 110 ?_;refine pm (hw) ?_)|refine sb λnb_ hnb_=>?_|refine s2 (λh=>?_) λh=>?_|fail)
    exact hn (by rw[hb];rfl)
  ·repeat' (first|refine st ?_|refine sb λnb_ hnb_=>?_|refine s2 (λh=>?_) λh=>?_|fail)
   exact hq _ (by rw[hf];exact VB.2 λc hc=>by simpa using hno c hc)
 ·have hb:fitsS w s=false:=by
   cases hf:fitsS w s with
   |false=>rfl
   |true=>have:=zG.1 hf;exact absurd ⟨this.locks,this.done,this.threads⟩ h0
  repeat' (first|refine st ?_|refine sb λnb_ hnb_=>?_|refine s2 (λh=>?_) λh=>?_|fail)
  all_goals first
   |exact hq _ hb
   |(exfalso;refine h0 ?_;clear hq hb h0;simp only[decide_eq_true_eq,decide_eq_false_iff_not,ne_eq,Decidable.not_not]at *;omega)
theorem JI(w:aM)(k o:Int):az Tryz.prog 111 [.agg w.enc,.W6 k,.W6 o] (.bool (allowedS w k o)):=by
 refine wX _ _ _ _ _ ?_;unfold lJ;generalize hQ:(λ(u:AV) (K:SH)=>u=AV.bool (allowedS w k o)∧K=[])=Q;have hq:∀b,allowedS w k o=b→Q (.bool b) []:=λb hb=>by subst hQ;exact⟨by rw[hb],rfl⟩
 clear hQ;have hc:=fx o w.cells.length;have hl:=fx o w.locks.length;have hd:=fx o w.conds.length;have ht:=fx o w.threads.length;have hf:=fx o w.futures.length;rcases kinds k with hk|hk
 ·repeat' (first|refine st ?_|refine sb λnb_ hnb_=>?_|refine s2 (λh=>?_) λh=>?_|fail)
  all_goals first
   |exact hq _ (Il hk)
   |(exfalso;clear hq;simp only[decide_eq_true_eq,decide_eq_false_iff_not]at *;omega)
 by_cases hlk:6≤k∧k≤11
 ·cases h1:inB o w.locks.length with
  |false=>
   rw[h1]at hl;have hv:allowedS w k o=false:=by
    have:k=6∨k=7∨k=8∨k=9∨k=10∨k=11:=by omega
    rcases this with rfl|rfl|rfl|rfl|rfl|rfl<;>simp[allowedS,h1]
   repeat' (first|refine st ?_|(refine pf 110 ?_;refine pm (hl) ?_)|refine sb λnb_ hnb_=>?_|refine s2 (λh=>?_) λh=>?_|fail)
   all_goals first
    |exact hq _ hv
    |(exfalso;clear hq;simp only[decide_eq_true_eq,decide_eq_false_iff_not]at *;omega)
  |true=>
   rw[h1]at hl;obtain⟨j,rfl⟩:=WH (fw h1);have hj:j<w.locks.length:=by have:=(ax.1 h1).2;omega
   have hx:=aw (f:=bZ.enc) hj;have hr:rwAt w (j:Int)=w.locks[j].rw:=by unfold rwAt;rw[Wy,WM,Vk hj,WY]
   generalize w.locks[j]=c at *;obtain⟨nm,r⟩:=c;unfold bZ.enc at hx;dsimp only at *;have hv1:k=6∨k=7→allowedS w k (j:Int)=!r:=λh=>by rcases h with rfl|rfl<;>simp[allowedS,h1,hr]
   have hv2:k=8∨k=9∨k=10∨k=11→allowedS w k (j:Int)=r:=λh=>by rcases h with rfl|rfl|rfl|rfl<;>simp[allowedS,h1,hr]
   repeat' (first|refine st ?_|(refine pf 110 ?_;refine pm (hl) ?_)|refine sb λnb_ hnb_=>?_|refine s2 (λh=>?_) λh=>?_|fail)
   all_goals simp only[decide_eq_true_eq,decide_eq_false_iff_not]at *
   all_goals first
    |exact hq _ (hv1 W1)
    |exact hq _ (hv2 W1)
    |(exfalso;clear hq;omega)
 ·have hv3:k=3∨k=4→allowedS w k o=inB o w.cells.length:=λh=>by rcases h with rfl|rfl<;>rfl
  have hv4:k=16∨k=17∨k=18∨k=19→allowedS w k o=inB o w.conds.length:=λh=>by rcases h with rfl|rfl|rfl|rfl<;>rfl
  have hv5:k=20∨k=21→allowedS w k o=inB o w.threads.length:=λh=>by rcases h with rfl|rfl<;>rfl
  have hv6:k=22∨k=23→allowedS w k o=inB o w.futures.length:=λh=>by rcases h with rfl|rfl<;>rfl
  have hv7:k=1∨k=2∨k=5∨k=12∨k=13∨k=14∨k=15→allowedS w k o=decide (o=-1):=λh=>by unfold allowedS;rw[if_pos h]
  repeat' (first|refine st ?_|(refine pf 110 ?_;refine pm (hc) ?_)|(refine pf 110 ?_;refine pm (hd) ?_)|(refine pf 110 ?_;refine pm (ht) ?_)|(refine pf 110 ?_;refine pm (hf) ?_)|refine sb λnb_ hnb_=>?_|refine s2 (λh=>?_) λh=>?_|fail)
  all_goals simp only[decide_eq_true_eq,decide_eq_false_iff_not]at *
  all_goals first
   |exact hq _ (hv3 W1)
   |exact hq _ (hv4 W1)
   |exact hq _ (hv5 W1)
   |exact hq _ (hv6 W1)
   |exact hq _ (hv7 W1)
   |(exfalso;clear hq;omega)
end
section
set_option maxRecDepth 100000
set_option linter.unusedSimpArgs false
theorem GB{KN:AV→SH→List Nat→Prop}{us:List W.WR}{i:Nat}{g:FuncId}{args:List AV}{L:SH}{R:AV→SH→Prop}(h:af Tryz.prog g args [] R)(hf:∀x∈us,W.free x ⟨i,[],[],[],true,[]⟩)(hk:∀v K,R v K→KN v (K++L) []):W.dcallM Tryz.prog us i g args L KN:=
 ⟨[],L,.refl _,hf,h.mono λu K hu=>hk u K hu⟩
def FL(Q:R)(x15 x16 x17:AV)(L14:SH):Prop:=
 W.faddr 0 x15 λx45=>W.store 1 x45 x17 L14 λL46=>aA 2 x15 L46 λx48=>wc (.fn 113 []) [x48] L46 (ii Q x15 x16)
def nq(q:Nat)(o:Option Nat)(j:Nat)(l:LockD):List AV:=if j=q then [.W6 l.owner,am o l.readers.length]else l.enc
def bT(q:Nat)(o:Option Nat)(ls:List LockD):List (List AV):=ls.zipIdx.map λp=>nq q o p.2 p.1
theorem cl(q:Nat)(o:Option Nat)(ls:List LockD):(bT q o ls).length=ls.length:=by simp[bT]
theorem fF(q:Nat)(o:Option Nat)(ls:List LockD)(j:Nat)(hj:j<ls.length):(bT q o ls)[j]? =some (nq q o j ls[j]):=by simp[bT,hj]
def Hm(q:Nat)(o:Option Nat)(ls:List LockD)(k:Nat):SH:=if q<k then ae o 1 ((ls.getD q default).readers.map aj)else []
def Di:List AV:=[.W6 0,.nils]
def j8(q:Nat)(o:Option Nat)(ls:List LockD)(k:Nat):List (List AV):=(bT q o ls).take k++List.replicate (ls.length-k) Di
theorem LQ(q:Nat)(o:Option Nat)(ls:List LockD)(k:Nat)(hk:k≤ls.length):(j8 q o ls k).length=ls.length:=by simp[j8,cl];omega
theorem LR(q:Nat)(o o':Option Nat)(ls:List LockD)(k:Nat)(h:k≤q∨o=o'):(bT q o ls).take k=(bT q o' ls).take k:=by
 rcases h with h|rfl
 ·apply Wr;intro j;rcases Vp j k with hj|hj
  ·rw[VT hj,VT hj];rcases Vp j ls.length with h1|h1
   ·rw[fF _ _ _ _ h1,fF _ _ _ _ h1];simp[nq,show j≠q by omega]
   ·rw[Vq (by rw[cl];exact h1),Vq (by rw[cl];exact h1)]
  ·rw[Vq (by simp;omega),Vq (by simp;omega)]
 ·rfl
theorem FM(q:Nat)(o o':Option Nat)(ls:List LockD)(k:Nat)(hk:k<ls.length)(h:k≤q∨o=o'):(j8 q o ls k).set k (nq q o' k ls[k])=j8 q o' ls (k+1):=by
 unfold j8;have hl:((bT q o ls).take k).length=k:=by simp[cl];omega
 rw[List.set_append_right _ _ W1,hl,Nat.sub_self];obtain⟨m,hm⟩:∃m,ls.length-k=m+1:=⟨ls.length-k-1,W1⟩;rw[hm,List.replicate_succ,List.set_cons_zero,LR q o o' ls k h];have hk2:k<(bT q o' ls).length:=by rw[cl];exact hk
 rw[Vw hk2,show ls.length-(k+1)=m by omega];have:(bT q o' ls)[k]=nq q o' k ls[k]:=by have:=fF q o' ls k hk;rw[Vk hk2]at this;exact WT this
 rw[this];simp
theorem NC(q:Nat)(o:Option Nat)(ls:List LockD)(k:Nat)(hk:k<ls.length):(j8 q o ls k)[k]? =some Di:=by
 unfold j8;have hl:((bT q o ls).take k).length=k:=by simp[cl];omega
 rw[Vt W1,hl,Nat.sub_self];obtain⟨m,hm⟩:∃m,ls.length-k=m+1:=⟨ls.length-k-1,W1⟩;rw[hm];rfl
structure ND(s:SyncD)(q:Nat)(v:AV)(L:SH):Prop where
 ex:∃(bl:Nat) (o od ot:Option Nat),v=.agg [.sl bl 0 s.locks.length,.W6 s.tx,aO od s.done.length,aO ot s.threads.length]∧
  L=(bl,⟨2,bT q o s.locks⟩)::(Hm q o s.locks s.locks.length++(ae od 1 (s.done.map aT)++ae ot 3 (s.threads.map ThrD.enc)))∧(od=none→s.done=[])∧(ot=none→s.threads=[])∧(o=none→q<s.locks.length→(s.locks.getD q default).readers=[])
set_option maxHeartbeats 4000000 in
theorem JK(s:SyncD)(q b1 b2 bl:Nat)(h1:s.locks.length<2^40)(hrd:∀l∈s.locks,l.readers.length<2^40)(Q:AV→SH→Prop)
  (hend:∀o:Option Nat,(o=none→q<s.locks.length→(s.locks.getD q default).readers=[])→FL Q (.ptr b1 0 0) (.ptr b2 0 0) (.sl bl 0 s.locks.length) ((bl,⟨2,bT q o s.locks⟩)::(b2,⟨4,[[.nils,.W6 0,.nils,.nils]]⟩)::(b1,⟨4,[s.enc]⟩)::Hm q o s.locks s.locks.length)) :
  W.loop (ij Q) [.ptr b1 0 0,.ptr b2 0 0,.sl bl 0 s.locks.length,.lst (s.locks.map LockD.enc),.W6 s.locks.length,.W6 (0:Nat)] [(bl,⟨2,List.replicate s.locks.length Di⟩),(b2,⟨4,[[.nils,.W6 0,.nils,.nils]]⟩),(b1,⟨4,[s.enc]⟩)]:=by
 refine cb s.locks.length (λk (o:Option Nat)=>([.ptr b1 0 0,.ptr b2 0 0,.sl bl 0 s.locks.length,.lst (s.locks.map LockD.enc),.W6 s.locks.length,.W6 k],(bl,⟨2,j8 q o s.locks k⟩)::(b2,⟨4,[[.nils,.W6 0,.nils,.nils]]⟩)::(b1,⟨4,[s.enc]⟩)::Hm q o s.locks k)) (λk o=>o=none→q<k→(s.locks.getD q default).readers=[]) none (λ_ h=>by omega) (gC rfl (by simp[j8,Hm])) ?_;intro k o hk ho;dsimp only;unfold ij;rcases Nat.lt_or_ge k s.locks.length with g1|g1
 ·have hd:=bI g1;have hx:=aw (f:=LockD.enc) g1;have hz:=NC q o s.locks k g1;have hkl:k<(j8 q o s.locks k).length:=by rw[LQ _ _ _ _ hk];exact g1
  have hrk:(s.locks[k]).readers.length*8≤140737488355328:=by have:=hrd _ (VF g1);omega
  repeat' (first|refine st ?_|refine sb λnb_ hnb_=>?_|fail)
  refine GB (FH _ hrk) (by simp[rm,rz,W.free,aa]) ?_;rintro v K ⟨o',rfl,rfl,ho'⟩;unfold m9;have fin:∀(L:SH),L=ae o' 1 ((s.locks[k]).readers.map aj)++((bl,⟨2,(j8 q o s.locks k).set k [.W6 (s.locks[k]).owner,am o' (s.locks[k]).readers.length]⟩)::(b2,⟨4,[[.nils,.W6 0,.nils,.nils]]⟩)::(b1,⟨4,[s.enc]⟩)::Hm q o s.locks k)→
    ∃j o2,k<j∧j≤s.locks.length∧(o2=none→q<j→(s.locks.getD q default).readers=[])∧aG [.ptr b1 0 0,.ptr b2 0 0,.sl bl 0 s.locks.length,.lst (s.locks.map LockD.enc),.W6 s.locks.length,.W6 (IntKind.i64.wrap ((k:Int)+1))] L
     [.ptr b1 0 0,.ptr b2 0 0,.sl bl 0 s.locks.length,.lst (s.locks.map LockD.enc),.W6 s.locks.length,.W6 j] ((bl,⟨2,j8 q o2 s.locks j⟩)::(b2,⟨4,[[.nils,.W6 0,.nils,.nils]]⟩)::(b1,⟨4,[s.enc]⟩)::Hm q o2 s.locks j):=by
   intro L hL;subst hL;rw[aD g1 W1];by_cases hkq:k=q
   ·subst hkq;refine⟨k+1,o',W1,W1,λe _=>by simpa[List.getD,g1]using ho' e,?_⟩;rw[←FM k o o' s.locks k g1 (.inl (Vl _))];have e1:Hm k o s.locks k=[]:=by simp[Hm]
    have e2:Hm k o' s.locks (k+1)=ae o' 1 ((s.locks[k]).readers.map aj):=by simp[Hm,List.getD,g1]
    have e3:nq k o' k s.locks[k]=[.W6 (s.locks[k]).owner,am o' (s.locks[k]).readers.length]:=by simp[nq]
    rw[e1,e2,e3];exact aG.forget (K:=[]) VQ
   ·refine⟨k+1,o,W1,W1,λe hq=>ho e W1,?_⟩;have e1:Hm q o s.locks (k+1)=Hm q o s.locks k:=by
     by_cases hq:q<k
     ·simp[Hm,hq,show q<k+1 by omega]
     ·simp[Hm,hq,show¬q<k+1 by omega]
    rw[e1,←FM q o o s.locks k g1 (.inr rfl)];have e3:nq q o k s.locks[k]=[.W6 (s.locks[k]).owner,.lst ((s.locks[k]).readers.map aj)]:=by simp[nq,hkq,LockD.enc]
    rw[e3];refine aG.row (K:=ae o' 1 ((s.locks[k]).readers.map aj)) (.refl _) W4 ?_;intro j r r' q1 q2;rw[Wf]at q1 q2;by_cases hj:k=j
    ·rw[if_pos hj]at q1 q2;rw[if_pos W1]at q1 q2;cases q1;cases q2;refine .cons (.refl _) (.cons ?_ .nil);exact Fz.slot (f:=aj) rfl (λe=>by rw[ho' e];rfl) W5 (λy _=>rfl) (λy _ q a a2 h1 h2=>by rw[h1]at h2;cases h2;exact .refl _)
    ·rw[if_neg hj]at q1 q2;rw[q1]at q2;cases q2;exact i9.refl _ _
  cases o' with
  |none=>
   dsimp only[ae,am,List.nil_append]at fin ⊢
   repeat' (first|refine st ?_|refine sb λnb_ hnb_=>?_|fail)
   exact fin _ rfl
  |some b'=>
   dsimp only[ae,am,List.cons_append,List.nil_append]at fin ⊢
   repeat' (first|refine st ?_|refine sb λnb_ hnb_=>?_|fail)
   exact fin _ rfl
 ·have hd:=bO g1;have hk0:k=s.locks.length:=by omega
  subst hk0;have:=hend o ho;rw[show j8 q o s.locks s.locks.length=bT q o s.locks by simp[j8,cl,V8]];refine Nr ?_;refine lH (MZ ?_);refine Rn (H4 hd ?_);exact this
theorem FN{s:SyncD}(hs:s.threads.length<2^40):s.threads.length*24≤140737488355328:=by omega
set_option maxHeartbeats 4000000 in
theorem In(s:SyncD)(q:Nat)(h1:s.locks.length<2^40)(h2:s.done.length≤140737488351232)(h3:s.threads.length<2^40)(hrd:∀l∈s.locks,l.readers.length<2^40):
  af Tryz.prog 85 [.agg s.enc] [] (ND s q):=by
 refine af.fz (BO _ _ _ ?_);unfold pg;generalize hQ:(λ(v:AV) (L:SH)=>∃v2 L2,aG [v] L [v2] L2∧ND s q v2 L2)=Q
 repeat' (first|refine st ?_|refine sb λnb_ hnb_=>?_|fail)
 rename_i b1 _ b2 _;revert nb_;intro bl _;refine JK s q b1 b2 bl h1 hrd Q ?_;intro o ho;unfold FL
 repeat' (first|refine st ?_|refine sb λnb_ hnb_=>?_|fail)
 refine o8 (LP _ W1) ?_;rintro v K ⟨od,rfl,rfl,hod⟩;unfold ii;have fin:∀(v:AV) (L:SH) (ot:Option Nat),(ot=none→s.threads=[])→v=.agg [.sl bl 0 s.locks.length,.W6 s.tx,aO od s.done.length,aO ot s.threads.length]→
   (∃x y:Blk,L=(bl,⟨2,bT q o s.locks⟩)::(b2,x)::(b1,y)::(Hm q o s.locks s.locks.length++ae od 1 (s.done.map aT)++ae ot 3 (s.threads.map ThrD.enc)))→Q v L:=by
  rintro v L ot hot rfl ⟨x,y,rfl⟩;subst hQ;refine⟨_,_,aG.forget (K:=[(b2,x),(b1,y)]) (R:=(bl,⟨2,bT q o s.locks⟩)::(Hm q o s.locks s.locks.length++ae od 1 (s.done.map aT)++ae ot 3 (s.threads.map ThrD.enc))) ?_,⟨bl,o,od,ot,rfl,by rw[VZ],hod,hot,ho⟩⟩;exact(List.Perm.swap _ _ _).trans ((List.Perm.swap _ _ _).cons _)
 cases od with
 |none=>
  dsimp only[aO]at fin ⊢
  repeat' (first|refine st ?_|refine sb λnb_ hnb_=>?_|fail)
  refine o8 (FI _ (FN h3)) ?_;rintro v K ⟨ot,rfl,rfl,hot⟩;unfold ig;cases ot with
  |none=>
   dsimp only[aO]at fin ⊢
   repeat' (first|refine st ?_|refine sb λnb_ hnb_=>?_|fail)
   exact fin _ _ none hot rfl ⟨_,_,rfl⟩
  |some bt=>
   dsimp only[aO]at fin ⊢
   repeat' (first|refine st ?_|refine sb λnb_ hnb_=>?_|fail)
   exact fin _ _ (some bt) hot rfl ⟨_,_,rfl⟩
 |some bd=>
  dsimp only[aO]at fin ⊢
  repeat' (first|refine st ?_|refine sb λnb_ hnb_=>?_|fail)
  refine o8 (FI _ (FN h3)) ?_;rintro v K ⟨ot,rfl,rfl,hot⟩;unfold ig;cases ot with
  |none=>
   dsimp only[aO]at fin ⊢
   repeat' (first|refine st ?_|refine sb λnb_ hnb_=>?_|fail)
   exact fin _ _ none hot rfl ⟨_,_,rfl⟩
  |some bt=>
   dsimp only[aO]at fin ⊢
   repeat' (first|refine st ?_|refine sb λnb_ hnb_=>?_|fail)
   exact fin _ _ (some bt) hot rfl ⟨_,_,rfl⟩
end
section
set_option maxRecDepth 100000
set_option linter.unusedSimpArgs false
def qm(T:List ThrD)(c:Int)(i:Nat):Bool:=fR (T.getD i default) c
def cf(T:List ThrD)(c:Int)(n:Nat):List Nat:=(List.range n).filter λi=>qm T c i
def bn(l:List Nat)(wake:Int):Int:=match l with
 |[]=>-1
 |u::l=>if(u::l).any (λx=>decide ((x:Int)=wake))then wake else u
def ea(T:List ThrD)(c wake:Int):Int:=bn (cf T c T.length) wake
def Io(T:List ThrD)(i:Nat)(st:Int):List ThrD:=T.set i {T.getD i default with status:=st}
def kN(T:List ThrD)(c wake:Int):List ThrD:=if 0≤ea T c wake then Io T (ea T c wake).toNat 4 else T
theorem JL{l:List Nat}{wake:Int}(h:0≤bn l wake):(bn l wake).toNat∈l:=by
 cases l with
 |nil=>simp[bn]at h
 |cons u l=>
  simp only[bn]at h ⊢;split
  ·rename_i ha;obtain⟨x,hx,he⟩:=WZ.1 ha;have:=of_decide_eq_true he;rw[←this];simpa using hx
  ·simp
theorem JM(l:List Nat)(wake:Int):bn l wake=-1∨0≤bn l wake:=by
 cases l with
 |nil=>simp[bn]
 |cons u l=>
  right;simp only[bn];split
  ·rename_i ha;obtain⟨x,hx,he⟩:=WZ.1 ha;have:=of_decide_eq_true he;omega
  ·omega
theorem Ip(l:List Nat)(i:Nat)(wake:Int):bn (l++[i]) wake=if bn l wake<0∨(i:Int)=wake then(i:Int)else bn l wake:=by
 cases l with
 |nil=>simp only[bn,Wm];split<;>simp_all
 |cons u l=>
  have hlow:=JM (u::l) wake;simp only[Ww];rw[bn,←Ww,List.any_append];by_cases hw:(i:Int)=wake
  ·simp[hw]
  ·by_cases ha:(u::l).any (λx=>decide ((x:Int)=wake))=true
   ·have hc:bn (u::l) wake=wake:=by simp only[bn];rw[if_pos ha]
    rw[hc]at hlow ⊢;obtain⟨x,hx,he⟩:=WZ.1 ha;have:=of_decide_eq_true he;rw[ha,Bool.true_or,if_pos rfl,if_neg W1]
   ·have hc:bn (u::l) wake=u:=by simp only[bn];rw[if_neg ha]
    rw[hc,if_neg (by simp only[WS,not_or];exact⟨ha,by simp[hw]⟩),if_neg W1]
theorem w6(T:List ThrD)(c:Int)(n:Nat):cf T c (n+1)=cf T c n++(if qm T c n then [n]else []):=by simp only[cf,List.range_succ,List.filter_append,List.filter_cons,List.filter_nil]
theorem JN{T:List ThrD}{c:Int}{n x:Nat}(h:x∈cf T c n):x<n:=by simp only[cf,WI,Wi]at h;exact h.1
theorem PC(T:List ThrD)(i:Nat)(st:Int)(hi:i<T.length):(T.map ThrD.enc).set i ((ThrD.enc T[i]).set 0 (.W6 st))=(Io T i st).map ThrD.enc:=by unfold Io;rw[Wh];congr 1;simp[List.getD,hi,ThrD.enc]
section
variable (a b d:AV) (bt:Nat)
theorem LS(T:List ThrD)(c wake:Int)(hT:T.length<2^40)(hbox:([a,b,d,.sl bt 0 T.length]:List AV).all AV.one=true):
  af Tryz.prog 90 [.agg [a,b,d,.sl bt 0 T.length],.W6 c,.W6 wake] [(bt,⟨3,T.map ThrD.enc⟩)] λv L=>v=.W6 (ea T c wake)∧L=[(bt,⟨3,(kN T c wake).map ThrD.enc⟩)]:=by
 refine zD _ _ _ _ _ ?_;unfold na;generalize hQ:(λ(v:AV) (L:SH)=>v=AV.W6 (ea T c wake)∧L=[(bt,(⟨3,(kN T c wake).map ThrD.enc⟩:Blk))])=Q
 repeat' (first|refine Gy ?_ rfl hbox (by exact Nat.succ_pos _)|refine st ?_|refine sb λnb_ hnb_=>?_|fail)
 refine C3 T.length (λi=>([.W6 c,.W6 wake,.pptr [[a,b,d,.sl bt 0 T.length]] 0 0,.W6 (bn (cf T c i) wake),.sl bt 0 T.length,.W6 T.length,.W6 i],[(bt,⟨3,T.map ThrD.enc⟩)])) (λ_=>True) trivial (by simp[cf,bn]) rfl ?_;intro i hi _;dsimp only;unfold lK;rcases Nat.lt_or_ge i T.length with h1|h1
 ·have hd:=bI h1;have hx:=aw (f:=ThrD.enc) h1;have hsn:=Ip (cf T c i) i wake;have hws:=w6 T c i;have hwa:qm T c i=fR T[i] c:=by simp[qm,h1]
  have goal:∀ch:Int,ch=bn (cf T c (i+1)) wake→∃j,i<j∧j≤T.length∧True∧aG [.W6 c,.W6 wake,.pptr [[a,b,d,.sl bt 0 T.length]] 0 0,.W6 ch,.sl bt 0 T.length,.W6 T.length,.W6 (IntKind.i64.wrap ((i:Int)+1))] [(bt,⟨3,T.map ThrD.enc⟩)]
    [.W6 c,.W6 wake,.pptr [[a,b,d,.sl bt 0 T.length]] 0 0,.W6 (bn (cf T c j) wake),.sl bt 0 T.length,.W6 T.length,.W6 j] [(bt,⟨3,T.map ThrD.enc⟩)]:=λch hch=>⟨i+1,W1,W1,trivial,gC (by rw[aD h1 W1,hch]) rfl⟩
  cases hw:fR T[i] c with
  |false=>
   rw[hw]at hwa
   repeat' (first|refine st ?_|(refine pf 118 ?_;refine pm (lN _ _) ?_)|refine sb λnb_ hnb_=>?_|refine s2 (λh=>?_) λh=>?_|fail)
   exact goal _ (by rw[hws,hwa];simp)
  |true=>
   rw[hw]at hwa;have hn:bn (cf T c (i+1)) wake=if bn (cf T c i) wake<0∨(i:Int)=wake then(i:Int)else bn (cf T c i) wake:=by rw[hws,hwa,if_pos rfl,hsn]
   by_cases g1:bn (cf T c i) wake<0
   ·have e1:decide (bn (cf T c i) wake<0)=true:=decide_eq_true g1
    repeat' (first|refine st ?_|(refine pf 118 ?_;refine pm (lN _ _) ?_)|refine sb λnb_ hnb_=>?_|refine s2 (λh=>?_) λh=>?_|fail)
    exact goal _ (by rw[hn,if_pos (.inl g1)])
   ·have e1:decide (bn (cf T c i) wake<0)=false:=decide_eq_false g1;by_cases g2:(i:Int)=wake
    ·have e2:decide ((i:Int)=wake)=true:=decide_eq_true g2
     repeat' (first|refine st ?_|(refine pf 118 ?_;refine pm (lN _ _) ?_)|refine sb λnb_ hnb_=>?_|refine s2 (λh=>?_) λh=>?_|fail)
     exact goal _ (by rw[hn,if_pos (.inr g2)])
    ·have e2:decide ((i:Int)=wake)=false:=decide_eq_false g2
     repeat' (first|refine st ?_|(refine pf 118 ?_;refine pm (lN _ _) ?_)|refine sb λnb_ hnb_=>?_|refine s2 (λh=>?_) λh=>?_|fail)
     exact goal _ (by rw[hn,if_neg W1])
 ·have hd:=bO h1;have hi0:i=T.length:=by omega
  subst hi0;have hns:bn (cf T c T.length) wake=ea T c wake:=rfl;rw[hns];by_cases g1:0≤ea T c wake
  ·have e1:decide (0≤ea T c wake)=true:=decide_eq_true g1;have hlt:(ea T c wake).toNat<T.length:=JN (JL g1);have hx:=aw (f:=ThrD.enc) hlt;have hidx:ea T c wake=((ea T c wake).toNat:Nat):=(Int.toNat_of_nonneg g1).symm;have hst:=PC T _ 4 hlt;have hwk:kN T c wake=Io T (ea T c wake).toNat 4:=by rw[kN,if_pos g1]
   generalize hk:(ea T c wake).toNat=k at *;rw[hidx]at e1 hQ ⊢
   repeat' (first|refine st ?_|refine sb λnb_ hnb_=>?_|refine s2 (λh=>?_) λh=>?_|fail)
   subst hQ;exact⟨rfl,by rw[hwk,←hst]⟩
  ·have e1:decide (0≤ea T c wake)=false:=decide_eq_false g1;have hwk:kN T c wake=T:=by rw[kN,if_neg g1]
   repeat' (first|refine st ?_|refine sb λnb_ hnb_=>?_|refine s2 (λh=>?_) λh=>?_|fail)
   subst hQ;exact⟨rfl,by rw[hwk]⟩
def dw(T:List ThrD)(c:Int)(n:Nat):List ThrD:=T.zipIdx.map λp=>if decide (p.2<n)&&fR p.1 c then {p.1 with status:=4} else p.1
theorem gH(T:List ThrD)(c:Int)(n i:Nat)(hi:i<T.length):(dw T c n)[i]? =some (if decide (i<n)&&fR T[i] c then {T[i]with status:=4} else T[i]):=by simp[dw,hi]
theorem eB(T:List ThrD)(c:Int)(n:Nat):(dw T c n).length=T.length:=by simp[dw]
theorem GC(T:List ThrD)(c:Int):dw T c 0=T:=by
 apply Wr;intro i;rcases Vp i T.length with hi|hi
 ·rw[gH T c 0 i hi];simp[hi]
 ·rw[Vq (by rw[eB];exact hi),Vq hi]
theorem GD(T:List ThrD)(c:Int)(n:Nat)(hn:n<T.length):dw T c (n+1)=if fR T[n] c then(dw T c n).set n {T[n]with status:=4} else dw T c n:=by
 apply Wr;intro i;have key:∀hi:i<T.length,(if fR T[n] c then(dw T c n).set n {T[n]with status:=4} else dw T c n)[i]? =some (if decide (i<n+1)&&fR T[i] c then {T[i]with status:=4} else T[i]):=λhi=>by
  by_cases hin:i=n
  ·subst hin;cases hw:fR T[i] c with
   |true=>simp[hw,eB,hi]
   |false=>simp[hw,gH T c i i hi]
  ·have h1:decide (i<n+1)=decide (i<n):=by apply decide_eq_decide.2;omega
   rw[h1];split
   ·rw[List.getElem?_set_ne W1];exact gH T c n i hi
   ·exact gH T c n i hi
 rcases Vp i T.length with hi|hi
 ·rw[key hi,gH T c (n+1) i hi]
 ·rw[Vq (by rw[eB];exact hi),Vq];split<;>simp[eB,hi]
theorem GE(T:List ThrD)(c:Int)(hT:T.length<2^40)(hbox:([a,b,d,.sl bt 0 T.length]:List AV).all AV.one=true):
  af Tryz.prog 91 [.agg [a,b,d,.sl bt 0 T.length],.W6 c] [(bt,⟨3,T.map ThrD.enc⟩)] λv L=>v=.W6 ((cf T c T.length).length:Nat)∧L=[(bt,⟨3,(dw T c T.length).map ThrD.enc⟩)]:=by
 refine qw _ _ _ _ ?_;unfold jc;generalize hQ:(λ(v:AV) (L:SH)=>v=AV.W6 ((cf T c T.length).length:Nat)∧L=[(bt,(⟨3,(dw T c T.length).map ThrD.enc⟩:Blk))])=Q
 repeat' (first|refine Gy ?_ rfl hbox (by exact Nat.succ_pos _)|refine st ?_|refine sb λnb_ hnb_=>?_|fail)
 refine C3 T.length (λi=>([.W6 c,.pptr [[a,b,d,.sl bt 0 T.length]] 0 0,.W6 ((cf T c i).length:Nat),.sl bt 0 T.length,.W6 T.length,.W6 i],[(bt,⟨3,(dw T c i).map ThrD.enc⟩)])) (λ_=>True) trivial (by simp[cf]) (by rw[GC]) ?_;intro i hi _;dsimp only;unfold iw;rcases Nat.lt_or_ge i T.length with h1|h1
 ·have hd:=bI h1;have hi2:i<(dw T c i).length:=by rw[eB];exact h1
  have hti:(dw T c i)[i]=T[i]:=by have:=gH T c i i h1;rw[Vk hi2]at this;simpa using this
  have hx:=aw (f:=ThrD.enc) hi2;rw[hti]at hx;have hws:=w6 T c i;have hwa:qm T c i=fR T[i] c:=by simp[qm,h1]
  have hsu:=GD T c i h1;have hwl:(cf T c i).length≤i:=VD (WO _ _) W4;cases hw:fR T[i] c with
  |false=>
   rw[hw]at hwa hsu
   repeat' (first|refine st ?_|(refine pf 118 ?_;refine pm (lN _ _) ?_)|refine sb λnb_ hnb_=>?_|refine s2 (λh=>?_) λh=>?_|fail)
   refine⟨i+1,W1,W1,trivial,gC (by rw[aD h1 W1,hws,hwa];simp[av]) (by rw[hsu];simp)⟩
  |true=>
   rw[hw]at hwa hsu
   repeat' (first|refine st ?_|(refine pf 118 ?_;refine pm (lN _ _) ?_)|refine sb λnb_ hnb_=>?_|refine s2 (λh=>?_) λh=>?_|fail)
   refine⟨i+1,W1,W1,trivial,gC (by rw[aD h1 W1,hws,hwa,aD (Nat.lt_of_le_of_lt hwl h1) W1];simp[av]) ?_⟩;rw[hsu,if_pos rfl,Wh];simp[ThrD.enc]
 ·have hd:=bO h1;have hi0:i=T.length:=by omega
  subst hi0
  repeat' (first|refine st ?_|refine sb λnb_ hnb_=>?_|refine s2 (λh=>?_) λh=>?_|fail)
  subst hQ;exact⟨rfl,rfl⟩
end
end
section
set_option maxRecDepth 100000
set_option linter.unusedSimpArgs false
def AZ(P:Program)(g:FuncId)(cs:List AV)(p:Int→Bool):Prop:=∀x:Int,az P g (.W6 x::cs) (.bool (p x))
theorem AZ.call{P:Program}{g:FuncId}{cs:List AV}{p:Int→Bool}(h:AZ P g cs p){x:Int}{L:SH}{KL:AV→SH→Prop}(hk:KL (.bool (p x)) L):W.call P (.fn g cs) [.W6 x] L KL:=⟨(h x).call hk⟩
def zH(p:Int→Bool)(l:List Int):Int:=if l.any p then(l.findIdx p:Int)else -1
theorem LT{p:Int→Bool}{l:List Int}{i:Nat}(hi:i<l.length)(hno:(l.take i).any p=false)(hp:p l[i]=true):zH p l=i:=by
 have h1:l.any p=true:=WZ.2 ⟨l[i],VF hi,hp⟩;have h2:l.findIdx p=i:=by rw[List.findIdx_eq hi];refine⟨hp,λj hj=>?_⟩;have:=List.any_eq_false.1 hno l[j] (List.mem_take_iff_getElem.2 ⟨j,W1,rfl⟩);simpa using this
 rw[zH,if_pos h1,h2]
theorem GF(g:FuncId)(cs:List AV)(p:Int→Bool)(hp:AZ Tryz.prog g cs p)(b:Nat)(xs:List Int)(hl:xs.length<2^62):af Tryz.prog 117 [.sl b 0 xs.length,.fn g cs] [(b,⟨1,xs.map aj⟩)] λv L=>v=.W6 (zH p xs)∧L=[(b,⟨1,xs.map aj⟩)]:=by
 refine gF _ _ _ _ ?_;unfold dG;generalize hQ:(λ(v:AV) (L:SH)=>v=AV.W6 (zH p xs)∧L=[(b,(⟨1,xs.map aj⟩:Blk))])=Q
 repeat' (first|refine st ?_|refine sb λnb_ hnb_=>?_|fail)
 refine C3 xs.length (λi=>([.sl b 0 xs.length,.fn g cs,.W6 xs.length,.W6 i],[(b,⟨1,xs.map aj⟩)])) (λi=>(xs.take i).any p=false) W4 rfl rfl ?_;intro i hi hno;dsimp only;unfold dB;rcases Nat.lt_or_ge i xs.length with h1|h1
 ·have hx:=aw (f:=aj) h1;have hd:=bI h1
  repeat' (first|refine o7 (AZ.call hp ?_)|refine st ?_|refine sb λnb_ hnb_=>?_|refine s2 (λh=>?_) λh=>?_|fail)
  ·subst hQ;exact⟨by rw[LT h1 hno h],rfl⟩
  ·refine⟨i+1,W1,W1,?_,gC (by rw[aD h1 hl]<;>rfl) rfl⟩;rw[Vw h1,List.any_append,hno];simpa using h
 ·have hd:=bO h1
  repeat' (first|refine st ?_|refine sb λnb_ hnb_=>?_|refine s2 (λh=>?_) λh=>?_|fail)
  subst hQ;rw[V8 h1]at hno;exact⟨by rw[zH,if_neg (by simp[hno])],rfl⟩
theorem FO{k:IntKind}{m d:Nat}:cq (some (.int k (m:Int))) d=some m:=by simp[cq,jX]
theorem JO{p:Int→Bool}{l:List Int}(h:zH p l≠-1):∃i:Nat,zH p l=i∧i<l.length∧(l.take (i+1)).filter (λx=>!p x)=l.take i:=by
 unfold zH at h ⊢;split at h
 ·rename_i ha;rw[if_pos ha];refine⟨l.findIdx p,rfl,List.findIdx_lt_length.2 (WZ.1 ha),?_⟩;have hlt:=List.findIdx_lt_length.2 (WZ.1 ha);rw[Vw hlt,List.filter_append];have h1:p l[l.findIdx p]=true:=List.findIdx_getElem;rw[List.filter_cons_of_neg (by simp[h1]),List.filter_nil,V2,List.filter_eq_self];intro x hx;obtain⟨j,hj,rfl⟩:=List.mem_take_iff_getElem.1 hx;have:=List.not_of_lt_findIdx (xs:=l) (p:=p) (i:=j) W1;simpa using this
 ·exact absurd rfl h
theorem FP{p:Int→Bool}{l:List Int}(h:zH p l=-1):l.filter (λx=>!p x)=l:=by
 unfold zH at h;split at h
 ·omega
 ·rename_i ha;rw[List.filter_eq_self];intro x hx;simp only[Bool.not_eq_true,List.any_eq_false]at ha;simpa using ha x hx
theorem EY(g:FuncId)(cs:List AV)(p:Int→Bool)(hp:AZ Tryz.prog g cs p)(b:Nat)(xs:List Int)(hl:xs.length<2^61):af Tryz.prog 88 [.sl b 0 xs.length,.fn g cs] [(b,⟨1,xs.map aj⟩)] λv L=>∃R:List Int,v=.sl b 0 (xs.filter λx=>!p x).length∧L=[(b,⟨1,R.map aj⟩)]∧R.take (xs.filter λx=>!p x).length=(xs.filter λx=>!p x)∧R.length=xs.length:=by
 refine gk _ _ _ _ ?_;unfold dC;refine o7 (JE (AY (GF g cs p hp b xs W1) ?_));rintro v L ⟨rfl,rfl⟩;unfold dh;generalize hQ:(λ(v:AV) (L:SH)=>∃R:List Int,v=AV.sl b 0 (xs.filter λx=>!p x).length∧L=[(b,(⟨1,R.map aj⟩:Blk))]∧R.take (xs.filter λx=>!p x).length=(xs.filter λx=>!p x)∧R.length=xs.length)=Q;by_cases hm:zH p xs=-1
 ·have hd:decide (zH p xs=-1)=true:=decide_eq_true hm
  repeat' (first|refine st ?_|refine sb λnb_ hnb_=>?_|fail)
  subst hQ;refine⟨xs,?_,rfl,?_,rfl⟩
  ·rw[FP hm]
  ·rw[FP hm];simp
 ·have hd:decide (zH p xs=-1)=false:=decide_eq_false hm;obtain⟨i0,hi0,hlt,hfil⟩:=JO hm;rw[hi0]at hd ⊢
  repeat' (first|refine st ?_|refine sb λnb_ hnb_=>?_|fail)
  rw[aD hlt W1];have hc:∀j,((xs.take j).filter λx=>!p x).length≤j:=λj=>VD (WO _ _) (by simp;omega)
  refine cb (xs.length-(i0+1)) (λk (R:List Int)=>([.sl b 0 xs.length,.fn g cs,.W6 (((xs.take (i0+1+k)).filter λx=>!p x).length:Nat),.W6 (i0+1+k:Nat)],[(b,⟨1,R.map aj⟩)]))
   (λk R=>R.length=xs.length∧R.take ((xs.take (i0+1+k)).filter λx=>!p x).length=((xs.take (i0+1+k)).filter λx=>!p x)∧R.drop (i0+1+k)=xs.drop (i0+1+k)) xs ⟨rfl,by rw[WJ,hfil];simp,rfl⟩ (gC (by rw[WJ,hfil,VO,Wb W1]) rfl) ?_
  rintro k R hk ⟨r1,r2,r3⟩;dsimp only;unfold dg;have hcj:=hc (i0+1+k);generalize hj:i0+1+k=j at r2 r3 hcj ⊢;rcases Nat.lt_or_ge j xs.length with h1|h1
  ·have hd2:=bI h1;have h1':j<R.length:=by omega
   have hxj:R[j]=xs[j]:=by have h0:=congrArg (λl=>l[0]?) r3;simp only[Wc,WJ]at h0;rw[Vk h1',Vk h1]at h0;exact WT h0
   have hx:=aw (f:=aj) h1';rw[hxj]at hx;have htk:(xs.take (j+1)).filter (λx=>!p x)=(xs.take j).filter (λx=>!p x)++([xs[j]].filter λx=>!p x):=by rw[Vw h1,List.filter_append]
   have hm1:((xs.take j).filter λx=>!p x).length<xs.length:=by omega
   have hm2:((xs.take j).filter λx=>!p x).length<R.length:=by omega
   have hxm:=aw (f:=aj) hm2;cases hpx:p xs[j]with
   |true=>
    have hnp:(!p xs[j])=false:=by simp[hpx]
    repeat' (first|refine o7 (AZ.call hp ?_)|refine st ?_|refine sb λnb_ hnb_=>?_|refine s2 (λh=>?_) λh=>?_|fail)
    refine⟨k+1,R,W1,W1,⟨r1,?_,?_⟩,gC ?_ rfl⟩
    ·rw[show i0+1+(k+1)=j+1 by omega,htk];simpa[hpx]using r2
    ·rw[show i0+1+(k+1)=j+1 by omega,←List.drop_drop,←List.drop_drop,r3]
    ·rw[show i0+1+(k+1)=j+1 by omega,htk,aD h1 W1];simp[hpx,av]
   |false=>
    have hnp:(!p xs[j])=true:=by simp[hpx]
    repeat' (first|refine o7 (AZ.call hp ?_)|refine st ?_|refine sb λnb_ hnb_=>?_|refine s2 (λh=>?_) λh=>?_|fail)
    refine⟨k+1,R.set ((xs.take j).filter λx=>!p x).length xs[j],W1,W1,⟨by simp[r1],?_,?_⟩,gC ?_ ?_⟩
    ·rw[show i0+1+(k+1)=j+1 by omega,htk];simp only[List.filter_cons,hpx,Bool.not_false,if_true,List.filter_nil,Vu,List.length_singleton];rw[Vw (by simpa using hm2),List.take_set_of_le (Vl _),r2];simp
    ·rw[show i0+1+(k+1)=j+1 by omega,List.drop_set_of_lt W1,←List.drop_drop,←List.drop_drop,r3]
    ·rw[show i0+1+(k+1)=j+1 by omega,htk,aD h1 W1,aD hm1 W1];simp[hpx,av]
    ·simp[Wh,aj]
  ·have hd2:=bO h1;have ht:xs.take j=xs:=V8 h1;rw[ht]at r2 hcj ⊢;have hle:(xs.filter λx=>!p x).length≤xs.length:=WO _ _;generalize hmm:(xs.filter λx=>!p x).length=m at r2 hcj hle hQ ⊢
   repeat' (first|refine st ?_|refine zc (l:=m) (h:=xs.length) FO rfl hle (Vl _) (.head _) rfl ?_|refine LM (.here _) rfl (by simp[r1];omega) rfl ?_|refine zc (l:=0) (h:=m) rfl FO (VX _) hle (.head _) rfl ?_|refine sb λnb_ hnb_=>?_|fail)
   subst hQ;refine⟨R.take m++List.replicate (xs.length-m) 0,W4,?_,?_,?_⟩
   ·simp only[Wg];rw[List.drop_of_length_le (by simp[r1];omega),V2,Vo,List.map_take];simp[aj]
   ·rw[List.take_left' (by simp[r1];omega)];exact r2
   ·simp[r1];omega
theorem LU(t x:Int)(L:SH):AZ Tryz.prog 89 [.pptr [[.W6 t]] 0 0] (λx=>decide (x=t)):=λx=>by
 refine wY _ _ _ _ ?_;unfold lL
 repeat' (first|refine st ?_|refine sb λnb_ hnb_=>?_|fail)
 exact⟨rfl,rfl⟩
end
end Go.Proofs.YtenbpcngcicamaaGreatDoor.Am
