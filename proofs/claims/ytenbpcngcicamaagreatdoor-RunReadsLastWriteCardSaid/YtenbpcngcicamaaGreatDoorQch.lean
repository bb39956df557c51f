/- A part of the proof; the statement is proved in the last part. -/
import Derived.Test.YtenbpcngcicamaaGreatDoorQcg
set_option linter.unusedSimpArgs false
set_option linter.unusedVariables false
namespace Go.Proofs.YtenbpcngcicamaaGreatDoor.Am
section
set_option maxRecDepth 100000
set_option maxHeartbeats 1000000
theorem fC(i:Int)(n:Nat):aB Tryz.prog 110 [.W9 i,.W9 n] (.bool (inB i n)):=by
 refine zC _ _ _ _ ?_;unfold nA;generalize hQ:(λ(u:AV) (K:SH)=>u=AV.bool (inB i n)∧K=[])=Q
 repeat' (first|refine st ?_|refine sb λnb_ hnb_=>?_|refine s2 (λh=>?_) λh=>?_|fail)
 all_goals
  subst hQ;refine⟨?_,rfl⟩;simp_all[inB]<;>omega
theorem lV(t:ThrD)(c:Int):aB Tryz.prog 118 [.agg t.enc,.W9 c] (.bool (fW t c)):=by
 obtain⟨a,b,d⟩:=t;refine BL _ _ _ _ ?_;unfold po ThrD.enc;generalize hQ:(λ(u:AV) (K:SH)=>u=AV.bool (fW ⟨a,b,d⟩ c)∧K=[])=Q
 repeat' (first|refine st ?_|refine sb λnb_ hnb_=>?_|refine s2 (λh=>?_) λh=>?_|fail)
 all_goals
  subst hQ;refine⟨?_,rfl⟩;simp_all[fW]
theorem Nw(l:List Int)(n:Int)(hl:l.length<2^62):aB Tryz.prog 141 [.lst (l.map ao),.W9 n] (.W9 (mO (λx=>decide (n=x)) l 0)):=by
 refine jh _ _ _ _ ?_;unfold eV
 repeat' (first|refine st ?_|refine sb λnb_ hnb_=>?_|refine s2 (λh=>?_) λh=>?_|fail)
 refine fp l (λx=>decide (n=x)) (λi=>[.lst (l.map ao),.W9 n,.W9 l.length,.W9 i]) hl rfl (λi h1 hd hi hno nx hn=>?_) (λi h1 hd hno nx=>?_)
 all_goals unfold eF
 ·have hx:=az (f:=ao) h1
  repeat' (first|refine st ?_|refine sb λnb_ hnb_=>?_|refine s2 (λh=>?_) λh=>?_|fail)
  ·exact⟨by rw[pr h1 hno h],rfl⟩
  ·exact hn h
 ·repeat' (first|refine st ?_|refine sb λnb_ hnb_=>?_|refine s2 (λh=>?_) λh=>?_|fail)
  exact⟨by rw[gL hno],rfl⟩
theorem Pz{l:List Int}{n:Int}:decide (mO (λx=>decide (n=x)) l 0≥0)=l.contains n:=by
  by_cases h:n∈l
  · have h1:l.contains n=true:=by simpa using h
    rw[h1];refine decide_eq_true ?_;have:∀(l:List Int) (k:Nat),n∈l→0≤mO (λx=>decide (n=x)) l k:=by
      intro l
      induction l with
      |nil=>intro k h;simp at h
      |cons x l ih=>
        intro k h;rw[mO];by_cases hx:n=x
        · rw[if_pos (decide_eq_true hx)];omega
        · rw[if_neg (by simpa using hx)]
          exact ih _ (by rcases Vq.1 h with h | h
                         · exact absurd h hx
                         · exact h)
    exact this l 0 h
  · have h1:l.contains n=false:=by simpa using h
    rw[h1,gL (λx hx=>decide_eq_false λ(e:n=x)=>h (e▸hx))];rfl
theorem Ig(l:List Int)(n:Int)(hl:l.length<2^62):aB Tryz.prog 128 [.lst (l.map ao),.W9 n] (.bool (l.contains n)):=by
 have hi:=Nw l n hl;refine hD _ _ _ _ ?_;unfold dU
 repeat' (first|refine st ?_|(refine pf 141 ?_;refine pm (hi) ?_)|refine sb λnb_ hnb_=>?_|refine s2 (λh=>?_) λh=>?_|fail)
 exact⟨by rw[Pz],rfl⟩
theorem PA(w:aN)(s:SyncD)(hc:w.conds.length<2^62):aB Tryz.prog 109 [.agg w.enc,.agg s.enc] (.bool (fitsS w s)):=by
 refine Dc _ _ _ _ ?_;unfold sg;generalize hQ:(λ(u:AV) (K:SH)=>u=AV.bool (fitsS w s)∧K=[])=Q;have hq:∀b,fitsS w s=b→Q (.bool b) []:=λb hb=>by subst hQ;exact⟨by rw[hb],rfl⟩
 clear hQ;by_cases h0:s.locks.length=w.locks.length∧s.done.length=w.futures.length∧s.threads.length=w.threads.length
 ·have e1:decide ((s.locks.length:Int)≠w.locks.length)=false:=by simp[h0]
  have e2:decide ((s.done.length:Int)≠w.futures.length)=false:=by simp[h0]
  have e3:decide ((s.threads.length:Int)≠w.threads.length)=false:=by simp[h0]
  have hf:fitsS w s=w.conds.all λc=>inB c.mutex w.locks.length:=by simp[fitsS,h0]
  repeat' (first|refine st ?_|refine sb λnb_ hnb_=>?_|refine s2 (λh=>?_) λh=>?_|fail)
  refine fp w.conds (λc=>!inB c.mutex w.locks.length) (λi=>[.pptr [w.enc] 0 0,.lst (w.conds.map cX.enc),.W9 w.conds.length,.W9 i]) hc rfl (λi h1 hd hi hno nx hn=>?_) (λi h1 hd hno nx=>?_)
  all_goals unfold pk
  ·have hx:=az (f:=cX.enc) h1;have hw:=fC w.conds[i].mutex w.locks.length;have hbad:inB w.conds[i].mutex w.locks.length=false→fitsS w s=false:=λh=>by rw[hf];exact Nr h1 h
   generalize w.conds[i]=c at *;obtain⟨nm,mx⟩:=c;unfold cX.enc at hx;dsimp only at *;cases hb:inB mx w.locks.length with
   |false=>
    rw[hb]at hw
    repeat' (first|refine st ?_|(refine pf 110 ?_;refine pm (hw) ?_)|refine sb λnb_ hnb_=>?_|refine s2 (λh=>?_) λh=>?_|fail)
    exact hq _ (hbad hb)
   |true=>
    rw[hb]at hw
    repeat' (first|refine st ?_|(refine pf 110 ?_;refine pm (hw) ?_)|refine sb λnb_ hnb_=>?_|refine s2 (λh=>?_) λh=>?_|fail)
    exact hn (by rw[hb];rfl)
  ·repeat' (first|refine st ?_|refine sb λnb_ hnb_=>?_|refine s2 (λh=>?_) λh=>?_|fail)
   exact hq _ (by rw[hf];exact VE.2 λc hc=>by simpa using hno c hc)
 ·have hb:fitsS w s=false:=by
   cases hf:fitsS w s with
   |false=>rfl
   |true=>have:=zE.1 hf;exact absurd ⟨this.locks,this.done,this.threads⟩ h0
  repeat' (first|refine st ?_|refine sb λnb_ hnb_=>?_|refine s2 (λh=>?_) λh=>?_|fail)
  all_goals first
   |exact hq _ hb
   |(exfalso;refine h0 ?_;clear hq hb h0;simp only[decide_eq_true_eq,decide_eq_false_iff_not,ne_eq,Decidable.not_not]at *;omega)
theorem JC(w:aN)(k o:Int):aB Tryz.prog 111 [.agg w.enc,.W9 k,.W9 o] (.bool (allowedS w k o)):=by
 refine wY _ _ _ _ _ ?_;unfold lR;generalize hQ:(λ(u:AV) (K:SH)=>u=AV.bool (allowedS w k o)∧K=[])=Q;have hq:∀b,allowedS w k o=b→Q (.bool b) []:=λb hb=>by subst hQ;exact⟨by rw[hb],rfl⟩
 clear hQ;have hc:=fC o w.cells.length;have hl:=fC o w.locks.length;have hd:=fC o w.conds.length;have ht:=fC o w.threads.length;have hf:=fC o w.futures.length;rcases kinds k with hk|hk
 ·repeat' (first|refine st ?_|refine sb λnb_ hnb_=>?_|refine s2 (λh=>?_) λh=>?_|fail)
  all_goals first
   |exact hq _ (If hk)
   |(exfalso;clear hq;simp only[decide_eq_true_eq,decide_eq_false_iff_not]at *;omega)
 by_cases hlk:6≤k∧k≤11
 ·cases h1:inB o w.locks.length with
  |false=>
   rw[h1]at hl;have hv:allowedS w k o=false:=by
    have:k=6∨k=7∨k=8∨k=9∨k=10∨k=11:=by omega
    rcases this with rfl|rfl|rfl|rfl|rfl|rfl<;>simp[allowedS,h1]
   repeat' (first|refine st ?_|(refine pf 110 ?_;refine pm (hl) ?_)|refine sb λnb_ hnb_=>?_|refine s2 (λh=>?_) λh=>?_|fail)
   all_goals first
    |exact hq _ hv
    |(exfalso;clear hq;simp only[decide_eq_true_eq,decide_eq_false_iff_not]at *;omega)
  |true=>
   rw[h1]at hl;obtain⟨j,rfl⟩:=WL (fB h1);have hj:j<w.locks.length:=by have:=(ay.1 h1).2;omega
   have hx:=az (f:=cb.enc) hj;have hr:rwAt w (j:Int)=w.locks[j].rw:=by unfold rwAt;rw[WB,WP,Vn hj,W2]
   generalize w.locks[j]=c at *;obtain⟨nm,r⟩:=c;unfold cb.enc at hx;dsimp only at *;have hv1:k=6∨k=7→allowedS w k (j:Int)=!r:=λh=>by rcases h with rfl|rfl<;>simp[allowedS,h1,hr]
   have hv2:k=8∨k=9∨k=10∨k=11→allowedS w k (j:Int)=r:=λh=>by rcases h with rfl|rfl|rfl|rfl<;>simp[allowedS,h1,hr]
   repeat' (first|refine st ?_|(refine pf 110 ?_;refine pm (hl) ?_)|refine sb λnb_ hnb_=>?_|refine s2 (λh=>?_) λh=>?_|fail)
   all_goals simp only[decide_eq_true_eq,decide_eq_false_iff_not]at *
   all_goals first
    |exact hq _ (hv1 W4)
    |exact hq _ (hv2 W4)
    |(exfalso;clear hq;omega)
 ·have hv3:k=3∨k=4→allowedS w k o=inB o w.cells.length:=λh=>by rcases h with rfl|rfl<;>rfl
  have hv4:k=16∨k=17∨k=18∨k=19→allowedS w k o=inB o w.conds.length:=λh=>by rcases h with rfl|rfl|rfl|rfl<;>rfl
  have hv5:k=20∨k=21→allowedS w k o=inB o w.threads.length:=λh=>by rcases h with rfl|rfl<;>rfl
  have hv6:k=22∨k=23→allowedS w k o=inB o w.futures.length:=λh=>by rcases h with rfl|rfl<;>rfl
  have hv7:k=1∨k=2∨k=5∨k=12∨k=13∨k=14∨k=15→allowedS w k o=decide (o=-1):=λh=>by unfold allowedS;rw[if_pos h]
  repeat' (first|refine st ?_|(refine pf 110 ?_;refine pm (hc) ?_)|(refine pf 110 ?_;refine pm (hd) ?_)|(refine pf 110 ?_;refine pm (ht) ?_)|(refine pf 110 ?_;refine pm (hf) ?_)|refine sb λnb_ hnb_=>?_|refine s2 (λh=>?_) λh=>?_|fail)
  all_goals simp only[decide_eq_true_eq,decide_eq_false_iff_not]at *
  all_goals first
   |exact hq _ (hv3 W4)
   |exact hq _ (hv4 W4)
   |exact hq _ (hv5 W4)
   |exact hq _ (hv6 W4)
   |exact hq _ (hv7 W4)
   |(exfalso;clear hq;omega)
end
section
set_option maxRecDepth 100000
set_option linter.unusedSimpArgs false
theorem Gv{KN:AV→SH→List Nat→Prop}{us:List W.WR}{i:Nat}{g:FuncId}{args:List AV}{L:SH}{R:AV→SH→Prop}(h:ai Tryz.prog g args [] R)(hf:∀x∈us,W.free x ⟨i,[],[],[],true,[]⟩)(hk:∀v K,R v K→KN v (K++L) []):W.dcallM Tryz.prog us i g args L KN:=
 ⟨[],L,.refl _,hf,h.mono λu K hu=>hk u K hu⟩
def FG(Q:R)(x15 x16 x17:AV)(L14:SH):Prop:=
 W.faddr 0 x15 λx45=>W.store 1 x45 x17 L14 λL46=>aC 2 x15 L46 λx48=>wc (.fn 113 []) [x48] L46 (im Q x15 x16)
def nB(q:Nat)(o:Option Nat)(j:Nat)(l:LockD):List AV:=if j=q then [.W9 l.owner,aq o l.readers.length]else l.enc
def bV(q:Nat)(o:Option Nat)(ls:List LockD):List (List AV):=ls.zipIdx.map λp=>nB q o p.2 p.1
theorem co(q:Nat)(o:Option Nat)(ls:List LockD):(bV q o ls).length=ls.length:=by simp[bV]
theorem fJ(q:Nat)(o:Option Nat)(ls:List LockD)(j:Nat)(hj:j<ls.length):(bV q o ls)[j]? =some (nB q o j ls[j]):=by simp[bV,hj]
def Hg(q:Nat)(o:Option Nat)(ls:List LockD)(k:Nat):SH:=if q<k then ah o 1 ((ls.getD q default).readers.map ao)else []
def Dg:List AV:=[.W9 0,.nils]
def ku(q:Nat)(o:Option Nat)(ls:List LockD)(k:Nat):List (List AV):=(bV q o ls).take k++List.replicate (ls.length-k) Dg
theorem LG(q:Nat)(o:Option Nat)(ls:List LockD)(k:Nat)(hk:k≤ls.length):(ku q o ls k).length=ls.length:=by simp[ku,co];omega
theorem LH(q:Nat)(o o':Option Nat)(ls:List LockD)(k:Nat)(h:k≤q∨o=o'):(bV q o ls).take k=(bV q o' ls).take k:=by
 rcases h with h|rfl
 ·apply Wt;intro j;rcases Vt j k with hj|hj
  ·rw[VW hj,VW hj];rcases Vt j ls.length with h1|h1
   ·rw[fJ _ _ _ _ h1,fJ _ _ _ _ h1];simp[nB,show j≠q by omega]
   ·rw[Vu (by rw[co];exact h1),Vu (by rw[co];exact h1)]
  ·rw[Vu (by simp;omega),Vu (by simp;omega)]
 ·rfl
theorem FH(q:Nat)(o o':Option Nat)(ls:List LockD)(k:Nat)(hk:k<ls.length)(h:k≤q∨o=o'):(ku q o ls k).set k (nB q o' k ls[k])=ku q o' ls (k+1):=by
 unfold ku;have hl:((bV q o ls).take k).length=k:=by simp[co];omega
 rw[List.set_append_right _ _ W4,hl,Nat.sub_self];obtain⟨m,hm⟩:∃m,ls.length-k=m+1:=⟨ls.length-k-1,W4⟩;rw[hm,List.replicate_succ,List.set_cons_zero,LH q o o' ls k h];have hk2:k<(bV q o' ls).length:=by rw[co];exact hk
 rw[Vw hk2,show ls.length-(k+1)=m by omega];have:(bV q o' ls)[k]=nB q o' k ls[k]:=by have:=fJ q o' ls k hk;rw[Vn hk2]at this;exact WX this
 rw[this];simp
theorem Nx(q:Nat)(o:Option Nat)(ls:List LockD)(k:Nat)(hk:k<ls.length):(ku q o ls k)[k]? =some Dg:=by
 unfold ku;have hl:((bV q o ls).take k).length=k:=by simp[co];omega
 rw[Vx W4,hl,Nat.sub_self];obtain⟨m,hm⟩:∃m,ls.length-k=m+1:=⟨ls.length-k-1,W4⟩;rw[hm];rfl
structure Ny(s:SyncD)(q:Nat)(v:AV)(L:SH):Prop where
 ex:∃(bl:Nat) (o od ot:Option Nat),v=.agg [.sl bl 0 s.locks.length,.W9 s.tx,aQ od s.done.length,aQ ot s.threads.length]∧
  L=(bl,⟨2,bV q o s.locks⟩)::(Hg q o s.locks s.locks.length++(ah od 1 (s.done.map aV)++ah ot 3 (s.threads.map ThrD.enc)))∧(od=none→s.done=[])∧(ot=none→s.threads=[])∧(o=none→q<s.locks.length→(s.locks.getD q default).readers=[])
set_option maxHeartbeats 4000000 in
theorem JD(s:SyncD)(q b1 b2 bl:Nat)(h1:s.locks.length<2^40)(hrd:∀l∈s.locks,l.readers.length<2^40)(Q:AV→SH→Prop)
  (hend:∀o:Option Nat,(o=none→q<s.locks.length→(s.locks.getD q default).readers=[])→FG Q (.ptr b1 0 0) (.ptr b2 0 0) (.sl bl 0 s.locks.length) ((bl,⟨2,bV q o s.locks⟩)::(b2,⟨4,[[.nils,.W9 0,.nils,.nils]]⟩)::(b1,⟨4,[s.enc]⟩)::Hg q o s.locks s.locks.length)) :
  W.loop (io Q) [.ptr b1 0 0,.ptr b2 0 0,.sl bl 0 s.locks.length,.lst (s.locks.map LockD.enc),.W9 s.locks.length,.W9 (0:Nat)] [(bl,⟨2,List.replicate s.locks.length Dg⟩),(b2,⟨4,[[.nils,.W9 0,.nils,.nils]]⟩),(b1,⟨4,[s.enc]⟩)]:=by
 refine cg s.locks.length (λk (o:Option Nat)=>([.ptr b1 0 0,.ptr b2 0 0,.sl bl 0 s.locks.length,.lst (s.locks.map LockD.enc),.W9 s.locks.length,.W9 k],(bl,⟨2,ku q o s.locks k⟩)::(b2,⟨4,[[.nils,.W9 0,.nils,.nils]]⟩)::(b1,⟨4,[s.enc]⟩)::Hg q o s.locks k)) (λk o=>o=none→q<k→(s.locks.getD q default).readers=[]) none (λ_ h=>by omega) (fU rfl (by simp[ku,Hg])) ?_;intro k o hk ho;dsimp only;unfold io;rcases Nat.lt_or_ge k s.locks.length with g1|g1
 ·have hd:=bF g1;have hx:=az (f:=LockD.enc) g1;have hz:=Nx q o s.locks k g1;have hkl:k<(ku q o s.locks k).length:=by rw[LG _ _ _ _ hk];exact g1
  have hrk:(s.locks[k]).readers.length*8≤140737488355328:=by have:=hrd _ (VI g1);omega
  repeat' (first|refine st ?_|refine sb λnb_ hnb_=>?_|fail)
  refine Gv (FC _ hrk) (by simp[rm,rz,W.free,aa]) ?_;rintro v K ⟨o',rfl,rfl,ho'⟩;unfold nw;have fin:∀(L:SH),L=ah o' 1 ((s.locks[k]).readers.map ao)++((bl,⟨2,(ku q o s.locks k).set k [.W9 (s.locks[k]).owner,aq o' (s.locks[k]).readers.length]⟩)::(b2,⟨4,[[.nils,.W9 0,.nils,.nils]]⟩)::(b1,⟨4,[s.enc]⟩)::Hg q o s.locks k)→
    ∃j o2,k<j∧j≤s.locks.length∧(o2=none→q<j→(s.locks.getD q default).readers=[])∧aI [.ptr b1 0 0,.ptr b2 0 0,.sl bl 0 s.locks.length,.lst (s.locks.map LockD.enc),.W9 s.locks.length,.W9 (IntKind.i64.wrap ((k:Int)+1))] L
     [.ptr b1 0 0,.ptr b2 0 0,.sl bl 0 s.locks.length,.lst (s.locks.map LockD.enc),.W9 s.locks.length,.W9 j] ((bl,⟨2,ku q o2 s.locks j⟩)::(b2,⟨4,[[.nils,.W9 0,.nils,.nils]]⟩)::(b1,⟨4,[s.enc]⟩)::Hg q o2 s.locks j):=by
   intro L hL;subst hL;rw[aE g1 W4];by_cases hkq:k=q
   ·subst hkq;refine⟨k+1,o',W4,W4,λe _=>by simpa[List.getD,g1]using ho' e,?_⟩;rw[←FH k o o' s.locks k g1 (.inl (Vo _))];have e1:Hg k o s.locks k=[]:=by simp[Hg]
    have e2:Hg k o' s.locks (k+1)=ah o' 1 ((s.locks[k]).readers.map ao):=by simp[Hg,List.getD,g1]
    have e3:nB k o' k s.locks[k]=[.W9 (s.locks[k]).owner,aq o' (s.locks[k]).readers.length]:=by simp[nB]
    rw[e1,e2,e3];exact aI.forget (K:=[]) VT
   ·refine⟨k+1,o,W4,W4,λe hq=>ho e W4,?_⟩;have e1:Hg q o s.locks (k+1)=Hg q o s.locks k:=by
     by_cases hq:q<k
     ·simp[Hg,hq,show q<k+1 by omega]
     ·simp[Hg,hq,show¬q<k+1 by omega]
    rw[e1,←FH q o o s.locks k g1 (.inr rfl)];have e3:nB q o k s.locks[k]=[.W9 (s.locks[k]).owner,.lst ((s.locks[k]).readers.map ao)]:=by simp[nB,hkq,LockD.enc]
    rw[e3];refine aI.row (K:=ah o' 1 ((s.locks[k]).readers.map ao)) (.refl _) W7 ?_;intro j r r' q1 q2;rw[Wf]at q1 q2;by_cases hj:k=j
    ·rw[if_pos hj]at q1 q2;rw[if_pos W4]at q1 q2;cases q1;cases q2;refine .cons (.refl _) (.cons ?_ .nil);exact Fz.slot (f:=ao) rfl (λe=>by rw[ho' e];rfl) W8 (λy _=>rfl) (λy _ q a a2 h1 h2=>by rw[h1]at h2;cases h2;exact .refl _)
    ·rw[if_neg hj]at q1 q2;rw[q1]at q2;cases q2;exact jd.refl _ _
  cases o' with
  |none=>
   dsimp only[ah,aq,List.nil_append]at fin ⊢
   repeat' (first|refine st ?_|refine sb λnb_ hnb_=>?_|fail)
   exact fin _ rfl
  |some b'=>
   dsimp only[ah,aq,List.cons_append,List.nil_append]at fin ⊢
   repeat' (first|refine st ?_|refine sb λnb_ hnb_=>?_|fail)
   exact fin _ rfl
 ·have hd:=bM g1;have hk0:k=s.locks.length:=by omega
  subst hk0;have:=hend o ho;rw[show ku q o s.locks s.locks.length=bV q o s.locks by simp[ku,co,Wb]];refine Jy ?_;refine mN (MV ?_);refine Rq (HW hd ?_);exact this
theorem FI{s:SyncD}(hs:s.threads.length<2^40):s.threads.length*24≤140737488355328:=by omega
set_option maxHeartbeats 4000000 in
theorem Ih(s:SyncD)(q:Nat)(h1:s.locks.length<2^40)(h2:s.done.length≤140737488351232)(h3:s.threads.length<2^40)(hrd:∀l∈s.locks,l.readers.length<2^40):
  ai Tryz.prog 85 [.agg s.enc] [] (Ny s q):=by
 refine ai.fz (BN _ _ _ ?_);unfold pp;generalize hQ:(λ(v:AV) (L:SH)=>∃v2 L2,aI [v] L [v2] L2∧Ny s q v2 L2)=Q
 repeat' (first|refine st ?_|refine sb λnb_ hnb_=>?_|fail)
 rename_i b1 _ b2 _;revert nb_;intro bl _;refine JD s q b1 b2 bl h1 hrd Q ?_;intro o ho;unfold FG
 repeat' (first|refine st ?_|refine sb λnb_ hnb_=>?_|fail)
 refine pi (LF _ W4) ?_;rintro v K ⟨od,rfl,rfl,hod⟩;unfold im;have fin:∀(v:AV) (L:SH) (ot:Option Nat),(ot=none→s.threads=[])→v=.agg [.sl bl 0 s.locks.length,.W9 s.tx,aQ od s.done.length,aQ ot s.threads.length]→
   (∃x y:Blk,L=(bl,⟨2,bV q o s.locks⟩)::(b2,x)::(b1,y)::(Hg q o s.locks s.locks.length++ah od 1 (s.done.map aV)++ah ot 3 (s.threads.map ThrD.enc)))→Q v L:=by
  rintro v L ot hot rfl ⟨x,y,rfl⟩;subst hQ;refine⟨_,_,aI.forget (K:=[(b2,x),(b1,y)]) (R:=(bl,⟨2,bV q o s.locks⟩)::(Hg q o s.locks s.locks.length++ah od 1 (s.done.map aV)++ah ot 3 (s.threads.map ThrD.enc))) ?_,⟨bl,o,od,ot,rfl,by rw[V4],hod,hot,ho⟩⟩;exact(List.Perm.swap _ _ _).trans ((List.Perm.swap _ _ _).cons _)
 cases od with
 |none=>
  dsimp only[aQ]at fin ⊢
  repeat' (first|refine st ?_|refine sb λnb_ hnb_=>?_|fail)
  refine pi (FD _ (FI h3)) ?_;rintro v K ⟨ot,rfl,rfl,hot⟩;unfold il;cases ot with
  |none=>
   dsimp only[aQ]at fin ⊢
   repeat' (first|refine st ?_|refine sb λnb_ hnb_=>?_|fail)
   exact fin _ _ none hot rfl ⟨_,_,rfl⟩
  |some bt=>
   dsimp only[aQ]at fin ⊢
   repeat' (first|refine st ?_|refine sb λnb_ hnb_=>?_|fail)
   exact fin _ _ (some bt) hot rfl ⟨_,_,rfl⟩
 |some bd=>
  dsimp only[aQ]at fin ⊢
  repeat' (first|refine st ?_|refine sb λnb_ hnb_=>?_|fail)
  refine pi (FD _ (FI h3)) ?_;rintro v K ⟨ot,rfl,rfl,hot⟩;unfold il;cases ot with
  |none=>
   dsimp only[aQ]at fin ⊢
   repeat' (first|refine st ?_|refine sb λnb_ hnb_=>?_|fail)
   exact fin _ _ none hot rfl ⟨_,_,rfl⟩
  |some bt=>
   dsimp only[aQ]at fin ⊢
   repeat' (first|refine st ?_|refine sb λnb_ hnb_=>?_|fail)
   exact fin _ _ (some bt) hot rfl ⟨_,_,rfl⟩
end
section
set_option maxRecDepth 100000
set_option linter.unusedSimpArgs false
def qp(T:List ThrD)(c:Int)(i:Nat):Bool:=fW (T.getD i default) c
def cj(T:List ThrD)(c:Int)(n:Nat):List Nat:=(List.range n).filter λi=>qp T c i
def bu(l:List Nat)(wake:Int):Int:=match l with
 |[]=>-1
 |u::l=>if(u::l).any (λx=>decide ((x:Int)=wake))then wake else u
def eg(T:List ThrD)(c wake:Int):Int:=bu (cj T c T.length) wake
def Ii(T:List ThrD)(i:Nat)(st:Int):List ThrD:=T.set i {T.getD i default with status:=st}
def kW(T:List ThrD)(c wake:Int):List ThrD:=if 0≤eg T c wake then Ii T (eg T c wake).toNat 4 else T
theorem JE{l:List Nat}{wake:Int}(h:0≤bu l wake):(bu l wake).toNat∈l:=by
 cases l with
 |nil=>simp[bu]at h
 |cons u l=>
  simp only[bu]at h ⊢;split
  ·rename_i ha;obtain⟨x,hx,he⟩:=W3.1 ha;have:=of_decide_eq_true he;rw[←this];simpa using hx
  ·simp
theorem JF(l:List Nat)(wake:Int):bu l wake=-1∨0≤bu l wake:=by
 cases l with
 |nil=>simp[bu]
 |cons u l=>
  right;simp only[bu];split
  ·rename_i ha;obtain⟨x,hx,he⟩:=W3.1 ha;have:=of_decide_eq_true he;omega
  ·omega
theorem Ij(l:List Nat)(i:Nat)(wake:Int):bu (l++[i]) wake=if bu l wake<0∨(i:Int)=wake then(i:Int)else bu l wake:=by
 cases l with
 |nil=>simp only[bu,Wp];split<;>simp_all
 |cons u l=>
  have hlow:=JF (u::l) wake;simp only[Wz];rw[bu,←Wz,List.any_append];by_cases hw:(i:Int)=wake
  ·simp[hw]
  ·by_cases ha:(u::l).any (λx=>decide ((x:Int)=wake))=true
   ·have hc:bu (u::l) wake=wake:=by simp only[bu];rw[if_pos ha]
    rw[hc]at hlow ⊢;obtain⟨x,hx,he⟩:=W3.1 ha;have:=of_decide_eq_true he;rw[ha,Bool.true_or,if_pos rfl,if_neg W4]
   ·have hc:bu (u::l) wake=u:=by simp only[bu];rw[if_neg ha]
    rw[hc,if_neg (by simp only[WW,not_or];exact⟨ha,by simp[hw]⟩),if_neg W4]
theorem w7(T:List ThrD)(c:Int)(n:Nat):cj T c (n+1)=cj T c n++(if qp T c n then [n]else []):=by simp only[cj,List.range_succ,List.filter_append,List.filter_cons,List.filter_nil]
theorem JG{T:List ThrD}{c:Int}{n x:Nat}(h:x∈cj T c n):x<n:=by simp only[cj,WM,Wl]at h;exact h.1
theorem PB(T:List ThrD)(i:Nat)(st:Int)(hi:i<T.length):(T.map ThrD.enc).set i ((ThrD.enc T[i]).set 0 (.W9 st))=(Ii T i st).map ThrD.enc:=by unfold Ii;rw[Wk];congr 1;simp[List.getD,hi,ThrD.enc]
section
variable (a b d:AV) (bt:Nat)
theorem LI(T:List ThrD)(c wake:Int)(hT:T.length<2^40)(hbox:([a,b,d,.sl bt 0 T.length]:List AV).all AV.one=true):
  ai Tryz.prog 90 [.agg [a,b,d,.sl bt 0 T.length],.W9 c,.W9 wake] [(bt,⟨3,T.map ThrD.enc⟩)] λv L=>v=.W9 (eg T c wake)∧L=[(bt,⟨3,(kW T c wake).map ThrD.enc⟩)]:=by
 refine zB _ _ _ _ _ ?_;unfold nz;generalize hQ:(λ(v:AV) (L:SH)=>v=AV.W9 (eg T c wake)∧L=[(bt,(⟨3,(kW T c wake).map ThrD.enc⟩:Blk))])=Q
 repeat' (first|refine Gs ?_ rfl hbox (by exact Nat.succ_pos _)|refine st ?_|refine sb λnb_ hnb_=>?_|fail)
 refine sP T.length (λi=>([.W9 c,.W9 wake,.pptr [[a,b,d,.sl bt 0 T.length]] 0 0,.W9 (bu (cj T c i) wake),.sl bt 0 T.length,.W9 T.length,.W9 i],[(bt,⟨3,T.map ThrD.enc⟩)])) (λ_=>True) trivial (by simp[cj,bu]) rfl ?_;intro i hi _;dsimp only;unfold lS;rcases Nat.lt_or_ge i T.length with h1|h1
 ·have hd:=bF h1;have hx:=az (f:=ThrD.enc) h1;have hsn:=Ij (cj T c i) i wake;have hws:=w7 T c i;have hwa:qp T c i=fW T[i] c:=by simp[qp,h1]
  have goal:∀ch:Int,ch=bu (cj T c (i+1)) wake→∃j,i<j∧j≤T.length∧True∧aI [.W9 c,.W9 wake,.pptr [[a,b,d,.sl bt 0 T.length]] 0 0,.W9 ch,.sl bt 0 T.length,.W9 T.length,.W9 (IntKind.i64.wrap ((i:Int)+1))] [(bt,⟨3,T.map ThrD.enc⟩)]
    [.W9 c,.W9 wake,.pptr [[a,b,d,.sl bt 0 T.length]] 0 0,.W9 (bu (cj T c j) wake),.sl bt 0 T.length,.W9 T.length,.W9 j] [(bt,⟨3,T.map ThrD.enc⟩)]:=λch hch=>⟨i+1,W4,W4,trivial,fU (by rw[aE h1 W4,hch]) rfl⟩
  cases hw:fW T[i] c with
  |false=>
   rw[hw]at hwa
   repeat' (first|refine st ?_|(refine pf 118 ?_;refine pm (lV _ _) ?_)|refine sb λnb_ hnb_=>?_|refine s2 (λh=>?_) λh=>?_|fail)
   exact goal _ (by rw[hws,hwa];simp)
  |true=>
   rw[hw]at hwa;have hn:bu (cj T c (i+1)) wake=if bu (cj T c i) wake<0∨(i:Int)=wake then(i:Int)else bu (cj T c i) wake:=by rw[hws,hwa,if_pos rfl,hsn]
   by_cases g1:bu (cj T c i) wake<0
   ·have e1:decide (bu (cj T c i) wake<0)=true:=decide_eq_true g1
    repeat' (first|refine st ?_|(refine pf 118 ?_;refine pm (lV _ _) ?_)|refine sb λnb_ hnb_=>?_|refine s2 (λh=>?_) λh=>?_|fail)
    exact goal _ (by rw[hn,if_pos (.inl g1)])
   ·have e1:decide (bu (cj T c i) wake<0)=false:=decide_eq_false g1;by_cases g2:(i:Int)=wake
    ·have e2:decide ((i:Int)=wake)=true:=decide_eq_true g2
     repeat' (first|refine st ?_|(refine pf 118 ?_;refine pm (lV _ _) ?_)|refine sb λnb_ hnb_=>?_|refine s2 (λh=>?_) λh=>?_|fail)
     exact goal _ (by rw[hn,if_pos (.inr g2)])
    ·have e2:decide ((i:Int)=wake)=false:=decide_eq_false g2
     repeat' (first|refine st ?_|(refine pf 118 ?_;refine pm (lV _ _) ?_)|refine sb λnb_ hnb_=>?_|refine s2 (λh=>?_) λh=>?_|fail)
     exact goal _ (by rw[hn,if_neg W4])
 ·have hd:=bM h1;have hi0:i=T.length:=by omega
  subst hi0;have hns:bu (cj T c T.length) wake=eg T c wake:=rfl;rw[hns];by_cases g1:0≤eg T c wake
  ·have e1:decide (0≤eg T c wake)=true:=decide_eq_true g1;have hlt:(eg T c wake).toNat<T.length:=JG (JE g1);have hx:=az (f:=ThrD.enc) hlt;have hidx:eg T c wake=((eg T c wake).toNat:Nat):=(Int.toNat_of_nonneg g1).symm;have hst:=PB T _ 4 hlt;have hwk:kW T c wake=Ii T (eg T c wake).toNat 4:=by rw[kW,if_pos g1]
   generalize hk:(eg T c wake).toNat=k at *;rw[hidx]at e1 hQ ⊢
   repeat' (first|refine st ?_|refine sb λnb_ hnb_=>?_|refine s2 (λh=>?_) λh=>?_|fail)
   subst hQ;exact⟨rfl,by rw[hwk,←hst]⟩
  ·have e1:decide (0≤eg T c wake)=false:=decide_eq_false g1;have hwk:kW T c wake=T:=by rw[kW,if_neg g1]
   repeat' (first|refine st ?_|refine sb λnb_ hnb_=>?_|refine s2 (λh=>?_) λh=>?_|fail)
   subst hQ;exact⟨rfl,by rw[hwk]⟩
def dC(T:List ThrD)(c:Int)(n:Nat):List ThrD:=T.zipIdx.map λp=>if decide (p.2<n)&&fW p.1 c then {p.1 with status:=4} else p.1
theorem gM(T:List ThrD)(c:Int)(n i:Nat)(hi:i<T.length):(dC T c n)[i]? =some (if decide (i<n)&&fW T[i] c then {T[i]with status:=4} else T[i]):=by simp[dC,hi]
theorem eG(T:List ThrD)(c:Int)(n:Nat):(dC T c n).length=T.length:=by simp[dC]
theorem Gw(T:List ThrD)(c:Int):dC T c 0=T:=by
 apply Wt;intro i;rcases Vt i T.length with hi|hi
 ·rw[gM T c 0 i hi];simp[hi]
 ·rw[Vu (by rw[eG];exact hi),Vu hi]
theorem Gx(T:List ThrD)(c:Int)(n:Nat)(hn:n<T.length):dC T c (n+1)=if fW T[n] c then(dC T c n).set n {T[n]with status:=4} else dC T c n:=by
 apply Wt;intro i;have key:∀hi:i<T.length,(if fW T[n] c then(dC T c n).set n {T[n]with status:=4} else dC T c n)[i]? =some (if decide (i<n+1)&&fW T[i] c then {T[i]with status:=4} else T[i]):=λhi=>by
  by_cases hin:i=n
  ·subst hin;cases hw:fW T[i] c with
   |true=>simp[hw,eG,hi]
   |false=>simp[hw,gM T c i i hi]
  ·have h1:decide (i<n+1)=decide (i<n):=by apply decide_eq_decide.2;omega
   rw[h1];split
   ·rw[List.getElem?_set_ne W4];exact gM T c n i hi
   ·exact gM T c n i hi
 rcases Vt i T.length with hi|hi
 ·rw[key hi,gM T c (n+1) i hi]
 ·rw[Vu (by rw[eG];exact hi),Vu];split<;>simp[eG,hi]
theorem Gy(T:List ThrD)(c:Int)(hT:T.length<2^40)(hbox:([a,b,d,.sl bt 0 T.length]:List AV).all AV.one=true):
  ai Tryz.prog 91 [.agg [a,b,d,.sl bt 0 T.length],.W9 c] [(bt,⟨3,T.map ThrD.enc⟩)] λv L=>v=.W9 ((cj T c T.length).length:Nat)∧L=[(bt,⟨3,(dC T c T.length).map ThrD.enc⟩)]:=by
 refine qy _ _ _ _ ?_;unfold jg;generalize hQ:(λ(v:AV) (L:SH)=>v=AV.W9 ((cj T c T.length).length:Nat)∧L=[(bt,(⟨3,(dC T c T.length).map ThrD.enc⟩:Blk))])=Q
 repeat' (first|refine Gs ?_ rfl hbox (by exact Nat.succ_pos _)|refine st ?_|refine sb λnb_ hnb_=>?_|fail)
 refine sP T.length (λi=>([.W9 c,.pptr [[a,b,d,.sl bt 0 T.length]] 0 0,.W9 ((cj T c i).length:Nat),.sl bt 0 T.length,.W9 T.length,.W9 i],[(bt,⟨3,(dC T c i).map ThrD.enc⟩)])) (λ_=>True) trivial (by simp[cj]) (by rw[Gw]) ?_;intro i hi _;dsimp only;unfold iC;rcases Nat.lt_or_ge i T.length with h1|h1
 ·have hd:=bF h1;have hi2:i<(dC T c i).length:=by rw[eG];exact h1
  have hti:(dC T c i)[i]=T[i]:=by have:=gM T c i i h1;rw[Vn hi2]at this;simpa using this
  have hx:=az (f:=ThrD.enc) hi2;rw[hti]at hx;have hws:=w7 T c i;have hwa:qp T c i=fW T[i] c:=by simp[qp,h1]
  have hsu:=Gx T c i h1;have hwl:(cj T c i).length≤i:=VG (WT _ _) W7;cases hw:fW T[i] c with
  |false=>
   rw[hw]at hwa hsu
   repeat' (first|refine st ?_|(refine pf 118 ?_;refine pm (lV _ _) ?_)|refine sb λnb_ hnb_=>?_|refine s2 (λh=>?_) λh=>?_|fail)
   refine⟨i+1,W4,W4,trivial,fU (by rw[aE h1 W4,hws,hwa];simp[ax]) (by rw[hsu];simp)⟩
  |true=>
   rw[hw]at hwa hsu
   repeat' (first|refine st ?_|(refine pf 118 ?_;refine pm (lV _ _) ?_)|refine sb λnb_ hnb_=>?_|refine s2 (λh=>?_) λh=>?_|fail)
   refine⟨i+1,W4,W4,trivial,fU (by rw[aE h1 W4,hws,hwa,aE (Nat.lt_of_le_of_lt hwl h1) W4];simp[ax]) ?_⟩;rw[hsu,if_pos rfl,Wk];simp[ThrD.enc]
 ·have hd:=bM h1;have hi0:i=T.length:=by omega
  subst hi0
  repeat' (first|refine st ?_|refine sb λnb_ hnb_=>?_|refine s2 (λh=>?_) λh=>?_|fail)
  subst hQ;exact⟨rfl,rfl⟩
end
end
section
set_option maxRecDepth 100000
set_option linter.unusedSimpArgs false
def AX(P:Program)(g:FuncId)(cs:List AV)(p:Int→Bool):Prop:=∀x:Int,aB P g (.W9 x::cs) (.bool (p x))
theorem AX.call{P:Program}{g:FuncId}{cs:List AV}{p:Int→Bool}(h:AX P g cs p){x:Int}{L:SH}{KL:AV→SH→Prop}(hk:KL (.bool (p x)) L):W.call P (.fn g cs) [.W9 x] L KL:=⟨(h x).call hk⟩
def zF(p:Int→Bool)(l:List Int):Int:=if l.any p then(l.findIdx p:Int)else -1
theorem LJ{p:Int→Bool}{l:List Int}{i:Nat}(hi:i<l.length)(hno:(l.take i).any p=false)(hp:p l[i]=true):zF p l=i:=by
 have h1:l.any p=true:=W3.2 ⟨l[i],VI hi,hp⟩;have h2:l.findIdx p=i:=by rw[List.findIdx_eq hi];refine⟨hp,λj hj=>?_⟩;have:=List.any_eq_false.1 hno l[j] (List.mem_take_iff_getElem.2 ⟨j,W4,rfl⟩);simpa using this
 rw[zF,if_pos h1,h2]
theorem Gz(g:FuncId)(cs:List AV)(p:Int→Bool)(hp:AX Tryz.prog g cs p)(b:Nat)(xs:List Int)(hl:xs.length<2^62):ai Tryz.prog 117 [.sl b 0 xs.length,.fn g cs] [(b,⟨1,xs.map ao⟩)] λv L=>v=.W9 (zF p xs)∧L=[(b,⟨1,xs.map ao⟩)]:=by
 refine gK _ _ _ _ ?_;unfold dL;generalize hQ:(λ(v:AV) (L:SH)=>v=AV.W9 (zF p xs)∧L=[(b,(⟨1,xs.map ao⟩:Blk))])=Q
 repeat' (first|refine st ?_|refine sb λnb_ hnb_=>?_|fail)
 refine sP xs.length (λi=>([.sl b 0 xs.length,.fn g cs,.W9 xs.length,.W9 i],[(b,⟨1,xs.map ao⟩)])) (λi=>(xs.take i).any p=false) W7 rfl rfl ?_;intro i hi hno;dsimp only;unfold dF;rcases Nat.lt_or_ge i xs.length with h1|h1
 ·have hx:=az (f:=ao) h1;have hd:=bF h1
  repeat' (first|refine ph (AX.call hp ?_)|refine st ?_|refine sb λnb_ hnb_=>?_|refine s2 (λh=>?_) λh=>?_|fail)
  ·subst hQ;exact⟨by rw[LJ h1 hno h],rfl⟩
  ·refine⟨i+1,W4,W4,?_,fU (by rw[aE h1 hl]<;>rfl) rfl⟩;rw[Vw h1,List.any_append,hno];simpa using h
 ·have hd:=bM h1
  repeat' (first|refine st ?_|refine sb λnb_ hnb_=>?_|refine s2 (λh=>?_) λh=>?_|fail)
  subst hQ;rw[Wb h1]at hno;exact⟨by rw[zF,if_neg (by simp[hno])],rfl⟩
theorem FJ{k:IntKind}{m d:Nat}:cE (some (.int k (m:Int))) d=some m:=by simp[cE,nu]
theorem JH{p:Int→Bool}{l:List Int}(h:zF p l≠-1):∃i:Nat,zF p l=i∧i<l.length∧(l.take (i+1)).filter (λx=>!p x)=l.take i:=by
 unfold zF at h ⊢;split at h
 ·rename_i ha;rw[if_pos ha];refine⟨l.findIdx p,rfl,List.findIdx_lt_length.2 (W3.1 ha),?_⟩;have hlt:=List.findIdx_lt_length.2 (W3.1 ha);rw[Vw hlt,List.filter_append];have h1:p l[l.findIdx p]=true:=List.findIdx_getElem;rw[List.filter_cons_of_neg (by simp[h1]),List.filter_nil,V5,List.filter_eq_self];intro x hx;obtain⟨j,hj,rfl⟩:=List.mem_take_iff_getElem.1 hx;have:=List.not_of_lt_findIdx (xs:=l) (p:=p) (i:=j) W4;simpa using this
 ·exact absurd rfl h
theorem FK{p:Int→Bool}{l:List Int}(h:zF p l=-1):l.filter (λx=>!p x)=l:=by
 unfold zF at h;split at h
 ·omega
 ·rename_i ha;rw[List.filter_eq_self];intro x hx;simp only[Bool.not_eq_true,List.any_eq_false]at ha;simpa using ha x hx
theorem EU(g:FuncId)(cs:List AV)(p:Int→Bool)(hp:AX Tryz.prog g cs p)(b:Nat)(xs:List Int)(hl:xs.length<2^61):ai Tryz.prog 88 [.sl b 0 xs.length,.fn g cs] [(b,⟨1,xs.map ao⟩)] λv L=>∃R:List Int,v=.sl b 0 (xs.filter λx=>!p x).length∧L=[(b,⟨1,R.map ao⟩)]∧R.take (xs.filter λx=>!p x).length=(xs.filter λx=>!p x)∧R.length=xs.length:=by
 refine gr _ _ _ _ ?_;unfold dG;refine ph (Jx (AW (Gz g cs p hp b xs W4) ?_));rintro v L ⟨rfl,rfl⟩;unfold dw;generalize hQ:(λ(v:AV) (L:SH)=>∃R:List Int,v=AV.sl b 0 (xs.filter λx=>!p x).length∧L=[(b,(⟨1,R.map ao⟩:Blk))]∧R.take (xs.filter λx=>!p x).length=(xs.filter λx=>!p x)∧R.length=xs.length)=Q;by_cases hm:zF p xs=-1
 ·have hd:decide (zF p xs=-1)=true:=decide_eq_true hm
  repeat' (first|refine st ?_|refine sb λnb_ hnb_=>?_|fail)
  subst hQ;refine⟨xs,?_,rfl,?_,rfl⟩
  ·rw[FK hm]
  ·rw[FK hm];simp
 ·have hd:decide (zF p xs=-1)=false:=decide_eq_false hm;obtain⟨i0,hi0,hlt,hfil⟩:=JH hm;rw[hi0]at hd ⊢
  repeat' (first|refine st ?_|refine sb λnb_ hnb_=>?_|fail)
  rw[aE hlt W4];have hc:∀j,((xs.take j).filter λx=>!p x).length≤j:=λj=>VG (WT _ _) (by simp;omega)
  refine cg (xs.length-(i0+1)) (λk (R:List Int)=>([.sl b 0 xs.length,.fn g cs,.W9 (((xs.take (i0+1+k)).filter λx=>!p x).length:Nat),.W9 (i0+1+k:Nat)],[(b,⟨1,R.map ao⟩)]))
   (λk R=>R.length=xs.length∧R.take ((xs.take (i0+1+k)).filter λx=>!p x).length=((xs.take (i0+1+k)).filter λx=>!p x)∧R.drop (i0+1+k)=xs.drop (i0+1+k)) xs ⟨rfl,by rw[WN,hfil];simp,rfl⟩ (fU (by rw[WN,hfil,VR,Wd W4]) rfl) ?_
  rintro k R hk ⟨r1,r2,r3⟩;dsimp only;unfold du;have hcj:=hc (i0+1+k);generalize hj:i0+1+k=j at r2 r3 hcj ⊢;rcases Nat.lt_or_ge j xs.length with h1|h1
  ·have hd2:=bF h1;have h1':j<R.length:=by omega
   have hxj:R[j]=xs[j]:=by have h0:=congrArg (λl=>l[0]?) r3;simp only[Wg,WN]at h0;rw[Vn h1',Vn h1]at h0;exact WX h0
   have hx:=az (f:=ao) h1';rw[hxj]at hx;have htk:(xs.take (j+1)).filter (λx=>!p x)=(xs.take j).filter (λx=>!p x)++([xs[j]].filter λx=>!p x):=by rw[Vw h1,List.filter_append]
   have hm1:((xs.take j).filter λx=>!p x).length<xs.length:=by omega
   have hm2:((xs.take j).filter λx=>!p x).length<R.length:=by omega
   have hxm:=az (f:=ao) hm2;cases hpx:p xs[j]with
   |true=>
    have hnp:(!p xs[j])=false:=by simp[hpx]
    repeat' (first|refine ph (AX.call hp ?_)|refine st ?_|refine sb λnb_ hnb_=>?_|refine s2 (λh=>?_) λh=>?_|fail)
    refine⟨k+1,R,W4,W4,⟨r1,?_,?_⟩,fU ?_ rfl⟩
    ·rw[show i0+1+(k+1)=j+1 by omega,htk];simpa[hpx]using r2
    ·rw[show i0+1+(k+1)=j+1 by omega,←List.drop_drop,←List.drop_drop,r3]
    ·rw[show i0+1+(k+1)=j+1 by omega,htk,aE h1 W4];simp[hpx,ax]
   |false=>
    have hnp:(!p xs[j])=true:=by simp[hpx]
    repeat' (first|refine ph (AX.call hp ?_)|refine st ?_|refine sb λnb_ hnb_=>?_|refine s2 (λh=>?_) λh=>?_|fail)
    refine⟨k+1,R.set ((xs.take j).filter λx=>!p x).length xs[j],W4,W4,⟨by simp[r1],?_,?_⟩,fU ?_ ?_⟩
    ·rw[show i0+1+(k+1)=j+1 by omega,htk];simp only[List.filter_cons,hpx,Bool.not_false,if_true,List.filter_nil,Vy,List.length_singleton];rw[Vw (by simpa using hm2),List.take_set_of_le (Vo _),r2];simp
    ·rw[show i0+1+(k+1)=j+1 by omega,List.drop_set_of_lt W4,←List.drop_drop,←List.drop_drop,r3]
    ·rw[show i0+1+(k+1)=j+1 by omega,htk,aE h1 W4,aE hm1 W4];simp[hpx,ax]
    ·simp[Wk,ao]
  ·have hd2:=bM h1;have ht:xs.take j=xs:=Wb h1;rw[ht]at r2 hcj ⊢;have hle:(xs.filter λx=>!p x).length≤xs.length:=WT _ _;generalize hmm:(xs.filter λx=>!p x).length=m at r2 hcj hle hQ ⊢
   repeat' (first|refine st ?_|refine zb (l:=m) (h:=xs.length) FJ rfl hle (Vo _) (.head _) rfl ?_|refine LB (.here _) rfl (by simp[r1];omega) rfl ?_|refine zb (l:=0) (h:=m) rfl FJ (V1 _) hle (.head _) rfl ?_|refine sb λnb_ hnb_=>?_|fail)
   subst hQ;refine⟨R.take m++List.replicate (xs.length-m) 0,W7,?_,?_,?_⟩
   ·simp only[Wj];rw[List.drop_of_length_le (by simp[r1];omega),V5,Vr,List.map_take];simp[ao]
   ·rw[List.take_left' (by simp[r1];omega)];exact r2
   ·simp[r1];omega
theorem LK(t x:Int)(L:SH):AX Tryz.prog 89 [.pptr [[.W9 t]] 0 0] (λx=>decide (x=t)):=λx=>by
 refine wZ _ _ _ _ ?_;unfold lT
 repeat' (first|refine st ?_|refine sb λnb_ hnb_=>?_|fail)
 exact⟨rfl,rfl⟩
end
end Go.Proofs.YtenbpcngcicamaaGreatDoor.Am
