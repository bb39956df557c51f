/- A part of the proof; the statement is proved in the last part. -/
import Derived.Test.YtdnpdghlggbklaaGreatDoorQeg
set_option linter.unusedSimpArgs false
set_option linter.unusedVariables false
namespace Go.Proofs.YtdnpdghlggbklaaGreatDoor.Am
section
set_option maxRecDepth 100000
set_option maxHeartbeats 1000000
theorem fF(i:Int)(n:Nat):az Tryz.prog 47 [.Xm i,.Xm n] (.bool (inB i n)):=by
 refine zL _ _ _ _ ?_;unfold nv;generalize hQ:(λ(u:AV) (K:SH)=>u=AV.bool (inB i n)∧K=[])=Q
 repeat' (first|refine st ?_|refine sb λnb_ hnb_=>?_|refine s2 (λh=>?_) λh=>?_|fail)
 all_goals
  subst hQ;refine⟨?_,rfl⟩;simp_all[inB]<;>omega
theorem lT(t:ThrD)(c:Int):az Tryz.prog 115 [.agg t.enc,.Xm c] (.bool (fY t c)):=by
 obtain⟨a,b,d⟩:=t;refine BR _ _ _ _ ?_;unfold pi ThrD.enc;generalize hQ:(λ(u:AV) (K:SH)=>u=AV.bool (fY ⟨a,b,d⟩ c)∧K=[])=Q
 repeat' (first|refine st ?_|refine sb λnb_ hnb_=>?_|refine s2 (λh=>?_) λh=>?_|fail)
 all_goals
  subst hQ;refine⟨?_,rfl⟩;simp_all[fY]
theorem NC(l:List Int)(n:Int)(hl:l.length<2^62):az Tryz.prog 109 [.lst (l.map aj),.Xm n] (.Xm (mL (λx=>decide (n=x)) l 0)):=by
 refine jm _ _ _ _ ?_;unfold eY
 repeat' (first|refine st ?_|refine sb λnb_ hnb_=>?_|refine s2 (λh=>?_) λh=>?_|fail)
 refine fw l (λx=>decide (n=x)) (λi=>[.lst (l.map aj),.Xm n,.Xm l.length,.Xm i]) hl rfl (λi h1 hd hi hno nx hn=>?_) (λi h1 hd hno nx=>?_)
 all_goals unfold eE
 ·have hx:=aw (f:=aj) h1
  repeat' (first|refine st ?_|refine sb λnb_ hnb_=>?_|refine s2 (λh=>?_) λh=>?_|fail)
  ·exact⟨by rw[pn h1 hno h],rfl⟩
  ·exact hn h
 ·repeat' (first|refine st ?_|refine sb λnb_ hnb_=>?_|refine s2 (λh=>?_) λh=>?_|fail)
  exact⟨by rw[gQ hno],rfl⟩
theorem PC{l:List Int}{n:Int}:decide (mL (λx=>decide (n=x)) l 0≥0)=l.contains n:=by
  by_cases h:n∈l
  · have h1:l.contains n=true:=by simpa using h
    rw[h1];refine decide_eq_true ?_;have:∀(l:List Int) (k:Nat),n∈l→0≤mL (λx=>decide (n=x)) l k:=by
      intro l
      induction l with
      |nil=>intro k h;simp at h
      |cons x l ih=>
        intro k h;rw[mL];by_cases hx:n=x
        · rw[if_pos (decide_eq_true hx)];omega
        · rw[if_neg (by simpa using hx)]
          exact ih _ (by rcases VE.1 h with h | h
                         · exact absurd h hx
                         · exact h)
    exact this l 0 h
  · have h1:l.contains n=false:=by simpa using h
    rw[h1,gQ (λx hx=>decide_eq_false λ(e:n=x)=>h (e▸hx))];rfl
theorem Im(l:List Int)(n:Int)(hl:l.length<2^62):az Tryz.prog 72 [.lst (l.map aj),.Xm n] (.bool (l.contains n)):=by
 have hi:=NC l n hl;refine ie _ _ _ _ ?_;unfold dT
 repeat' (first|refine st ?_|(refine pf 109 ?_;refine pm (hi) ?_)|refine sb λnb_ hnb_=>?_|refine s2 (λh=>?_) λh=>?_|fail)
 exact⟨by rw[PC],rfl⟩
theorem PD(w:aH)(s:SyncD)(hc:w.conds.length<2^62):az Tryz.prog 46 [.agg w.enc,.agg s.enc] (.bool (fitsS w s)):=by
 refine Di _ _ _ _ ?_;unfold sw;generalize hQ:(λ(u:AV) (K:SH)=>u=AV.bool (fitsS w s)∧K=[])=Q;have hq:∀b,fitsS w s=b→Q (.bool b) []:=λb hb=>by subst hQ;exact⟨by rw[hb],rfl⟩
 clear hQ;by_cases h0:s.locks.length=w.locks.length∧s.done.length=w.futures.length∧s.threads.length=w.threads.length
 ·have e1:decide ((s.locks.length:Int)≠w.locks.length)=false:=by simp[h0]
  have e2:decide ((s.done.length:Int)≠w.futures.length)=false:=by simp[h0]
  have e3:decide ((s.threads.length:Int)≠w.threads.length)=false:=by simp[h0]
  have hf:fitsS w s=w.conds.all λc=>inB c.mutex w.locks.length:=by simp[fitsS,h0]
  repeat' (first|refine st ?_|refine sb λnb_ hnb_=>?_|refine s2 (λh=>?_) λh=>?_|fail)
  refine fw w.conds (λc=>!inB c.mutex w.locks.length) (λi=>[.pptr [w.enc] 0 0,.lst (w.conds.map cP.enc),.Xm w.conds.length,.Xm i]) hc rfl (λi h1 hd hi hno nx hn=>?_) (λi h1 hd hno nx=>?_)
  all_goals unfold pg
  ·have hx:=aw (f:=cP.enc) h1;have hw:=fF w.conds[i].mutex w.locks.length;have hbad:inB w.conds[i].mutex w.locks.length=false→fitsS w s=false:=λh=>by rw[hf];exact Ny h1 h
   generalize w.conds[i]=c at *;obtain⟨nm,mx⟩:=c;unfold cP.enc at hx;dsimp only at *;cases hb:inB mx w.locks.length with
   |false=>
    rw[hb]at hw
    repeat' (first|refine st ?_|(refine pf 47 ?_;refine pm (hw) ?_)|refine sb λnb_ hnb_=>?_|refine s2 (λh=>?_) λh=>?_|fail)
    exact hq _ (hbad hb)
   |true=>
    rw[hb]at hw
    repeat' (first|refine st ?_|(refine pf 47 ?_;refine pm (hw) ?_)|refine sb λnb_ hnb_=>?_|refine s2 (λh=>?_) λh=>?_|fail)
    exact hn (by rw[hb];rfl)
  ·repeat' (first|refine st ?_|refine sb λnb_ hnb_=>?_|refine s2 (λh=>?_) λh=>?_|fail)
   exact hq _ (by rw[hf];exact VR.2 λc hc=>by simpa using hno c hc)
 ·have hb:fitsS w s=false:=by
   cases hf:fitsS w s with
   |false=>rfl
   |true=>have:=qx.1 hf;exact absurd ⟨this.locks,this.done,this.threads⟩ h0
  repeat' (first|refine st ?_|refine sb λnb_ hnb_=>?_|refine s2 (λh=>?_) λh=>?_|fail)
  all_goals first
   |exact hq _ hb
   |(exfalso;refine h0 ?_;clear hq hb h0;simp only[decide_eq_true_eq,decide_eq_false_iff_not,ne_eq,Decidable.not_not]at *;omega)
theorem JK(w:aH)(k o:Int):az Tryz.prog 48 [.agg w.enc,.Xm k,.Xm o] (.bool (allowedS w k o)):=by
 refine xg _ _ _ _ _ ?_;unfold lQ;generalize hQ:(λ(u:AV) (K:SH)=>u=AV.bool (allowedS w k o)∧K=[])=Q;have hq:∀b,allowedS w k o=b→Q (.bool b) []:=λb hb=>by subst hQ;exact⟨by rw[hb],rfl⟩
 clear hQ;have hc:=fF o w.cells.length;have hl:=fF o w.locks.length;have hd:=fF o w.conds.length;have ht:=fF o w.threads.length;have hf:=fF o w.futures.length;rcases kinds k with hk|hk
 ·repeat' (first|refine st ?_|refine sb λnb_ hnb_=>?_|refine s2 (λh=>?_) λh=>?_|fail)
  all_goals first
   |exact hq _ (pp hk)
   |(exfalso;clear hq;simp only[decide_eq_true_eq,decide_eq_false_iff_not]at *;omega)
 by_cases hlk:6≤k∧k≤11
 ·cases h1:inB o w.locks.length with
  |false=>
   rw[h1]at hl;have hv:allowedS w k o=false:=by
    have:k=6∨k=7∨k=8∨k=9∨k=10∨k=11:=by omega
    rcases this with rfl|rfl|rfl|rfl|rfl|rfl<;>simp[allowedS,h1]
   repeat' (first|refine st ?_|(refine pf 47 ?_;refine pm (hl) ?_)|refine sb λnb_ hnb_=>?_|refine s2 (λh=>?_) λh=>?_|fail)
   all_goals first
    |exact hq _ hv
    |(exfalso;clear hq;simp only[decide_eq_true_eq,decide_eq_false_iff_not]at *;omega)
  |true=>
   rw[h1]at hl;obtain⟨j,rfl⟩:=W2 (fE h1);have hj:j<w.locks.length:=by have:=(ax.1 h1).2;omega
   have hx:=aw (f:=ca.enc) hj;have hr:rwAt w (j:Int)=w.locks[j].rw:=by unfold rwAt;rw[WS,W6,VB hj,Xf]
   generalize w.locks[j]=c at *;obtain⟨nm,r⟩:=c;unfold ca.enc at hx;dsimp only at *;have hv1:k=6∨k=7→allowedS w k (j:Int)=!r:=λh=>by rcases h with rfl|rfl<;>simp[allowedS,h1,hr]
   have hv2:k=8∨k=9∨k=10∨k=11→allowedS w k (j:Int)=r:=λh=>by rcases h with rfl|rfl|rfl|rfl<;>simp[allowedS,h1,hr]
   repeat' (first|refine st ?_|(refine pf 47 ?_;refine pm (hl) ?_)|refine sb λnb_ hnb_=>?_|refine s2 (λh=>?_) λh=>?_|fail)
   all_goals simp only[decide_eq_true_eq,decide_eq_false_iff_not]at *
   all_goals first
    |exact hq _ (hv1 Xh)
    |exact hq _ (hv2 Xh)
    |(exfalso;clear hq;omega)
 ·have hv3:k=3∨k=4→allowedS w k o=inB o w.cells.length:=λh=>by rcases h with rfl|rfl<;>rfl
  have hv4:k=16∨k=17∨k=18∨k=19→allowedS w k o=inB o w.conds.length:=λh=>by rcases h with rfl|rfl|rfl|rfl<;>rfl
  have hv5:k=20∨k=21→allowedS w k o=inB o w.threads.length:=λh=>by rcases h with rfl|rfl<;>rfl
  have hv6:k=22∨k=23→allowedS w k o=inB o w.futures.length:=λh=>by rcases h with rfl|rfl<;>rfl
  have hv7:k=1∨k=2∨k=5∨k=12∨k=13∨k=14∨k=15→allowedS w k o=decide (o=-1):=λh=>by unfold allowedS;rw[if_pos h]
  repeat' (first|refine st ?_|(refine pf 47 ?_;refine pm (hc) ?_)|(refine pf 47 ?_;refine pm (hd) ?_)|(refine pf 47 ?_;refine pm (ht) ?_)|(refine pf 47 ?_;refine pm (hf) ?_)|refine sb λnb_ hnb_=>?_|refine s2 (λh=>?_) λh=>?_|fail)
  all_goals simp only[decide_eq_true_eq,decide_eq_false_iff_not]at *
  all_goals first
   |exact hq _ (hv3 Xh)
   |exact hq _ (hv4 Xh)
   |exact hq _ (hv5 Xh)
   |exact hq _ (hv6 Xh)
   |exact hq _ (hv7 Xh)
   |(exfalso;clear hq;omega)
end
section
set_option maxRecDepth 100000
set_option linter.unusedSimpArgs false
theorem GE{KN:AV→SH→List Nat→Prop}{us:List W.WR}{i:Nat}{g:FuncId}{args:List AV}{L:SH}{R:AV→SH→Prop}(h:af Tryz.prog g args [] R)(hf:∀x∈us,W.free x ⟨i,[],[],[],true,[]⟩)(hk:∀v K,R v K→KN v (K++L) []):W.dcallM Tryz.prog us i g args L KN:=
 ⟨[],L,.refl _,hf,h.mono λu K hu=>hk u K hu⟩
def FN(Q:R)(x15 x16 x17:AV)(L14:SH):Prop:=
 W.faddr 0 x15 λx45=>W.store 1 x45 x17 L14 λL46=>aA 2 x15 L46 λx48=>wc (.fn 110 []) [x48] L46 (iu Q x15 x16)
def nw(q:Nat)(o:Option Nat)(j:Nat)(l:LockD):List AV:=if j=q then [.Xm l.owner,am o l.readers.length]else l.enc
def bU(q:Nat)(o:Option Nat)(ls:List LockD):List (List AV):=ls.zipIdx.map λp=>nw q o p.2 p.1
theorem co(q:Nat)(o:Option Nat)(ls:List LockD):(bU q o ls).length=ls.length:=by simp[bU]
theorem fM(q:Nat)(o:Option Nat)(ls:List LockD)(j:Nat)(hj:j<ls.length):(bU q o ls)[j]? =some (nw q o j ls[j]):=by simp[bU,hj]
def Hq(q:Nat)(o:Option Nat)(ls:List LockD)(k:Nat):SH:=if q<k then ae o 1 ((ls.getD q default).readers.map aj)else []
def Dm:List AV:=[.Xm 0,.nils]
def ko(q:Nat)(o:Option Nat)(ls:List LockD)(k:Nat):List (List AV):=(bU q o ls).take k++List.replicate (ls.length-k) Dm
theorem LN(q:Nat)(o:Option Nat)(ls:List LockD)(k:Nat)(hk:k≤ls.length):(ko q o ls k).length=ls.length:=by simp[ko,co];omega
theorem LO(q:Nat)(o o':Option Nat)(ls:List LockD)(k:Nat)(h:k≤q∨o=o'):(bU q o ls).take k=(bU q o' ls).take k:=by
 rcases h with h|rfl
 ·apply WI;intro j;rcases VG j k with hj|hj
  ·rw[Wa hj,Wa hj];rcases VG j ls.length with h1|h1
   ·rw[fM _ _ _ _ h1,fM _ _ _ _ h1];simp[nw,show j≠q by omega]
   ·rw[VH (by rw[co];exact h1),VH (by rw[co];exact h1)]
  ·rw[VH (by simp;omega),VH (by simp;omega)]
 ·rfl
theorem FO(q:Nat)(o o':Option Nat)(ls:List LockD)(k:Nat)(hk:k<ls.length)(h:k≤q∨o=o'):(ko q o ls k).set k (nw q o' k ls[k])=ko q o' ls (k+1):=by
 unfold ko;have hl:((bU q o ls).take k).length=k:=by simp[co];omega
 rw[List.set_append_right _ _ Xh,hl,Nat.sub_self];obtain⟨m,hm⟩:∃m,ls.length-k=m+1:=⟨ls.length-k-1,Xh⟩;rw[hm,List.replicate_succ,List.set_cons_zero,LO q o o' ls k h];have hk2:k<(bU q o' ls).length:=by rw[co];exact hk
 rw[VJ hk2,show ls.length-(k+1)=m by omega];have:(bU q o' ls)[k]=nw q o' k ls[k]:=by have:=fM q o' ls k hk;rw[VB hk2]at this;exact Xb this
 rw[this];simp
theorem ND(q:Nat)(o:Option Nat)(ls:List LockD)(k:Nat)(hk:k<ls.length):(ko q o ls k)[k]? =some Dm:=by
 unfold ko;have hl:((bU q o ls).take k).length=k:=by simp[co];omega
 rw[VK Xh,hl,Nat.sub_self];obtain⟨m,hm⟩:∃m,ls.length-k=m+1:=⟨ls.length-k-1,Xh⟩;rw[hm];rfl
structure NE(s:SyncD)(q:Nat)(v:AV)(L:SH):Prop where
 ex:∃(bl:Nat) (o od ot:Option Nat),v=.agg [.sl bl 0 s.locks.length,.Xm s.tx,aO od s.done.length,aO ot s.threads.length]∧
  L=(bl,⟨2,bU q o s.locks⟩)::(Hq q o s.locks s.locks.length++(ae od 1 (s.done.map aT)++ae ot 3 (s.threads.map ThrD.enc)))∧(od=none→s.done=[])∧(ot=none→s.threads=[])∧(o=none→q<s.locks.length→(s.locks.getD q default).readers=[])
set_option maxHeartbeats 4000000 in
theorem JL(s:SyncD)(q b1 b2 bl:Nat)(h1:s.locks.length<2^40)(hrd:∀l∈s.locks,l.readers.length<2^40)(Q:AV→SH→Prop)
  (hend:∀o:Option Nat,(o=none→q<s.locks.length→(s.locks.getD q default).readers=[])→FN Q (.ptr b1 0 0) (.ptr b2 0 0) (.sl bl 0 s.locks.length) ((bl,⟨2,bU q o s.locks⟩)::(b2,⟨4,[[.nils,.Xm 0,.nils,.nils]]⟩)::(b1,⟨4,[s.enc]⟩)::Hq q o s.locks s.locks.length)) :
  W.loop (iv Q) [.ptr b1 0 0,.ptr b2 0 0,.sl bl 0 s.locks.length,.lst (s.locks.map LockD.enc),.Xm s.locks.length,.Xm (0:Nat)] [(bl,⟨2,List.replicate s.locks.length Dm⟩),(b2,⟨4,[[.nils,.Xm 0,.nils,.nils]]⟩),(b1,⟨4,[s.enc]⟩)]:=by
 refine cg s.locks.length (λk (o:Option Nat)=>([.ptr b1 0 0,.ptr b2 0 0,.sl bl 0 s.locks.length,.lst (s.locks.map LockD.enc),.Xm s.locks.length,.Xm k],(bl,⟨2,ko q o s.locks k⟩)::(b2,⟨4,[[.nils,.Xm 0,.nils,.nils]]⟩)::(b1,⟨4,[s.enc]⟩)::Hq q o s.locks k)) (λk o=>o=none→q<k→(s.locks.getD q default).readers=[]) none (λ_ h=>by omega) (gM rfl (by simp[ko,Hq])) ?_;intro k o hk ho;dsimp only;unfold iv;rcases Nat.lt_or_ge k s.locks.length with g1|g1
 ·have hd:=bF g1;have hx:=aw (f:=LockD.enc) g1;have hz:=ND q o s.locks k g1;have hkl:k<(ko q o s.locks k).length:=by rw[LN _ _ _ _ hk];exact g1
  have hrk:(s.locks[k]).readers.length*8≤140737488355328:=by have:=hrd _ (VV g1);omega
  repeat' (first|refine st ?_|refine sb λnb_ hnb_=>?_|fail)
  refine GE (FI _ hrk) (by simp[rm,rz,W.free,aa]) ?_;rintro v K ⟨o',rfl,rfl,ho'⟩;unfold nr;have fin:∀(L:SH),L=ae o' 1 ((s.locks[k]).readers.map aj)++((bl,⟨2,(ko q o s.locks k).set k [.Xm (s.locks[k]).owner,am o' (s.locks[k]).readers.length]⟩)::(b2,⟨4,[[.nils,.Xm 0,.nils,.nils]]⟩)::(b1,⟨4,[s.enc]⟩)::Hq q o s.locks k)→
    ∃j o2,k<j∧j≤s.locks.length∧(o2=none→q<j→(s.locks.getD q default).readers=[])∧aJ [.ptr b1 0 0,.ptr b2 0 0,.sl bl 0 s.locks.length,.lst (s.locks.map LockD.enc),.Xm s.locks.length,.Xm (IntKind.i64.wrap ((k:Int)+1))] L
     [.ptr b1 0 0,.ptr b2 0 0,.sl bl 0 s.locks.length,.lst (s.locks.map LockD.enc),.Xm s.locks.length,.Xm j] ((bl,⟨2,ko q o2 s.locks j⟩)::(b2,⟨4,[[.nils,.Xm 0,.nils,.nils]]⟩)::(b1,⟨4,[s.enc]⟩)::Hq q o2 s.locks j):=by
   intro L hL;subst hL;rw[aE g1 Xh];by_cases hkq:k=q
   ·subst hkq;refine⟨k+1,o',Xh,Xh,λe _=>by simpa[List.getD,g1]using ho' e,?_⟩;rw[←FO k o o' s.locks k g1 (.inl (VC _))];have e1:Hq k o s.locks k=[]:=by simp[Hq]
    have e2:Hq k o' s.locks (k+1)=ae o' 1 ((s.locks[k]).readers.map aj):=by simp[Hq,List.getD,g1]
    have e3:nw k o' k s.locks[k]=[.Xm (s.locks[k]).owner,am o' (s.locks[k]).readers.length]:=by simp[nw]
    rw[e1,e2,e3];exact aJ.forget (K:=[]) V6
   ·refine⟨k+1,o,Xh,Xh,λe hq=>ho e Xh,?_⟩;have e1:Hq q o s.locks (k+1)=Hq q o s.locks k:=by
     by_cases hq:q<k
     ·simp[Hq,hq,show q<k+1 by omega]
     ·simp[Hq,hq,show¬q<k+1 by omega]
    rw[e1,←FO q o o s.locks k g1 (.inr rfl)];have e3:nw q o k s.locks[k]=[.Xm (s.locks[k]).owner,.lst ((s.locks[k]).readers.map aj)]:=by simp[nw,hkq,LockD.enc]
    rw[e3];refine aJ.row (K:=ae o' 1 ((s.locks[k]).readers.map aj)) (.refl _) Xk ?_;intro j r r' q1 q2;rw[Wu]at q1 q2;by_cases hj:k=j
    ·rw[if_pos hj]at q1 q2;rw[if_pos Xh]at q1 q2;cases q1;cases q2;refine .cons (.refl _) (.cons ?_ .nil);exact Fz.slot (f:=aj) rfl (λe=>by rw[ho' e];rfl) Xl (λy _=>rfl) (λy _ q a a2 h1 h2=>by rw[h1]at h2;cases h2;exact .refl _)
    ·rw[if_neg hj]at q1 q2;rw[q1]at q2;cases q2;exact ji.refl _ _
  cases o' with
  |none=>
   dsimp only[ae,am,List.nil_append]at fin ⊢
   repeat' (first|refine st ?_|refine sb λnb_ hnb_=>?_|fail)
   exact fin _ rfl
  |some b'=>
   dsimp only[ae,am,List.cons_append,List.nil_append]at fin ⊢
   repeat' (first|refine st ?_|refine sb λnb_ hnb_=>?_|fail)
   exact fin _ rfl
 ·have hd:=bI g1;have hk0:k=s.locks.length:=by omega
  subst hk0;have:=hend o ho;rw[show ko q o s.locks s.locks.length=bU q o s.locks by simp[ko,co,Wo]];refine Nu ?_;refine mK (M1 ?_);refine Rx (H5 hd ?_);exact this
theorem FP{s:SyncD}(hs:s.threads.length<2^40):s.threads.length*24≤140737488355328:=by omega
set_option maxHeartbeats 4000000 in
theorem In(s:SyncD)(q:Nat)(h1:s.locks.length<2^40)(h2:s.done.length≤140737488351232)(h3:s.threads.length<2^40)(hrd:∀l∈s.locks,l.readers.length<2^40):
  af Tryz.prog 73 [.agg s.enc] [] (NE s q):=by
 refine af.fz (BT _ _ _ ?_);unfold pj;generalize hQ:(λ(v:AV) (L:SH)=>∃v2 L2,aJ [v] L [v2] L2∧NE s q v2 L2)=Q
 repeat' (first|refine st ?_|refine sb λnb_ hnb_=>?_|fail)
 rename_i b1 _ b2 _;revert nb_;intro bl _;refine JL s q b1 b2 bl h1 hrd Q ?_;intro o ho;unfold FN
 repeat' (first|refine st ?_|refine sb λnb_ hnb_=>?_|fail)
 refine pd (LM _ Xh) ?_;rintro v K ⟨od,rfl,rfl,hod⟩;unfold iu;have fin:∀(v:AV) (L:SH) (ot:Option Nat),(ot=none→s.threads=[])→v=.agg [.sl bl 0 s.locks.length,.Xm s.tx,aO od s.done.length,aO ot s.threads.length]→
   (∃x y:Blk,L=(bl,⟨2,bU q o s.locks⟩)::(b2,x)::(b1,y)::(Hq q o s.locks s.locks.length++ae od 1 (s.done.map aT)++ae ot 3 (s.threads.map ThrD.enc)))→Q v L:=by
  rintro v L ot hot rfl ⟨x,y,rfl⟩;subst hQ;refine⟨_,_,aJ.forget (K:=[(b2,x),(b1,y)]) (R:=(bl,⟨2,bU q o s.locks⟩)::(Hq q o s.locks s.locks.length++ae od 1 (s.done.map aT)++ae ot 3 (s.threads.map ThrD.enc))) ?_,⟨bl,o,od,ot,rfl,by rw[Wh],hod,hot,ho⟩⟩;exact(List.Perm.swap _ _ _).trans ((List.Perm.swap _ _ _).cons _)
 cases od with
 |none=>
  dsimp only[aO]at fin ⊢
  repeat' (first|refine st ?_|refine sb λnb_ hnb_=>?_|fail)
  refine pd (FJ _ (FP h3)) ?_;rintro v K ⟨ot,rfl,rfl,hot⟩;unfold ir;cases ot with
  |none=>
   dsimp only[aO]at fin ⊢
   repeat' (first|refine st ?_|refine sb λnb_ hnb_=>?_|fail)
   exact fin _ _ none hot rfl ⟨_,_,rfl⟩
  |some bt=>
   dsimp only[aO]at fin ⊢
   repeat' (first|refine st ?_|refine sb λnb_ hnb_=>?_|fail)
   exact fin _ _ (some bt) hot rfl ⟨_,_,rfl⟩
 |some bd=>
  dsimp only[aO]at fin ⊢
  repeat' (first|refine st ?_|refine sb λnb_ hnb_=>?_|fail)
  refine pd (FJ _ (FP h3)) ?_;rintro v K ⟨ot,rfl,rfl,hot⟩;unfold ir;cases ot with
  |none=>
   dsimp only[aO]at fin ⊢
   repeat' (first|refine st ?_|refine sb λnb_ hnb_=>?_|fail)
   exact fin _ _ none hot rfl ⟨_,_,rfl⟩
  |some bt=>
   dsimp only[aO]at fin ⊢
   repeat' (first|refine st ?_|refine sb λnb_ hnb_=>?_|fail)
   exact fin _ _ (some bt) hot rfl ⟨_,_,rfl⟩
end
section
set_option maxRecDepth 100000
set_option linter.unusedSimpArgs false
def qy(T:List ThrD)(c:Int)(i:Nat):Bool:=fY (T.getD i default) c
def cj(T:List ThrD)(c:Int)(n:Nat):List Nat:=(List.range n).filter λi=>qy T c i
def bn(l:List Nat)(wake:Int):Int:=match l with
 |[]=>-1
 |u::l=>if(u::l).any (λx=>decide ((x:Int)=wake))then wake else u
def eg(T:List ThrD)(c wake:Int):Int:=bn (cj T c T.length) wake
def Io(T:List ThrD)(i:Nat)(st:Int):List ThrD:=T.set i {T.getD i default with status:=st}
def kV(T:List ThrD)(c wake:Int):List ThrD:=if 0≤eg T c wake then Io T (eg T c wake).toNat 4 else T
theorem JM{l:List Nat}{wake:Int}(h:0≤bn l wake):(bn l wake).toNat∈l:=by
 cases l with
 |nil=>simp[bn]at h
 |cons u l=>
  simp only[bn]at h ⊢;split
  ·rename_i ha;obtain⟨x,hx,he⟩:=Xg.1 ha;have:=of_decide_eq_true he;rw[←this];simpa using hx
  ·simp
theorem JN(l:List Nat)(wake:Int):bn l wake=-1∨0≤bn l wake:=by
 cases l with
 |nil=>simp[bn]
 |cons u l=>
  right;simp only[bn];split
  ·rename_i ha;obtain⟨x,hx,he⟩:=Xg.1 ha;have:=of_decide_eq_true he;omega
  ·omega
theorem Ip(l:List Nat)(i:Nat)(wake:Int):bn (l++[i]) wake=if bn l wake<0∨(i:Int)=wake then(i:Int)else bn l wake:=by
 cases l with
 |nil=>simp only[bn,WC];split<;>simp_all
 |cons u l=>
  have hlow:=JN (u::l) wake;simp only[WO];rw[bn,←WO,List.any_append];by_cases hw:(i:Int)=wake
  ·simp[hw]
  ·by_cases ha:(u::l).any (λx=>decide ((x:Int)=wake))=true
   ·have hc:bn (u::l) wake=wake:=by simp only[bn];rw[if_pos ha]
    rw[hc]at hlow ⊢;obtain⟨x,hx,he⟩:=Xg.1 ha;have:=of_decide_eq_true he;rw[ha,Bool.true_or,if_pos rfl,if_neg Xh]
   ·have hc:bn (u::l) wake=u:=by simp only[bn];rw[if_neg ha]
    rw[hc,if_neg (by simp only[Xa,not_or];exact⟨ha,by simp[hw]⟩),if_neg Xh]
theorem xj(T:List ThrD)(c:Int)(n:Nat):cj T c (n+1)=cj T c n++(if qy T c n then [n]else []):=by simp only[cj,List.range_succ,List.filter_append,List.filter_cons,List.filter_nil]
theorem JO{T:List ThrD}{c:Int}{n x:Nat}(h:x∈cj T c n):x<n:=by simp only[cj,W3,Wy]at h;exact h.1
theorem PE(T:List ThrD)(i:Nat)(st:Int)(hi:i<T.length):(T.map ThrD.enc).set i ((ThrD.enc T[i]).set 0 (.Xm st))=(Io T i st).map ThrD.enc:=by unfold Io;rw[Wx];congr 1;simp[List.getD,hi,ThrD.enc]
section
variable (a b d:AV) (bt:Nat)
theorem LP(T:List ThrD)(c wake:Int)(hT:T.length<2^40)(hbox:([a,b,d,.sl bt 0 T.length]:List AV).all AV.one=true):
  af Tryz.prog 78 [.agg [a,b,d,.sl bt 0 T.length],.Xm c,.Xm wake] [(bt,⟨3,T.map ThrD.enc⟩)] λv L=>v=.Xm (eg T c wake)∧L=[(bt,⟨3,(kV T c wake).map ThrD.enc⟩)]:=by
 refine zK _ _ _ _ _ ?_;unfold nu;generalize hQ:(λ(v:AV) (L:SH)=>v=AV.Xm (eg T c wake)∧L=[(bt,(⟨3,(kV T c wake).map ThrD.enc⟩:Blk))])=Q
 repeat' (first|refine GA ?_ rfl hbox (by exact Nat.succ_pos _)|refine st ?_|refine sb λnb_ hnb_=>?_|fail)
 refine sY T.length (λi=>([.Xm c,.Xm wake,.pptr [[a,b,d,.sl bt 0 T.length]] 0 0,.Xm (bn (cj T c i) wake),.sl bt 0 T.length,.Xm T.length,.Xm i],[(bt,⟨3,T.map ThrD.enc⟩)])) (λ_=>True) trivial (by simp[cj,bn]) rfl ?_;intro i hi _;dsimp only;unfold lR;rcases Nat.lt_or_ge i T.length with h1|h1
 ·have hd:=bF h1;have hx:=aw (f:=ThrD.enc) h1;have hsn:=Ip (cj T c i) i wake;have hws:=xj T c i;have hwa:qy T c i=fY T[i] c:=by simp[qy,h1]
  have goal:∀ch:Int,ch=bn (cj T c (i+1)) wake→∃j,i<j∧j≤T.length∧True∧aJ [.Xm c,.Xm wake,.pptr [[a,b,d,.sl bt 0 T.length]] 0 0,.Xm ch,.sl bt 0 T.length,.Xm T.length,.Xm (IntKind.i64.wrap ((i:Int)+1))] [(bt,⟨3,T.map ThrD.enc⟩)]
    [.Xm c,.Xm wake,.pptr [[a,b,d,.sl bt 0 T.length]] 0 0,.Xm (bn (cj T c j) wake),.sl bt 0 T.length,.Xm T.length,.Xm j] [(bt,⟨3,T.map ThrD.enc⟩)]:=λch hch=>⟨i+1,Xh,Xh,trivial,gM (by rw[aE h1 Xh,hch]) rfl⟩
  cases hw:fY T[i] c with
  |false=>
   rw[hw]at hwa
   repeat' (first|refine st ?_|(refine pf 115 ?_;refine pm (lT _ _) ?_)|refine sb λnb_ hnb_=>?_|refine s2 (λh=>?_) λh=>?_|fail)
   exact goal _ (by rw[hws,hwa];simp)
  |true=>
   rw[hw]at hwa;have hn:bn (cj T c (i+1)) wake=if bn (cj T c i) wake<0∨(i:Int)=wake then(i:Int)else bn (cj T c i) wake:=by rw[hws,hwa,if_pos rfl,hsn]
   by_cases g1:bn (cj T c i) wake<0
   ·have e1:decide (bn (cj T c i) wake<0)=true:=decide_eq_true g1
    repeat' (first|refine st ?_|(refine pf 115 ?_;refine pm (lT _ _) ?_)|refine sb λnb_ hnb_=>?_|refine s2 (λh=>?_) λh=>?_|fail)
    exact goal _ (by rw[hn,if_pos (.inl g1)])
   ·have e1:decide (bn (cj T c i) wake<0)=false:=decide_eq_false g1;by_cases g2:(i:Int)=wake
    ·have e2:decide ((i:Int)=wake)=true:=decide_eq_true g2
     repeat' (first|refine st ?_|(refine pf 115 ?_;refine pm (lT _ _) ?_)|refine sb λnb_ hnb_=>?_|refine s2 (λh=>?_) λh=>?_|fail)
     exact goal _ (by rw[hn,if_pos (.inr g2)])
    ·have e2:decide ((i:Int)=wake)=false:=decide_eq_false g2
     repeat' (first|refine st ?_|(refine pf 115 ?_;refine pm (lT _ _) ?_)|refine sb λnb_ hnb_=>?_|refine s2 (λh=>?_) λh=>?_|fail)
     exact goal _ (by rw[hn,if_neg Xh])
 ·have hd:=bI h1;have hi0:i=T.length:=by omega
  subst hi0;have hns:bn (cj T c T.length) wake=eg T c wake:=rfl;rw[hns];by_cases g1:0≤eg T c wake
  ·have e1:decide (0≤eg T c wake)=true:=decide_eq_true g1;have hlt:(eg T c wake).toNat<T.length:=JO (JM g1);have hx:=aw (f:=ThrD.enc) hlt;have hidx:eg T c wake=((eg T c wake).toNat:Nat):=(Int.toNat_of_nonneg g1).symm;have hst:=PE T _ 4 hlt;have hwk:kV T c wake=Io T (eg T c wake).toNat 4:=by rw[kV,if_pos g1]
   generalize hk:(eg T c wake).toNat=k at *;rw[hidx]at e1 hQ ⊢
   repeat' (first|refine st ?_|refine sb λnb_ hnb_=>?_|refine s2 (λh=>?_) λh=>?_|fail)
   subst hQ;exact⟨rfl,by rw[hwk,←hst]⟩
  ·have e1:decide (0≤eg T c wake)=false:=decide_eq_false g1;have hwk:kV T c wake=T:=by rw[kV,if_neg g1]
   repeat' (first|refine st ?_|refine sb λnb_ hnb_=>?_|refine s2 (λh=>?_) λh=>?_|fail)
   subst hQ;exact⟨rfl,by rw[hwk]⟩
def dy(T:List ThrD)(c:Int)(n:Nat):List ThrD:=T.zipIdx.map λp=>if decide (p.2<n)&&fY p.1 c then {p.1 with status:=4} else p.1
theorem gR(T:List ThrD)(c:Int)(n i:Nat)(hi:i<T.length):(dy T c n)[i]? =some (if decide (i<n)&&fY T[i] c then {T[i]with status:=4} else T[i]):=by simp[dy,hi]
theorem eF(T:List ThrD)(c:Int)(n:Nat):(dy T c n).length=T.length:=by simp[dy]
theorem GF(T:List ThrD)(c:Int):dy T c 0=T:=by
 apply WI;intro i;rcases VG i T.length with hi|hi
 ·rw[gR T c 0 i hi];simp[hi]
 ·rw[VH (by rw[eF];exact hi),VH hi]
theorem GG(T:List ThrD)(c:Int)(n:Nat)(hn:n<T.length):dy T c (n+1)=if fY T[n] c then(dy T c n).set n {T[n]with status:=4} else dy T c n:=by
 apply WI;intro i;have key:∀hi:i<T.length,(if fY T[n] c then(dy T c n).set n {T[n]with status:=4} else dy T c n)[i]? =some (if decide (i<n+1)&&fY T[i] c then {T[i]with status:=4} else T[i]):=λhi=>by
  by_cases hin:i=n
  ·subst hin;cases hw:fY T[i] c with
   |true=>simp[hw,eF,hi]
   |false=>simp[hw,gR T c i i hi]
  ·have h1:decide (i<n+1)=decide (i<n):=by apply decide_eq_decide.2;omega
   rw[h1];split
   ·rw[List.getElem?_set_ne Xh];exact gR T c n i hi
   ·exact gR T c n i hi
 rcases VG i T.length with hi|hi
 ·rw[key hi,gR T c (n+1) i hi]
 ·rw[VH (by rw[eF];exact hi),VH];split<;>simp[eF,hi]
theorem GH(T:List ThrD)(c:Int)(hT:T.length<2^40)(hbox:([a,b,d,.sl bt 0 T.length]:List AV).all AV.one=true):
  af Tryz.prog 79 [.agg [a,b,d,.sl bt 0 T.length],.Xm c] [(bt,⟨3,T.map ThrD.enc⟩)] λv L=>v=.Xm ((cj T c T.length).length:Nat)∧L=[(bt,⟨3,(dy T c T.length).map ThrD.enc⟩)]:=by
 refine qG _ _ _ _ ?_;unfold jl;generalize hQ:(λ(v:AV) (L:SH)=>v=AV.Xm ((cj T c T.length).length:Nat)∧L=[(bt,(⟨3,(dy T c T.length).map ThrD.enc⟩:Blk))])=Q
 repeat' (first|refine GA ?_ rfl hbox (by exact Nat.succ_pos _)|refine st ?_|refine sb λnb_ hnb_=>?_|fail)
 refine sY T.length (λi=>([.Xm c,.pptr [[a,b,d,.sl bt 0 T.length]] 0 0,.Xm ((cj T c i).length:Nat),.sl bt 0 T.length,.Xm T.length,.Xm i],[(bt,⟨3,(dy T c i).map ThrD.enc⟩)])) (λ_=>True) trivial (by simp[cj]) (by rw[GF]) ?_;intro i hi _;dsimp only;unfold iG;rcases Nat.lt_or_ge i T.length with h1|h1
 ·have hd:=bF h1;have hi2:i<(dy T c i).length:=by rw[eF];exact h1
  have hti:(dy T c i)[i]=T[i]:=by have:=gR T c i i h1;rw[VB hi2]at this;simpa using this
  have hx:=aw (f:=ThrD.enc) hi2;rw[hti]at hx;have hws:=xj T c i;have hwa:qy T c i=fY T[i] c:=by simp[qy,h1]
  have hsu:=GG T c i h1;have hwl:(cj T c i).length≤i:=VT (W8 _ _) Xk;cases hw:fY T[i] c with
  |false=>
   rw[hw]at hwa hsu
   repeat' (first|refine st ?_|(refine pf 115 ?_;refine pm (lT _ _) ?_)|refine sb λnb_ hnb_=>?_|refine s2 (λh=>?_) λh=>?_|fail)
   refine⟨i+1,Xh,Xh,trivial,gM (by rw[aE h1 Xh,hws,hwa];simp[av]) (by rw[hsu];simp)⟩
  |true=>
   rw[hw]at hwa hsu
   repeat' (first|refine st ?_|(refine pf 115 ?_;refine pm (lT _ _) ?_)|refine sb λnb_ hnb_=>?_|refine s2 (λh=>?_) λh=>?_|fail)
   refine⟨i+1,Xh,Xh,trivial,gM (by rw[aE h1 Xh,hws,hwa,aE (Nat.lt_of_le_of_lt hwl h1) Xh];simp[av]) ?_⟩;rw[hsu,if_pos rfl,Wx];simp[ThrD.enc]
 ·have hd:=bI h1;have hi0:i=T.length:=by omega
  subst hi0
  repeat' (first|refine st ?_|refine sb λnb_ hnb_=>?_|refine s2 (λh=>?_) λh=>?_|fail)
  subst hQ;exact⟨rfl,rfl⟩
end
end
section
set_option maxRecDepth 100000
set_option linter.unusedSimpArgs false
def A6(P:Program)(g:FuncId)(cs:List AV)(p:Int→Bool):Prop:=∀x:Int,az P g (.Xm x::cs) (.bool (p x))
theorem A6.call{P:Program}{g:FuncId}{cs:List AV}{p:Int→Bool}(h:A6 P g cs p){x:Int}{L:SH}{KL:AV→SH→Prop}(hk:KL (.bool (p x)) L):W.call P (.fn g cs) [.Xm x] L KL:=⟨(h x).call hk⟩
def zN(p:Int→Bool)(l:List Int):Int:=if l.any p then(l.findIdx p:Int)else -1
theorem LQ{p:Int→Bool}{l:List Int}{i:Nat}(hi:i<l.length)(hno:(l.take i).any p=false)(hp:p l[i]=true):zN p l=i:=by
 have h1:l.any p=true:=Xg.2 ⟨l[i],VV hi,hp⟩;have h2:l.findIdx p=i:=by rw[List.findIdx_eq hi];refine⟨hp,λj hj=>?_⟩;have:=List.any_eq_false.1 hno l[j] (List.mem_take_iff_getElem.2 ⟨j,Xh,rfl⟩);simpa using this
 rw[zN,if_pos h1,h2]
theorem GI(g:FuncId)(cs:List AV)(p:Int→Bool)(hp:A6 Tryz.prog g cs p)(b:Nat)(xs:List Int)(hl:xs.length<2^62):af Tryz.prog 114 [.sl b 0 xs.length,.fn g cs] [(b,⟨1,xs.map aj⟩)] λv L=>v=.Xm (zN p xs)∧L=[(b,⟨1,xs.map aj⟩)]:=by
 refine gP _ _ _ _ ?_;unfold dJ;generalize hQ:(λ(v:AV) (L:SH)=>v=AV.Xm (zN p xs)∧L=[(b,(⟨1,xs.map aj⟩:Blk))])=Q
 repeat' (first|refine st ?_|refine sb λnb_ hnb_=>?_|fail)
 refine sY xs.length (λi=>([.sl b 0 xs.length,.fn g cs,.Xm xs.length,.Xm i],[(b,⟨1,xs.map aj⟩)])) (λi=>(xs.take i).any p=false) Xk rfl rfl ?_;intro i hi hno;dsimp only;unfold dD;rcases Nat.lt_or_ge i xs.length with h1|h1
 ·have hx:=aw (f:=aj) h1;have hd:=bF h1
  repeat' (first|refine pb (A6.call hp ?_)|refine st ?_|refine sb λnb_ hnb_=>?_|refine s2 (λh=>?_) λh=>?_|fail)
  ·subst hQ;exact⟨by rw[LQ h1 hno h],rfl⟩
  ·refine⟨i+1,Xh,Xh,?_,gM (by rw[aE h1 hl]<;>rfl) rfl⟩;rw[VJ h1,List.any_append,hno];simpa using h
 ·have hd:=bI h1
  repeat' (first|refine st ?_|refine sb λnb_ hnb_=>?_|refine s2 (λh=>?_) λh=>?_|fail)
  subst hQ;rw[Wo h1]at hno;exact⟨by rw[zN,if_neg (by simp[hno])],rfl⟩
theorem FQ{k:IntKind}{m d:Nat}:cF (some (.int k (m:Int))) d=some m:=by simp[cF,np]
theorem JP{p:Int→Bool}{l:List Int}(h:zN p l≠-1):∃i:Nat,zN p l=i∧i<l.length∧(l.take (i+1)).filter (λx=>!p x)=l.take i:=by
 unfold zN at h ⊢;split at h
 ·rename_i ha;rw[if_pos ha];refine⟨l.findIdx p,rfl,List.findIdx_lt_length.2 (Xg.1 ha),?_⟩;have hlt:=List.findIdx_lt_length.2 (Xg.1 ha);rw[VJ hlt,List.filter_append];have h1:p l[l.findIdx p]=true:=List.findIdx_getElem;rw[List.filter_cons_of_neg (by simp[h1]),List.filter_nil,Wi,List.filter_eq_self];intro x hx;obtain⟨j,hj,rfl⟩:=List.mem_take_iff_getElem.1 hx;have:=List.not_of_lt_findIdx (xs:=l) (p:=p) (i:=j) Xh;simpa using this
 ·exact absurd rfl h
theorem FR{p:Int→Bool}{l:List Int}(h:zN p l=-1):l.filter (λx=>!p x)=l:=by
 unfold zN at h;split at h
 ·omega
 ·rename_i ha;rw[List.filter_eq_self];intro x hx;simp only[Bool.not_eq_true,List.any_eq_false]at ha;simpa using ha x hx
theorem E0(g:FuncId)(cs:List AV)(p:Int→Bool)(hp:A6 Tryz.prog g cs p)(b:Nat)(xs:List Int)(hl:xs.length<2^61):af Tryz.prog 76 [.sl b 0 xs.length,.fn g cs] [(b,⟨1,xs.map aj⟩)] λv L=>∃R:List Int,v=.sl b 0 (xs.filter λx=>!p x).length∧L=[(b,⟨1,R.map aj⟩)]∧R.take (xs.filter λx=>!p x).length=(xs.filter λx=>!p x)∧R.length=xs.length:=by
 refine gx _ _ _ _ ?_;unfold dE;refine pb (JF (A5 (GI g cs p hp b xs Xh) ?_));rintro v L ⟨rfl,rfl⟩;unfold dk;generalize hQ:(λ(v:AV) (L:SH)=>∃R:List Int,v=AV.sl b 0 (xs.filter λx=>!p x).length∧L=[(b,(⟨1,R.map aj⟩:Blk))]∧R.take (xs.filter λx=>!p x).length=(xs.filter λx=>!p x)∧R.length=xs.length)=Q;by_cases hm:zN p xs=-1
 ·have hd:decide (zN p xs=-1)=true:=decide_eq_true hm
  repeat' (first|refine st ?_|refine sb λnb_ hnb_=>?_|fail)
  subst hQ;refine⟨xs,?_,rfl,?_,rfl⟩
  ·rw[FR hm]
  ·rw[FR hm];simp
 ·have hd:decide (zN p xs=-1)=false:=decide_eq_false hm;obtain⟨i0,hi0,hlt,hfil⟩:=JP hm;rw[hi0]at hd ⊢
  repeat' (first|refine st ?_|refine sb λnb_ hnb_=>?_|fail)
  rw[aE hlt Xh];have hc:∀j,((xs.take j).filter λx=>!p x).length≤j:=λj=>VT (W8 _ _) (by simp;omega)
  refine cg (xs.length-(i0+1)) (λk (R:List Int)=>([.sl b 0 xs.length,.fn g cs,.Xm (((xs.take (i0+1+k)).filter λx=>!p x).length:Nat),.Xm (i0+1+k:Nat)],[(b,⟨1,R.map aj⟩)]))
   (λk R=>R.length=xs.length∧R.take ((xs.take (i0+1+k)).filter λx=>!p x).length=((xs.take (i0+1+k)).filter λx=>!p x)∧R.drop (i0+1+k)=xs.drop (i0+1+k)) xs ⟨rfl,by rw[W4,hfil];simp,rfl⟩ (gM (by rw[W4,hfil,V5,Wq Xh]) rfl) ?_
  rintro k R hk ⟨r1,r2,r3⟩;dsimp only;unfold dh;have hcj:=hc (i0+1+k);generalize hj:i0+1+k=j at r2 r3 hcj ⊢;rcases Nat.lt_or_ge j xs.length with h1|h1
  ·have hd2:=bF h1;have h1':j<R.length:=by omega
   have hxj:R[j]=xs[j]:=by have h0:=congrArg (λl=>l[0]?) r3;simp only[Ws,W4]at h0;rw[VB h1',VB h1]at h0;exact Xb h0
   have hx:=aw (f:=aj) h1';rw[hxj]at hx;have htk:(xs.take (j+1)).filter (λx=>!p x)=(xs.take j).filter (λx=>!p x)++([xs[j]].filter λx=>!p x):=by rw[VJ h1,List.filter_append]
   have hm1:((xs.take j).filter λx=>!p x).length<xs.length:=by omega
   have hm2:((xs.take j).filter λx=>!p x).length<R.length:=by omega
   have hxm:=aw (f:=aj) hm2;cases hpx:p xs[j]with
   |true=>
    have hnp:(!p xs[j])=false:=by simp[hpx]
    repeat' (first|refine pb (A6.call hp ?_)|refine st ?_|refine sb λnb_ hnb_=>?_|refine s2 (λh=>?_) λh=>?_|fail)
    refine⟨k+1,R,Xh,Xh,⟨r1,?_,?_⟩,gM ?_ rfl⟩
    ·rw[show i0+1+(k+1)=j+1 by omega,htk];simpa[hpx]using r2
    ·rw[show i0+1+(k+1)=j+1 by omega,←List.drop_drop,←List.drop_drop,r3]
    ·rw[show i0+1+(k+1)=j+1 by omega,htk,aE h1 Xh];simp[hpx,av]
   |false=>
    have hnp:(!p xs[j])=true:=by simp[hpx]
    repeat' (first|refine pb (A6.call hp ?_)|refine st ?_|refine sb λnb_ hnb_=>?_|refine s2 (λh=>?_) λh=>?_|fail)
    refine⟨k+1,R.set ((xs.take j).filter λx=>!p x).length xs[j],Xh,Xh,⟨by simp[r1],?_,?_⟩,gM ?_ ?_⟩
    ·rw[show i0+1+(k+1)=j+1 by omega,htk];simp only[List.filter_cons,hpx,Bool.not_false,if_true,List.filter_nil,VL,List.length_singleton];rw[VJ (by simpa using hm2),List.take_set_of_le (VC _),r2];simp
    ·rw[show i0+1+(k+1)=j+1 by omega,List.drop_set_of_lt Xh,←List.drop_drop,←List.drop_drop,r3]
    ·rw[show i0+1+(k+1)=j+1 by omega,htk,aE h1 Xh,aE hm1 Xh];simp[hpx,av]
    ·simp[Wx,aj]
  ·have hd2:=bI h1;have ht:xs.take j=xs:=Wo h1;rw[ht]at r2 hcj ⊢;have hle:(xs.filter λx=>!p x).length≤xs.length:=W8 _ _;generalize hmm:(xs.filter λx=>!p x).length=m at r2 hcj hle hQ ⊢
   repeat' (first|refine st ?_|refine zm (l:=m) (h:=xs.length) FQ rfl hle (VC _) (.head _) rfl ?_|refine LH (.here _) rfl (by simp[r1];omega) rfl ?_|refine zm (l:=0) (h:=m) rfl FQ (We _) hle (.head _) rfl ?_|refine sb λnb_ hnb_=>?_|fail)
   subst hQ;refine⟨R.take m++List.replicate (xs.length-m) 0,Xk,?_,?_,?_⟩
   ·simp only[Ww];rw[List.drop_of_length_le (by simp[r1];omega),Wi,VF,List.map_take];simp[aj]
   ·rw[List.take_left' (by simp[r1];omega)];exact r2
   ·simp[r1];omega
theorem LR(t x:Int)(L:SH):A6 Tryz.prog 77 [.pptr [[.Xm t]] 0 0] (λx=>decide (x=t)):=λx=>by
 refine xh _ _ _ _ ?_;unfold lS
 repeat' (first|refine st ?_|refine sb λnb_ hnb_=>?_|fail)
 exact⟨rfl,rfl⟩
end
end Go.Proofs.YtdnpdghlggbklaaGreatDoor.Am
