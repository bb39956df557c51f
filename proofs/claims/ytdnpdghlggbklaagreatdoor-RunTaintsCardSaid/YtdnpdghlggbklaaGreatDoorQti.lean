/- A part of the proof; the statement is proved in the last part. -/
import Derived.Test.YtdnpdghlggbklaaGreatDoorQth
set_option linter.unusedSimpArgs false
set_option linter.unusedVariables false
namespace Go.Proofs.YtdnpdghlggbklaaGreatDoor.Am
section
set_option maxRecDepth 100000
set_option linter.unusedSimpArgs false
theorem Il{KN:AV→SH→List Nat→Prop}{us:List W.WR}{i:Nat}{g:FuncId}{args:List AV}{L:SH}{R:AV→SH→Prop}(h:af Tryz.prog g args [] R)(hf:∀x∈us,W.free x ⟨i,[],[],[],true,[]⟩)(hk:∀v K,R v K→KN v (K++L) []):W.dcallM Tryz.prog us i g args L KN:=
 ⟨[],L,.refl _,hf,h.mono λu K hu=>hk u K hu⟩
def Hr(Q:R)(x15 x16 x17:AV)(L14:SH):Prop:=
 W.faddr 0 x15 λx45=>W.store 1 x45 x17 L14 λL46=>aC 2 x15 L46 λx48=>wc (.fn 110 []) [x48] L46 (iJ Q x15 x16)
def oH(q:Nat)(o:Option Nat)(j:Nat)(l:LockD):List AV:=if j=q then [.ZO l.owner,ao o l.readers.length]else l.enc
def cg(q:Nat)(o:Option Nat)(ls:List LockD):List (List AV):=ls.zipIdx.map λp=>oH q o p.2 p.1
theorem cy(q:Nat)(o:Option Nat)(ls:List LockD):(cg q o ls).length=ls.length:=by simp[cg]
theorem ga(q:Nat)(o:Option Nat)(ls:List LockD)(j:Nat)(hj:j<ls.length):(cg q o ls)[j]? =some (oH q o j ls[j]):=by simp[cg,hj]
def Je(q:Nat)(o:Option Nat)(ls:List LockD)(k:Nat):SH:=if q<k then ae o 1 ((ls.getD q default).readers.map aj)else []
def EK:List AV:=[.ZO 0,.nils]
def kR(q:Nat)(o:Option Nat)(ls:List LockD)(k:Nat):List (List AV):=(cg q o ls).take k++List.replicate (ls.length-k) EK
theorem NQ(q:Nat)(o:Option Nat)(ls:List LockD)(k:Nat)(hk:k≤ls.length):(kR q o ls k).length=ls.length:=by simp[kR,cy];omega
theorem NR(q:Nat)(o o':Option Nat)(ls:List LockD)(k:Nat)(h:k≤q∨o=o'):(cg q o ls).take k=(cg q o' ls).take k:=by
 rcases h with h|rfl
 ·apply Zh;intro j;rcases X9 j k with hj|hj
  ·rw[YG hj,YG hj];rcases X9 j ls.length with h1|h1
   ·rw[ga _ _ _ _ h1,ga _ _ _ _ h1];simp[oH,show j≠q by omega]
   ·rw[X8 (by rw[cy];exact h1),X8 (by rw[cy];exact h1)]
  ·rw[X8 (by simp;omega),X8 (by simp;omega)]
 ·rfl
theorem Hs(q:Nat)(o o':Option Nat)(ls:List LockD)(k:Nat)(hk:k<ls.length)(h:k≤q∨o=o'):(kR q o ls k).set k (oH q o' k ls[k])=kR q o' ls (k+1):=by
 unfold kR;have hl:((cg q o ls).take k).length=k:=by simp[cy];omega
 rw[List.set_append_right _ _ ZJ,hl,Nat.sub_self];obtain⟨m,hm⟩:∃m,ls.length-k=m+1:=⟨ls.length-k-1,ZJ⟩;rw[hm,List.replicate_succ,List.set_cons_zero,NR q o o' ls k h];have hk2:k<(cg q o' ls).length:=by rw[cy];exact hk
 rw[Yd hk2,show ls.length-(k+1)=m by omega];have:(cg q o' ls)[k]=oH q o' k ls[k]:=by have:=ga q o' ls k hk;rw[X6 hk2]at this;exact ZE this
 rw[this];simp
theorem PJ(q:Nat)(o:Option Nat)(ls:List LockD)(k:Nat)(hk:k<ls.length):(kR q o ls k)[k]? =some EK:=by
 unfold kR;have hl:((cg q o ls).take k).length=k:=by simp[cy];omega
 rw[Yh ZJ,hl,Nat.sub_self];obtain⟨m,hm⟩:∃m,ls.length-k=m+1:=⟨ls.length-k-1,ZJ⟩;rw[hm];rfl
structure PK(s:SyncD)(q:Nat)(v:AV)(L:SH):Prop where
 ex:∃(bl:Nat) (o od ot:Option Nat),v=.agg [.sl bl 0 s.locks.length,.ZO s.tx,aS od s.done.length,aS ot s.threads.length]∧
  L=(bl,⟨2,cg q o s.locks⟩)::(Je q o s.locks s.locks.length++(ae od 1 (s.done.map bj)++ae ot 3 (s.threads.map ThrD.enc)))∧(od=none→s.done=[])∧(ot=none→s.threads=[])∧(o=none→q<s.locks.length→(s.locks.getD q default).readers=[])
set_option maxHeartbeats 4000000 in
theorem LF(s:SyncD)(q b1 b2 bl:Nat)(h1:s.locks.length<2^40)(hrd:∀l∈s.locks,l.readers.length<2^40)(Q:AV→SH→Prop)
  (hend:∀o:Option Nat,(o=none→q<s.locks.length→(s.locks.getD q default).readers=[])→Hr Q (.ptr b1 0 0) (.ptr b2 0 0) (.sl bl 0 s.locks.length) ((bl,⟨2,cg q o s.locks⟩)::(b2,⟨4,[[.nils,.ZO 0,.nils,.nils]]⟩)::(b1,⟨4,[s.enc]⟩)::Je q o s.locks s.locks.length)) :
  W.loop (iK Q) [.ptr b1 0 0,.ptr b2 0 0,.sl bl 0 s.locks.length,.lst (s.locks.map LockD.enc),.ZO s.locks.length,.ZO (0:Nat)] [(bl,⟨2,List.replicate s.locks.length EK⟩),(b2,⟨4,[[.nils,.ZO 0,.nils,.nils]]⟩),(b1,⟨4,[s.enc]⟩)]:=by
 refine bW s.locks.length (λk (o:Option Nat)=>([.ptr b1 0 0,.ptr b2 0 0,.sl bl 0 s.locks.length,.lst (s.locks.map LockD.enc),.ZO s.locks.length,.ZO k],(bl,⟨2,kR q o s.locks k⟩)::(b2,⟨4,[[.nils,.ZO 0,.nils,.nils]]⟩)::(b1,⟨4,[s.enc]⟩)::Je q o s.locks k)) (λk o=>o=none→q<k→(s.locks.getD q default).readers=[]) none (λ_ h=>by omega) (eQ rfl (by simp[kR,Je])) ?_;intro k o hk ho;dsimp only;unfold iK;rcases Nat.lt_or_ge k s.locks.length with g1|g1
 ·have hd:=bE g1;have hx:=ay (f:=LockD.enc) g1;have hz:=PJ q o s.locks k g1;have hkl:k<(kR q o s.locks k).length:=by rw[NQ _ _ _ _ hk];exact g1
  have hrk:(s.locks[k]).readers.length*8≤140737488355328:=by have:=hrd _ (Yr g1);omega
  repeat' (first|refine st ?_|refine sb λnb_ hnb_=>?_|fail)
  refine Il (Hl _ hrk) (by simp[rm,rz,W.free,aa]) ?_;rintro v K ⟨o',rfl,rfl,ho'⟩;unfold oE;have fin:∀(L:SH),L=ae o' 1 ((s.locks[k]).readers.map aj)++((bl,⟨2,(kR q o s.locks k).set k [.ZO (s.locks[k]).owner,ao o' (s.locks[k]).readers.length]⟩)::(b2,⟨4,[[.nils,.ZO 0,.nils,.nils]]⟩)::(b1,⟨4,[s.enc]⟩)::Je q o s.locks k)→
    ∃j o2,k<j∧j≤s.locks.length∧(o2=none→q<j→(s.locks.getD q default).readers=[])∧aG [.ptr b1 0 0,.ptr b2 0 0,.sl bl 0 s.locks.length,.lst (s.locks.map LockD.enc),.ZO s.locks.length,.ZO (IntKind.i64.wrap ((k:Int)+1))] L
     [.ptr b1 0 0,.ptr b2 0 0,.sl bl 0 s.locks.length,.lst (s.locks.map LockD.enc),.ZO s.locks.length,.ZO j] ((bl,⟨2,kR q o2 s.locks j⟩)::(b2,⟨4,[[.nils,.ZO 0,.nils,.nils]]⟩)::(b1,⟨4,[s.enc]⟩)::Je q o2 s.locks j):=by
   intro L hL;subst hL;rw[aA g1 ZJ];by_cases hkq:k=q
   ·subst hkq;refine⟨k+1,o',ZJ,ZJ,λe _=>by simpa[List.getD,g1]using ho' e,?_⟩;rw[←Hs k o o' s.locks k g1 (.inl (X7 _))];have e1:Je k o s.locks k=[]:=by simp[Je]
    have e2:Je k o' s.locks (k+1)=ae o' 1 ((s.locks[k]).readers.map aj):=by simp[Je,List.getD,g1]
    have e3:oH k o' k s.locks[k]=[.ZO (s.locks[k]).owner,ao o' (s.locks[k]).readers.length]:=by simp[oH]
    rw[e1,e2,e3];exact aG.forget (K:=[]) YD
   ·refine⟨k+1,o,ZJ,ZJ,λe hq=>ho e ZJ,?_⟩;have e1:Je q o s.locks (k+1)=Je q o s.locks k:=by
     by_cases hq:q<k
     ·simp[Je,hq,show q<k+1 by omega]
     ·simp[Je,hq,show¬q<k+1 by omega]
    rw[e1,←Hs q o o s.locks k g1 (.inr rfl)];have e3:oH q o k s.locks[k]=[.ZO (s.locks[k]).owner,.lst ((s.locks[k]).readers.map aj)]:=by simp[oH,hkq,LockD.enc]
    rw[e3];refine aG.row (K:=ae o' 1 ((s.locks[k]).readers.map aj)) (.refl _) ZM ?_;intro j r r' q1 q2;rw[Yu]at q1 q2;by_cases hj:k=j
    ·rw[if_pos hj]at q1 q2;rw[if_pos ZJ]at q1 q2;cases q1;cases q2;refine .cons (.refl _) (.cons ?_ .nil);exact Fz.slot (f:=aj) rfl (λe=>by rw[ho' e];rfl) ZN (λy _=>rfl) (λy _ q a a2 h1 h2=>by rw[h1]at h2;cases h2;exact .refl _)
    ·rw[if_neg hj]at q1 q2;rw[q1]at q2;cases q2;exact iV.refl _ _
  cases o' with
  |none=>
   dsimp only[ae,ao,List.nil_append]at fin ⊢
   repeat' (first|refine st ?_|refine sb λnb_ hnb_=>?_|fail)
   exact fin _ rfl
  |some b'=>
   dsimp only[ae,ao,List.cons_append,List.nil_append]at fin ⊢
   repeat' (first|refine st ?_|refine sb λnb_ hnb_=>?_|fail)
   exact fin _ rfl
 ·have hd:=bI g1;have hk0:k=s.locks.length:=by omega
  subst hk0;have:=hend o ho;rw[show kR q o s.locks s.locks.length=cg q o s.locks by simp[kR,cy,YL]];refine PA ?_;refine nK (O8 ?_);refine TZ (JQ hd ?_);exact this
theorem Ht{s:SyncD}(hs:s.threads.length<2^40):s.threads.length*24≤140737488355328:=by omega
set_option maxHeartbeats 4000000 in
theorem J7(s:SyncD)(q:Nat)(h1:s.locks.length<2^40)(h2:s.done.length≤140737488351232)(h3:s.threads.length<2^40)(hrd:∀l∈s.locks,l.readers.length<2^40):
  af Tryz.prog 73 [.agg s.enc] [] (PK s q):=by
 refine af.fz (De _ _ _ ?_);unfold qn;generalize hQ:(λ(v:AV) (L:SH)=>∃v2 L2,aG [v] L [v2] L2∧PK s q v2 L2)=Q
 repeat' (first|refine st ?_|refine sb λnb_ hnb_=>?_|fail)
 rename_i b1 _ b2 _;revert nb_;intro bl _;refine LF s q b1 b2 bl h1 hrd Q ?_;intro o ho;unfold Hr
 repeat' (first|refine st ?_|refine sb λnb_ hnb_=>?_|fail)
 refine qi (NO _ ZJ) ?_;rintro v K ⟨od,rfl,rfl,hod⟩;unfold iJ;have fin:∀(v:AV) (L:SH) (ot:Option Nat),(ot=none→s.threads=[])→v=.agg [.sl bl 0 s.locks.length,.ZO s.tx,aS od s.done.length,aS ot s.threads.length]→
   (∃x y:Blk,L=(bl,⟨2,cg q o s.locks⟩)::(b2,x)::(b1,y)::(Je q o s.locks s.locks.length++ae od 1 (s.done.map bj)++ae ot 3 (s.threads.map ThrD.enc)))→Q v L:=by
  rintro v L ot hot rfl ⟨x,y,rfl⟩;subst hQ;refine⟨_,_,aG.forget (K:=[(b2,x),(b1,y)]) (R:=(bl,⟨2,cg q o s.locks⟩)::(Je q o s.locks s.locks.length++ae od 1 (s.done.map bj)++ae ot 3 (s.threads.map ThrD.enc))) ?_,⟨bl,o,od,ot,rfl,by rw[YP],hod,hot,ho⟩⟩;exact(List.Perm.swap _ _ _).trans ((List.Perm.swap _ _ _).cons _)
 cases od with
 |none=>
  dsimp only[aS]at fin ⊢
  repeat' (first|refine st ?_|refine sb λnb_ hnb_=>?_|fail)
  refine qi (Hm _ (Ht h3)) ?_;rintro v K ⟨ot,rfl,rfl,hot⟩;unfold iI;cases ot with
  |none=>
   dsimp only[aS]at fin ⊢
   repeat' (first|refine st ?_|refine sb λnb_ hnb_=>?_|fail)
   exact fin _ _ none hot rfl ⟨_,_,rfl⟩
  |some bt=>
   dsimp only[aS]at fin ⊢
   repeat' (first|refine st ?_|refine sb λnb_ hnb_=>?_|fail)
   exact fin _ _ (some bt) hot rfl ⟨_,_,rfl⟩
 |some bd=>
  dsimp only[aS]at fin ⊢
  repeat' (first|refine st ?_|refine sb λnb_ hnb_=>?_|fail)
  refine qi (Hm _ (Ht h3)) ?_;rintro v K ⟨ot,rfl,rfl,hot⟩;unfold iI;cases ot with
  |none=>
   dsimp only[aS]at fin ⊢
   repeat' (first|refine st ?_|refine sb λnb_ hnb_=>?_|fail)
   exact fin _ _ none hot rfl ⟨_,_,rfl⟩
  |some bt=>
   dsimp only[aS]at fin ⊢
   repeat' (first|refine st ?_|refine sb λnb_ hnb_=>?_|fail)
   exact fin _ _ (some bt) hot rfl ⟨_,_,rfl⟩
end
section
set_option maxRecDepth 100000
set_option linter.unusedSimpArgs false
def kS(T:List ThrD)(c:Int)(i:Nat):Bool:=eh (T.getD i default) c
def bV(T:List ThrD)(c:Int)(n:Nat):List Nat:=(List.range n).filter λi=>kS T c i
def bF(l:List Nat)(wake:Int):Int:=match l with
 |[]=>-1
 |u::l=>if(u::l).any (λx=>decide ((x:Int)=wake))then wake else u
def dt(T:List ThrD)(c wake:Int):Int:=bF (bV T c T.length) wake
def Cn(T:List ThrD)(i:Nat)(st:Int):List ThrD:=T.set i {T.getD i default with status:=st}
def gu(T:List ThrD)(c wake:Int):List ThrD:=if 0≤dt T c wake then Cn T (dt T c wake).toNat 4 else T
theorem uh{l:List Nat}{wake:Int}(h:0≤bF l wake):(bF l wake).toNat∈l:=by
 cases l with
 |nil=>simp[bF]at h
 |cons u l=>
  simp only[bF]at h ⊢;split
  ·rename_i ha;obtain⟨x,hx,he⟩:=ZI.1 ha;have:=of_decide_eq_true he;rw[←this];simpa using hx
  ·simp
theorem LG(l:List Nat)(wake:Int):bF l wake=-1∨0≤bF l wake:=by
 cases l with
 |nil=>simp[bF]
 |cons u l=>
  right;simp only[bF];split
  ·rename_i ha;obtain⟨x,hx,he⟩:=ZI.1 ha;have:=of_decide_eq_true he;omega
  ·omega
theorem J8(l:List Nat)(i:Nat)(wake:Int):bF (l++[i]) wake=if bF l wake<0∨(i:Int)=wake then(i:Int)else bF l wake:=by
 cases l with
 |nil=>simp only[bF,Za];split<;>simp_all
 |cons u l=>
  have hlow:=LG (u::l) wake;simp only[Zn];rw[bF,←Zn,List.any_append];by_cases hw:(i:Int)=wake
  ·simp[hw]
  ·by_cases ha:(u::l).any (λx=>decide ((x:Int)=wake))=true
   ·have hc:bF (u::l) wake=wake:=by simp only[bF];rw[if_pos ha]
    rw[hc]at hlow ⊢;obtain⟨x,hx,he⟩:=ZI.1 ha;have:=of_decide_eq_true he;rw[ha,Bool.true_or,if_pos rfl,if_neg ZJ]
   ·have hc:bF (u::l) wake=u:=by simp only[bF];rw[if_neg ha]
    rw[hc,if_neg (by simp only[ZD,not_or];exact⟨ha,by simp[hw]⟩),if_neg ZJ]
theorem yv(T:List ThrD)(c:Int)(n:Nat):bV T c (n+1)=bV T c n++(if kS T c n then [n]else []):=by simp only[bV,List.range_succ,List.filter_append,List.filter_cons,List.filter_nil]
theorem LH{T:List ThrD}{c:Int}{n x:Nat}(h:x∈bV T c n):x<n:=by simp only[bV,Zj,Y3]at h;exact h.1
theorem R4(T:List ThrD)(i:Nat)(st:Int)(hi:i<T.length):(T.map ThrD.enc).set i ((ThrD.enc T[i]).set 0 (.ZO st))=(Cn T i st).map ThrD.enc:=by unfold Cn;rw[Y6];congr 1;simp[List.getD,hi,ThrD.enc]
section
variable (a b d:AV) (bt:Nat)
theorem NS(T:List ThrD)(c wake:Int)(hT:T.length<2^40)(hbox:([a,b,d,.sl bt 0 T.length]:List AV).all AV.one=true):
  af Tryz.prog 78 [.agg [a,b,d,.sl bt 0 T.length],.ZO c,.ZO wake] [(bt,⟨3,T.map ThrD.enc⟩)] λv L=>v=.ZO (dt T c wake)∧L=[(bt,⟨3,(gu T c wake).map ThrD.enc⟩)]:=by
 refine A6 _ _ _ _ _ ?_;unfold oF;generalize hQ:(λ(v:AV) (L:SH)=>v=AV.ZO (dt T c wake)∧L=[(bt,(⟨3,(gu T c wake).map ThrD.enc⟩:Blk))])=Q
 repeat' (first|refine Ii ?_ rfl hbox (by exact Nat.succ_pos _)|refine st ?_|refine sb λnb_ hnb_=>?_|fail)
 refine qf T.length (λi=>([.ZO c,.ZO wake,.pptr [[a,b,d,.sl bt 0 T.length]] 0 0,.ZO (bF (bV T c i) wake),.sl bt 0 T.length,.ZO T.length,.ZO i],[(bt,⟨3,T.map ThrD.enc⟩)])) (λ_=>True) trivial (by simp[bV,bF]) rfl ?_;intro i hi _;dsimp only;unfold ms;rcases Nat.lt_or_ge i T.length with h1|h1
 ·have hd:=bE h1;have hx:=ay (f:=ThrD.enc) h1;have hsn:=J8 (bV T c i) i wake;have hws:=yv T c i;have hwa:kS T c i=eh T[i] c:=by simp[kS,h1]
  have goal:∀ch:Int,ch=bF (bV T c (i+1)) wake→∃j,i<j∧j≤T.length∧True∧aG [.ZO c,.ZO wake,.pptr [[a,b,d,.sl bt 0 T.length]] 0 0,.ZO ch,.sl bt 0 T.length,.ZO T.length,.ZO (IntKind.i64.wrap ((i:Int)+1))] [(bt,⟨3,T.map ThrD.enc⟩)]
    [.ZO c,.ZO wake,.pptr [[a,b,d,.sl bt 0 T.length]] 0 0,.ZO (bF (bV T c j) wake),.sl bt 0 T.length,.ZO T.length,.ZO j] [(bt,⟨3,T.map ThrD.enc⟩)]:=λch hch=>⟨i+1,ZJ,ZJ,trivial,eQ (by rw[aA h1 ZJ,hch]) rfl⟩
  cases hw:eh T[i] c with
  |false=>
   rw[hw]at hwa
   repeat' (first|refine st ?_|(refine pf 115 ?_;refine pm (my _ _) ?_)|refine sb λnb_ hnb_=>?_|refine s2 (λh=>?_) λh=>?_|fail)
   exact goal _ (by rw[hws,hwa];simp)
  |true=>
   rw[hw]at hwa;have hn:bF (bV T c (i+1)) wake=if bF (bV T c i) wake<0∨(i:Int)=wake then(i:Int)else bF (bV T c i) wake:=by rw[hws,hwa,if_pos rfl,hsn]
   by_cases g1:bF (bV T c i) wake<0
   ·have e1:decide (bF (bV T c i) wake<0)=true:=decide_eq_true g1
    repeat' (first|refine st ?_|(refine pf 115 ?_;refine pm (my _ _) ?_)|refine sb λnb_ hnb_=>?_|refine s2 (λh=>?_) λh=>?_|fail)
    exact goal _ (by rw[hn,if_pos (.inl g1)])
   ·have e1:decide (bF (bV T c i) wake<0)=false:=decide_eq_false g1;by_cases g2:(i:Int)=wake
    ·have e2:decide ((i:Int)=wake)=true:=decide_eq_true g2
     repeat' (first|refine st ?_|(refine pf 115 ?_;refine pm (my _ _) ?_)|refine sb λnb_ hnb_=>?_|refine s2 (λh=>?_) λh=>?_|fail)
     exact goal _ (by rw[hn,if_pos (.inr g2)])
    ·have e2:decide ((i:Int)=wake)=false:=decide_eq_false g2
     repeat' (first|refine st ?_|(refine pf 115 ?_;refine pm (my _ _) ?_)|refine sb λnb_ hnb_=>?_|refine s2 (λh=>?_) λh=>?_|fail)
     exact goal _ (by rw[hn,if_neg ZJ])
 ·have hd:=bI h1;have hi0:i=T.length:=by omega
  subst hi0;have hns:bF (bV T c T.length) wake=dt T c wake:=rfl;rw[hns];by_cases g1:0≤dt T c wake
  ·have e1:decide (0≤dt T c wake)=true:=decide_eq_true g1;have hlt:(dt T c wake).toNat<T.length:=LH (uh g1);have hx:=ay (f:=ThrD.enc) hlt;have hidx:dt T c wake=((dt T c wake).toNat:Nat):=(Int.toNat_of_nonneg g1).symm;have hst:=R4 T _ 4 hlt;have hwk:gu T c wake=Cn T (dt T c wake).toNat 4:=by rw[gu,if_pos g1]
   generalize hk:(dt T c wake).toNat=k at *;rw[hidx]at e1 hQ ⊢
   repeat' (first|refine st ?_|refine sb λnb_ hnb_=>?_|refine s2 (λh=>?_) λh=>?_|fail)
   subst hQ;exact⟨rfl,by rw[hwk,←hst]⟩
  ·have e1:decide (0≤dt T c wake)=false:=decide_eq_false g1;have hwk:gu T c wake=T:=by rw[gu,if_neg g1]
   repeat' (first|refine st ?_|refine sb λnb_ hnb_=>?_|refine s2 (λh=>?_) λh=>?_|fail)
   subst hQ;exact⟨rfl,by rw[hwk]⟩
def de(T:List ThrD)(c:Int)(n:Nat):List ThrD:=T.zipIdx.map λp=>if decide (p.2<n)&&eh p.1 c then {p.1 with status:=4} else p.1
theorem dX(T:List ThrD)(c:Int)(n i:Nat)(hi:i<T.length):(de T c n)[i]? =some (if decide (i<n)&&eh T[i] c then {T[i]with status:=4} else T[i]):=by simp[de,hi]
theorem cV(T:List ThrD)(c:Int)(n:Nat):(de T c n).length=T.length:=by simp[de]
theorem Im(T:List ThrD)(c:Int):de T c 0=T:=by
 apply Zh;intro i;rcases X9 i T.length with hi|hi
 ·rw[dX T c 0 i hi];simp[hi]
 ·rw[X8 (by rw[cV];exact hi),X8 hi]
theorem In(T:List ThrD)(c:Int)(n:Nat)(hn:n<T.length):de T c (n+1)=if eh T[n] c then(de T c n).set n {T[n]with status:=4} else de T c n:=by
 apply Zh;intro i;have key:∀hi:i<T.length,(if eh T[n] c then(de T c n).set n {T[n]with status:=4} else de T c n)[i]? =some (if decide (i<n+1)&&eh T[i] c then {T[i]with status:=4} else T[i]):=λhi=>by
  by_cases hin:i=n
  ·subst hin;cases hw:eh T[i] c with
   |true=>simp[hw,cV,hi]
   |false=>simp[hw,dX T c i i hi]
  ·have h1:decide (i<n+1)=decide (i<n):=by apply decide_eq_decide.2;omega
   rw[h1];split
   ·rw[List.getElem?_set_ne ZJ];exact dX T c n i hi
   ·exact dX T c n i hi
 rcases X9 i T.length with hi|hi
 ·rw[key hi,dX T c (n+1) i hi]
 ·rw[X8 (by rw[cV];exact hi),X8];split<;>simp[cV,hi]
theorem Io(T:List ThrD)(c:Int)(hT:T.length<2^40)(hbox:([a,b,d,.sl bt 0 T.length]:List AV).all AV.one=true):
  af Tryz.prog 79 [.agg [a,b,d,.sl bt 0 T.length],.ZO c] [(bt,⟨3,T.map ThrD.enc⟩)] λv L=>v=.ZO ((bV T c T.length).length:Nat)∧L=[(bt,⟨3,(de T c T.length).map ThrD.enc⟩)]:=by
 refine rJ _ _ _ _ ?_;unfold jC;generalize hQ:(λ(v:AV) (L:SH)=>v=AV.ZO ((bV T c T.length).length:Nat)∧L=[(bt,(⟨3,(de T c T.length).map ThrD.enc⟩:Blk))])=Q
 repeat' (first|refine Ii ?_ rfl hbox (by exact Nat.succ_pos _)|refine st ?_|refine sb λnb_ hnb_=>?_|fail)
 refine qf T.length (λi=>([.ZO c,.pptr [[a,b,d,.sl bt 0 T.length]] 0 0,.ZO ((bV T c i).length:Nat),.sl bt 0 T.length,.ZO T.length,.ZO i],[(bt,⟨3,(de T c i).map ThrD.enc⟩)])) (λ_=>True) trivial (by simp[bV]) (by rw[Im]) ?_;intro i hi _;dsimp only;unfold iW;rcases Nat.lt_or_ge i T.length with h1|h1
 ·have hd:=bE h1;have hi2:i<(de T c i).length:=by rw[cV];exact h1
  have hti:(de T c i)[i]=T[i]:=by have:=dX T c i i h1;rw[X6 hi2]at this;simpa using this
  have hx:=ay (f:=ThrD.enc) hi2;rw[hti]at hx;have hws:=yv T c i;have hwa:kS T c i=eh T[i] c:=by simp[kS,h1]
  have hsu:=In T c i h1;have hwl:(bV T c i).length≤i:=Yn (Zb _ _) ZM;cases hw:eh T[i] c with
  |false=>
   rw[hw]at hwa hsu
   repeat' (first|refine st ?_|(refine pf 115 ?_;refine pm (my _ _) ?_)|refine sb λnb_ hnb_=>?_|refine s2 (λh=>?_) λh=>?_|fail)
   refine⟨i+1,ZJ,ZJ,trivial,eQ (by rw[aA h1 ZJ,hws,hwa];simp[aw]) (by rw[hsu];simp)⟩
  |true=>
   rw[hw]at hwa hsu
   repeat' (first|refine st ?_|(refine pf 115 ?_;refine pm (my _ _) ?_)|refine sb λnb_ hnb_=>?_|refine s2 (λh=>?_) λh=>?_|fail)
   refine⟨i+1,ZJ,ZJ,trivial,eQ (by rw[aA h1 ZJ,hws,hwa,aA (Nat.lt_of_le_of_lt hwl h1) ZJ];simp[aw]) ?_⟩;rw[hsu,if_pos rfl,Y6];simp[ThrD.enc]
 ·have hd:=bI h1;have hi0:i=T.length:=by omega
  subst hi0
  repeat' (first|refine st ?_|refine sb λnb_ hnb_=>?_|refine s2 (λh=>?_) λh=>?_|fail)
  subst hQ;exact⟨rfl,rfl⟩
end
end
section
set_option maxRecDepth 100000
set_option linter.unusedSimpArgs false
def Co(P:Program)(g:FuncId)(cs:List AV)(p:Int→Bool):Prop:=∀x:Int,az P g (.ZO x::cs) (.bool (p x))
theorem Co.call{P:Program}{g:FuncId}{cs:List AV}{p:Int→Bool}(h:Co P g cs p){x:Int}{L:SH}{KL:AV→SH→Prop}(hk:KL (.bool (p x)) L):W.call P (.fn g cs) [.ZO x] L KL:=⟨(h x).call hk⟩
def Ba(p:Int→Bool)(l:List Int):Int:=if l.any p then(l.findIdx p:Int)else -1
theorem NT{p:Int→Bool}{l:List Int}{i:Nat}(hi:i<l.length)(hno:(l.take i).any p=false)(hp:p l[i]=true):Ba p l=i:=by
 have h1:l.any p=true:=ZI.2 ⟨l[i],Yr hi,hp⟩;have h2:l.findIdx p=i:=by rw[List.findIdx_eq hi];refine⟨hp,λj hj=>?_⟩;have:=List.any_eq_false.1 hno l[j] (List.mem_take_iff_getElem.2 ⟨j,ZJ,rfl⟩);simpa using this
 rw[Ba,if_pos h1,h2]
theorem Ip(g:FuncId)(cs:List AV)(p:Int→Bool)(hp:Co Tryz.prog g cs p)(b:Nat)(xs:List Int)(hl:xs.length<2^62):af Tryz.prog 114 [.sl b 0 xs.length,.fn g cs] [(b,⟨1,xs.map aj⟩)] λv L=>v=.ZO (Ba p xs)∧L=[(b,⟨1,xs.map aj⟩)]:=by
 refine hO _ _ _ _ ?_;unfold dR;generalize hQ:(λ(v:AV) (L:SH)=>v=AV.ZO (Ba p xs)∧L=[(b,(⟨1,xs.map aj⟩:Blk))])=Q
 repeat' (first|refine st ?_|refine sb λnb_ hnb_=>?_|fail)
 refine qf xs.length (λi=>([.sl b 0 xs.length,.fn g cs,.ZO xs.length,.ZO i],[(b,⟨1,xs.map aj⟩)])) (λi=>(xs.take i).any p=false) ZM rfl rfl ?_;intro i hi hno;dsimp only;unfold dK;rcases Nat.lt_or_ge i xs.length with h1|h1
 ·have hx:=ay (f:=aj) h1;have hd:=bE h1
  repeat' (first|refine qg (Co.call hp ?_)|refine st ?_|refine sb λnb_ hnb_=>?_|refine s2 (λh=>?_) λh=>?_|fail)
  ·subst hQ;exact⟨by rw[NT h1 hno h],rfl⟩
  ·refine⟨i+1,ZJ,ZJ,?_,eQ (by rw[aA h1 hl]<;>rfl) rfl⟩;rw[Yd h1,List.any_append,hno];simpa using h
 ·have hd:=bI h1
  repeat' (first|refine st ?_|refine sb λnb_ hnb_=>?_|refine s2 (λh=>?_) λh=>?_|fail)
  subst hQ;rw[YL h1]at hno;exact⟨by rw[Ba,if_neg (by simp[hno])],rfl⟩
theorem ru{k:IntKind}{m d:Nat}:cI (some (.int k (m:Int))) d=some m:=by simp[cI,oC]
theorem LI{p:Int→Bool}{l:List Int}(h:Ba p l≠-1):∃i:Nat,Ba p l=i∧i<l.length∧(l.take (i+1)).filter (λx=>!p x)=l.take i:=by
 unfold Ba at h ⊢;split at h
 ·rename_i ha;rw[if_pos ha];refine⟨l.findIdx p,rfl,List.findIdx_lt_length.2 (ZI.1 ha),?_⟩;have hlt:=List.findIdx_lt_length.2 (ZI.1 ha);rw[Yd hlt,List.filter_append];have h1:p l[l.findIdx p]=true:=List.findIdx_getElem;rw[List.filter_cons_of_neg (by simp[h1]),List.filter_nil,YM,List.filter_eq_self];intro x hx;obtain⟨j,hj,rfl⟩:=List.mem_take_iff_getElem.1 hx;have:=List.not_of_lt_findIdx (xs:=l) (p:=p) (i:=j) ZJ;simpa using this
 ·exact absurd rfl h
theorem Hu{p:Int→Bool}{l:List Int}(h:Ba p l=-1):l.filter (λx=>!p x)=l:=by
 unfold Ba at h;split at h
 ·omega
 ·rename_i ha;rw[List.filter_eq_self];intro x hx;simp only[Bool.not_eq_true,List.any_eq_false]at ha;simpa using ha x hx
theorem GE(g:FuncId)(cs:List AV)(p:Int→Bool)(hp:Co Tryz.prog g cs p)(b:Nat)(xs:List Int)(hl:xs.length<2^61):af Tryz.prog 76 [.sl b 0 xs.length,.fn g cs] [(b,⟨1,xs.map aj⟩)] λv L=>∃R:List Int,v=.sl b 0 (xs.filter λx=>!p x).length∧L=[(b,⟨1,R.map aj⟩)]∧R.take (xs.filter λx=>!p x).length=(xs.filter λx=>!p x)∧R.length=xs.length:=by
 refine gM _ _ _ _ ?_;unfold dL;refine qg (LA (Cm (Ip g cs p hp b xs ZJ) ?_));rintro v L ⟨rfl,rfl⟩;unfold dD;generalize hQ:(λ(v:AV) (L:SH)=>∃R:List Int,v=AV.sl b 0 (xs.filter λx=>!p x).length∧L=[(b,(⟨1,R.map aj⟩:Blk))]∧R.take (xs.filter λx=>!p x).length=(xs.filter λx=>!p x)∧R.length=xs.length)=Q;by_cases hm:Ba p xs=-1
 ·have hd:decide (Ba p xs=-1)=true:=decide_eq_true hm
  repeat' (first|refine st ?_|refine sb λnb_ hnb_=>?_|fail)
  subst hQ;refine⟨xs,?_,rfl,?_,rfl⟩
  ·rw[Hu hm]
  ·rw[Hu hm];simp
 ·have hd:decide (Ba p xs=-1)=false:=decide_eq_false hm;obtain⟨i0,hi0,hlt,hfil⟩:=LI hm;rw[hi0]at hd ⊢
  repeat' (first|refine st ?_|refine sb λnb_ hnb_=>?_|fail)
  rw[aA hlt ZJ];have hc:∀j,((xs.take j).filter λx=>!p x).length≤j:=λj=>Yn (Zb _ _) (by simp;omega)
  refine bW (xs.length-(i0+1)) (λk (R:List Int)=>([.sl b 0 xs.length,.fn g cs,.ZO (((xs.take (i0+1+k)).filter λx=>!p x).length:Nat),.ZO (i0+1+k:Nat)],[(b,⟨1,R.map aj⟩)]))
   (λk R=>R.length=xs.length∧R.take ((xs.take (i0+1+k)).filter λx=>!p x).length=((xs.take (i0+1+k)).filter λx=>!p x)∧R.drop (i0+1+k)=xs.drop (i0+1+k)) xs ⟨rfl,by rw[Zy,hfil];simp,rfl⟩ (eQ (by rw[Zy,hfil,Yx,YX ZJ]) rfl) ?_
  rintro k R hk ⟨r1,r2,r3⟩;dsimp only;unfold dC;have hcj:=hc (i0+1+k);generalize hj:i0+1+k=j at r2 r3 hcj ⊢;rcases Nat.lt_or_ge j xs.length with h1|h1
  ·have hd2:=bE h1;have h1':j<R.length:=by omega
   have hxj:R[j]=xs[j]:=by have h0:=congrArg (λl=>l[0]?) r3;simp only[YY,Zy]at h0;rw[X6 h1',X6 h1]at h0;exact ZE h0
   have hx:=ay (f:=aj) h1';rw[hxj]at hx;have htk:(xs.take (j+1)).filter (λx=>!p x)=(xs.take j).filter (λx=>!p x)++([xs[j]].filter λx=>!p x):=by rw[Yd h1,List.filter_append]
   have hm1:((xs.take j).filter λx=>!p x).length<xs.length:=by omega
   have hm2:((xs.take j).filter λx=>!p x).length<R.length:=by omega
   have hxm:=ay (f:=aj) hm2;cases hpx:p xs[j]with
   |true=>
    have hnp:(!p xs[j])=false:=by simp[hpx]
    repeat' (first|refine qg (Co.call hp ?_)|refine st ?_|refine sb λnb_ hnb_=>?_|refine s2 (λh=>?_) λh=>?_|fail)
    refine⟨k+1,R,ZJ,ZJ,⟨r1,?_,?_⟩,eQ ?_ rfl⟩
    ·rw[show i0+1+(k+1)=j+1 by omega,htk];simpa[hpx]using r2
    ·rw[show i0+1+(k+1)=j+1 by omega,←List.drop_drop,←List.drop_drop,r3]
    ·rw[show i0+1+(k+1)=j+1 by omega,htk,aA h1 ZJ];simp[hpx,aw]
   |false=>
    have hnp:(!p xs[j])=true:=by simp[hpx]
    repeat' (first|refine qg (Co.call hp ?_)|refine st ?_|refine sb λnb_ hnb_=>?_|refine s2 (λh=>?_) λh=>?_|fail)
    refine⟨k+1,R.set ((xs.take j).filter λx=>!p x).length xs[j],ZJ,ZJ,⟨by simp[r1],?_,?_⟩,eQ ?_ ?_⟩
    ·rw[show i0+1+(k+1)=j+1 by omega,htk];simp only[List.filter_cons,hpx,Bool.not_false,if_true,List.filter_nil,Yf,List.length_singleton];rw[Yd (by simpa using hm2),List.take_set_of_le (X7 _),r2];simp
    ·rw[show i0+1+(k+1)=j+1 by omega,List.drop_set_of_lt ZJ,←List.drop_drop,←List.drop_drop,r3]
    ·rw[show i0+1+(k+1)=j+1 by omega,htk,aA h1 ZJ,aA hm1 ZJ];simp[hpx,aw]
    ·simp[Y6,aj]
  ·have hd2:=bI h1;have ht:xs.take j=xs:=YL h1;rw[ht]at r2 hcj ⊢;have hle:(xs.filter λx=>!p x).length≤xs.length:=Zb _ _;generalize hmm:(xs.filter λx=>!p x).length=m at r2 hcj hle hQ ⊢
   repeat' (first|refine st ?_|refine AG (l:=m) (h:=xs.length) ru rfl hle (X7 _) (.head _) rfl ?_|refine NK (.here _) rfl (by simp[r1];omega) rfl ?_|refine AG (l:=0) (h:=m) rfl ru (YK _) hle (.head _) rfl ?_|refine sb λnb_ hnb_=>?_|fail)
   subst hQ;refine⟨R.take m++List.replicate (xs.length-m) 0,ZM,?_,?_,?_⟩
   ·simp only[Y2];rw[List.drop_of_length_le (by simp[r1];omega),YM,Yc,List.map_take];simp[aj]
   ·rw[List.take_left' (by simp[r1];omega)];exact r2
   ·simp[r1];omega
theorem NU(t x:Int)(L:SH):Co Tryz.prog 77 [.pptr [[.ZO t]] 0 0] (λx=>decide (x=t)):=λx=>by
 refine yq _ _ _ _ ?_;unfold mt
 repeat' (first|refine st ?_|refine sb λnb_ hnb_=>?_|fail)
 exact⟨rfl,rfl⟩
end
section
set_option maxRecDepth 100000
set_option maxHeartbeats 2000000
set_option linter.unusedSectionVars false
section
variable {w:aO} {s:SyncD} {t k o:Int} (hf:PE w s) (hr:∀l∈s.locks,l.readers.length<2^40) (ha:allowedS w k o=true) {Q:R} (hq:∀b,cL w s t k o=b→Q (.bool b) [])
include hf hr ha hq
theorem PL(hk:6≤k∧k≤11):bY (.agg w.enc) (.agg s.enc) (.ZO t) (.ZO k) (.ZO o) [] Q:=by
 have hb:inB o s.locks.length=true:=by
  rw[hf.locks];have:k=6∨k=7∨k=8∨k=9∨k=10∨k=11:=by omega
  rcases this with rfl|rfl|rfl|rfl|rfl|rfl<;>(simp[allowedS]at ha;exact ha.1)
 have hx:=dU (f:=LockD.enc) hb;have ho:=fN hb;have hrd:=PF hr o;have hll:aP s o=s.locks.getD o.toNat default:=rfl;rw[←hll]at hx;have v6:k=6→cL w s t k o=decide ((aP s o).owner=-1):=λh=>by subst h;rfl
 have v10:k=10→cL w s t k o=(decide ((aP s o).owner=-1)&&decide ((aP s o).readers.length=0)):=λh=>by subst h;rfl
 have v8:k=8→cL w s t k o=(decide ((aP s o).owner=-1)&&!(aP s o).readers.contains t):=λh=>by subst h;rfl
 have v7:k=7∨k=11→cL w s t k o=decide ((aP s o).owner=t):=λh=>by rcases h with rfl|rfl<;>rfl
 have v9:k=9→cL w s t k o=(aP s o).readers.contains t:=λh=>by subst h;rfl
 clear hll hb ha;generalize aP s o=ll at *;obtain⟨ow,rd⟩:=ll;unfold LockD.enc at hx;dsimp only at *;have hc:=J6 rd t hrd;generalize rd.contains t=hcb at *;unfold bY
 repeat' (first|refine st ?_|(refine pf 72 ?_;refine pm (hc) ?_)|refine sb λnb_ hnb_=>?_|refine s2 (λh=>?_) λh=>?_|fail)
 all_goals simp only[decide_eq_true_eq,decide_eq_false_iff_not]at *
 all_goals first
  |(exfalso;clear hq;omega)
  |exact hq _ ((v6 ZJ).trans (by first|rfl|(simp_all;done)))
  |exact hq _ ((v7 ZJ).trans (by first|rfl|(simp_all;done)))
  |exact hq _ ((v8 ZJ).trans (by first|rfl|(simp_all;done)))
  |exact hq _ ((v9 ZJ).trans (by first|rfl|(simp_all;done)))
  |exact hq _ ((v10 ZJ).trans (by first|rfl|(simp_all;done)))
theorem PM(hk:k=16∨k=18∨k=19):bY (.agg w.enc) (.agg s.enc) (.ZO t) (.ZO k) (.ZO o) [] Q:=by
 have hb:inB o w.conds.length=true:=by rcases hk with rfl|rfl|rfl<;>simpa[allowedS]using ha
 have hm:=M3 hf hb;have hx:=dU (f:=db.enc) hb;have ho:=fN hb;have hm0:=fN hm;have hx2:=dU (f:=LockD.enc) hm;have v:k=16∨k=18∨k=19→cL w s t k o=decide ((aP s (mv w o)).owner=t):=λh=>by rcases h with rfl|rfl|rfl<;>rfl
 have hll:aP s (mv w o)=s.locks.getD (mv w o).toNat default:=rfl;rw[←hll]at hx2;clear hll;generalize aP s (mv w o)=ll at *;have hmm:mv w o=(w.conds.getD o.toNat default).mutex:=rfl;rw[hmm]at hx2 hm0;generalize w.conds.getD o.toNat default=c at *;obtain⟨nm,mx⟩:=c;obtain⟨ow,rd⟩:=ll;unfold LockD.enc at hx2;unfold db.enc at hx;dsimp only at *;clear hmm hm hb ha;unfold bY
 repeat' (first|refine st ?_|refine sb λnb_ hnb_=>?_|refine s2 (λh=>?_) λh=>?_|fail)
 all_goals simp only[decide_eq_true_eq,decide_eq_false_iff_not]at *
 all_goals first
  |(exfalso;clear hq;omega)
  |exact hq _ ((v ZJ).trans (by first|rfl|(simp_all;done)))
theorem R5(hk:k=20∨k=21):bY (.agg w.enc) (.agg s.enc) (.ZO t) (.ZO k) (.ZO o) [] Q:=by
 have hb:inB o s.threads.length=true:=by rw[hf.threads];rcases hk with rfl|rfl<;>simpa[allowedS]using ha
 have hx:=dU (f:=ThrD.enc) hb;have ho:=fN hb;have v20:k=20→cL w s t k o=(decide (o≠t)&&decide ((aE s o).status=0)):=λh=>by subst h;rfl
 have v21:k=21→cL w s t k o=(decide (o≠t)&&decide ((aE s o).status=5)):=λh=>by subst h;rfl
 have hll:aE s o=s.threads.getD o.toNat default:=rfl;rw[←hll]at hx;clear hll hb ha;generalize aE s o=ll at *;obtain⟨st_,cd_,at_⟩:=ll;unfold ThrD.enc at hx;dsimp only at *;unfold bY
 repeat' (first|refine st ?_|refine sb λnb_ hnb_=>?_|refine s2 (λh=>?_) λh=>?_|fail)
 all_goals simp only[decide_eq_true_eq,decide_eq_false_iff_not]at *
 all_goals first
  |(exfalso;clear hq;omega)
  |exact hq _ ((v20 ZJ).trans (by first|rfl|(simp_all;done)))
  |exact hq _ ((v21 ZJ).trans (by first|rfl|(simp_all;done)))
theorem R6(hk:k=22∨k=23):bY (.agg w.enc) (.agg s.enc) (.ZO t) (.ZO k) (.ZO o) [] Q:=by
 have hb:inB o s.done.length=true:=by rw[hf.done];rcases hk with rfl|rfl<;>simpa[allowedS]using ha
 have hx:=dU (f:=bj) hb;have ho:=fN hb;have v22:k=22→cL w s t k o=!A8 s o:=λh=>by subst h;rfl
 have v23:k=23→cL w s t k o=A8 s o:=λh=>by subst h;rfl
 have hll:A8 s o=s.done.getD o.toNat default:=rfl;rw[←hll]at hx;clear hll hb ha;generalize A8 s o=ll at *;unfold bj at hx;unfold bY
 repeat' (first|refine st ?_|refine sb λnb_ hnb_=>?_|refine s2 (λh=>?_) λh=>?_|fail)
 all_goals simp only[decide_eq_true_eq,decide_eq_false_iff_not]at *
 all_goals first
  |(exfalso;clear hq;omega)
  |exact hq _ ((v22 ZJ).trans (by first|rfl|(simp_all;done)))
  |exact hq _ ((v23 ZJ).trans (by first|rfl|(simp_all;done)))
theorem PN(ht:inB t w.threads.length=true)(hk:¬(6≤k∧k≤11)∧¬(k=16∨k=18∨k=19)∧¬(k=20∨k=21)∧¬(k=22∨k=23)):bY (.agg w.enc) (.agg s.enc) (.ZO t) (.ZO k) (.ZO o) [] Q:=by
 have hb:inB t s.threads.length=true:=by rw[hf.threads];exact ht
 have hx:=dU (f:=ThrD.enc) hb;have ho:=fN hb;have v12:k=12→cL w s t k o=decide (s.tx=-1):=λh=>by subst h;rfl
 have v13:k=13→cL w s t k o=decide (s.tx=t):=λh=>by subst h;rfl
 have v14:k=14→cL w s t k o=!(aE s t).atomic:=λh=>by subst h;rfl
 have v15:k=15→cL w s t k o=(aE s t).atomic:=λh=>by subst h;rfl
 have v0:k≠12∧k≠13∧k≠14∧k≠15→cL w s t k o=true:=λh=>by
  obtain⟨a1,a2,a3,a4⟩:=h;unfold cL
  repeat (rw[if_neg ZJ])
 have hll:aE s t=s.threads.getD t.toNat default:=rfl;rw[←hll]at hx;clear hll hb ha;generalize aE s t=ll at *;obtain⟨st_,cd_,at_⟩:=ll;unfold ThrD.enc at hx;dsimp only at *;unfold bY
 repeat' (first|refine st ?_|refine sb λnb_ hnb_=>?_|refine s2 (λh=>?_) λh=>?_|fail)
 all_goals simp only[decide_eq_true_eq,decide_eq_false_iff_not]at *
 all_goals first
  |(exfalso;clear hq;omega)
  |exact hq _ ((v12 ZJ).trans (by first|rfl|(simp_all;done)))
  |exact hq _ ((v13 ZJ).trans (by first|rfl|(simp_all;done)))
  |exact hq _ ((v14 ZJ).trans (by first|rfl|(simp_all;done)))
  |exact hq _ ((v15 ZJ).trans (by first|rfl|(simp_all;done)))
  |exact hq _ ((v0 ZJ).trans (by first|rfl|(simp_all;done)))
end
theorem PO(w:aO)(s:SyncD)(t k o:Int)(hf:PE w s)(ht:inB t w.threads.length=true)(hr:∀l∈s.locks,l.readers.length<2^40)(ha:allowedS w k o=true):az Tryz.prog 49 [.agg w.enc,.agg s.enc,.ZO t,.ZO k,.ZO o] (.bool (cL w s t k o)):=by
 refine Db _ _ _ _ _ _ _ ?_;have hq:∀b,cL w s t k o=b→(λ(u:AV) (K:SH)=>u=AV.bool (cL w s t k o)∧K=[]) (.bool b) []:=λb hb=>⟨by rw[hb],rfl⟩
 by_cases h1:6≤k∧k≤11
 ·exact PL hf hr ha hq h1
 by_cases h2:k=16∨k=18∨k=19
 ·exact PM hf hr ha hq h2
 by_cases h3:k=20∨k=21
 ·exact R5 hf hr ha hq h3
 by_cases h4:k=22∨k=23
 ·exact R6 hf hr ha hq h4
 exact PN hf hr ha hq ht ⟨h1,h2,h3,h4⟩
theorem LJ(w:aO)(s:SyncD)(t k o:Int)(hcn:w.conds.length<2^62)(hr:∀l∈s.locks,l.readers.length<2^40):az Tryz.prog 24 [.agg w.enc,.agg s.enc,.ZO t,.ZO k,.ZO o] (.bool (bn w s t k o)):=by
 refine xX _ _ _ _ _ _ _ ?_;unfold mo;generalize hQ:(λ(u:AV) (K:SH)=>u=AV.bool (bn w s t k o)∧K=[])=Q;have hq:∀b,bn w s t k o=b→Q (.bool b) []:=λb hb=>by subst hQ;exact⟨by rw[hb],rfl⟩
 clear hQ;have c1:=R3 w s hcn;have c2:=fO t w.threads.length;have c3:=LE w k o;cases h1:fitsS w s with
 |false=>
  rw[h1]at c1;have hv:bn w s t k o=false:=by simp[bn,h1]
  repeat' (first|refine st ?_|(refine pf 46 ?_;refine pm (c1) ?_)|refine sb λnb_ hnb_=>?_|refine s2 (λh=>?_) λh=>?_|fail)
  all_goals exact hq _ hv
 |true=>
  rw[h1]at c1;cases h2:inB t w.threads.length with
  |false=>
   rw[h2]at c2;have hv:bn w s t k o=false:=by simp[bn,h2]
   repeat' (first|refine st ?_|(refine pf 46 ?_;refine pm (c1) ?_)|(refine pf 47 ?_;refine pm (c2) ?_)|refine sb λnb_ hnb_=>?_|refine s2 (λh=>?_) λh=>?_|fail)
   all_goals exact hq _ hv
  |true=>
   rw[h2]at c2;cases h3:allowedS w k o with
   |false=>
    rw[h3]at c3;have hv:bn w s t k o=false:=by simp[bn,h3]
    repeat' (first|refine st ?_|(refine pf 46 ?_;refine pm (c1) ?_)|(refine pf 47 ?_;refine pm (c2) ?_)|(refine pf 48 ?_;refine pm (c3) ?_)|refine sb λnb_ hnb_=>?_|refine s2 (λh=>?_) λh=>?_|fail)
    all_goals exact hq _ hv
   |true=>
    rw[h3]at c3;have hf:=A9.1 h1;have c4:=PO w s t k o hf h2 hr h3;have ht:inB t s.threads.length=true:=by rw[hf.threads];exact h2
    have hx:=dU (f:=ThrD.enc) ht;have ht0:=fN ht;have hll:aE s t=s.threads.getD t.toNat default:=rfl;rw[←hll]at hx;have v1:k=1→bn w s t k o=decide ((aE s t).status=1):=λh=>by subst h;simp[bn,h1,h2,h3]
    have v17:k=17→bn w s t k o=(decide ((aE s t).status=4)&&decide ((aE s t).cond=o)&&decide ((aP s (mv w o)).owner=-1)):=λh=>by subst h;simp[bn,h1,h2,h3]
    have v0:k≠1∧k≠17→bn w s t k o=(decide ((aE s t).status=2)&&cL w s t k o):=λh=>by simp[bn,h1,h2,h3,h.1,h.2]
    clear hll;generalize aE s t=ll at *;generalize cL w s t k o=rb at *;obtain⟨st_,cd_,at_⟩:=ll;unfold ThrD.enc at hx;dsimp only at *;by_cases hk:k=17
    ·subst hk;have hb:inB o w.conds.length=true:=by simpa[allowedS]using h3
     have hm:=M3 hf hb;have hx1:=dU (f:=db.enc) hb;have ho:=fN hb;have hm0:=fN hm;have hx2:=dU (f:=LockD.enc) hm;have hll:aP s (mv w o)=s.locks.getD (mv w o).toNat default:=rfl;rw[←hll]at hx2;clear hll;replace v17:=v17 rfl;generalize aP s (mv w o)=ll at *;have hmm:mv w o=(w.conds.getD o.toNat default).mutex:=rfl;rw[hmm]at hx2 hm0;generalize w.conds.getD o.toNat default=c at *;obtain⟨nm,mx⟩:=c;obtain⟨ow,rd⟩:=ll;unfold LockD.enc at hx2;unfold db.enc at hx1;dsimp only at *;clear hmm hm hb h3
     repeat' (first|refine st ?_|(refine pf 46 ?_;refine pm (c1) ?_)|(refine pf 47 ?_;refine pm (c2) ?_)|(refine pf 48 ?_;refine pm (c3) ?_)|refine sb λnb_ hnb_=>?_|refine s2 (λh=>?_) λh=>?_|fail)
     all_goals exact hq _ (v17.trans (by first|rfl|(simp_all;done)))
    ·have e17:decide (k=17)=false:=decide_eq_false hk
     repeat' (first|refine st ?_|(refine pf 46 ?_;refine pm (c1) ?_)|(refine pf 47 ?_;refine pm (c2) ?_)|(refine pf 48 ?_;refine pm (c3) ?_)|(refine pf 49 ?_;refine pm (c4) ?_)|refine sb λnb_ hnb_=>?_|refine s2 (λh=>?_) λh=>?_|fail)
     all_goals simp only[decide_eq_true_eq,decide_eq_false_iff_not]at *
     all_goals first
      |(exfalso;clear hq;omega)
      |exact hq _ ((v1 ZJ).trans (by first|rfl|(simp_all;done)))
      |exact hq _ ((v0 ZJ).trans (by first|rfl|(simp_all;done)))
end
end Go.Proofs.YtdnpdghlggbklaaGreatDoor.Am
