/- A part of the proof; the statement is proved in the last part. -/
import Derived.Test.YtdnpdghlggbklaaGreatDoorQsh
set_option linter.unusedSimpArgs false
set_option linter.unusedVariables false
namespace Go.Proofs.YtdnpdghlggbklaaGreatDoor.Am
section
set_option maxRecDepth 100000
set_option linter.unusedSimpArgs false
theorem GR{KN:AV→SH→List Nat→Prop}{us:List W.WR}{i:Nat}{g:FuncId}{args:List AV}{L:SH}{R:AV→SH→Prop}(h:af Tryz.prog g args [] R)(hf:∀x∈us,W.free x ⟨i,[],[],[],true,[]⟩)(hk:∀v K,R v K→KN v (K++L) []):W.dcallM Tryz.prog us i g args L KN:=
 ⟨[],L,.refl _,hf,h.mono λu K hu=>hk u K hu⟩
def F3(Q:R)(x15 x16 x17:AV)(L14:SH):Prop:=
 W.faddr 0 x15 λx45=>W.store 1 x45 x17 L14 λL46=>aB 2 x15 L46 λx48=>wc (.fn 110 []) [x48] L46 (im Q x15 x16)
def ng(q:Nat)(o:Option Nat)(j:Nat)(l:LockD):List AV:=if j=q then [.Xw l.owner,am o l.readers.length]else l.enc
def bZ(q:Nat)(o:Option Nat)(ls:List LockD):List (List AV):=ls.zipIdx.map λp=>ng q o p.2 p.1
theorem co(q:Nat)(o:Option Nat)(ls:List LockD):(bZ q o ls).length=ls.length:=by simp[bZ]
theorem fG(q:Nat)(o:Option Nat)(ls:List LockD)(j:Nat)(hj:j<ls.length):(bZ q o ls)[j]? =some (ng q o j ls[j]):=by simp[bZ,hj]
def HG(q:Nat)(o:Option Nat)(ls:List LockD)(k:Nat):SH:=if q<k then ae o 1 ((ls.getD q default).readers.map aj)else []
def Du:List AV:=[.Xw 0,.nils]
def kf(q:Nat)(o:Option Nat)(ls:List LockD)(k:Nat):List (List AV):=(bZ q o ls).take k++List.replicate (ls.length-k) Du
theorem Mc(q:Nat)(o:Option Nat)(ls:List LockD)(k:Nat)(hk:k≤ls.length):(kf q o ls k).length=ls.length:=by simp[kf,co];omega
theorem Md(q:Nat)(o o':Option Nat)(ls:List LockD)(k:Nat)(h:k≤q∨o=o'):(bZ q o ls).take k=(bZ q o' ls).take k:=by
 rcases h with h|rfl
 ·apply WU;intro j;rcases VO j k with hj|hj
  ·rw[Wj hj,Wj hj];rcases VO j ls.length with h1|h1
   ·rw[fG _ _ _ _ h1,fG _ _ _ _ h1];simp[ng,show j≠q by omega]
   ·rw[VP (by rw[co];exact h1),VP (by rw[co];exact h1)]
  ·rw[VP (by simp;omega),VP (by simp;omega)]
 ·rfl
theorem F4(q:Nat)(o o':Option Nat)(ls:List LockD)(k:Nat)(hk:k<ls.length)(h:k≤q∨o=o'):(kf q o ls k).set k (ng q o' k ls[k])=kf q o' ls (k+1):=by
 unfold kf;have hl:((bZ q o ls).take k).length=k:=by simp[co];omega
 rw[List.set_append_right _ _ Xr,hl,Nat.sub_self];obtain⟨m,hm⟩:∃m,ls.length-k=m+1:=⟨ls.length-k-1,Xr⟩;rw[hm,List.replicate_succ,List.set_cons_zero,Md q o o' ls k h];have hk2:k<(bZ q o' ls).length:=by rw[co];exact hk
 rw[VV hk2,show ls.length-(k+1)=m by omega];have:(bZ q o' ls)[k]=ng q o' k ls[k]:=by have:=fG q o' ls k hk;rw[VK hk2]at this;exact Xm this
 rw[this];simp
theorem N0(q:Nat)(o:Option Nat)(ls:List LockD)(k:Nat)(hk:k<ls.length):(kf q o ls k)[k]? =some Du:=by
 unfold kf;have hl:((bZ q o ls).take k).length=k:=by simp[co];omega
 rw[VS Xr,hl,Nat.sub_self];obtain⟨m,hm⟩:∃m,ls.length-k=m+1:=⟨ls.length-k-1,Xr⟩;rw[hm];rfl
structure N1(s:SyncD)(q:Nat)(v:AV)(L:SH):Prop where
 ex:∃(bl:Nat) (o od ot:Option Nat),v=.agg [.sl bl 0 s.locks.length,.Xw s.tx,aP od s.done.length,aP ot s.threads.length]∧
  L=(bl,⟨2,bZ q o s.locks⟩)::(HG q o s.locks s.locks.length++(ae od 1 (s.done.map aI)++ae ot 3 (s.threads.map ThrD.enc)))∧(od=none→s.done=[])∧(ot=none→s.threads=[])∧(o=none→q<s.locks.length→(s.locks.getD q default).readers=[])
set_option maxHeartbeats 4000000 in
theorem J5(s:SyncD)(q b1 b2 bl:Nat)(h1:s.locks.length<2^40)(hrd:∀l∈s.locks,l.readers.length<2^40)(Q:AV→SH→Prop)
  (hend:∀o:Option Nat,(o=none→q<s.locks.length→(s.locks.getD q default).readers=[])→F3 Q (.ptr b1 0 0) (.ptr b2 0 0) (.sl bl 0 s.locks.length) ((bl,⟨2,bZ q o s.locks⟩)::(b2,⟨4,[[.nils,.Xw 0,.nils,.nils]]⟩)::(b1,⟨4,[s.enc]⟩)::HG q o s.locks s.locks.length)) :
  W.loop (io Q) [.ptr b1 0 0,.ptr b2 0 0,.sl bl 0 s.locks.length,.lst (s.locks.map LockD.enc),.Xw s.locks.length,.Xw (0:Nat)] [(bl,⟨2,List.replicate s.locks.length Du⟩),(b2,⟨4,[[.nils,.Xw 0,.nils,.nils]]⟩),(b1,⟨4,[s.enc]⟩)]:=by
 refine cb s.locks.length (λk (o:Option Nat)=>([.ptr b1 0 0,.ptr b2 0 0,.sl bl 0 s.locks.length,.lst (s.locks.map LockD.enc),.Xw s.locks.length,.Xw k],(bl,⟨2,kf q o s.locks k⟩)::(b2,⟨4,[[.nils,.Xw 0,.nils,.nils]]⟩)::(b1,⟨4,[s.enc]⟩)::HG q o s.locks k)) (λk o=>o=none→q<k→(s.locks.getD q default).readers=[]) none (λ_ h=>by omega) (fS rfl (by simp[kf,HG])) ?_;intro k o hk ho;dsimp only;unfold io;rcases Nat.lt_or_ge k s.locks.length with g1|g1
 ·have hd:=bK g1;have hx:=ay (f:=LockD.enc) g1;have hz:=N0 q o s.locks k g1;have hkl:k<(kf q o s.locks k).length:=by rw[Mc _ _ _ _ hk];exact g1
  have hrk:(s.locks[k]).readers.length*8≤140737488355328:=by have:=hrd _ (V3 g1);omega
  repeat' (first|refine st ?_|refine sb λnb_ hnb_=>?_|fail)
  refine GR (FZ _ hrk) (by simp[rm,rz,W.free,aa]) ?_;rintro v K ⟨o',rfl,rfl,ho'⟩;unfold m8;have fin:∀(L:SH),L=ae o' 1 ((s.locks[k]).readers.map aj)++((bl,⟨2,(kf q o s.locks k).set k [.Xw (s.locks[k]).owner,am o' (s.locks[k]).readers.length]⟩)::(b2,⟨4,[[.nils,.Xw 0,.nils,.nils]]⟩)::(b1,⟨4,[s.enc]⟩)::HG q o s.locks k)→
    ∃j o2,k<j∧j≤s.locks.length∧(o2=none→q<j→(s.locks.getD q default).readers=[])∧aF [.ptr b1 0 0,.ptr b2 0 0,.sl bl 0 s.locks.length,.lst (s.locks.map LockD.enc),.Xw s.locks.length,.Xw (IntKind.i64.wrap ((k:Int)+1))] L
     [.ptr b1 0 0,.ptr b2 0 0,.sl bl 0 s.locks.length,.lst (s.locks.map LockD.enc),.Xw s.locks.length,.Xw j] ((bl,⟨2,kf q o2 s.locks j⟩)::(b2,⟨4,[[.nils,.Xw 0,.nils,.nils]]⟩)::(b1,⟨4,[s.enc]⟩)::HG q o2 s.locks j):=by
   intro L hL;subst hL;rw[aD g1 Xr];by_cases hkq:k=q
   ·subst hkq;refine⟨k+1,o',Xr,Xr,λe _=>by simpa[List.getD,g1]using ho' e,?_⟩;rw[←F4 k o o' s.locks k g1 (.inl (VL _))];have e1:HG k o s.locks k=[]:=by simp[HG]
    have e2:HG k o' s.locks (k+1)=ae o' 1 ((s.locks[k]).readers.map aj):=by simp[HG,List.getD,g1]
    have e3:ng k o' k s.locks[k]=[.Xw (s.locks[k]).owner,am o' (s.locks[k]).readers.length]:=by simp[ng]
    rw[e1,e2,e3];exact aF.forget (K:=[]) Wf
   ·refine⟨k+1,o,Xr,Xr,λe hq=>ho e Xr,?_⟩;have e1:HG q o s.locks (k+1)=HG q o s.locks k:=by
     by_cases hq:q<k
     ·simp[HG,hq,show q<k+1 by omega]
     ·simp[HG,hq,show¬q<k+1 by omega]
    rw[e1,←F4 q o o s.locks k g1 (.inr rfl)];have e3:ng q o k s.locks[k]=[.Xw (s.locks[k]).owner,.lst ((s.locks[k]).readers.map aj)]:=by simp[ng,hkq,LockD.enc]
    rw[e3];refine aF.row (K:=ae o' 1 ((s.locks[k]).readers.map aj)) (.refl _) Xu ?_;intro j r r' q1 q2;rw[Wn]at q1 q2;by_cases hj:k=j
    ·rw[if_pos hj]at q1 q2;rw[if_pos Xr]at q1 q2;cases q1;cases q2;refine .cons (.refl _) (.cons ?_ .nil);exact Fz.slot (f:=aj) rfl (λe=>by rw[ho' e];rfl) Xv (λy _=>rfl) (λy _ q a a2 h1 h2=>by rw[h1]at h2;cases h2;exact .refl _)
    ·rw[if_neg hj]at q1 q2;rw[q1]at q2;cases q2;exact iU.refl _ _
  cases o' with
  |none=>
   dsimp only[ae,am,List.nil_append]at fin ⊢
   repeat' (first|refine st ?_|refine sb λnb_ hnb_=>?_|fail)
   exact fin _ rfl
  |some b'=>
   dsimp only[ae,am,List.cons_append,List.nil_append]at fin ⊢
   repeat' (first|refine st ?_|refine sb λnb_ hnb_=>?_|fail)
   exact fin _ rfl
 ·have hd:=bO g1;have hk0:k=s.locks.length:=by omega
  subst hk0;have:=hend o ho;rw[show kf q o s.locks s.locks.length=bZ q o s.locks by simp[kf,co,Wx]];refine NQ ?_;refine mE (Nn ?_);refine RJ (Ik hd ?_);exact this
theorem F5{s:SyncD}(hs:s.threads.length<2^40):s.threads.length*24≤140737488355328:=by omega
set_option maxHeartbeats 4000000 in
theorem IB(s:SyncD)(q:Nat)(h1:s.locks.length<2^40)(h2:s.done.length≤140737488351232)(h3:s.threads.length<2^40)(hrd:∀l∈s.locks,l.readers.length<2^40):
  af Tryz.prog 73 [.agg s.enc] [] (N1 s q):=by
 refine af.fz (B0 _ _ _ ?_);unfold pg;generalize hQ:(λ(v:AV) (L:SH)=>∃v2 L2,aF [v] L [v2] L2∧N1 s q v2 L2)=Q
 repeat' (first|refine st ?_|refine sb λnb_ hnb_=>?_|fail)
 rename_i b1 _ b2 _;revert nb_;intro bl _;refine J5 s q b1 b2 bl h1 hrd Q ?_;intro o ho;unfold F3
 repeat' (first|refine st ?_|refine sb λnb_ hnb_=>?_|fail)
 refine o8 (Mb _ Xr) ?_;rintro v K ⟨od,rfl,rfl,hod⟩;unfold im;have fin:∀(v:AV) (L:SH) (ot:Option Nat),(ot=none→s.threads=[])→v=.agg [.sl bl 0 s.locks.length,.Xw s.tx,aP od s.done.length,aP ot s.threads.length]→
   (∃x y:Blk,L=(bl,⟨2,bZ q o s.locks⟩)::(b2,x)::(b1,y)::(HG q o s.locks s.locks.length++ae od 1 (s.done.map aI)++ae ot 3 (s.threads.map ThrD.enc)))→Q v L:=by
  rintro v L ot hot rfl ⟨x,y,rfl⟩;subst hQ;refine⟨_,_,aF.forget (K:=[(b2,x),(b1,y)]) (R:=(bl,⟨2,bZ q o s.locks⟩)::(HG q o s.locks s.locks.length++ae od 1 (s.done.map aI)++ae ot 3 (s.threads.map ThrD.enc))) ?_,⟨bl,o,od,ot,rfl,by rw[Wq],hod,hot,ho⟩⟩;exact(List.Perm.swap _ _ _).trans ((List.Perm.swap _ _ _).cons _)
 cases od with
 |none=>
  dsimp only[aP]at fin ⊢
  repeat' (first|refine st ?_|refine sb λnb_ hnb_=>?_|fail)
  refine o8 (F0 _ (F5 h3)) ?_;rintro v K ⟨ot,rfl,rfl,hot⟩;unfold il;cases ot with
  |none=>
   dsimp only[aP]at fin ⊢
   repeat' (first|refine st ?_|refine sb λnb_ hnb_=>?_|fail)
   exact fin _ _ none hot rfl ⟨_,_,rfl⟩
  |some bt=>
   dsimp only[aP]at fin ⊢
   repeat' (first|refine st ?_|refine sb λnb_ hnb_=>?_|fail)
   exact fin _ _ (some bt) hot rfl ⟨_,_,rfl⟩
 |some bd=>
  dsimp only[aP]at fin ⊢
  repeat' (first|refine st ?_|refine sb λnb_ hnb_=>?_|fail)
  refine o8 (F0 _ (F5 h3)) ?_;rintro v K ⟨ot,rfl,rfl,hot⟩;unfold il;cases ot with
  |none=>
   dsimp only[aP]at fin ⊢
   repeat' (first|refine st ?_|refine sb λnb_ hnb_=>?_|fail)
   exact fin _ _ none hot rfl ⟨_,_,rfl⟩
  |some bt=>
   dsimp only[aP]at fin ⊢
   repeat' (first|refine st ?_|refine sb λnb_ hnb_=>?_|fail)
   exact fin _ _ (some bt) hot rfl ⟨_,_,rfl⟩
end
section
set_option maxRecDepth 100000
set_option linter.unusedSimpArgs false
def qj(T:List ThrD)(c:Int)(i:Nat):Bool:=fU (T.getD i default) c
def cj(T:List ThrD)(c:Int)(n:Nat):List Nat:=(List.range n).filter λi=>qj T c i
def bn(l:List Nat)(wake:Int):Int:=match l with
 |[]=>-1
 |u::l=>if(u::l).any (λx=>decide ((x:Int)=wake))then wake else u
def dN(T:List ThrD)(c wake:Int):Int:=bn (cj T c T.length) wake
def F6(T:List ThrD)(i:Nat)(st:Int):List ThrD:=T.set i {T.getD i default with status:=st}
def jh(T:List ThrD)(c wake:Int):List ThrD:=if 0≤dN T c wake then F6 T (dN T c wake).toNat 4 else T
theorem J6{l:List Nat}{wake:Int}(h:0≤bn l wake):(bn l wake).toNat∈l:=by
 cases l with
 |nil=>simp[bn]at h
 |cons u l=>
  simp only[bn]at h ⊢;split
  ·rename_i ha;obtain⟨x,hx,he⟩:=Xq.1 ha;have:=of_decide_eq_true he;rw[←this];simpa using hx
  ·simp
theorem J7(l:List Nat)(wake:Int):bn l wake=-1∨0≤bn l wake:=by
 cases l with
 |nil=>simp[bn]
 |cons u l=>
  right;simp only[bn];split
  ·rename_i ha;obtain⟨x,hx,he⟩:=Xq.1 ha;have:=of_decide_eq_true he;omega
  ·omega
theorem IC(l:List Nat)(i:Nat)(wake:Int):bn (l++[i]) wake=if bn l wake<0∨(i:Int)=wake then(i:Int)else bn l wake:=by
 cases l with
 |nil=>simp only[bn,WN];split<;>simp_all
 |cons u l=>
  have hlow:=J7 (u::l) wake;simp only[W2];rw[bn,←W2,List.any_append];by_cases hw:(i:Int)=wake
  ·simp[hw]
  ·by_cases ha:(u::l).any (λx=>decide ((x:Int)=wake))=true
   ·have hc:bn (u::l) wake=wake:=by simp only[bn];rw[if_pos ha]
    rw[hc]at hlow ⊢;obtain⟨x,hx,he⟩:=Xq.1 ha;have:=of_decide_eq_true he;rw[ha,Bool.true_or,if_pos rfl,if_neg Xr]
   ·have hc:bn (u::l) wake=u:=by simp only[bn];rw[if_neg ha]
    rw[hc,if_neg (by simp only[Xl,not_or];exact⟨ha,by simp[hw]⟩),if_neg Xr]
theorem wZ(T:List ThrD)(c:Int)(n:Nat):cj T c (n+1)=cj T c n++(if qj T c n then [n]else []):=by simp only[cj,List.range_succ,List.filter_append,List.filter_cons,List.filter_nil]
theorem J8{T:List ThrD}{c:Int}{n x:Nat}(h:x∈cj T c n):x<n:=by simp only[cj,Xc,WI]at h;exact h.1
theorem P2(T:List ThrD)(i:Nat)(st:Int)(hi:i<T.length):(T.map ThrD.enc).set i ((ThrD.enc T[i]).set 0 (.Xw st))=(F6 T i st).map ThrD.enc:=by unfold F6;rw[WH];congr 1;simp[List.getD,hi,ThrD.enc]
section
variable (a b d:AV) (bt:Nat)
theorem Me(T:List ThrD)(c wake:Int)(hT:T.length<2^40)(hbox:([a,b,d,.sl bt 0 T.length]:List AV).all AV.one=true):
  af Tryz.prog 78 [.agg [a,b,d,.sl bt 0 T.length],.Xw c,.Xw wake] [(bt,⟨3,T.map ThrD.enc⟩)] λv L=>v=.Xw (dN T c wake)∧L=[(bt,⟨3,(jh T c wake).map ThrD.enc⟩)]:=by
 refine zL _ _ _ _ _ ?_;unfold m9;generalize hQ:(λ(v:AV) (L:SH)=>v=AV.Xw (dN T c wake)∧L=[(bt,(⟨3,(jh T c wake).map ThrD.enc⟩:Blk))])=Q
 repeat' (first|refine GO ?_ rfl hbox (by exact Nat.succ_pos _)|refine st ?_|refine sb λnb_ hnb_=>?_|fail)
 refine Df T.length (λi=>([.Xw c,.Xw wake,.pptr [[a,b,d,.sl bt 0 T.length]] 0 0,.Xw (bn (cj T c i) wake),.sl bt 0 T.length,.Xw T.length,.Xw i],[(bt,⟨3,T.map ThrD.enc⟩)])) (λ_=>True) trivial (by simp[cj,bn]) rfl ?_;intro i hi _;dsimp only;unfold lH;rcases Nat.lt_or_ge i T.length with h1|h1
 ·have hd:=bK h1;have hx:=ay (f:=ThrD.enc) h1;have hsn:=IC (cj T c i) i wake;have hws:=wZ T c i;have hwa:qj T c i=fU T[i] c:=by simp[qj,h1]
  have goal:∀ch:Int,ch=bn (cj T c (i+1)) wake→∃j,i<j∧j≤T.length∧True∧aF [.Xw c,.Xw wake,.pptr [[a,b,d,.sl bt 0 T.length]] 0 0,.Xw ch,.sl bt 0 T.length,.Xw T.length,.Xw (IntKind.i64.wrap ((i:Int)+1))] [(bt,⟨3,T.map ThrD.enc⟩)]
    [.Xw c,.Xw wake,.pptr [[a,b,d,.sl bt 0 T.length]] 0 0,.Xw (bn (cj T c j) wake),.sl bt 0 T.length,.Xw T.length,.Xw j] [(bt,⟨3,T.map ThrD.enc⟩)]:=λch hch=>⟨i+1,Xr,Xr,trivial,fS (by rw[aD h1 Xr,hch]) rfl⟩
  cases hw:fU T[i] c with
  |false=>
   rw[hw]at hwa
   repeat' (first|refine st ?_|(refine pf 115 ?_;refine pm (lK _ _) ?_)|refine sb λnb_ hnb_=>?_|refine s2 (λh=>?_) λh=>?_|fail)
   exact goal _ (by rw[hws,hwa];simp)
  |true=>
   rw[hw]at hwa;have hn:bn (cj T c (i+1)) wake=if bn (cj T c i) wake<0∨(i:Int)=wake then(i:Int)else bn (cj T c i) wake:=by rw[hws,hwa,if_pos rfl,hsn]
   by_cases g1:bn (cj T c i) wake<0
   ·have e1:decide (bn (cj T c i) wake<0)=true:=decide_eq_true g1
    repeat' (first|refine st ?_|(refine pf 115 ?_;refine pm (lK _ _) ?_)|refine sb λnb_ hnb_=>?_|refine s2 (λh=>?_) λh=>?_|fail)
    exact goal _ (by rw[hn,if_pos (.inl g1)])
   ·have e1:decide (bn (cj T c i) wake<0)=false:=decide_eq_false g1;by_cases g2:(i:Int)=wake
    ·have e2:decide ((i:Int)=wake)=true:=decide_eq_true g2
     repeat' (first|refine st ?_|(refine pf 115 ?_;refine pm (lK _ _) ?_)|refine sb λnb_ hnb_=>?_|refine s2 (λh=>?_) λh=>?_|fail)
     exact goal _ (by rw[hn,if_pos (.inr g2)])
    ·have e2:decide ((i:Int)=wake)=false:=decide_eq_false g2
     repeat' (first|refine st ?_|(refine pf 115 ?_;refine pm (lK _ _) ?_)|refine sb λnb_ hnb_=>?_|refine s2 (λh=>?_) λh=>?_|fail)
     exact goal _ (by rw[hn,if_neg Xr])
 ·have hd:=bO h1;have hi0:i=T.length:=by omega
  subst hi0;have hns:bn (cj T c T.length) wake=dN T c wake:=rfl;rw[hns];by_cases g1:0≤dN T c wake
  ·have e1:decide (0≤dN T c wake)=true:=decide_eq_true g1;have hlt:(dN T c wake).toNat<T.length:=J8 (J6 g1);have hx:=ay (f:=ThrD.enc) hlt;have hidx:dN T c wake=((dN T c wake).toNat:Nat):=(Int.toNat_of_nonneg g1).symm;have hst:=P2 T _ 4 hlt;have hwk:jh T c wake=F6 T (dN T c wake).toNat 4:=by rw[jh,if_pos g1]
   generalize hk:(dN T c wake).toNat=k at *;rw[hidx]at e1 hQ ⊢
   repeat' (first|refine st ?_|refine sb λnb_ hnb_=>?_|refine s2 (λh=>?_) λh=>?_|fail)
   subst hQ;exact⟨rfl,by rw[hwk,←hst]⟩
  ·have e1:decide (0≤dN T c wake)=false:=decide_eq_false g1;have hwk:jh T c wake=T:=by rw[jh,if_neg g1]
   repeat' (first|refine st ?_|refine sb λnb_ hnb_=>?_|refine s2 (λh=>?_) λh=>?_|fail)
   subst hQ;exact⟨rfl,by rw[hwk]⟩
def da(T:List ThrD)(c:Int)(n:Nat):List ThrD:=T.zipIdx.map λp=>if decide (p.2<n)&&fU p.1 c then {p.1 with status:=4} else p.1
theorem fx(T:List ThrD)(c:Int)(n i:Nat)(hi:i<T.length):(da T c n)[i]? =some (if decide (i<n)&&fU T[i] c then {T[i]with status:=4} else T[i]):=by simp[da,hi]
theorem db(T:List ThrD)(c:Int)(n:Nat):(da T c n).length=T.length:=by simp[da]
theorem GS(T:List ThrD)(c:Int):da T c 0=T:=by
 apply WU;intro i;rcases VO i T.length with hi|hi
 ·rw[fx T c 0 i hi];simp[hi]
 ·rw[VP (by rw[db];exact hi),VP hi]
theorem GT(T:List ThrD)(c:Int)(n:Nat)(hn:n<T.length):da T c (n+1)=if fU T[n] c then(da T c n).set n {T[n]with status:=4} else da T c n:=by
 apply WU;intro i;have key:∀hi:i<T.length,(if fU T[n] c then(da T c n).set n {T[n]with status:=4} else da T c n)[i]? =some (if decide (i<n+1)&&fU T[i] c then {T[i]with status:=4} else T[i]):=λhi=>by
  by_cases hin:i=n
  ·subst hin;cases hw:fU T[i] c with
   |true=>simp[hw,db,hi]
   |false=>simp[hw,fx T c i i hi]
  ·have h1:decide (i<n+1)=decide (i<n):=by apply decide_eq_decide.2;omega
   rw[h1];split
   ·rw[List.getElem?_set_ne Xr];exact fx T c n i hi
   ·exact fx T c n i hi
 rcases VO i T.length with hi|hi
 ·rw[key hi,fx T c (n+1) i hi]
 ·rw[VP (by rw[db];exact hi),VP];split<;>simp[db,hi]
theorem GU(T:List ThrD)(c:Int)(hT:T.length<2^40)(hbox:([a,b,d,.sl bt 0 T.length]:List AV).all AV.one=true):
  af Tryz.prog 79 [.agg [a,b,d,.sl bt 0 T.length],.Xw c] [(bt,⟨3,T.map ThrD.enc⟩)] λv L=>v=.Xw ((cj T c T.length).length:Nat)∧L=[(bt,⟨3,(da T c T.length).map ThrD.enc⟩)]:=by
 refine qt _ _ _ _ ?_;unfold jf;generalize hQ:(λ(v:AV) (L:SH)=>v=AV.Xw ((cj T c T.length).length:Nat)∧L=[(bt,(⟨3,(da T c T.length).map ThrD.enc⟩:Blk))])=Q
 repeat' (first|refine GO ?_ rfl hbox (by exact Nat.succ_pos _)|refine st ?_|refine sb λnb_ hnb_=>?_|fail)
 refine Df T.length (λi=>([.Xw c,.pptr [[a,b,d,.sl bt 0 T.length]] 0 0,.Xw ((cj T c i).length:Nat),.sl bt 0 T.length,.Xw T.length,.Xw i],[(bt,⟨3,(da T c i).map ThrD.enc⟩)])) (λ_=>True) trivial (by simp[cj]) (by rw[GS]) ?_;intro i hi _;dsimp only;unfold iB;rcases Nat.lt_or_ge i T.length with h1|h1
 ·have hd:=bK h1;have hi2:i<(da T c i).length:=by rw[db];exact h1
  have hti:(da T c i)[i]=T[i]:=by have:=fx T c i i h1;rw[VK hi2]at this;simpa using this
  have hx:=ay (f:=ThrD.enc) hi2;rw[hti]at hx;have hws:=wZ T c i;have hwa:qj T c i=fU T[i] c:=by simp[qj,h1]
  have hsu:=GT T c i h1;have hwl:(cj T c i).length≤i:=V2 (Xi _ _) Xu;cases hw:fU T[i] c with
  |false=>
   rw[hw]at hwa hsu
   repeat' (first|refine st ?_|(refine pf 115 ?_;refine pm (lK _ _) ?_)|refine sb λnb_ hnb_=>?_|refine s2 (λh=>?_) λh=>?_|fail)
   refine⟨i+1,Xr,Xr,trivial,fS (by rw[aD h1 Xr,hws,hwa];simp[av]) (by rw[hsu];simp)⟩
  |true=>
   rw[hw]at hwa hsu
   repeat' (first|refine st ?_|(refine pf 115 ?_;refine pm (lK _ _) ?_)|refine sb λnb_ hnb_=>?_|refine s2 (λh=>?_) λh=>?_|fail)
   refine⟨i+1,Xr,Xr,trivial,fS (by rw[aD h1 Xr,hws,hwa,aD (Nat.lt_of_le_of_lt hwl h1) Xr];simp[av]) ?_⟩;rw[hsu,if_pos rfl,WH];simp[ThrD.enc]
 ·have hd:=bO h1;have hi0:i=T.length:=by omega
  subst hi0
  repeat' (first|refine st ?_|refine sb λnb_ hnb_=>?_|refine s2 (λh=>?_) λh=>?_|fail)
  subst hQ;exact⟨rfl,rfl⟩
end
end
section
set_option maxRecDepth 100000
set_option linter.unusedSimpArgs false
def Be(P:Program)(g:FuncId)(cs:List AV)(p:Int→Bool):Prop:=∀x:Int,ax P g (.Xw x::cs) (.bool (p x))
theorem Be.call{P:Program}{g:FuncId}{cs:List AV}{p:Int→Bool}(h:Be P g cs p){x:Int}{L:SH}{KL:AV→SH→Prop}(hk:KL (.bool (p x)) L):W.call P (.fn g cs) [.Xw x] L KL:=⟨(h x).call hk⟩
def zP(p:Int→Bool)(l:List Int):Int:=if l.any p then(l.findIdx p:Int)else -1
theorem Mf{p:Int→Bool}{l:List Int}{i:Nat}(hi:i<l.length)(hno:(l.take i).any p=false)(hp:p l[i]=true):zP p l=i:=by
 have h1:l.any p=true:=Xq.2 ⟨l[i],V3 hi,hp⟩;have h2:l.findIdx p=i:=by rw[List.findIdx_eq hi];refine⟨hp,λj hj=>?_⟩;have:=List.any_eq_false.1 hno l[j] (List.mem_take_iff_getElem.2 ⟨j,Xr,rfl⟩);simpa using this
 rw[zP,if_pos h1,h2]
theorem GV(g:FuncId)(cs:List AV)(p:Int→Bool)(hp:Be Tryz.prog g cs p)(b:Nat)(xs:List Int)(hl:xs.length<2^62):af Tryz.prog 114 [.sl b 0 xs.length,.fn g cs] [(b,⟨1,xs.map aj⟩)] λv L=>v=.Xw (zP p xs)∧L=[(b,⟨1,xs.map aj⟩)]:=by
 refine gK _ _ _ _ ?_;unfold dH;generalize hQ:(λ(v:AV) (L:SH)=>v=AV.Xw (zP p xs)∧L=[(b,(⟨1,xs.map aj⟩:Blk))])=Q
 repeat' (first|refine st ?_|refine sb λnb_ hnb_=>?_|fail)
 refine Df xs.length (λi=>([.sl b 0 xs.length,.fn g cs,.Xw xs.length,.Xw i],[(b,⟨1,xs.map aj⟩)])) (λi=>(xs.take i).any p=false) Xu rfl rfl ?_;intro i hi hno;dsimp only;unfold dy;rcases Nat.lt_or_ge i xs.length with h1|h1
 ·have hx:=ay (f:=aj) h1;have hd:=bK h1
  repeat' (first|refine o7 (Be.call hp ?_)|refine st ?_|refine sb λnb_ hnb_=>?_|refine s2 (λh=>?_) λh=>?_|fail)
  ·subst hQ;exact⟨by rw[Mf h1 hno h],rfl⟩
  ·refine⟨i+1,Xr,Xr,?_,fS (by rw[aD h1 hl]<;>rfl) rfl⟩;rw[VV h1,List.any_append,hno];simpa using h
 ·have hd:=bO h1
  repeat' (first|refine st ?_|refine sb λnb_ hnb_=>?_|refine s2 (λh=>?_) λh=>?_|fail)
  subst hQ;rw[Wx h1]at hno;exact⟨by rw[zP,if_neg (by simp[hno])],rfl⟩
theorem F7{k:IntKind}{m d:Nat}:cD (some (.int k (m:Int))) d=some m:=by simp[cD,m6]
theorem J9{p:Int→Bool}{l:List Int}(h:zP p l≠-1):∃i:Nat,zP p l=i∧i<l.length∧(l.take (i+1)).filter (λx=>!p x)=l.take i:=by
 unfold zP at h ⊢;split at h
 ·rename_i ha;rw[if_pos ha];refine⟨l.findIdx p,rfl,List.findIdx_lt_length.2 (Xq.1 ha),?_⟩;have hlt:=List.findIdx_lt_length.2 (Xq.1 ha);rw[VV hlt,List.filter_append];have h1:p l[l.findIdx p]=true:=List.findIdx_getElem;rw[List.filter_cons_of_neg (by simp[h1]),List.filter_nil,Wr,List.filter_eq_self];intro x hx;obtain⟨j,hj,rfl⟩:=List.mem_take_iff_getElem.1 hx;have:=List.not_of_lt_findIdx (xs:=l) (p:=p) (i:=j) Xr;simpa using this
 ·exact absurd rfl h
theorem F8{p:Int→Bool}{l:List Int}(h:zP p l=-1):l.filter (λx=>!p x)=l:=by
 unfold zP at h;split at h
 ·omega
 ·rename_i ha;rw[List.filter_eq_self];intro x hx;simp only[Bool.not_eq_true,List.any_eq_false]at ha;simpa using ha x hx
theorem Fg(g:FuncId)(cs:List AV)(p:Int→Bool)(hp:Be Tryz.prog g cs p)(b:Nat)(xs:List Int)(hl:xs.length<2^61):af Tryz.prog 76 [.sl b 0 xs.length,.fn g cs] [(b,⟨1,xs.map aj⟩)] λv L=>∃R:List Int,v=.sl b 0 (xs.filter λx=>!p x).length∧L=[(b,⟨1,R.map aj⟩)]∧R.take (xs.filter λx=>!p x).length=(xs.filter λx=>!p x)∧R.length=xs.length:=by
 refine gu _ _ _ _ ?_;unfold dB;refine o7 (J0 (Bb (GV g cs p hp b xs Xr) ?_));rintro v L ⟨rfl,rfl⟩;unfold dm;generalize hQ:(λ(v:AV) (L:SH)=>∃R:List Int,v=AV.sl b 0 (xs.filter λx=>!p x).length∧L=[(b,(⟨1,R.map aj⟩:Blk))]∧R.take (xs.filter λx=>!p x).length=(xs.filter λx=>!p x)∧R.length=xs.length)=Q;by_cases hm:zP p xs=-1
 ·have hd:decide (zP p xs=-1)=true:=decide_eq_true hm
  repeat' (first|refine st ?_|refine sb λnb_ hnb_=>?_|fail)
  subst hQ;refine⟨xs,?_,rfl,?_,rfl⟩
  ·rw[F8 hm]
  ·rw[F8 hm];simp
 ·have hd:decide (zP p xs=-1)=false:=decide_eq_false hm;obtain⟨i0,hi0,hlt,hfil⟩:=J9 hm;rw[hi0]at hd ⊢
  repeat' (first|refine st ?_|refine sb λnb_ hnb_=>?_|fail)
  rw[aD hlt Xr];have hc:∀j,((xs.take j).filter λx=>!p x).length≤j:=λj=>V2 (Xi _ _) (by simp;omega)
  refine cb (xs.length-(i0+1)) (λk (R:List Int)=>([.sl b 0 xs.length,.fn g cs,.Xw (((xs.take (i0+1+k)).filter λx=>!p x).length:Nat),.Xw (i0+1+k:Nat)],[(b,⟨1,R.map aj⟩)]))
   (λk R=>R.length=xs.length∧R.take ((xs.take (i0+1+k)).filter λx=>!p x).length=((xs.take (i0+1+k)).filter λx=>!p x)∧R.drop (i0+1+k)=xs.drop (i0+1+k)) xs ⟨rfl,by rw[Xd,hfil];simp,rfl⟩ (fS (by rw[Xd,hfil,We,Wz Xr]) rfl) ?_
  rintro k R hk ⟨r1,r2,r3⟩;dsimp only;unfold dk;have hcj:=hc (i0+1+k);generalize hj:i0+1+k=j at r2 r3 hcj ⊢;rcases Nat.lt_or_ge j xs.length with h1|h1
  ·have hd2:=bK h1;have h1':j<R.length:=by omega
   have hxj:R[j]=xs[j]:=by have h0:=congrArg (λl=>l[0]?) r3;simp only[WB,Xd]at h0;rw[VK h1',VK h1]at h0;exact Xm h0
   have hx:=ay (f:=aj) h1';rw[hxj]at hx;have htk:(xs.take (j+1)).filter (λx=>!p x)=(xs.take j).filter (λx=>!p x)++([xs[j]].filter λx=>!p x):=by rw[VV h1,List.filter_append]
   have hm1:((xs.take j).filter λx=>!p x).length<xs.length:=by omega
   have hm2:((xs.take j).filter λx=>!p x).length<R.length:=by omega
   have hxm:=ay (f:=aj) hm2;cases hpx:p xs[j]with
   |true=>
    have hnp:(!p xs[j])=false:=by simp[hpx]
    repeat' (first|refine o7 (Be.call hp ?_)|refine st ?_|refine sb λnb_ hnb_=>?_|refine s2 (λh=>?_) λh=>?_|fail)
    refine⟨k+1,R,Xr,Xr,⟨r1,?_,?_⟩,fS ?_ rfl⟩
    ·rw[show i0+1+(k+1)=j+1 by omega,htk];simpa[hpx]using r2
    ·rw[show i0+1+(k+1)=j+1 by omega,←List.drop_drop,←List.drop_drop,r3]
    ·rw[show i0+1+(k+1)=j+1 by omega,htk,aD h1 Xr];simp[hpx,av]
   |false=>
    have hnp:(!p xs[j])=true:=by simp[hpx]
    repeat' (first|refine o7 (Be.call hp ?_)|refine st ?_|refine sb λnb_ hnb_=>?_|refine s2 (λh=>?_) λh=>?_|fail)
    refine⟨k+1,R.set ((xs.take j).filter λx=>!p x).length xs[j],Xr,Xr,⟨by simp[r1],?_,?_⟩,fS ?_ ?_⟩
    ·rw[show i0+1+(k+1)=j+1 by omega,htk];simp only[List.filter_cons,hpx,Bool.not_false,if_true,List.filter_nil,VT,List.length_singleton];rw[VV (by simpa using hm2),List.take_set_of_le (VL _),r2];simp
    ·rw[show i0+1+(k+1)=j+1 by omega,List.drop_set_of_lt Xr,←List.drop_drop,←List.drop_drop,r3]
    ·rw[show i0+1+(k+1)=j+1 by omega,htk,aD h1 Xr,aD hm1 Xr];simp[hpx,av]
    ·simp[WH,aj]
  ·have hd2:=bO h1;have ht:xs.take j=xs:=Wx h1;rw[ht]at r2 hcj ⊢;have hle:(xs.filter λx=>!p x).length≤xs.length:=Xi _ _;generalize hmm:(xs.filter λx=>!p x).length=m at r2 hcj hle hQ ⊢
   repeat' (first|refine st ?_|refine zn (l:=m) (h:=xs.length) F7 rfl hle (VL _) (.head _) rfl ?_|refine L7 (.here _) rfl (by simp[r1];omega) rfl ?_|refine zn (l:=0) (h:=m) rfl F7 (WF _) hle (.head _) rfl ?_|refine sb λnb_ hnb_=>?_|fail)
   subst hQ;refine⟨R.take m++List.replicate (xs.length-m) 0,Xu,?_,?_,?_⟩
   ·simp only[WG];rw[List.drop_of_length_le (by simp[r1];omega),Wr,VQ,List.map_take];simp[aj]
   ·rw[List.take_left' (by simp[r1];omega)];exact r2
   ·simp[r1];omega
theorem Mg(t x:Int)(L:SH):Be Tryz.prog 77 [.pptr [[.Xw t]] 0 0] (λx=>decide (x=t)):=λx=>by
 refine wX _ _ _ _ ?_;unfold lI
 repeat' (first|refine st ?_|refine sb λnb_ hnb_=>?_|fail)
 exact⟨rfl,rfl⟩
end
section
set_option maxRecDepth 100000
set_option maxHeartbeats 2000000
set_option linter.unusedSectionVars false
section
variable {w:aM} {s:SyncD} {t k o:Int} (hf:NX w s) (hr:∀l∈s.locks,l.readers.length<2^40) (ha:allowedS w k o=true) {Q:R} (hq:∀b,cP w s t k o=b→Q (.bool b) [])
include hf hr ha hq
theorem N2(hk:6≤k∧k≤11):bP (.agg w.enc) (.agg s.enc) (.Xw t) (.Xw k) (.Xw o) [] Q:=by
 have hb:inB o s.locks.length=true:=by
  rw[hf.locks];have:k=6∨k=7∨k=8∨k=9∨k=10∨k=11:=by omega
  rcases this with rfl|rfl|rfl|rfl|rfl|rfl<;>(simp[allowedS]at ha;exact ha.1)
 have hx:=dK (f:=LockD.enc) hb;have ho:=ft hb;have hrd:=NY hr o;have hll:aL s o=s.locks.getD o.toNat default:=rfl;rw[←hll]at hx;have v6:k=6→cP w s t k o=decide ((aL s o).owner=-1):=λh=>by subst h;rfl
 have v10:k=10→cP w s t k o=(decide ((aL s o).owner=-1)&&decide ((aL s o).readers.length=0)):=λh=>by subst h;rfl
 have v8:k=8→cP w s t k o=(decide ((aL s o).owner=-1)&&!(aL s o).readers.contains t):=λh=>by subst h;rfl
 have v7:k=7∨k=11→cP w s t k o=decide ((aL s o).owner=t):=λh=>by rcases h with rfl|rfl<;>rfl
 have v9:k=9→cP w s t k o=(aL s o).readers.contains t:=λh=>by subst h;rfl
 clear hll hb ha;generalize aL s o=ll at *;obtain⟨ow,rd⟩:=ll;unfold LockD.enc at hx;dsimp only at *;have hc:=IA rd t hrd;generalize rd.contains t=hcb at *;unfold bP
 repeat' (first|refine st ?_|(refine pf 72 ?_;refine pm (hc) ?_)|refine sb λnb_ hnb_=>?_|refine s2 (λh=>?_) λh=>?_|fail)
 all_goals simp only[decide_eq_true_eq,decide_eq_false_iff_not]at *
 all_goals first
  |(exfalso;clear hq;omega)
  |exact hq _ ((v6 Xr).trans (by first|rfl|(simp_all;done)))
  |exact hq _ ((v7 Xr).trans (by first|rfl|(simp_all;done)))
  |exact hq _ ((v8 Xr).trans (by first|rfl|(simp_all;done)))
  |exact hq _ ((v9 Xr).trans (by first|rfl|(simp_all;done)))
  |exact hq _ ((v10 Xr).trans (by first|rfl|(simp_all;done)))
theorem N3(hk:k=16∨k=18∨k=19):bP (.agg w.enc) (.agg s.enc) (.Xw t) (.Xw k) (.Xw o) [] Q:=by
 have hb:inB o w.conds.length=true:=by rcases hk with rfl|rfl|rfl<;>simpa[allowedS]using ha
 have hm:=Lp hf hb;have hx:=dK (f:=cI.enc) hb;have ho:=ft hb;have hm0:=ft hm;have hx2:=dK (f:=LockD.enc) hm;have v:k=16∨k=18∨k=19→cP w s t k o=decide ((aL s (lJ w o)).owner=t):=λh=>by rcases h with rfl|rfl|rfl<;>rfl
 have hll:aL s (lJ w o)=s.locks.getD (lJ w o).toNat default:=rfl;rw[←hll]at hx2;clear hll;generalize aL s (lJ w o)=ll at *;have hmm:lJ w o=(w.conds.getD o.toNat default).mutex:=rfl;rw[hmm]at hx2 hm0;generalize w.conds.getD o.toNat default=c at *;obtain⟨nm,mx⟩:=c;obtain⟨ow,rd⟩:=ll;unfold LockD.enc at hx2;unfold cI.enc at hx;dsimp only at *;clear hmm hm hb ha;unfold bP
 repeat' (first|refine st ?_|refine sb λnb_ hnb_=>?_|refine s2 (λh=>?_) λh=>?_|fail)
 all_goals simp only[decide_eq_true_eq,decide_eq_false_iff_not]at *
 all_goals first
  |(exfalso;clear hq;omega)
  |exact hq _ ((v Xr).trans (by first|rfl|(simp_all;done)))
theorem P3(hk:k=20∨k=21):bP (.agg w.enc) (.agg s.enc) (.Xw t) (.Xw k) (.Xw o) [] Q:=by
 have hb:inB o s.threads.length=true:=by rw[hf.threads];rcases hk with rfl|rfl<;>simpa[allowedS]using ha
 have hx:=dK (f:=ThrD.enc) hb;have ho:=ft hb;have v20:k=20→cP w s t k o=(decide (o≠t)&&decide ((bE s o).status=0)):=λh=>by subst h;rfl
 have v21:k=21→cP w s t k o=(decide (o≠t)&&decide ((bE s o).status=5)):=λh=>by subst h;rfl
 have hll:bE s o=s.threads.getD o.toNat default:=rfl;rw[←hll]at hx;clear hll hb ha;generalize bE s o=ll at *;obtain⟨st_,cd_,at_⟩:=ll;unfold ThrD.enc at hx;dsimp only at *;unfold bP
 repeat' (first|refine st ?_|refine sb λnb_ hnb_=>?_|refine s2 (λh=>?_) λh=>?_|fail)
 all_goals simp only[decide_eq_true_eq,decide_eq_false_iff_not]at *
 all_goals first
  |(exfalso;clear hq;omega)
  |exact hq _ ((v20 Xr).trans (by first|rfl|(simp_all;done)))
  |exact hq _ ((v21 Xr).trans (by first|rfl|(simp_all;done)))
theorem P4(hk:k=22∨k=23):bP (.agg w.enc) (.agg s.enc) (.Xw t) (.Xw k) (.Xw o) [] Q:=by
 have hb:inB o s.done.length=true:=by rw[hf.done];rcases hk with rfl|rfl<;>simpa[allowedS]using ha
 have hx:=dK (f:=aI) hb;have ho:=ft hb;have v22:k=22→cP w s t k o=!zN s o:=λh=>by subst h;rfl
 have v23:k=23→cP w s t k o=zN s o:=λh=>by subst h;rfl
 have hll:zN s o=s.done.getD o.toNat default:=rfl;rw[←hll]at hx;clear hll hb ha;generalize zN s o=ll at *;unfold aI at hx;unfold bP
 repeat' (first|refine st ?_|refine sb λnb_ hnb_=>?_|refine s2 (λh=>?_) λh=>?_|fail)
 all_goals simp only[decide_eq_true_eq,decide_eq_false_iff_not]at *
 all_goals first
  |(exfalso;clear hq;omega)
  |exact hq _ ((v22 Xr).trans (by first|rfl|(simp_all;done)))
  |exact hq _ ((v23 Xr).trans (by first|rfl|(simp_all;done)))
theorem N4(ht:inB t w.threads.length=true)(hk:¬(6≤k∧k≤11)∧¬(k=16∨k=18∨k=19)∧¬(k=20∨k=21)∧¬(k=22∨k=23)):bP (.agg w.enc) (.agg s.enc) (.Xw t) (.Xw k) (.Xw o) [] Q:=by
 have hb:inB t s.threads.length=true:=by rw[hf.threads];exact ht
 have hx:=dK (f:=ThrD.enc) hb;have ho:=ft hb;have v12:k=12→cP w s t k o=decide (s.tx=-1):=λh=>by subst h;rfl
 have v13:k=13→cP w s t k o=decide (s.tx=t):=λh=>by subst h;rfl
 have v14:k=14→cP w s t k o=!(bE s t).atomic:=λh=>by subst h;rfl
 have v15:k=15→cP w s t k o=(bE s t).atomic:=λh=>by subst h;rfl
 have v0:k≠12∧k≠13∧k≠14∧k≠15→cP w s t k o=true:=λh=>by
  obtain⟨a1,a2,a3,a4⟩:=h;unfold cP
  repeat (rw[if_neg Xr])
 have hll:bE s t=s.threads.getD t.toNat default:=rfl;rw[←hll]at hx;clear hll hb ha;generalize bE s t=ll at *;obtain⟨st_,cd_,at_⟩:=ll;unfold ThrD.enc at hx;dsimp only at *;unfold bP
 repeat' (first|refine st ?_|refine sb λnb_ hnb_=>?_|refine s2 (λh=>?_) λh=>?_|fail)
 all_goals simp only[decide_eq_true_eq,decide_eq_false_iff_not]at *
 all_goals first
  |(exfalso;clear hq;omega)
  |exact hq _ ((v12 Xr).trans (by first|rfl|(simp_all;done)))
  |exact hq _ ((v13 Xr).trans (by first|rfl|(simp_all;done)))
  |exact hq _ ((v14 Xr).trans (by first|rfl|(simp_all;done)))
  |exact hq _ ((v15 Xr).trans (by first|rfl|(simp_all;done)))
  |exact hq _ ((v0 Xr).trans (by first|rfl|(simp_all;done)))
end
theorem N5(w:aM)(s:SyncD)(t k o:Int)(hf:NX w s)(ht:inB t w.threads.length=true)(hr:∀l∈s.locks,l.readers.length<2^40)(ha:allowedS w k o=true):ax Tryz.prog 49 [.agg w.enc,.agg s.enc,.Xw t,.Xw k,.Xw o] (.bool (cP w s t k o)):=by
 refine BX _ _ _ _ _ _ _ ?_;have hq:∀b,cP w s t k o=b→(λ(u:AV) (K:SH)=>u=AV.bool (cP w s t k o)∧K=[]) (.bool b) []:=λb hb=>⟨by rw[hb],rfl⟩
 by_cases h1:6≤k∧k≤11
 ·exact N2 hf hr ha hq h1
 by_cases h2:k=16∨k=18∨k=19
 ·exact N3 hf hr ha hq h2
 by_cases h3:k=20∨k=21
 ·exact P3 hf hr ha hq h3
 by_cases h4:k=22∨k=23
 ·exact P4 hf hr ha hq h4
 exact N4 hf hr ha hq ht ⟨h1,h2,h3,h4⟩
theorem Dv(w:aM)(s:SyncD)(t k o:Int)(hcn:w.conds.length<2^62)(hr:∀l∈s.locks,l.readers.length<2^40):ax Tryz.prog 24 [.agg w.enc,.agg s.enc,.Xw t,.Xw k,.Xw o] (.bool (bv w s t k o)):=by
 refine wC _ _ _ _ _ _ _ ?_;unfold lF;generalize hQ:(λ(u:AV) (K:SH)=>u=AV.bool (bv w s t k o)∧K=[])=Q;have hq:∀b,bv w s t k o=b→Q (.bool b) []:=λb hb=>by subst hQ;exact⟨by rw[hb],rfl⟩
 clear hQ;have c1:=P1 w s hcn;have c2:=fw t w.threads.length;have c3:=J4 w k o;cases h1:fitsS w s with
 |false=>
  rw[h1]at c1;have hv:bv w s t k o=false:=by simp[bv,h1]
  repeat' (first|refine st ?_|(refine pf 46 ?_;refine pm (c1) ?_)|refine sb λnb_ hnb_=>?_|refine s2 (λh=>?_) λh=>?_|fail)
  all_goals exact hq _ hv
 |true=>
  rw[h1]at c1;cases h2:inB t w.threads.length with
  |false=>
   rw[h2]at c2;have hv:bv w s t k o=false:=by simp[bv,h2]
   repeat' (first|refine st ?_|(refine pf 46 ?_;refine pm (c1) ?_)|(refine pf 47 ?_;refine pm (c2) ?_)|refine sb λnb_ hnb_=>?_|refine s2 (λh=>?_) λh=>?_|fail)
   all_goals exact hq _ hv
  |true=>
   rw[h2]at c2;cases h3:allowedS w k o with
   |false=>
    rw[h3]at c3;have hv:bv w s t k o=false:=by simp[bv,h3]
    repeat' (first|refine st ?_|(refine pf 46 ?_;refine pm (c1) ?_)|(refine pf 47 ?_;refine pm (c2) ?_)|(refine pf 48 ?_;refine pm (c3) ?_)|refine sb λnb_ hnb_=>?_|refine s2 (λh=>?_) λh=>?_|fail)
    all_goals exact hq _ hv
   |true=>
    rw[h3]at c3;have hf:=zO.1 h1;have c4:=N5 w s t k o hf h2 hr h3;have ht:inB t s.threads.length=true:=by rw[hf.threads];exact h2
    have hx:=dK (f:=ThrD.enc) ht;have ht0:=ft ht;have hll:bE s t=s.threads.getD t.toNat default:=rfl;rw[←hll]at hx;have v1:k=1→bv w s t k o=decide ((bE s t).status=1):=λh=>by subst h;simp[bv,h1,h2,h3]
    have v17:k=17→bv w s t k o=(decide ((bE s t).status=4)&&decide ((bE s t).cond=o)&&decide ((aL s (lJ w o)).owner=-1)):=λh=>by subst h;simp[bv,h1,h2,h3]
    have v0:k≠1∧k≠17→bv w s t k o=(decide ((bE s t).status=2)&&cP w s t k o):=λh=>by simp[bv,h1,h2,h3,h.1,h.2]
    clear hll;generalize bE s t=ll at *;generalize cP w s t k o=rb at *;obtain⟨st_,cd_,at_⟩:=ll;unfold ThrD.enc at hx;dsimp only at *;by_cases hk:k=17
    ·subst hk;have hb:inB o w.conds.length=true:=by simpa[allowedS]using h3
     have hm:=Lp hf hb;have hx1:=dK (f:=cI.enc) hb;have ho:=ft hb;have hm0:=ft hm;have hx2:=dK (f:=LockD.enc) hm;have hll:aL s (lJ w o)=s.locks.getD (lJ w o).toNat default:=rfl;rw[←hll]at hx2;clear hll;replace v17:=v17 rfl;generalize aL s (lJ w o)=ll at *;have hmm:lJ w o=(w.conds.getD o.toNat default).mutex:=rfl;rw[hmm]at hx2 hm0;generalize w.conds.getD o.toNat default=c at *;obtain⟨nm,mx⟩:=c;obtain⟨ow,rd⟩:=ll;unfold LockD.enc at hx2;unfold cI.enc at hx1;dsimp only at *;clear hmm hm hb h3
     repeat' (first|refine st ?_|(refine pf 46 ?_;refine pm (c1) ?_)|(refine pf 47 ?_;refine pm (c2) ?_)|(refine pf 48 ?_;refine pm (c3) ?_)|refine sb λnb_ hnb_=>?_|refine s2 (λh=>?_) λh=>?_|fail)
     all_goals exact hq _ (v17.trans (by first|rfl|(simp_all;done)))
    ·have e17:decide (k=17)=false:=decide_eq_false hk
     repeat' (first|refine st ?_|(refine pf 46 ?_;refine pm (c1) ?_)|(refine pf 47 ?_;refine pm (c2) ?_)|(refine pf 48 ?_;refine pm (c3) ?_)|(refine pf 49 ?_;refine pm (c4) ?_)|refine sb λnb_ hnb_=>?_|refine s2 (λh=>?_) λh=>?_|fail)
     all_goals simp only[decide_eq_true_eq,decide_eq_false_iff_not]at *
     all_goals first
      |(exfalso;clear hq;omega)
      |exact hq _ ((v1 Xr).trans (by first|rfl|(simp_all;done)))
      |exact hq _ ((v0 Xr).trans (by first|rfl|(simp_all;done)))
end
end Go.Proofs.YtdnpdghlggbklaaGreatDoor.Am
