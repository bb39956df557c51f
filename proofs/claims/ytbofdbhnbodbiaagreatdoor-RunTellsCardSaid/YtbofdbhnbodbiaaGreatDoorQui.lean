/- A part of the proof; the statement is proved in the last part. -/
import Derived.Test.YtbofdbhnbodbiaaGreatDoorQuh
set_option linter.all false
set_option maxRecDepth 100000
set_option maxHeartbeats 20000000
namespace Go.Proofs.YtbofdbhnbodbiaaGreatDoor.Am
def yB{j:AV->SH->List Nat->Prop}{us:List W.WR}{i:Nat}{g:FuncId}{args:List AV}{L:SH}{R:AV->SH->Prop}(h:ac Tryz.prog g args [] R)(E:∀x∈us,W.free x ⟨i,[],[],[],true,[]⟩)(D:∀v K,R v K->j v (K++L) []):W.dcallM Tryz.prog us i g args L j:=
 ⟨[],L,.refl _,E,h.mono λu K B=>D u K B⟩
def BG(Q:R)(x15 x16 x17:AV)(L14:SH):Prop:=
 W.faddr 0 x15 λx45=>W.store 1 x45 x17 L14 λL46=>Ii 2 x15 L46 λx48=>wc (.fn 157 []) [x48] L46 (wE Q x15 x16)
def mC(q:Nat)(o:Option Nat)(j:Nat)(l:LockD):List AV:=if j=q then [.U1 l.owner,aj o l.readers.length]else l.enc
def bZ(q:Nat)(o:Option Nat)(ls:List LockD):List (List AV):=ls.zipIdx.map λp=>mC q o p.2 p.1
def cm(q:Nat)(o:Option Nat)(j:List LockD):(bZ q o j).length=j.length:=by simp[bZ]
def fX(q:Nat)(o:Option Nat)(u:List LockD)(j:Nat)(B:j<u.length):(bZ q o u)[j]? =some (mC q o j u[j]):=by simp[bZ,B]
def DC(q:Nat)(o:Option Nat)(ls:List LockD)(k:Nat):SH:=if q<k then ab o 1 ((ls.getD q default).readers.map ah)else []
def yC:List AV:=[.U1 0,.nils]
def jO(q:Nat)(o:Option Nat)(ls:List LockD)(k:Nat):List (List AV):=(bZ q o ls).take k++List.replicate (ls.length-k) yC
def Im(q:Nat)(o:Option Nat)(j:List LockD)(k:Nat)(u:k<=j.length):(jO q o j k).length=j.length:=by simp[jO,cm];omega
def In(q:Nat)(o E:Option Nat)(B:List LockD)(k:Nat)(h:k<=q\/o=E):(bZ q o B).take k=(bZ q E B).take k:=by
 rcases h with h|rfl
 .apply Us;intro j;rcases Tf j k with D|D
  .rw[TU D,TU D];rcases Tf j B.length with u|u
   .rw[fX _ _ _ _ u,fX _ _ _ _ u];simp[mC,show j≠q by omega]
   .rw[Tg (by rw[cm];exact u),Tg (by rw[cm];exact u)]
  .rw[Tg (by simp;omega),Tg (by simp;omega)]
 .rfl
def BH(q:Nat)(o u:Option Nat)(j:List LockD)(k:Nat)(D:k<j.length)(h:k<=q\/o=u):(jO q o j k).set k (mC q u k j[k])=jO q u j (k+1):=by
 unfold jO;have G:((bZ q o j).take k).length=k:=by simp[cm];omega
 rw[List.set_append_right _ _ UW,G,UT];obtain⟨m,E⟩:∃m,j.length-k=m+1:=⟨j.length-k-1,UW⟩;rw[E,List.replicate_succ,List.set_cons_zero,In q o u j k h];have B:k<(bZ q u j).length:=by rw[cm];exact D
 rw[Th B,show j.length-(k+1)=m by omega];have:(bZ q u j)[k]=mC q u k j[k]:=by have:=fX q u j k D;rw[Td B]at this;exact UL this
 rw[this];simp
def Kf(q:Nat)(o:Option Nat)(j:List LockD)(k:Nat)(D:k<j.length):(jO q o j k)[k]? =some yC:=by
 unfold jO;have B:((bZ q o j).take k).length=k:=by simp[cm];omega
 rw[Tm UW,B,UT];obtain⟨m,u⟩:∃m,j.length-k=m+1:=⟨j.length-k-1,UW⟩;rw[u];rfl
structure Kg(s:SyncD)(q:Nat)(v:AV)(L:SH):Prop where
 ex:∃(bl:Nat) (o od ot:Option Nat),v=.agg [.sl bl 0 s.locks.length,.U1 s.tx,aK od s.done.length,aK ot s.threads.length]/\
  L=(bl,⟨2,bZ q o s.locks⟩)::(DC q o s.locks s.locks.length++(ab od 1 (s.done.map aB)++ab ot 3 (s.threads.map ThrD.enc)))/\(od=none->s.done=[])/\(ot=none->s.threads=[])/\(o=none->q<s.locks.length->(s.locks.getD q default).readers=[])
def Ga(s:SyncD)(q E b2 D:Nat)(h1:s.locks.length<2^40)(hrd:∀l∈s.locks,l.readers.length<2^40)(Q:AV->SH->Prop)
  (Z:∀o:Option Nat,(o=none->q<s.locks.length->(s.locks.getD q default).readers=[])->BG Q (.ptr E 0 0) (.ptr b2 0 0) (.sl D 0 s.locks.length) ((D,⟨2,bZ q o s.locks⟩)::(b2,⟨4,[[.nils,.U1 0,.nils,.nils]]⟩)::(E,⟨4,[s.enc]⟩)::DC q o s.locks s.locks.length)) :
  W.loop (wF Q) [.ptr E 0 0,.ptr b2 0 0,.sl D 0 s.locks.length,.lst (s.locks.map LockD.enc),.U1 s.locks.length,.U1 (0:Nat)] [(D,⟨2,List.replicate s.locks.length yC⟩),(b2,⟨4,[[.nils,.U1 0,.nils,.nils]]⟩),(E,⟨4,[s.enc]⟩)]:=by
 refine bz s.locks.length (λk (o:Option Nat)=>([.ptr E 0 0,.ptr b2 0 0,.sl D 0 s.locks.length,.lst (s.locks.map LockD.enc),.U1 s.locks.length,.U1 k],(D,⟨2,jO q o s.locks k⟩)::(b2,⟨4,[[.nils,.U1 0,.nils,.nils]]⟩)::(E,⟨4,[s.enc]⟩)::DC q o s.locks k)) (λk o=>o=none->q<k->(s.locks.getD q default).readers=[]) none (λ_ h=>by omega) (dq rfl (by simp[jO,DC])) ?_;intro k o hk ho;dsimp only;refine vw ?_;rcases Nat.lt_or_ge k s.locks.length with u|u
 .have hd:=aS u;have hx:=am (f:=LockD.enc) u;have hz:=Kf q o s.locks k u;have hkl:k<(jO q o s.locks k).length:=by rw[Im _ _ _ _ hk];exact u
  have hrk:(s.locks[k]).readers.length*8<=140737488355328:=by have:=hrd _ (Tk u);omega
  repeat' (first|refine st ?_|refine sb λO G=>?_|fail)
  refine yB (BB _ hrk) (by simp[rm,rz,W.free,af]) ?_;rintro v K ⟨B,rfl,rfl,S⟩
  skip
  have fin:∀(L:SH),L=ab B 1 ((s.locks[k]).readers.map ah)++((D,⟨2,(jO q o s.locks k).set k [.U1 (s.locks[k]).owner,aj B (s.locks[k]).readers.length]⟩)::(b2,⟨4,[[.nils,.U1 0,.nils,.nils]]⟩)::(E,⟨4,[s.enc]⟩)::DC q o s.locks k)->
    ∃j o2,k<j/\j<=s.locks.length/\(o2=none->q<j->(s.locks.getD q default).readers=[])/\az [.ptr E 0 0,.ptr b2 0 0,.sl D 0 s.locks.length,.lst (s.locks.map LockD.enc),.U1 s.locks.length,.U1 (IntKind.i64.wrap ((k:Int)+1))] L
     [.ptr E 0 0,.ptr b2 0 0,.sl D 0 s.locks.length,.lst (s.locks.map LockD.enc),.U1 s.locks.length,.U1 j] ((D,⟨2,jO q o2 s.locks j⟩)::(b2,⟨4,[[.nils,.U1 0,.nils,.nils]]⟩)::(E,⟨4,[s.enc]⟩)::DC q o2 s.locks j):=by
   intro L hL;subst hL;rw[aw u UW];by_cases Y:k=q
   .subst Y;refine⟨k+1,B,UW,UW,λe _=>by simpa[List.getD,u]using S e,?_⟩;rw[<-BH k o B s.locks k u (.inl (Te _))];have e1:DC k o s.locks k=[]:=by simp[DC]
    have e2:DC k B s.locks (k+1)=ab B 1 ((s.locks[k]).readers.map ah):=by simp[DC,List.getD,u]
    have e3:mC k B k s.locks[k]=[.U1 (s.locks[k]).owner,aj B (s.locks[k]).readers.length]:=by simp[mC]
    rw[e1,e2,e3];exact az.forget (K:=[]) Tt
   .refine⟨k+1,o,UW,UW,λe hq=>ho e UW,?_⟩;have e1:DC q o s.locks (k+1)=DC q o s.locks k:=by
     by_cases hq:q<k
     .simp[DC,hq,show q<k+1 by omega]
     .simp[DC,hq,show¬q<k+1 by omega]
    rw[e1,<-BH q o o s.locks k u (.inr rfl)];have e3:mC q o k s.locks[k]=[.U1 (s.locks[k]).owner,.lst ((s.locks[k]).readers.map ah)]:=by simp[mC,Y,LockD.enc]
    rw[e3];refine az.row (K:=ab B 1 ((s.locks[k]).readers.map ah)) (.refl _) UZ ?_;intro j r r' N M;rw[TF]at N M;by_cases hj:k=j
    .rw[if_pos hj]at N M;rw[if_pos UW]at N M;cases N;cases M;refine .cons (.refl _) (.cons ?_ .nil);exact Fz.slot (f:=ah) rfl (λe=>by rw[S e];rfl) U0 (λy _=>rfl) (λy _ q a a2 h1 h2=>by rw[h1]at h2;cases h2;exact .refl _)
    .rw[if_neg hj]at N M;rw[N]at M;cases M;exact eP.refl _ _
  cases B with
  |none=>
   dsimp only[ab,aj,List.nil_append]at fin ⊢
   repeat' (first|refine st ?_|refine sb λO G=>?_|fail)
   exact fin _ rfl
  |some b'=>
   dsimp only[ab,aj,List.cons_append,List.nil_append]at fin ⊢
   repeat' (first|refine st ?_|refine sb λO G=>?_|fail)
   exact fin _ rfl
 .have hd:=aX u;have hk0:k=s.locks.length:=by omega
  subst hk0;have:=Z o ho;rw[show jO q o s.locks s.locks.length=bZ q o s.locks by simp[jO,cm,TH]];refine g9 (JO ?_);refine OD (Ec hd ?_);refine vw ?_;exact this
def BI{s:SyncD}(j:s.threads.length<2^40):s.threads.length*24<=140737488355328:=by omega
def Ew(s:SyncD)(q:Nat)(h1:s.locks.length<2^40)(h2:s.done.length<=140737488351232)(h3:s.threads.length<2^40)(M:∀l∈s.locks,l.readers.length<2^40):
  ac Tryz.prog 114 [.agg s.enc] [] (Kg s q):=by
 refine ac.fz (wG _ _ _ ?_);refine vw ?_;generalize hQ:(λ(v:AV) (L:SH)=>∃Z L2,az [v] L [Z] L2/\Kg s q Z L2)=Q
 repeat' (first|refine st ?_|refine sb λu j=>?_|fail)
 rename_i Y _ S _;revert u;intro G _;refine Ga s q Y S G h1 M Q ?_;intro o ho;unfold BG
 repeat' (first|refine st ?_|refine sb λu j=>?_|fail)
 refine nO (Il _ UW) ?_;rintro v K ⟨E,rfl,rfl,N⟩;refine vw ?_;have fin:∀(v:AV) (L:SH) (D:Option Nat),(D=none->s.threads=[])->v=.agg [.sl G 0 s.locks.length,.U1 s.tx,aK E s.done.length,aK D s.threads.length]->
   (∃x y:Blk,L=(G,⟨2,bZ q o s.locks⟩)::(S,x)::(Y,y)::(DC q o s.locks s.locks.length++ab E 1 (s.done.map aB)++ab D 3 (s.threads.map ThrD.enc)))->Q v L:=by
  rintro v L D B rfl ⟨x,y,rfl⟩;subst hQ;refine⟨_,_,az.forget (K:=[(S,x),(Y,y)]) (R:=(G,⟨2,bZ q o s.locks⟩)::(DC q o s.locks s.locks.length++ab E 1 (s.done.map aB)++ab D 3 (s.threads.map ThrD.enc))) ?_,⟨G,o,E,D,rfl,by rw[TS],N,B,ho⟩⟩;exact(List.Perm.swap _ _ _).trans ((List.Perm.swap _ _ _).cons _)
 cases E with
 |none=>
  dsimp only[aK]at fin ⊢
  repeat' (first|refine st ?_|refine sb λu j=>?_|fail)
  refine nO (BC _ (BI h3)) ?_;rintro v K ⟨D,rfl,rfl,B⟩;refine vw ?_;cases D with
  |none=>
   dsimp only[aK]at fin ⊢
   repeat' (first|refine st ?_|refine sb λu j=>?_|fail)
   exact fin _ _ none B rfl ⟨_,_,rfl⟩
  |some O=>
   dsimp only[aK]at fin ⊢
   repeat' (first|refine st ?_|refine sb λu j=>?_|fail)
   exact fin _ _ (some O) B rfl ⟨_,_,rfl⟩
 |some bd=>
  dsimp only[aK]at fin ⊢
  repeat' (first|refine st ?_|refine sb λu j=>?_|fail)
  refine nO (BC _ (BI h3)) ?_;rintro v K ⟨D,rfl,rfl,B⟩;refine vw ?_;cases D with
  |none=>
   dsimp only[aK]at fin ⊢
   repeat' (first|refine st ?_|refine sb λu j=>?_|fail)
   exact fin _ _ none B rfl ⟨_,_,rfl⟩
  |some O=>
   dsimp only[aK]at fin ⊢
   repeat' (first|refine st ?_|refine sb λu j=>?_|fail)
   exact fin _ _ (some O) B rfl ⟨_,_,rfl⟩
section
def fN(T:List ThrD)(c:Int)(i:Nat):Bool:=cW (T.getD i default) c
def aI(T:List ThrD)(c:Int)(n:Nat):List Nat:=(List.range n).filter λi=>fN T c i
def bE(l:List Nat)(wake:Int):Int:=match l with
 |[]=>-1
 |u::l=>if(u::l).any (λx=>decide ((x:Int)=wake))then wake else u
def cI(T:List ThrD)(c wake:Int):Int:=bE (aI T c T.length) wake
def fq(T:List ThrD)(i:Nat)(st:Int):List ThrD:=T.set i {T.getD i default with status:=st}
def eX(T:List ThrD)(c wake:Int):List ThrD:=if 0<=cI T c wake then fq T (cI T c wake).toNat 4 else T
theorem yD{l:List Nat}{wake:Int}(h:0<=bE l wake):(bE l wake).toNat∈l:=by
 cases l with
 |nil=>simp[bE]at h
 |cons u l=>
  simp only[bE]at h ⊢;split
  .rename_i D;obtain⟨x,j,B⟩:=UI.1 D;have:=of_decide_eq_true B;rw[<-this];simpa using j
  .simp
theorem Gb(l:List Nat)(wake:Int):bE l wake=-1\/0<=bE l wake:=by
 cases l with
 |nil=>simp[bE]
 |cons u l=>
  right;simp only[bE];split
  .rename_i B;obtain⟨x,D,j⟩:=UI.1 B;have:=of_decide_eq_true j;omega
  .omega
theorem Ey(l:List Nat)(i:Nat)(wake:Int):bE (l++[i]) wake=if bE l wake<0\/(i:Int)=wake then(i:Int)else bE l wake:=by
 cases l with
 |nil=>simp only[bE,Ui];split<;>simp_all
 |cons u l=>
  have j:=Gb (u::l) wake;simp only[Uq];rw[bE,<-Uq,List.any_append];by_cases E:(i:Int)=wake
  .simp[E]
  .by_cases B:(u::l).any (λx=>decide ((x:Int)=wake))=true
   .have D:bE (u::l) wake=wake:=by simp only[bE];rw[if_pos B]
    rw[D]at j ⊢;obtain⟨x,M,G⟩:=UI.1 B;have:=of_decide_eq_true G;rw[B,Bool.true_or,if_pos rfl,if_neg UW]
   .have D:bE (u::l) wake=u:=by simp only[bE];rw[if_neg B]
    rw[D,if_neg (by simp only[US,not_or];exact⟨B,by simp[E]⟩),if_neg UW]
theorem l6(T:List ThrD)(c:Int)(n:Nat):aI T c (n+1)=aI T c n++(if fN T c n then [n]else []):=by simp only[aI,List.range_succ,List.filter_append,List.filter_cons,List.filter_nil]
theorem qY{T:List ThrD}{c:Int}{n x:Nat}(h:x∈aI T c n):x<n:=by simp only[aI,UF,Uk]at h;exact h.1
theorem xv(T:List ThrD)(i:Nat)(st:Int)(j:i<T.length):(T.map ThrD.enc).set i ((ThrD.enc T[i]).set 0 (.U1 st))=(fq T i st).map ThrD.enc:=by unfold fq;rw[Ue];congr 1;simp[List.getD,j,ThrD.enc]
section
variable (a b d:AV) (bt:Nat)
theorem Io(T:List ThrD)(c wake:Int)(hT:T.length<2^40)(Z:([a,b,d,.sl bt 0 T.length]:List AV).all AV.one=true):
  ac Tryz.prog 119 [.agg [a,b,d,.sl bt 0 T.length],.U1 c,.U1 wake] [(bt,⟨3,T.map ThrD.enc⟩)] λv L=>v=.U1 (cI T c wake)/\L=[(bt,⟨3,(eX T c wake).map ThrD.enc⟩)]:=by
 refine uu _ _ _ _ _ ?_;refine vw ?_;generalize hQ:(λ(v:AV) (L:SH)=>v=AV.U1 (cI T c wake)/\L=[(bt,(⟨3,(eX T c wake).map ThrD.enc⟩:Blk))])=Q
 repeat' (first|refine yn ?_ rfl Z (by exact UU _)|refine st ?_|refine sb λD u=>?_|fail)
 refine iY T.length (λi=>([.U1 c,.U1 wake,.pptr [[a,b,d,.sl bt 0 T.length]] 0 0,.U1 (bE (aI T c i) wake),.sl bt 0 T.length,.U1 T.length,.U1 i],[(bt,⟨3,T.map ThrD.enc⟩)])) (λ_=>True) trivial (by simp[aI,bE]) rfl ?_;intro i hi _;dsimp only;refine vw ?_;rcases Nat.lt_or_ge i T.length with N|N
 .have hd:=aS N;have hx:=am (f:=ThrD.enc) N;have hsn:=Ey (aI T c i) i wake;have O:=l6 T c i;have G:fN T c i=cW T[i] c:=by simp[fN,N]
  have B:∀ch:Int,ch=bE (aI T c (i+1)) wake->∃j,i<j/\j<=T.length/\True/\az [.U1 c,.U1 wake,.pptr [[a,b,d,.sl bt 0 T.length]] 0 0,.U1 ch,.sl bt 0 T.length,.U1 T.length,.U1 (IntKind.i64.wrap ((i:Int)+1))] [(bt,⟨3,T.map ThrD.enc⟩)]
    [.U1 c,.U1 wake,.pptr [[a,b,d,.sl bt 0 T.length]] 0 0,.U1 (bE (aI T c j) wake),.sl bt 0 T.length,.U1 T.length,.U1 j] [(bt,⟨3,T.map ThrD.enc⟩)]:=λch hch=>⟨i+1,UW,UW,trivial,dq (by rw[aw N UW,hch]) rfl⟩
  cases hw:cW T[i] c with
  |false=>
   rw[hw]at G
   repeat' (first|refine st ?_|(refine pf 162 ?_;refine pm (k9 _ _) ?_)|refine sb λD u=>?_|refine s2 (λh=>?_) λh=>?_|fail)
   exact B _ (by rw[O,G];simp)
  |true=>
   rw[hw]at G;have hn:bE (aI T c (i+1)) wake=if bE (aI T c i) wake<0\/(i:Int)=wake then(i:Int)else bE (aI T c i) wake:=by rw[O,G,if_pos rfl,hsn]
   by_cases E:bE (aI T c i) wake<0
   .have e1:decide (bE (aI T c i) wake<0)=true:=decide_eq_true E
    repeat' (first|refine st ?_|(refine pf 162 ?_;refine pm (k9 _ _) ?_)|refine sb λD u=>?_|refine s2 (λh=>?_) λh=>?_|fail)
    exact B _ (by rw[hn,if_pos (.inl E)])
   .have e1:decide (bE (aI T c i) wake<0)=false:=decide_eq_false E;by_cases g2:(i:Int)=wake
    .have e2:decide ((i:Int)=wake)=true:=decide_eq_true g2
     repeat' (first|refine st ?_|(refine pf 162 ?_;refine pm (k9 _ _) ?_)|refine sb λD u=>?_|refine s2 (λh=>?_) λh=>?_|fail)
     exact B _ (by rw[hn,if_pos (.inr g2)])
    .have e2:decide ((i:Int)=wake)=false:=decide_eq_false g2
     repeat' (first|refine st ?_|(refine pf 162 ?_;refine pm (k9 _ _) ?_)|refine sb λD u=>?_|refine s2 (λh=>?_) λh=>?_|fail)
     exact B _ (by rw[hn,if_neg UW])
 .have hd:=aX N;have hi0:i=T.length:=by omega
  subst hi0;have hns:bE (aI T c T.length) wake=cI T c wake:=rfl;rw[hns];by_cases E:0<=cI T c wake
  .have e1:decide (0<=cI T c wake)=true:=decide_eq_true E;have S:(cI T c wake).toNat<T.length:=qY (yD E);have hx:=am (f:=ThrD.enc) S;have Y:cI T c wake=((cI T c wake).toNat:Nat):=(Int.toNat_of_nonneg E).symm;have hst:=xv T _ 4 S;have M:eX T c wake=fq T (cI T c wake).toNat 4:=by rw[eX,if_pos E]
   generalize hk:(cI T c wake).toNat=k at *;rw[Y]at e1 hQ ⊢
   repeat' (first|refine st ?_|refine sb λD u=>?_|refine s2 (λh=>?_) λh=>?_|fail)
   subst hQ;exact⟨rfl,by rw[M,<-hst]⟩
  .have e1:decide (0<=cI T c wake)=false:=decide_eq_false E;have M:eX T c wake=T:=by rw[eX,if_neg E]
   repeat' (first|refine st ?_|refine sb λD u=>?_|refine s2 (λh=>?_) λh=>?_|fail)
   subst hQ;exact⟨rfl,by rw[M]⟩
def cO(T:List ThrD)(c:Int)(n:Nat):List ThrD:=T.zipIdx.map λp=>if decide (p.2<n)&&cW p.1 c then {p.1 with status:=4} else p.1
theorem ef(T:List ThrD)(c:Int)(n i:Nat)(j:i<T.length):(cO T c n)[i]? =some (if decide (i<n)&&cW T[i] c then {T[i]with status:=4} else T[i]):=by simp[cO,j]
theorem cB(T:List ThrD)(c:Int)(n:Nat):(cO T c n).length=T.length:=by simp[cO]
theorem CI(T:List ThrD)(c:Int):cO T c 0=T:=by
 apply Us;intro i;rcases Tf i T.length with j|j
 .rw[ef T c 0 i j];simp[j]
 .rw[Tg (by rw[cB];exact j),Tg j]
theorem CJ(T:List ThrD)(c:Int)(n:Nat)(G:n<T.length):cO T c (n+1)=if cW T[n] c then(cO T c n).set n {T[n]with status:=4} else cO T c n:=by
 apply Us;intro i;have u:∀j:i<T.length,(if cW T[n] c then(cO T c n).set n {T[n]with status:=4} else cO T c n)[i]? =some (if decide (i<n+1)&&cW T[i] c then {T[i]with status:=4} else T[i]):=λj=>by
  by_cases B:i=n
  .subst B;cases D:cW T[i] c with
   |true=>simp[D,cB,j]
   |false=>simp[D,ef T c i i j]
  .have E:decide (i<n+1)=decide (i<n):=by apply decide_eq_decide.2;omega
   rw[E];split
   .rw[List.getElem?_set_ne UW];exact ef T c n i j
   .exact ef T c n i j
 rcases Tf i T.length with j|j
 .rw[u j,ef T c (n+1) i j]
 .rw[Tg (by rw[cB];exact j),Tg];split<;>simp[cB,j]
theorem CK(T:List ThrD)(c:Int)(hT:T.length<2^40)(N:([a,b,d,.sl bt 0 T.length]:List AV).all AV.one=true):
  ac Tryz.prog 120 [.agg [a,b,d,.sl bt 0 T.length],.U1 c] [(bt,⟨3,T.map ThrD.enc⟩)] λv L=>v=.U1 ((aI T c T.length).length:Nat)/\L=[(bt,⟨3,(cO T c T.length).map ThrD.enc⟩)]:=by
 refine pt _ _ _ _ ?_;refine vw ?_;generalize hQ:(λ(v:AV) (L:SH)=>v=AV.U1 ((aI T c T.length).length:Nat)/\L=[(bt,(⟨3,(cO T c T.length).map ThrD.enc⟩:Blk))])=Q
 repeat' (first|refine yn ?_ rfl N (by exact UU _)|refine st ?_|refine sb λE j=>?_|fail)
 refine iY T.length (λi=>([.U1 c,.pptr [[a,b,d,.sl bt 0 T.length]] 0 0,.U1 ((aI T c i).length:Nat),.sl bt 0 T.length,.U1 T.length,.U1 i],[(bt,⟨3,(cO T c i).map ThrD.enc⟩)])) (λ_=>True) trivial (by simp[aI]) (by rw[CI]) ?_;intro i hi _;dsimp only;refine vw ?_;rcases Nat.lt_or_ge i T.length with u|u
 .have hd:=aS u;have M:i<(cO T c i).length:=by rw[cB];exact u
  have S:(cO T c i)[i]=T[i]:=by have:=ef T c i i u;rw[Td M]at this;simpa using this
  have hx:=am (f:=ThrD.enc) M;rw[S]at hx;have G:=l6 T c i;have B:fN T c i=cW T[i] c:=by simp[fN,u]
  have D:=CJ T c i u;have O:(aI T c i).length<=i:=Tx (Ux _ _) UZ;cases Z:cW T[i] c with
  |false=>
   rw[Z]at B D
   repeat' (first|refine st ?_|(refine pf 162 ?_;refine pm (k9 _ _) ?_)|refine sb λE j=>?_|refine s2 (λh=>?_) λh=>?_|fail)
   refine⟨i+1,UW,UW,trivial,dq (by rw[aw u UW,G,B];simp[cF]) (by rw[D];simp)⟩
  |true=>
   rw[Z]at B D
   repeat' (first|refine st ?_|(refine pf 162 ?_;refine pm (k9 _ _) ?_)|refine sb λE j=>?_|refine s2 (λh=>?_) λh=>?_|fail)
   refine⟨i+1,UW,UW,trivial,dq (by rw[aw u UW,G,B,aw (Nat.lt_of_le_of_lt O u) UW];simp[cF]) ?_⟩;rw[D,if_pos rfl,Ue];simp[ThrD.enc]
 .have hd:=aX u;have Y:i=T.length:=by omega
  subst Y
  repeat' (first|refine st ?_|refine sb λE j=>?_|refine s2 (λh=>?_) λh=>?_|fail)
  subst hQ;exact⟨rfl,rfl⟩
end
end
def vQ(P:Program)(g:FuncId)(cs:List AV)(p:Int->Bool):Prop:=∀x:Int,aq P g (.U1 x::cs) (.bool (p x))
def vQ.call{P:Program}{g:FuncId}{cs:List AV}{p:Int->Bool}(h:vQ P g cs p){x:Int}{L:SH}{KL:AV->SH->Prop}(j:KL (.bool (p x)) L):W.call P (.fn g cs) [.U1 x] L KL:=⟨(h x).call j⟩
def ux(p:Int->Bool)(l:List Int):Int:=if l.any p then(l.findIdx p:Int)else -1
def Ip{p:Int->Bool}{l:List Int}{i:Nat}(B:i<l.length)(u:(l.take i).any p=false)(hp:p l[i]=true):ux p l=i:=by
 have E:l.any p=true:=UI.2 ⟨l[i],Tk B,hp⟩;have D:l.findIdx p=i:=by rw[List.findIdx_eq B];refine⟨hp,λj G=>?_⟩;have:=List.any_eq_false.1 u l[j] (List.mem_take_iff_getElem.2 ⟨j,UW,rfl⟩);simpa using this
 rw[ux,if_pos E,D]
def CL(g:FuncId)(cs:List AV)(p:Int->Bool)(hp:vQ Tryz.prog g cs p)(b:Nat)(xs:List Int)(G:xs.length<2^62):ac Tryz.prog 161 [.sl b 0 xs.length,.fn g cs] [(b,⟨1,xs.map ah⟩)] λv L=>v=.U1 (ux p xs)/\L=[(b,⟨1,xs.map ah⟩)]:=by
 refine gO _ _ _ _ ?_;refine vw ?_;generalize E:(λ(v:AV) (L:SH)=>v=AV.U1 (ux p xs)/\L=[(b,(⟨1,xs.map ah⟩:Blk))])=Q
 repeat' (first|refine st ?_|refine sb λD u=>?_|fail)
 refine iY xs.length (λi=>([.sl b 0 xs.length,.fn g cs,.U1 xs.length,.U1 i],[(b,⟨1,xs.map ah⟩)])) (λi=>(xs.take i).any p=false) UZ rfl rfl ?_;intro i O j;dsimp only;refine vw ?_;rcases Nat.lt_or_ge i xs.length with B|B
 .have N:=am (f:=ah) B;have M:=aS B
  repeat' (first|refine nL (vQ.call hp ?_)|refine st ?_|refine sb λD u=>?_|refine s2 (λh=>?_) λh=>?_|fail)
  .subst E;exact⟨by rw[Ip B j h],rfl⟩
  .refine⟨i+1,UW,UW,?_,dq (by rw[aw B G]<;>rfl) rfl⟩;rw[Th B,List.any_append,j];simpa using h
 .have M:=aX B
  repeat' (first|refine st ?_|refine sb λD u=>?_|refine s2 (λh=>?_) λh=>?_|fail)
  subst E;rw[TH B]at j;exact⟨by rw[ux,if_neg (by simp[j])],rfl⟩
def BJ{k:IntKind}{m d:Nat}:cC (some (.int k (m:Int))) d=some m:=by simp[cC,kK]
def Gc{p:Int->Bool}{l:List Int}(h:ux p l≠-1):∃i:Nat,ux p l=i/\i<l.length/\(l.take (i+1)).filter (λx=>!p x)=l.take i:=by
 unfold ux at h ⊢;split at h
 .rename_i B;rw[if_pos B];refine⟨l.findIdx p,rfl,List.findIdx_lt_length.2 (UI.1 B),?_⟩;have u:=List.findIdx_lt_length.2 (UI.1 B);rw[Th u,List.filter_append];have E:p l[l.findIdx p]=true:=List.findIdx_getElem;rw[List.filter_cons_of_neg (by simp[E]),List.filter_nil,TZ,List.filter_eq_self];intro x D;obtain⟨j,G,rfl⟩:=List.mem_take_iff_getElem.1 D;have:=List.not_of_lt_findIdx (xs:=l) (p:=p) (i:=j) UW;simpa using this
 .exact absurd rfl h
def BK{p:Int->Bool}{l:List Int}(h:ux p l=-1):l.filter (λx=>!p x)=l:=by
 unfold ux at h;split at h
 .omega
 .rename_i j;rw[List.filter_eq_self];intro x u;simp only[Bool.not_eq_true,List.any_eq_false]at j;simpa using j x u
def Ap(g:FuncId)(cs:List AV)(p:Int->Bool)(hp:vQ Tryz.prog g cs p)(b:Nat)(xs:List Int)(hl:xs.length<2^61):ac Tryz.prog 117 [.sl b 0 xs.length,.fn g cs] [(b,⟨1,xs.map ah⟩)] λv L=>∃R:List Int,v=.sl b 0 (xs.filter λx=>!p x).length/\L=[(b,⟨1,R.map ah⟩)]/\R.take (xs.filter λx=>!p x).length=(xs.filter λx=>!p x)/\R.length=xs.length:=by
 refine gB _ _ _ _ ?_;refine vw ?_;refine nL (F7 (vO (CL g cs p hp b xs UW) ?_));rintro v L ⟨rfl,rfl⟩;refine vw ?_;generalize hQ:(λ(v:AV) (L:SH)=>∃R:List Int,v=AV.sl b 0 (xs.filter λx=>!p x).length/\L=[(b,(⟨1,R.map ah⟩:Blk))]/\R.take (xs.filter λx=>!p x).length=(xs.filter λx=>!p x)/\R.length=xs.length)=Q;by_cases hm:ux p xs=-1
 .have hd:decide (ux p xs=-1)=true:=decide_eq_true hm
  repeat' (first|refine st ?_|refine sb λE B=>?_|fail)
  subst hQ;refine⟨xs,?_,rfl,?_,rfl⟩
  .rw[BK hm]
  .rw[BK hm];simp
 .have hd:decide (ux p xs=-1)=false:=decide_eq_false hm;obtain⟨u,hi0,hlt,M⟩:=Gc hm;rw[hi0]at hd ⊢
  repeat' (first|refine st ?_|refine sb λE B=>?_|fail)
  rw[aw hlt UW];have hc:∀j,((xs.take j).filter λx=>!p x).length<=j:=λj=>Tx (Ux _ _) (by simp;omega)
  refine bz (xs.length-(u+1)) (λk (R:List Int)=>([.sl b 0 xs.length,.fn g cs,.U1 (((xs.take (u+1+k)).filter λx=>!p x).length:Nat),.U1 (u+1+k:Nat)],[(b,⟨1,R.map ah⟩)]))
   (λk R=>R.length=xs.length/\R.take ((xs.take (u+1+k)).filter λx=>!p x).length=((xs.take (u+1+k)).filter λx=>!p x)/\R.drop (u+1+k)=xs.drop (u+1+k)) xs ⟨rfl,by rw[UO,M];simp,rfl⟩ (dq (by rw[UO,M,TJ,Ud UW]) rfl) ?_
  rintro k R hk ⟨Z,Y,r3⟩;dsimp only;refine vw ?_;have S:=hc (u+1+k);generalize hj:u+1+k=j at Y r3 S ⊢;rcases Nat.lt_or_ge j xs.length with N|N
  .have hd2:=aS N;have h1':j<R.length:=by omega
   have hxj:R[j]=xs[j]:=by have h0:=congrArg (λl=>l[0]?) r3;simp only[T7,UO]at h0;rw[Td h1',Td N]at h0;exact UL h0
   have hx:=am (f:=ah) h1';rw[hxj]at hx;have G:(xs.take (j+1)).filter (λx=>!p x)=(xs.take j).filter (λx=>!p x)++([xs[j]].filter λx=>!p x):=by rw[Th N,List.filter_append]
   have hm1:((xs.take j).filter λx=>!p x).length<xs.length:=by omega
   have hm2:((xs.take j).filter λx=>!p x).length<R.length:=by omega
   have hxm:=am (f:=ah) hm2;cases D:p xs[j]with
   |true=>
    have hnp:(!p xs[j])=false:=by simp[D]
    repeat' (first|refine nL (vQ.call hp ?_)|refine st ?_|refine sb λE B=>?_|refine s2 (λh=>?_) λh=>?_|fail)
    refine⟨k+1,R,UW,UW,⟨Z,?_,?_⟩,dq ?_ rfl⟩
    .rw[show u+1+(k+1)=j+1 by omega,G];simpa[D]using Y
    .rw[show u+1+(k+1)=j+1 by omega,<-List.drop_drop,<-List.drop_drop,r3]
    .rw[show u+1+(k+1)=j+1 by omega,G,aw N UW];simp[D,cF]
   |false=>
    have hnp:(!p xs[j])=true:=by simp[D]
    repeat' (first|refine nL (vQ.call hp ?_)|refine st ?_|refine sb λE B=>?_|refine s2 (λh=>?_) λh=>?_|fail)
    refine⟨k+1,R.set ((xs.take j).filter λx=>!p x).length xs[j],UW,UW,⟨by simp[Z],?_,?_⟩,dq ?_ ?_⟩
    .rw[show u+1+(k+1)=j+1 by omega,G];simp only[List.filter_cons,D,Bool.not_false,if_true,List.filter_nil,Tp,List.length_singleton];rw[Th (by simpa using hm2),List.take_set_of_le (Te _),Y];simp
    .rw[show u+1+(k+1)=j+1 by omega,List.drop_set_of_lt UW,<-List.drop_drop,<-List.drop_drop,r3]
    .rw[show u+1+(k+1)=j+1 by omega,G,aw N UW,aw hm1 UW];simp[D,cF]
    .simp[Ue,ah]
  .have hd2:=aX N;have ht:xs.take j=xs:=TH N;rw[ht]at Y S ⊢;have O:(xs.filter λx=>!p x).length<=xs.length:=Ux _ _;generalize hmm:(xs.filter λx=>!p x).length=m at Y S O hQ ⊢
   repeat' (first|refine st ?_|refine uk (l:=m) (h:=xs.length) BJ rfl O (Te _) (.head _) rfl ?_|refine If (.here _) rfl (by simp[Z];omega) rfl ?_|refine uk (l:=0) (h:=m) rfl BJ (TG _) O (.head _) rfl ?_|refine sb λE B=>?_|fail)
   subst hQ;refine⟨R.take m++List.replicate (xs.length-m) 0,UZ,?_,?_,?_⟩
   .simp only[Uc];rw[List.drop_of_length_le (by simp[Z];omega),TZ,Ti,List.map_take];simp[ah]
   .rw[List.take_left' (by simp[Z];omega)];exact Y
   .simp[Z];omega
def Iq(t x:Int)(L:SH):vQ Tryz.prog 118 [.pptr [[.U1 t]] 0 0] (λx=>decide (x=t)):=λx=>by
 refine sH _ _ _ _ ?_;refine vw ?_
 repeat' (first|refine st ?_|refine sb λu j=>?_|fail)
 exact⟨rfl,rfl⟩
end Go.Proofs.YtbofdbhnbodbiaaGreatDoor.Am
