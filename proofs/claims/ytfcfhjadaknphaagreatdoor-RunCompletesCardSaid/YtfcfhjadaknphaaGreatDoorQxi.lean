/- part -/
import Derived.Test.YtfcfhjadaknphaaGreatDoorQxh
import Derived.MakeChecks
import Derived.FnData
set_option linter.all false
set_option maxRecDepth 100000
set_option maxHeartbeats 0
namespace Go.Proofs.YtfcfhjadaknphaaGreatDoor.Am
def AA{j:AV->SH->List Nat->Prop}{us:List W.WR}{i:Nat}{g:FuncId}{args:List AV}{L:SH}{R:AV->SH->Prop}(h:ac Tryz.prog g args [] R)(E:∀x∈us,W.free x ⟨i,[],[],[],true,[]⟩)(D:∀v K,R v K->j v (K++L) []):W.dcallM Tryz.prog us i g args L j:=
 ⟨[],L,.refl _,E,h.mono λu K B=>D u K B⟩
def DL(Q:R)(x15 x16 x17:AV)(L14:SH):Prop:=
 W.faddr 0 x15 λx45=>W.store 1 x45 x17 L14 λL46=>K9 2 x15 L46 λx48=>wc (.fn 185 []) [x48] L46 (yz Q x15 x16)
def oE(q:Nat)(o:Option Nat)(j:Nat)(l:LockD):List AV:=if j=q then [.YJ l.owner,ai o l.readers.length]else l.enc
def cL(q:Nat)(o:Option Nat)(ls:List LockD):List (List AV):=ls.zipIdx.map λp=>oE q o p.2 p.1
def cU(q:Nat)(o:Option Nat)(j:List LockD):(cL q o j).length=j.length:=by simp[cL]
def ie(q:Nat)(o:Option Nat)(u:List LockD)(j:Nat)(B:j<u.length):(cL q o u)[j]? =some (oE q o j u[j]):=by simp[cL,B]
def FT(q:Nat)(o:Option Nat)(ls:List LockD)(k:Nat):SH:=if q<k then ab o 1 ((ls.getD q default).readers.map ah)else []
def AB:List AV:=[.YJ 0,.nils]
def lr(q:Nat)(o:Option Nat)(ls:List LockD)(k:Nat):List (List AV):=(cL q o ls).take k++List.replicate (ls.length-k) AB
def Ld(q:Nat)(o:Option Nat)(j:List LockD)(k:Nat)(u:k<=j.length):(lr q o j k).length=j.length:=by simp[lr,cU];omega
def Le(q:Nat)(o E:Option Nat)(B:List LockD)(k:Nat)(h:k<=q\/o=E):(cL q o B).take k=(cL q E B).take k:=by
 rcases h with h|rfl
 .apply XW;intro j;rcases Fn j k with D|D
  .rw[Xt D,Xt D];rcases Fn j B.length with u|u
   .rw[ie _ _ _ _ u,ie _ _ _ _ u];simp[oE,show j≠q by omega]
   .rw[ST (by rw[cU];exact u),ST (by rw[cU];exact u)]
  .rw[ST YH,ST YH]
 .rfl
def DM(q:Nat)(o u:Option Nat)(j:List LockD)(k:Nat)(D:k<j.length)(h:k<=q\/o=u):(lr q o j k).set k (oE q u k j[k])=lr q u j (k+1):=by
 unfold lr;have G:((cL q o j).take k).length=k:=by simp[cU];omega
 rw[Ys _ _ YC,G,X9];obtain⟨m,E⟩:∃m,j.length-k=m+1:=⟨j.length-k-1,YC⟩;rw[E,List.replicate_succ,List.set_cons_zero,Le q o u j k h];have B:k<(cL q u j).length:=by rw[cU];exact D
 rw[LE B,show j.length-(k+1)=m by omega];have:(cL q u j)[k]=oE q u k j[k]:=by have:=ie q u j k D;rw[mt B]at this;exact Yf this
 rw[this];simp
def Nd(q:Nat)(o:Option Nat)(j:List LockD)(k:Nat)(D:k<j.length):(lr q o j k)[k]? =some AB:=by
 unfold lr;have B:((cL q o j).take k).length=k:=by simp[cU];omega
 rw[WQ YC,B,X9];obtain⟨m,u⟩:∃m,j.length-k=m+1:=⟨j.length-k-1,YC⟩;rw[u];rfl
structure Nf(s:SyncD)(q:Nat)(v:AV)(L:SH):Prop where
 ex:∃(bl:Nat) (o od ot:Option Nat),v=.agg [.sl bl 0 s.locks.length,.YJ s.tx,aQ od s.done.length,aQ ot s.threads.length]/\
  L=(bl,⟨2,cL q o s.locks⟩)::(FT q o s.locks s.locks.length++(ab od 1 (s.done.map aD)++ab ot 3 (s.threads.map ThrD.enc)))/\(od=none->s.done=[])/\(ot=none->s.threads=[])/\(o=none->q<s.locks.length->(s.locks.getD q default).readers=[])
def IM(s:SyncD)(q E b2 D:Nat)(h1:s.locks.length<2^40)(hrd:∀l∈s.locks,l.readers.length<2^40)(Q:AV->SH->Prop)
  (Y:∀o:Option Nat,(o=none->q<s.locks.length->(s.locks.getD q default).readers=[])->DL Q (.ptr E 0 0) (.ptr b2 0 0) (.sl D 0 s.locks.length) ((D,⟨2,cL q o s.locks⟩)::(b2,⟨4,[[.nils,.YJ 0,.nils,.nils]]⟩)::(E,⟨4,[s.enc]⟩)::FT q o s.locks s.locks.length)) :
  W.loop (yA Q) [.ptr E 0 0,.ptr b2 0 0,.sl D 0 s.locks.length,.lst (s.locks.map LockD.enc),.YJ s.locks.length,.YJ (0:Nat)] [(D,⟨2,List.replicate s.locks.length AB⟩),(b2,⟨4,[[.nils,.YJ 0,.nils,.nils]]⟩),(E,⟨4,[s.enc]⟩)]:=by
 refine bF s.locks.length (λk (o:Option Nat)=>([.ptr E 0 0,.ptr b2 0 0,.sl D 0 s.locks.length,.lst (s.locks.map LockD.enc),.YJ s.locks.length,.YJ k],(D,⟨2,lr q o s.locks k⟩)::(b2,⟨4,[[.nils,.YJ 0,.nils,.nils]]⟩)::(E,⟨4,[s.enc]⟩)::FT q o s.locks k)) (λk o=>o=none->q<k->(s.locks.getD q default).readers=[]) none (λ_ h=>by omega) (dX rfl (by simp[lr,FT])) ?_;intro k o hk ho;dsimp only;refine vw ?_;rcases Nat.lt_or_ge k s.locks.length with u|u
 .have hd:=a8 u;have hx:=aq (f:=LockD.enc) u;have hz:=Nd q o s.locks k u;have hkl:k<(lr q o s.locks k).length:=by rw[Ld _ _ _ _ hk];exact u
  have hrk:(s.locks[k]).readers.length*8<=140737488355328:=by have:=hrd _ (WN u);omega
  repeat' (first|refine sy ?_|intro)
  refine AA (DG _ hrk) (by simp[rm,rz,W.free,am]) ?_;rintro v K ⟨B,rfl,rfl,O⟩
  skip
  have fin:∀(L:SH),L=ab B 1 ((s.locks[k]).readers.map ah)++((D,⟨2,(lr q o s.locks k).set k [.YJ (s.locks[k]).owner,ai B (s.locks[k]).readers.length]⟩)::(b2,⟨4,[[.nils,.YJ 0,.nils,.nils]]⟩)::(E,⟨4,[s.enc]⟩)::FT q o s.locks k)->
    ∃j Z,k<j/\j<=s.locks.length/\(Z=none->q<j->(s.locks.getD q default).readers=[])/\aE [.ptr E 0 0,.ptr b2 0 0,.sl D 0 s.locks.length,.lst (s.locks.map LockD.enc),.YJ s.locks.length,.YJ (IntKind.i64.wrap ((k:Int)+1))] L
     [.ptr E 0 0,.ptr b2 0 0,.sl D 0 s.locks.length,.lst (s.locks.map LockD.enc),.YJ s.locks.length,.YJ j] ((D,⟨2,lr q Z s.locks j⟩)::(b2,⟨4,[[.nils,.YJ 0,.nils,.nils]]⟩)::(E,⟨4,[s.enc]⟩)::FT q Z s.locks j):=by
   intro L hL;subst hL;rw[ax u YC];by_cases S:k=q
   .subst S;refine⟨k+1,B,YC,YC,λe _=>by simpa[List.getD,u]using O e,?_⟩;rw[<-DM k o B s.locks k u (.inl (Fd _))];have e1:FT k o s.locks k=[]:=by simp[FT]
    have e2:FT k B s.locks (k+1)=ab B 1 ((s.locks[k]).readers.map ah):=by simp[FT,List.getD,u]
    have e3:oE k B k s.locks[k]=[.YJ (s.locks[k]).owner,ai B (s.locks[k]).readers.length]:=by simp[oE]
    rw[e1,e2,e3];exact aE.forget (K:=[]) W1
   .refine⟨k+1,o,YC,YC,λe hq=>ho e YC,?_⟩;have e1:FT q o s.locks (k+1)=FT q o s.locks k:=by
     by_cases hq:q<k
     .simp[FT,hq,show q<k+1 by omega]
     .simp[FT,hq,show¬q<k+1 by omega]
    rw[e1,<-DM q o o s.locks k u (.inr rfl)];have e3:oE q o k s.locks[k]=[.YJ (s.locks[k]).owner,.lst ((s.locks[k]).readers.map ah)]:=by simp[oE,S,LockD.enc]
    rw[e3];refine aE.row (K:=ab B 1 ((s.locks[k]).readers.map ah)) (.refl _) YF ?_;intro j r r' M G;rw[Xc]at M G;by_cases hj:k=j
    .rw[if_pos hj]at M G;rw[if_pos YC]at M G;cases M;cases G;refine .cons (.refl _) (.cons ?_ .nil);exact Fz.slot (f:=ah) rfl (λe=>by rw[O e];rfl) YG (λy _=>rfl) (λy _ q a a2 h1 h2=>by rw[h1]at h2;cases h2;exact .refl _)
    .rw[if_neg hj]at M G;rw[M]at G;cases G;exact fi.refl _ _
  cases B with
  |none=>
   dsimp only[ab,ai,List.nil_append]at fin ⊢
   repeat' (first|refine sy ?_|intro)
   exact fin _ rfl
  |some b'=>
   dsimp only[ab,ai,List.cons_append,List.nil_append]at fin ⊢
   repeat' (first|refine sy ?_|intro)
   exact fin _ rfl
 .have hd:=bq u;have hk0:k=s.locks.length:=by omega
  subst hk0;have:=Y o ho;rw[show lr q o s.locks s.locks.length=cL q o s.locks by simp[lr,cU,W9]];refine ep (MN ?_);refine Se (Gv hd ?_);refine vw ?_;exact this
def DN{s:SyncD}(j:s.threads.length<2^40):s.threads.length*24<=140737488355328:=by omega
def GS(s:SyncD)(q:Nat)(h1:s.locks.length<2^40)(h2:s.done.length<=140737488351232)(h3:s.threads.length<2^40)(G:∀l∈s.locks,l.readers.length<2^40):
  ac Tryz.prog 154 [.agg s.enc] [] (Nf s q):=by
 refine ac.fz (yB _ _ _ ?_);refine vw ?_;generalize hQ:(λ(v:AV) (L:SH)=>∃Z L2,aE [v] L [Z] L2/\Nf s q Z L2)=Q
 repeat' (first|refine sx ?_|refine sb λE hnb_=>?_|fail)
 rename_i Y _ S _;revert E;intro D _;refine IM s q Y S D h1 G Q ?_;intro o ho;unfold DL
 repeat' (first|refine sy ?_|intro)
 refine pG (Lc _ YC) ?_;rintro v K ⟨B,rfl,rfl,M⟩;refine vw ?_;have fin:∀(v:AV) (L:SH) (u:Option Nat),(u=none->s.threads=[])->v=.agg [.sl D 0 s.locks.length,.YJ s.tx,aQ B s.done.length,aQ u s.threads.length]->
   (∃x y:Blk,L=(D,⟨2,cL q o s.locks⟩)::(S,x)::(Y,y)::(FT q o s.locks s.locks.length++ab B 1 (s.done.map aD)++ab u 3 (s.threads.map ThrD.enc)))->Q v L:=by
  rintro v L u j rfl ⟨x,y,rfl⟩;subst hQ;refine⟨_,_,aE.forget (K:=[(S,x),(Y,y)]) (R:=(D,⟨2,cL q o s.locks⟩)::(FT q o s.locks s.locks.length++ab B 1 (s.done.map aD)++ab u 3 (s.threads.map ThrD.enc))) ?_,⟨D,o,B,u,rfl,by rw[WU],M,j,ho⟩⟩;exact(List.Perm.swap _ _ _).trans ((List.Perm.swap _ _ _).cons _)
 cases B with
 |none=>
  dsimp only[aQ]at fin ⊢
  repeat' (first|refine sy ?_|intro)
  refine pG (DH _ (DN h3)) ?_;rintro v K ⟨u,rfl,rfl,j⟩;refine vw ?_;cases u with
  |none=>
   dsimp only[aQ]at fin ⊢
   repeat' (first|refine sy ?_|intro)
   exact fin _ _ none j rfl ⟨_,_,rfl⟩
  |some O=>
   dsimp only[aQ]at fin ⊢
   repeat' (first|refine sy ?_|intro)
   exact fin _ _ (some O) j rfl ⟨_,_,rfl⟩
 |some bd=>
  dsimp only[aQ]at fin ⊢
  repeat' (first|refine sy ?_|intro)
  refine pG (DH _ (DN h3)) ?_;rintro v K ⟨u,rfl,rfl,j⟩;refine vw ?_;cases u with
  |none=>
   dsimp only[aQ]at fin ⊢
   repeat' (first|refine sy ?_|intro)
   exact fin _ _ none j rfl ⟨_,_,rfl⟩
  |some O=>
   dsimp only[aQ]at fin ⊢
   repeat' (first|refine sy ?_|intro)
   exact fin _ _ (some O) j rfl ⟨_,_,rfl⟩
section
def gS(T:List ThrD)(c:Int)(i:Nat):Bool:=dH (T.getD i default) c
def aM(T:List ThrD)(c:Int)(n:Nat):List Nat:=(List.range n).filter λi=>gS T c i
def aS(l:List Nat)(wake:Int):Int:=match l with
 |[]=>-1
 |u::l=>if(u::l).any (λx=>decide ((x:Int)=wake))then wake else u
def cm(T:List ThrD)(c wake:Int):Int:=aS (aM T c T.length) wake
def gB(T:List ThrD)(i:Nat)(st:Int):List ThrD:=T.set i {T.getD i default with status:=st}
def fj(T:List ThrD)(c wake:Int):List ThrD:=if 0<=cm T c wake then gB T (cm T c wake).toNat 4 else T
theorem nN{l:List Nat}{wake:Int}(h:0<=aS l wake):(aS l wake).toNat∈l:=by
 cases l with
 |nil=>simp[aS]at h
 |cons u l=>
  simp only[aS]at h ⊢;split
  .rename_i D;obtain⟨x,j,B⟩:=XZ.1 D;have:=of_decide_eq_true B;rw[<-this];simpa using j
  .simp
theorem IN(l:List Nat)(wake:Int):aS l wake=-1\/0<=aS l wake:=by
 cases l with
 |nil=>simp[aS]
 |cons u l=>
  right;simp only[aS];split
  .rename_i B;obtain⟨x,D,j⟩:=XZ.1 B;have:=of_decide_eq_true j;omega
  .omega
theorem GT(l:List Nat)(i:Nat)(wake:Int):aS (l++[i]) wake=if aS l wake<0\/(i:Int)=wake then(i:Int)else aS l wake:=by
 cases l with
 |nil=>simp only[aS,XM];split<;>simp_all
 |cons u l=>
  have j:=IN (u::l) wake;simp only[XS];rw[aS,<-List.cons_append,List.any_append];by_cases E:(i:Int)=wake
  .simp[E]
  .by_cases B:(u::l).any (λx=>decide ((x:Int)=wake))=true
   .have D:aS (u::l) wake=wake:=by simp only[aS];rw[if_pos B]
    rw[D]at j ⊢;obtain⟨x,M,G⟩:=XZ.1 B;have:=of_decide_eq_true G;rw[B,Bool.true_or,if_pos rfl,if_neg YC]
   .have D:aS (u::l) wake=u:=by simp only[aS];rw[if_neg B]
    rw[D,if_neg (by simp only[Bool.or_eq_true,not_or];exact⟨B,by simp[E]⟩),if_neg YC]
theorem nO(T:List ThrD)(c:Int)(n:Nat):aM T c (n+1)=aM T c n++(if gS T c n then [n]else []):=by simp only[aM,List.range_succ,List.filter_append,List.filter_cons,List.filter_nil]
theorem nP{T:List ThrD}{c:Int}{n x:Nat}(h:x∈aM T c n):x<n:=by simp only[aM,Ye,XR]at h;exact h.1
theorem zy(T:List ThrD)(i:Nat)(st:Int)(j:i<T.length):(T.map ThrD.enc).set i ((ThrD.enc T[i]).set 0 (.YJ st))=(gB T i st).map ThrD.enc:=by unfold gB;rw[XI];congr 1;simp[List.getD,j,ThrD.enc]
section
variable (a b d:AV) (bt:Nat)
theorem Lf(T:List ThrD)(c wake:Int)(hT:T.length<2^40)(Y:([a,b,d,.sl bt 0 T.length]:List AV).all AV.one=true):
  ac Tryz.prog 159 [.agg [a,b,d,.sl bt 0 T.length],.YJ c,.YJ wake] [(bt,⟨3,T.map ThrD.enc⟩)] λv L=>v=.YJ (cm T c wake)/\L=[(bt,⟨3,(fj T c wake).map ThrD.enc⟩)]:=by
 refine wA _ _ _ _ _ ?_;refine vw ?_;generalize hQ:(λ(v:AV) (L:SH)=>v=AV.YJ (cm T c wake)/\L=[(bt,(⟨3,(fj T c wake).map ThrD.enc⟩:Blk))])=Q
 repeat' (first|refine Ar ?_ rfl Y (by exact Yv _)|refine sy ?_|intro)
 refine j8 T.length (λi=>([.YJ c,.YJ wake,.pptr [[a,b,d,.sl bt 0 T.length]] 0 0,.YJ (aS (aM T c i) wake),.sl bt 0 T.length,.YJ T.length,.YJ i],[(bt,⟨3,T.map ThrD.enc⟩)])) (λ_=>True) trivial (by simp[aM,aS]) rfl ?_;intro i hi _;dsimp only;refine vw ?_;rcases Nat.lt_or_ge i T.length with G|G
 .have hd:=a8 G;have hx:=aq (f:=ThrD.enc) G;have hsn:=GT (aM T c i) i wake;have M:=nO T c i;have D:gS T c i=dH T[i] c:=by simp[gS,G]
  have u:∀ch:Int,ch=aS (aM T c (i+1)) wake->∃j,i<j/\j<=T.length/\True/\aE [.YJ c,.YJ wake,.pptr [[a,b,d,.sl bt 0 T.length]] 0 0,.YJ ch,.sl bt 0 T.length,.YJ T.length,.YJ (IntKind.i64.wrap ((i:Int)+1))] [(bt,⟨3,T.map ThrD.enc⟩)]
    [.YJ c,.YJ wake,.pptr [[a,b,d,.sl bt 0 T.length]] 0 0,.YJ (aS (aM T c j) wake),.sl bt 0 T.length,.YJ T.length,.YJ j] [(bt,⟨3,T.map ThrD.enc⟩)]:=λch hch=>⟨i+1,YC,YC,trivial,dX (by rw[ax G YC,hch]) rfl⟩
  cases hw:dH T[i] c with
  |false=>
   rw[hw]at D
   repeat' (first|refine sy ?_|(refine pf 190 ?_;refine pm (mC _ _) ?_)|refine s2 ?_ ?_|intro)
   exact u _ (by rw[M,D];simp)
  |true=>
   rw[hw]at D;have hn:aS (aM T c (i+1)) wake=if aS (aM T c i) wake<0\/(i:Int)=wake then(i:Int)else aS (aM T c i) wake:=by rw[M,D,if_pos rfl,hsn]
   by_cases B:aS (aM T c i) wake<0
   .have Z:decide (aS (aM T c i) wake<0)=true:=decide_eq_true B
    repeat' (first|refine sy ?_|(refine pf 190 ?_;refine pm (mC _ _) ?_)|refine s2 ?_ ?_|intro)
    exact u _ (by rw[hn,if_pos (.inl B)])
   .have Z:decide (aS (aM T c i) wake<0)=false:=decide_eq_false B;by_cases g2:(i:Int)=wake
    .have e2:decide ((i:Int)=wake)=true:=decide_eq_true g2
     repeat' (first|refine sy ?_|(refine pf 190 ?_;refine pm (mC _ _) ?_)|refine s2 ?_ ?_|intro)
     exact u _ (by rw[hn,if_pos (.inr g2)])
    .have e2:decide ((i:Int)=wake)=false:=decide_eq_false g2
     repeat' (first|refine sy ?_|(refine pf 190 ?_;refine pm (mC _ _) ?_)|refine s2 ?_ ?_|intro)
     exact u _ (by rw[hn,if_neg YC])
 .have hd:=bq G;have hi0:i=T.length:=by omega
  subst hi0;have hns:aS (aM T c T.length) wake=cm T c wake:=rfl;rw[hns];by_cases B:0<=cm T c wake
  .have Z:decide (0<=cm T c wake)=true:=decide_eq_true B;have O:(cm T c wake).toNat<T.length:=nP (nN B);have hx:=aq (f:=ThrD.enc) O;have S:cm T c wake=((cm T c wake).toNat:Nat):=(Int.toNat_of_nonneg B).symm;have hst:=zy T _ 4 O;have E:fj T c wake=gB T (cm T c wake).toNat 4:=by rw[fj,if_pos B]
   generalize hk:(cm T c wake).toNat=k at *;rw[S]at Z hQ ⊢
   repeat' (first|refine sy ?_|refine s2 ?_ ?_|intro)
   subst hQ;exact⟨rfl,by rw[E,<-hst]⟩
  .have Z:decide (0<=cm T c wake)=false:=decide_eq_false B;have E:fj T c wake=T:=by rw[fj,if_neg B]
   repeat' (first|refine sy ?_|refine s2 ?_ ?_|intro)
   subst hQ;exact⟨rfl,by rw[E]⟩
def dq(T:List ThrD)(c:Int)(n:Nat):List ThrD:=T.zipIdx.map λp=>if decide (p.2<n)&&dH p.1 c then {p.1 with status:=4} else p.1
theorem fk(T:List ThrD)(c:Int)(n i:Nat)(j:i<T.length):(dq T c n)[i]? =some (if decide (i<n)&&dH T[i] c then {T[i]with status:=4} else T[i]):=by simp[dq,j]
theorem cX(T:List ThrD)(c:Int)(n:Nat):(dq T c n).length=T.length:=by simp[dq]
theorem EL(T:List ThrD)(c:Int):dq T c 0=T:=by
 apply XW;intro i;rcases Fn i T.length with j|j
 .rw[fk T c 0 i j];simp[j]
 .rw[ST (by rw[cX];exact j),ST j]
theorem EM(T:List ThrD)(c:Int)(n:Nat)(G:n<T.length):dq T c (n+1)=if dH T[n] c then(dq T c n).set n {T[n]with status:=4} else dq T c n:=by
 apply XW;intro i;have u:∀j:i<T.length,(if dH T[n] c then(dq T c n).set n {T[n]with status:=4} else dq T c n)[i]? =some (if decide (i<n+1)&&dH T[i] c then {T[i]with status:=4} else T[i]):=λj=>by
  by_cases B:i=n
  .subst B;cases D:dH T[i] c with
   |true=>simp[D,cX,j]
   |false=>simp[D,fk T c i i j]
  .have E:decide (i<n+1)=decide (i<n):=by apply decide_eq_decide.2;omega
   rw[E];split
   .rw[List.getElem?_set_ne YC];exact fk T c n i j
   .exact fk T c n i j
 rcases Fn i T.length with j|j
 .rw[u j,fk T c (n+1) i j]
 .rw[ST (by rw[cX];exact j),ST];split<;>simp[cX,j]
theorem EN(T:List ThrD)(c:Int)(hT:T.length<2^40)(G:([a,b,d,.sl bt 0 T.length]:List AV).all AV.one=true):
  ac Tryz.prog 160 [.agg [a,b,d,.sl bt 0 T.length],.YJ c] [(bt,⟨3,T.map ThrD.enc⟩)] λv L=>v=.YJ ((aM T c T.length).length:Nat)/\L=[(bt,⟨3,(dq T c T.length).map ThrD.enc⟩)]:=by
 refine qZ _ _ _ _ ?_;refine vw ?_;generalize hQ:(λ(v:AV) (L:SH)=>v=AV.YJ ((aM T c T.length).length:Nat)/\L=[(bt,(⟨3,(dq T c T.length).map ThrD.enc⟩:Blk))])=Q
 repeat' (first|refine Ar ?_ rfl G (by exact Yv _)|refine sy ?_|intro)
 refine j8 T.length (λi=>([.YJ c,.pptr [[a,b,d,.sl bt 0 T.length]] 0 0,.YJ ((aM T c i).length:Nat),.sl bt 0 T.length,.YJ T.length,.YJ i],[(bt,⟨3,(dq T c i).map ThrD.enc⟩)])) (λ_=>True) trivial (by simp[aM]) (by rw[EL]) ?_;intro i hi _;dsimp only;refine vw ?_;rcases Nat.lt_or_ge i T.length with j|j
 .have hd:=a8 j;have E:i<(dq T c i).length:=by rw[cX];exact j
  have O:(dq T c i)[i]=T[i]:=by have:=fk T c i i j;rw[mt E]at this;simpa using this
  have Z:=aq (f:=ThrD.enc) E;rw[O]at Z;have D:=nO T c i;have u:gS T c i=dH T[i] c:=by simp[gS,j]
  have B:=EM T c i j;have M:(aM T c i).length<=i:=W5 (X2 _ _) YF;cases Y:dH T[i] c with
  |false=>
   rw[Y]at u B
   repeat' (first|refine sy ?_|(refine pf 190 ?_;refine pm (mC _ _) ?_)|refine s2 ?_ ?_|intro)
   refine⟨i+1,YC,YC,trivial,dX (by rw[ax j YC,D,u];simp[c8]) (by rw[B];simp)⟩
  |true=>
   rw[Y]at u B
   repeat' (first|refine sy ?_|(refine pf 190 ?_;refine pm (mC _ _) ?_)|refine s2 ?_ ?_|intro)
   refine⟨i+1,YC,YC,trivial,dX (by rw[ax j YC,D,u,ax (Nat.lt_of_le_of_lt M j) YC];simp[c8]) ?_⟩;rw[B,if_pos rfl,XI];simp[ThrD.enc]
 .have hd:=bq j;have S:i=T.length:=by omega
  subst S
  repeat' (first|refine sy ?_|refine s2 ?_ ?_|intro)
  subst hQ;exact⟨rfl,rfl⟩
end
end
def xT(P:Program)(g:FuncId)(cs:List AV)(p:Int->Bool):Prop:=∀x:Int,ao P g (.YJ x::cs) (.bool (p x))
def xT.call{P:Program}{g:FuncId}{cs:List AV}{p:Int->Bool}(h:xT P g cs p){x:Int}{L:SH}{KL:AV->SH->Prop}(j:KL (.bool (p x)) L):W.call P (.fn g cs) [.YJ x] L KL:=⟨(h x).call j⟩
def wD(p:Int->Bool)(l:List Int):Int:=if l.any p then(l.findIdx p:Int)else -1
def Lg{p:Int->Bool}{l:List Int}{i:Nat}(B:i<l.length)(u:(l.take i).any p=false)(hp:p l[i]=true):wD p l=i:=by
 have E:l.any p=true:=XZ.2 ⟨l[i],WN B,hp⟩;have D:l.findIdx p=i:=by rw[List.findIdx_eq B];refine⟨hp,λj G=>?_⟩;have:=List.any_eq_false.1 u l[j] (List.mem_take_iff_getElem.2 ⟨j,YC,rfl⟩);simpa using this
 rw[wD,if_pos E,D]
def EO(g:FuncId)(cs:List AV)(p:Int->Bool)(hp:xT Tryz.prog g cs p)(b:Nat)(xs:List Int)(D:xs.length<2^62):ac Tryz.prog 189 [.sl b 0 xs.length,.fn g cs] [(b,⟨1,xs.map ah⟩)] λv L=>v=.YJ (wD p xs)/\L=[(b,⟨1,xs.map ah⟩)]:=by
 refine iU _ _ _ _ ?_;refine vw ?_;generalize B:(λ(v:AV) (L:SH)=>v=AV.YJ (wD p xs)/\L=[(b,(⟨1,xs.map ah⟩:Blk))])=Q
 repeat' (first|refine sy ?_|intro)
 refine j8 xs.length (λi=>([.sl b 0 xs.length,.fn g cs,.YJ xs.length,.YJ i],[(b,⟨1,xs.map ah⟩)])) (λi=>(xs.take i).any p=false) YF rfl rfl ?_;intro i M j;dsimp only;refine vw ?_;rcases Nat.lt_or_ge i xs.length with u|u
 .have G:=aq (f:=ah) u;have E:=a8 u
  repeat' (first|refine pD (xT.call hp ?_)|refine sy ?_|refine s2 (λh=>?_) λh=>?_|intro)
  .subst B;exact⟨by rw[Lg u j h],rfl⟩
  .refine⟨i+1,YC,YC,?_,dX (by rw[ax u D]<;>rfl) rfl⟩;rw[LE u,List.any_append,j];simpa using h
 .have E:=bq u
  repeat' (first|refine sy ?_|refine s2 ?_ ?_|intro)
  subst B;rw[W9 u]at j;exact⟨by rw[wD,if_neg (by simp[j])],rfl⟩
def DO{k:IntKind}{m d:Nat}:cZ (some (.int k (m:Int))) d=some m:=by simp[cZ,mf]
def IP{p:Int->Bool}{l:List Int}(h:wD p l≠-1):∃i:Nat,wD p l=i/\i<l.length/\(l.take (i+1)).filter (λx=>!p x)=l.take i:=by
 unfold wD at h ⊢;split at h
 .rename_i B;rw[if_pos B];refine⟨l.findIdx p,rfl,List.findIdx_lt_length.2 (XZ.1 B),?_⟩;have u:=List.findIdx_lt_length.2 (XZ.1 B);rw[LE u,List.filter_append];have E:p l[l.findIdx p]=true:=List.findIdx_getElem;rw[List.filter_cons_of_neg (by simp[E]),List.filter_nil,Xr,List.filter_eq_self];intro x D;obtain⟨j,G,rfl⟩:=List.mem_take_iff_getElem.1 D;have:=List.not_of_lt_findIdx (xs:=l) (p:=p) (i:=j) YC;simpa using this
 .exact absurd rfl h
def DP{p:Int->Bool}{l:List Int}(h:wD p l=-1):l.filter (λx=>!p x)=l:=by
 unfold wD at h;split at h
 .omega
 .rename_i j;rw[List.filter_eq_self];intro x u;simp only[YB,List.any_eq_false]at j;simpa using j x u
def Ct(g:FuncId)(cs:List AV)(p:Int->Bool)(hp:xT Tryz.prog g cs p)(b:Nat)(xs:List Int)(hl:xs.length<2^61):ac Tryz.prog 157 [.sl b 0 xs.length,.fn g cs] [(b,⟨1,xs.map ah⟩)] λv L=>∃R:List Int,v=.sl b 0 (xs.filter λx=>!p x).length/\L=[(b,⟨1,R.map ah⟩)]/\R.take (xs.filter λx=>!p x).length=(xs.filter λx=>!p x)/\R.length=xs.length:=by
 refine iJ _ _ _ _ ?_;refine vw ?_;refine pD (IK (dK (EO g cs p hp b xs YC) ?_));rintro v L ⟨rfl,rfl⟩;refine vw ?_;generalize hQ:(λ(v:AV) (L:SH)=>∃R:List Int,v=AV.sl b 0 (xs.filter λx=>!p x).length/\L=[(b,(⟨1,R.map ah⟩:Blk))]/\R.take (xs.filter λx=>!p x).length=(xs.filter λx=>!p x)/\R.length=xs.length)=Q;by_cases hm:wD p xs=-1
 .have hd:decide (wD p xs=-1)=true:=decide_eq_true hm
  repeat' (first|refine sy ?_|intro)
  subst hQ;refine⟨xs,?_,rfl,?_,rfl⟩
  .rw[DP hm]
  .rw[DP hm];simp
 .have hd:decide (wD p xs=-1)=false:=decide_eq_false hm;obtain⟨u,hi0,hlt,E⟩:=IP hm;rw[hi0]at hd ⊢
  repeat' (first|refine sy ?_|intro)
  rw[ax hlt YC];have hc:∀j,((xs.take j).filter λx=>!p x).length<=j:=λj=>W5 (X2 _ _) YH
  refine bF (xs.length-(u+1)) (λk (R:List Int)=>([.sl b 0 xs.length,.fn g cs,.YJ (((xs.take (u+1+k)).filter λx=>!p x).length:Nat),.YJ (u+1+k:Nat)],[(b,⟨1,R.map ah⟩)]))
   (λk R=>R.length=xs.length/\R.take ((xs.take (u+1+k)).filter λx=>!p x).length=((xs.take (u+1+k)).filter λx=>!p x)/\R.drop (u+1+k)=xs.drop (u+1+k)) xs ⟨rfl,by rw[XQ,E];simp,rfl⟩ (dX (by rw[XQ,E,Xb,XF YC]) rfl) ?_
  rintro k R hk ⟨Y,S,r3⟩;dsimp only;refine vw ?_;have O:=hc (u+1+k);generalize hj:u+1+k=j at S r3 O ⊢;rcases Nat.lt_or_ge j xs.length with G|G
  .have hd2:=a8 G;have h1':j<R.length:=by omega
   have hxj:R[j]=xs[j]:=by have h0:=congrArg (λl=>l[0]?) r3;simp only[XE,XQ]at h0;rw[mt h1',mt G]at h0;exact Yf h0
   have hx:=aq (f:=ah) h1';rw[hxj]at hx;have D:(xs.take (j+1)).filter (λx=>!p x)=(xs.take j).filter (λx=>!p x)++([xs[j]].filter λx=>!p x):=by rw[LE G,List.filter_append]
   have hm1:((xs.take j).filter λx=>!p x).length<xs.length:=by omega
   have Z:((xs.take j).filter λx=>!p x).length<R.length:=by omega
   have hxm:=aq (f:=ah) Z;cases B:p xs[j]with
   |true=>
    have hnp:(!p xs[j])=false:=by simp[B]
    repeat' (first|refine pD (xT.call hp ?_)|refine sy ?_|refine s2 ?_ ?_|intro)
    refine⟨k+1,R,YC,YC,⟨Y,?_,?_⟩,dX ?_ rfl⟩
    .rw[show u+1+(k+1)=j+1 by omega,D];simpa[B]using S
    .rw[show u+1+(k+1)=j+1 by omega,<-List.drop_drop,<-List.drop_drop,r3]
    .rw[show u+1+(k+1)=j+1 by omega,D,ax G YC];simp[B,c8]
   |false=>
    have hnp:(!p xs[j])=true:=by simp[B]
    repeat' (first|refine pD (xT.call hp ?_)|refine sy ?_|refine s2 ?_ ?_|intro)
    refine⟨k+1,R.set ((xs.take j).filter λx=>!p x).length xs[j],YC,YC,⟨by simp[Y],?_,?_⟩,dX ?_ ?_⟩
    .rw[show u+1+(k+1)=j+1 by omega,D];simp only[List.filter_cons,B,Bool.not_false,if_true,List.filter_nil,LT,Yp];rw[LE (by simpa using Z),List.take_set_of_le (Fd _),S];simp
    .rw[show u+1+(k+1)=j+1 by omega,List.drop_set_of_lt YC,<-List.drop_drop,<-List.drop_drop,r3]
    .rw[show u+1+(k+1)=j+1 by omega,D,ax G YC,ax hm1 YC];simp[B,c8]
    .simp[XI,ah]
  .have hd2:=bq G;have ht:xs.take j=xs:=W9 G;rw[ht]at S O ⊢;have M:(xs.filter λx=>!p x).length<=xs.length:=X2 _ _;generalize hmm:(xs.filter λx=>!p x).length=m at S O M hQ ⊢
   repeat' (first|refine sy ?_|refine wm (l:=m) (h:=xs.length) DO rfl M (Fd _) (.head _) rfl ?_|refine K6 (.here _) rfl (by simp[Y];omega) rfl ?_|refine wm (l:=0) (h:=m) rfl DO (Xq _) M (.head _) rfl ?_|intro)
   subst hQ;refine⟨R.take m++List.replicate (xs.length-m) 0,YF,?_,?_,?_⟩
   .simp only[Xn];rw[Yn (by simp[Y];omega),Xr,WL,List.map_take];simp[ah]
   .rw[List.take_left' (by simp[Y];omega)];exact S
   .simp[Y];omega
def Lh(t x:Int)(L:SH):xT Tryz.prog 158 [.pptr [[.YJ t]] 0 0] (λx=>decide (x=t)):=λx=>by
 refine uD _ _ _ _ ?_;refine vw ?_
 repeat' (first|refine sy ?_|intro)
 exact⟨rfl,rfl⟩
def bK(w:aK):SyncD:=⟨List.replicate w.locks.length ⟨-1,[]⟩,-1,List.replicate w.futures.length false,(List.replicate w.threads.length (⟨0,0,false⟩:ThrD)).set 0 ⟨1,0,false⟩⟩
def Nx(w:aK)(h1:w.locks.length<=100)(h2:w.futures.length<=100)(h3:w.threads.length<=100):ao Tryz.prog 109 [.agg w.enc] (.agg (bK w).enc):=by
 refine ac.fz (yv _ _ _ ?_);refine vw ?_;generalize hQ:(λ(v:AV) (L:SH)=>∃Z L2,aE [v] L [Z] L2/\Z=AV.agg (bK w).enc/\L2=[])=Q
 repeat' (first|refine sx ?_|refine sb λnb_ hnb_=>?_|refine s2 (λh=>?_) λh=>?_|fail)
 rename_i b2 _ Y _ E _ D _ B _;refine j8 w.locks.length (λi=>([.ptr Y 0 0,.pptr [[.sl E 0 w.locks.length,.YJ (-1),.sl D 0 w.futures.length,.sl B 0 w.threads.length]] 0 0,.YJ w.locks.length,.YJ i],
  [(B,⟨3,List.replicate w.threads.length [.YJ 0,.YJ 0,.bool false]⟩),(D,⟨1,List.replicate w.futures.length [.bool false]⟩),(E,⟨2,List.replicate i [.YJ (-1),.nils]++List.replicate (w.locks.length-i) [.YJ 0,.nils]⟩),(Y,⟨4,[[.nils,.YJ 0,.nils,.nils]]⟩)])) (λ_=>True) trivial rfl YF ?_
 intro i hi _;dsimp only;refine vw ?_;rcases Nat.lt_or_ge i w.locks.length with u|u
 .have hd:=a8 u;have hx:=PE i w.locks.length (α:=List AV) [.YJ (-1),.nils] [.YJ 0,.nils] u
  repeat' (first|refine sy ?_|refine s2 ?_ ?_|intro)
  refine⟨i+1,YC,YC,trivial,dX (by rw[ax u YC]<;>rfl) ?_⟩;rw[<-PD i w.locks.length _ _ u];rfl
 .have hd:=bq u;have fin:∀(T:List ThrD) (L:SH),T=(bK w).threads->L=[(B,⟨3,T.map ThrD.enc⟩),(D,⟨1,List.replicate w.futures.length [.bool false]⟩),(E,⟨2,List.replicate i [.YJ (-1),.nils]++List.replicate (w.locks.length-i) [.YJ 0,.nils]⟩),(Y,⟨4,[[.sl E 0 w.locks.length,.YJ (-1),.sl D 0 w.futures.length,.sl B 0 w.threads.length]]⟩)]->
    Q (.agg [.sl E 0 w.locks.length,.YJ (-1),.sl D 0 w.futures.length,.sl B 0 w.threads.length]) L:=by
   intro T L hT hL;subst hL;subst hQ;have O:i=w.locks.length:=by omega
   subst O;refine⟨_,[],aE.all (Fz.aggs (.cons ?_ (.cons (.refl _) (.cons ?_ (.cons ?_ .nil))))),rfl,rfl⟩
   .refine Fz.slm (f:=λ_=>[.YJ (-1),.nils]) (.tail _ (.tail _ (.head _))) (by simp[bK]) YG (by simp[bK]) (λy M=>rfl) (λy M q a a2 G q2=>?_);have:y=⟨-1,[]⟩:=by simp[bK]at M;exact M.2
    subst this
    match q with
    |0=>cases G;cases q2;exact .refl _
    |1=>cases G;cases q2;exact .nils
    |q+2=>simp at G
   .exact Fz.sls (.tail _ (.head _)) (by simp[bK,aD]) YG (by simp[bK])
   .exact Fz.sls (.head _) (by rw[hT]) YG (by simp[bK])
  rcases XH w.threads.length with j|j
  .have S:decide ((0:Int)<(w.threads.length:Int))=false:=by simp[j]
   repeat' (first|refine sy ?_|refine s2 ?_ ?_|intro)
   exact fin [] _ (by simp[bK,j]) (by simp[j])
  .have S:decide ((0:Int)<(w.threads.length:Int))=true:=by simpa using j
   have hx0:(List.replicate w.threads.length ([.YJ 0,.YJ 0,.bool false]:List AV))[0]? =some [.YJ 0,.YJ 0,.bool false]:=by simp[j]
   repeat' (first|refine sy ?_|refine s2 ?_ ?_|intro)
   refine fin _ _ rfl ?_;simp[bK,ThrD.enc,XI]
section
theorem qc{α:Type}(S:α->List AV×SH)(m:α->Nat)(G:α->Prop){B:List AV->SH->W.Kn->Prop}{vs:List AV}{L:SH}(D:α)(Z:G D)(O:aE vs L (S D).1 (S D).2)
  (h:∀a,G a->∀M:W.Kn,(∀u,G u->m u<m a->∀j E,aE j E (S u).1 (S u).2->M j E)->B (S a).1 (S a).2 M):W.loop B vs L:=by
 refine⟨λn vs L=>∃a,G a/\m a=n/\vs=(S a).1/\L=(S a).2,⟨m D,_,_,O,D,Z,rfl,rfl,rfl⟩,?_⟩;rintro n vs L ⟨a,Y,rfl,rfl,rfl⟩;exact h a Y _ λu g1 g2 j E g3=>⟨m u,_,_,g2,g3,u,g1,rfl,rfl,rfl⟩
theorem P3{K:AV->Prop}(x y:aH)(h:K (.bool (iz (x≠y)))):W.bin Tryz.prog Fl .neq 147 (.agg x.enc) (.agg y.enc) K:=by
 rw[fX];refine⟨.bool (iz (x≠y)),?_,h⟩;have hF:Fl 147=some [9,3,3,4,2]:=by kernel_rfl
 have hi:Tryz.prog.underlying 3=some (.int .i64):=by kernel_rfl
 have hj:Tryz.prog.underlying 2=some (.int .i64):=by kernel_rfl
 have hb:Tryz.prog.underlying 4=some .bool:=by kernel_rfl
 have hs:Tryz.prog.underlying 9=some .string:=by kernel_rfl
 obtain⟨Z,Y,S,O,M⟩:=x;obtain⟨G,E,D,B,u⟩:=y;have he:iz ((⟨Z,Y,S,O,M⟩:aH)≠⟨G,E,D,B,u⟩)=!(decide (Z=G)&&decide (Y=E)&&decide (S=D)&&decide (O=B)&&decide (M=u)):=by
  cases hd:(decide (Z=G)&&decide (Y=E)&&decide (S=D)&&decide (O=B)&&decide (M=u))with
  |true=>exact eh λj=>j (by simpa[and_assoc]using hd)
  |false=>
   refine fM λj=>?_
   rw[aH.mk.injEq]at j;obtain⟨h1,h2,h3,h4,h5⟩:=j;simp[h1,h2,h3,h4,h5]at hd
 rw[he];simp only[iO,aH.enc,hF,XB,s5,sZ,hi,hj,hb,hs,if_true];by_cases h1:Z=G<;>by_cases h2:Y=E<;>by_cases h3:S=D<;>by_cases h4:O=B<;>by_cases h5:M=u<;>simp[h1,h2,h3,h4,h5]
theorem Lm{K:AV->Prop}(x y:aH)(h:K (.bool (iz (x≠y)))):wb .neq 147 (.agg x.enc) (.agg y.enc) K:=ep (P3 x y h)
section
variable {l:List aH} {Q:R} {nm:aO} {sz ini:Int} {i nb bs bw:Nat} {n1:W.Kn} (hl:l.length<=12) (h1:1<=sz) (h4:sz<=4) (hf:sz<=(l.length-i:Nat))
 (hno:¬tD ⟨nm,0,sz,false,ini⟩ (l.drop i)->∀L,Q (.tup [.nils,.bool false]) L) (x:AV) (X Y:Blk)
 (hgo:tD ⟨nm,0,sz,false,ini⟩ (l.drop i)->∀ix,n1 [.lst (l.map aH.enc),x,.YJ ((i+sz.toNat:Nat):Int)] [(nb,X),(bs,Y),(bw,⟨5,[[.str nm,.YJ ix,.YJ sz,.bool false,.YJ ini]]⟩)])
include hl h1 h4 hf hno hgo
theorem U7(O:Int):W.loop (o8 Q n1) [.lst (l.map aH.enc),x,.YJ (i:Int),.ptr bw 0 0,.YJ sz,.YJ 0] [(nb,X),(bs,Y),(bw,⟨5,[[.str nm,.YJ O,.YJ sz,.bool false,.YJ ini]]⟩)]:=by
 obtain⟨m,rfl⟩:=Int.eq_ofNat_of_zero_le (show 0<=sz by omega);refine qc (α:=Nat×Int) (λa=>([.lst (l.map aH.enc),x,.YJ (i:Int),.ptr bw 0 0,.YJ (m:Int),.YJ (a.1:Int)],[(nb,X),(bs,Y),(bw,⟨5,[[.str nm,.YJ a.2,.YJ (m:Int),.bool false,.YJ ini]]⟩)])) (λa=>m-a.1) (λa=>a.1<=m/\∀j,j<a.1->l[i+j]? =some ⟨nm,j,m,false,ini⟩) (0,O) ⟨Nat.zero_le _,λj h=>absurd h (Nat.not_lt_zero _)⟩ (.refl _ _) ?_;rintro⟨k,y⟩ ⟨hk,hG⟩ nx hnx;refine vw ?_;dsimp only at *;rcases Nat.lt_or_ge k m with h|h
 .have d1:decide ((k:Int)<(m:Int))=true:=a8 h;have hw1:IntKind.i64.wrap ((k:Int)+1)=((k+1:Nat):Int):=ax h YC;have G:IntKind.i64.wrap ((i:Int)+(k:Int))=((i+k:Nat):Int):=by rw[WY _ YC];omega
  have B:i+k<l.length:=by omega
  have hx:=aq (f:=aH.enc) B;have u:l[i+k]? =some l[i+k]:=mt B;generalize l[i+k]=c at hx u;have M:iz (c≠⟨nm,k,m,false,ini⟩)=true->∀L,Q (.tup [.nils,.bool false]) L:=λD=>hno λhb=>by have h2:=hb.eq k (by show(k:Int)<(m:Int);omega);rw[XE,u]at h2;cases h2;exact fo.1 D rfl
  have E:iz (c≠⟨nm,k,m,false,ini⟩)=false->∀j,j<k+1->l[i+j]? =some ⟨nm,j,m,false,ini⟩:=λD j S=>by
   rcases Fn j k with g|g
   .exact hG j g
   .have e:j=k:=by omega
    subst e;rw[u];by_cases Z:c=⟨nm,j,m,false,ini⟩
    .rw[Z]
    .rw[fM Z]at D;cases D
  repeat' (first|refine sy ?_|refine Lm c ⟨nm,k,m,false,ini⟩ ?_|refine s2 ?_ ?_|intro)
  .exact M YD _
  .exact hnx (k+1,k) ⟨by dsimp only;omega,E YD⟩ (by dsimp only;omega) _ _ (.refl _ _)
 .have d1:decide ((k:Int)<(m:Int))=false:=bq h;have G:IntKind.i64.wrap ((i:Int)+(m:Int))=((i+m:Nat):Int):=by rw[WY _ YC];omega
  obtain rfl:k=m:=by omega
  repeat' (first|refine sy ?_|refine s2 ?_ ?_|intro)
  exact hgo ⟨h1,h4,by rw[Yh];omega,λj S=>by rw[XE];exact hG j (by simpa using S)⟩ y
end
theorem ss (l : List aH) (hl : l.length <= 12) {Q : R} (hy : ∀ M L v, dT l M -> Fz L v (.lst (M.map av)) -> Q (.tup [v, .bool true]) L) (hn : (∀ M, ¬ dT l M) -> ∀ L, Q (.tup [.nils, .bool false]) L) :
    jl (.lst (l.map aH.enc)) [] Q:=by
  refine vw ?_;refine qc (α:=Nat×List aO×Option Nat) (λa=>([.lst (l.map aH.enc),ai a.2.2 a.2.1.length,.YJ (a.1:Int)],ab a.2.2 1 (a.2.1.map av))) (λa=>l.length-a.1) (λa=>gC l a.1 a.2.1/\(a.2.2=none->a.2.1=[])) (0,[],none) ⟨.zero l,λ_=>rfl⟩ (aE.drop (K:=[]) (.refl _) rfl ((fi.cons (.refl _) (.cons .nile (.cons (.refl _) .nil))).at_.2)) ?_;rintro⟨i,B,o⟩ ⟨hV,ho⟩ nx hnx;refine vw ?_;dsimp only at *;have hva:=hV.2.1;rcases Nat.lt_or_ge i l.length with h|h
  · have hx:=aq (f:=aH.enc) h
    have d1:decide ((i:Int)<(l.length:Int))=true:=a8 h;have hw1:IntKind.i64.wrap ((i:Int)+1)=((i+1:Nat):Int):=ax h YC;have hw2:IntKind.i64.wrap ((l.length:Int)-(i:Int))=((l.length-i:Nat):Int):=by rw[WY _ YC];omega
    have Z:l[i].size=0->l[i].index≠0->∀M,¬dT l M:=hV.no1 h;have Y:l[i].size=0->l[i].index=0->gC l (i+1) (B++[l[i].name]):=hV.step h;have G:l[i].size≠0->¬tD l[i] (l.drop i)->∀M,¬dT l M:=hV.no2 h;have S:l[i].size≠0->tD l[i] (l.drop i)->gC l (i+l[i].size.toNat) (B++[l[i].name]):=hV.jump h;have hgo:∀j D L',gC l j (B++[l[i].name])->i<j->dD L' [(D,⟨1,B.map av++[[.str l[i].name]]⟩)]->nx [.lst (l.map aH.enc),.sl D 0 (B.length+1),.YJ (j:Int)] L':=λj D L' h1 E h3=>
      hnx (j,B++[l[i].name],some D) ⟨h1,nofun⟩ (by have:=h1.1;dsimp only;omega) _ _ (aE.pickE h3 (by simp[ai]) (by simp[ab,av]))
    have O:(l.drop i)[0]? =some l[i]:=by rw[XE];exact mt h
    clear hnx hV;generalize l[i]=c at *;obtain⟨nm,ix,sz,vo,ini⟩:=c;unfold aH.enc at hx;dsimp only at *;have hbe:tD ⟨nm,ix,sz,vo,ini⟩ (l.drop i)->1<=sz/\sz<=4/\vo=false/\sz<=(l.length-i:Nat):=λu=>by have h1:=u.lo;have E:=u.eq 0 (by show(0:Int)<sz;have:=u.lo;dsimp only at this;omega);rw[O]at E;cases E;exact⟨h1,u.hi,rfl,by have:=u.fits;rw[List.length_drop]at this;exact this⟩
    have hbq:tD ⟨nm,0,sz,false,ini⟩ (l.drop i)->tD ⟨nm,ix,sz,vo,ini⟩ (l.drop i):=λu=>by have E:=u.eq 0 (by show(0:Int)<sz;have:=u.lo;dsimp only at this;omega);rw[O]at E;cases E;exact u
    repeat' (first|refine sx ?_|refine bG mm rp YF (λe=>by simp[ho e]) YE YF YH YH YE (λD hnb_=>?_)|refine sb λD hnb_=>?_|refine s2 (λh=>?_) λh=>?_|fail)
    all_goals first
      |exact hn (Z (of_decide_eq_true YD) (of_decide_eq_true YD)) _
      |(refine hgo (i+1) _ _ (Y (of_decide_eq_true YD) ?_) (Nat.lt_succ_self _) rp;clear hgo hn hy Z Y G S hbe hbq;simp only[ne_eq,decide_eq_false_iff_not,Decidable.not_not]at *;assumption)
      | (refine hn (G (of_decide_eq_false YD) fun u => ?_) _
         have u:=hbe u;clear hgo hn hy Z Y G S hbe hbq
         (simp only[decide_eq_true_eq,decide_eq_false_iff_not]at *;simp_all<;>omega))
      |skip
    rename_i h1 E h3 h4;subst h4;simp only[decide_eq_false_iff_not]at h h1 E h3;refine U7 hl YC YC YC (λu=>hn (G YC λhc=>u ?_)) _ _ _ (λu y=>hgo _ _ _ (S YC (hbq u)) (by have:=u.lo;dsimp only at this;omega) rp) ix;have h5:=hc.eq 0 (by show(0:Int)<sz;omega);rw[O]at h5;cases h5;exact hc
  · have d1:decide ((i:Int)<(l.length:Int))=false:=bq h
    repeat' (first|refine sy ?_|refine s2 (λh=>?_) λh=>?_|intro)
    exact hy B _ _ (hV.done h) (Fz.slot rfl (λe=>by simp[ho e]) YG (λ_ _=>rfl) λ_ _ q a a2 h1 E=>by rw[h1]at E;cases E;exact .refl _)
end
def NH:TZ 1=.pptr [oK.map .str] 0 0:=rfl
def SB{i:Nat}(h:i<oK.length):W0.rowLd false 1 (oK.map .str) ((i:Int).toNat*1)=some (.str oK[i]):=by unfold W0.rowLd;simp[h]
def Rq(s:aO):ao Tryz.prog 183 [.str s] (.bool (E0 s)):=by
 refine tE _ _ _ ?_;refine vw ?_;rw[NH];have G:E0 s=oK.any λx=>decide (s=x):=by simp only[E0,eq_comm]
 repeat' (first|refine sy ?_|refine s2 (λh=>?_) λh=>?_|intro)
 refine cF oK (λx=>decide (s=x)) (λi=>[.str s,.agg (oK.map .str),.YJ i]) YG rfl (λi u D Y j M S=>?_) (λi u D j M=>?_)
 all_goals refine vw ?_
 .have O:=SB u;have B:decide ((i:Int)<22)=true:=D;have E:(i:Int).toNat<22:=u
  repeat' (first|refine sy ?_|refine UB (Yq _) E O ?_|refine s2 (λh=>?_) λh=>?_|intro)
  .exact⟨by rw[G,Kg u h],rfl⟩
  .exact S h
 .have B:decide ((i:Int)<22)=false:=D
  repeat' (first|refine sy ?_|refine s2 ?_ ?_|intro)
  exact⟨by rw[G,Nb j],rfl⟩
def U8{s:aO}{i:Nat}(h:i<s.length):(⟨s.toArray⟩:ByteArray).get! i=s[i]:=by show s.toArray[i]! =s[i];simp[h]
def Va{s:aO}{i:Nat}(h:i<s.length):∃c wd,Utf8.decode ⟨s.toArray⟩ i=(c,wd)/\((c=s[i].toNat/\wd=1/\c<128)\/(128<=c/\128<=s[i].toNat)):=by
 refine⟨(Utf8.decode ⟨s.toArray⟩ i).1,(Utf8.decode ⟨s.toArray⟩ i).2,rfl,?_⟩;unfold Utf8.decode;simp only[XQ,U8 h];by_cases j:s[i].toNat<128
 .rw[if_pos j];exact .inl ⟨rfl,rfl,j⟩
 .rw[if_neg j];refine .inr ⟨?_,YC⟩;have u:128<=Utf8.runeError:=by decide
  repeat' split
  all_goals first
   |exact u
   |(simp only[ge_iff_le,WZ,decide_eq_true_eq]at *;omega)
def P4(s:aO):ao Tryz.prog 147 [.str s] (.bool (cY s)):=by
 refine Wn AV.bool λQ M=>yQ _ _ _ ?_
 refine vw ?_;by_cases h0:1<=s.length/\s.length<=12/\E0 s=false
 .obtain⟨h1,h12,O⟩:=h0;have E:=Rq s;rw[O]at E;have d1:decide ((s.length:Int)<1)=false:=decide_eq_false YC;have d2:decide ((s.length:Int) > 12)=false:=decide_eq_false YC;have u:∀i (h:i<s.length),¬(iX s[i].toNat=true/\(i=0->iA s[i].toNat=true))->cY s=false:=λi h Z=>by
   cases D:cY s with
   |false=>rfl
   |true=>exfalso;unfold cY at D;simp only[WZ,W2]at D;refine Z ⟨D.2 _ (WN h),λe=>?_⟩;subst e;have:=D.1.1.2;simpa[List.getD,h]using this
  repeat' (first|refine sx ?_|refine Sv (λB Y=>?_)|refine sb λB Y=>?_|refine s2 (λh=>?_) λh=>?_|fail)
  refine wN (λi:Nat=>([.it B],[(B,⟨0,[[.str s,.YJ (i:Int)]]⟩)])) (λi=>s.length-i) (λi=>i<=s.length/\∀j (h:j<s.length),j<i->iX s[j].toNat=true/\(j=0->iA s[j].toNat=true)) 0 ⟨Xq _,λj h h2=>absurd h2 (XX _)⟩ rfl rfl (λi S nx D=>?_);obtain⟨hi,S⟩:=S;refine vw ?_
  try dsimp only
  rcases Fn i s.length with h|h
  .obtain⟨c,wd,hd,hc⟩:=Va h;replace u:=u i h;have G:iX s[i].toNat=true/\(i=0->iA s[i].toNat=true)->nx [.it B] [(B,⟨0,[[.str s,.YJ ((i+1:Nat):Int)]]⟩)]:=λZ=>D (i+1) ⟨h,λj hj hji=>by
    rcases Fn j i with g|g
    .exact S j hj g
    .have e:j=i:=by omega
     subst e;exact Z⟩ YC
   clear D S
   repeat' (first|refine sy ?_|refine s2 (λh=>?_) λh=>?_|intro)
   refine U5 (.head _) h (.here _) ?_;simp only[hd];clear hd;rcases hc with⟨rfl,rfl,hc⟩|⟨hc,Z⟩
   .generalize s[i].toNat=x at *
    repeat' (first|refine sy ?_|refine s2 ?_ ?_|intro)
    all_goals first
     |(refine G ?_;clear G u M;simp only[iX,iA,wT,Bool.or_eq_true,WZ,decide_eq_true_eq,decide_eq_false_iff_not]at *;omega)
     |(refine M _ _ (u ?_);clear G u M;simp only[iX,iA,wT,Bool.or_eq_true,WZ,decide_eq_true_eq,decide_eq_false_iff_not]at *;omega)
   .generalize s[i].toNat=x at *;have e1:decide ((c:Int)<=122)=false:=decide_eq_false YC;have e2:decide ((c:Int)<=90)=false:=decide_eq_false YC;have e3:decide ((c:Int)<=57)=false:=decide_eq_false YC;have e4:decide ((c:Int)=95)=false:=decide_eq_false YC
    repeat' (first|refine sy ?_|refine s2 ?_ ?_|intro)
    all_goals first
     |(refine M _ _ (u ?_);clear G u M;simp only[iX,iA,wT,Bool.or_eq_true,WZ,decide_eq_true_eq,decide_eq_false_iff_not]at *;omega)
  .repeat' (first|refine sy ?_|refine s2 ?_ ?_|intro)
   refine Ll (.head _) YC ?_
   repeat' (first|refine sy ?_|refine s2 ?_ ?_|intro)
   refine M _ _ ?_;unfold cY;have e1:(s.all λc=>iX c.toNat)=true:=W2.2 λx hx=>by obtain⟨j,hj,rfl⟩:=XJ hx;exact(S j hj YC).1
   have e2:iA ((s.getD 0 0).toNat:Nat)=true:=by have:=(S 0 YC YC).2 rfl;simpa[List.getD,show 0<s.length by omega]using this
   rw[e1,e2,O];simp;omega
 .have E:=Rq s;have hf:cY s=false:=by
   cases D:cY s with
   |false=>rfl
   |true=>exfalso;refine h0 ?_;unfold cY at D;simp only[WZ,decide_eq_true_eq,Yj]at D;exact⟨YC,YC,D.1.2⟩
  cases O:E0 s with
  |true=>
   rw[O]at E
   repeat' (first|refine sy ?_|refine s2 ?_ ?_|intro)
   all_goals exact M _ _ hf
  |false=>
   rw[O]at E
   repeat' (first|refine sy ?_|refine s2 ?_ ?_|intro)
   all_goals first
    |exact M _ _ hf
    |(exfalso;refine h0 ⟨?_,?_,O⟩<;>simp only[decide_eq_true_eq,decide_eq_false_iff_not]at * <;>omega)
section
def nW(A:List aO):Prop:=(∀s∈A,cY s=true)/\A.Nodup
def mM(l:List aO):List (List AV):=l.map λs=>[.str s,.bool true]
theorem IW(l:List aO):(mM l).all ue=true:=by
 induction l with
 |nil=>rfl
 |cons s l j=>simp only[mM,WS,List.all_cons]at *;rw[j];rfl
theorem qO{s:aO}:∀{l:List aO} {k:Nat},(s∉l->iK s (mM l) k=none)/\(s∈l->∃j,iK s (mM l) k=some (j,.bool true))
 |[],k=>⟨λ_=>rfl,λh=>by simp at h⟩
 | x::l,k=>by
  have u:=qO (s:=s) (l:=l) (k:=k+1);have e:iK s (mM (x::l)) k=if s==x then some (k,.bool true)else iK s (mM l) (k+1):=rfl
  rw[e];by_cases h:s=x
  .subst h;exact⟨λh=>by simp at h,λ_=>⟨k,YF⟩⟩
  .have:(s==x)=false:=by simpa using h
   rw[this];exact⟨λh2=>u.1 (by simp at h2;exact h2.2),λh2=>u.2 (by simpa[h]using h2)⟩
theorem P5{s:aO}{l:List aO}(h:s∉l):W0.found (.bool false) false (iK s (mM l) 0)=.bool false:=by rw[qO.1 h];rfl
theorem NI{s:aO}{l:List aO}(h:s∈l):W0.found (.bool false) false (iK s (mM l) 0)=.bool true:=by obtain⟨j,u⟩:=(qO (k:=0)).2 h;rw[u];rfl
theorem NJ{s:aO}{l:List aO}(h:s∉l):W0.putR s (.bool true) (mM l)=mM (l++[s]):=by unfold W0.putR;rw[qO.1 h];simp[mM]
theorem uW{o:Option Nat}{k:Nat}{K:AV->Prop}(h:K (.YJ (k:Int)))(j:o=none->k=0):W.len (ai o k) K:=by
 cases o with
 |none=>rw[j rfl]at h;exact ED h
 |some b=>exact Ez h
theorem NK{α:Type}{f:α->List AV}{l:List α}{n by_:Nat}{L:SH}{KL:AV->SH->Prop}(B:∀x,(f x).length=n)(h2:2*l.length*by_<=2^48)(E:2*l.length<=2^62)(h4:∀x,(f x).all AV.one=true)
  (h:l=[]->KL .nils L) (G:∀b,b∉L.names->KL (.sl b 0 l.length) ((b,⟨n,l.map f⟩)::L)):W.append n by_ .nils (.lst (l.map f)) L KL:=by
 have j:((l.map f).all λr=>r.all AV.one)=true:=by rw[W2];intro r u;obtain⟨x,_,rfl⟩:=Xi.1 u;exact h4 x
 refine⟨[],l.map f,rfl,qI B,by simpa using h2,by simpa using E,j,λe=>?_,λe b D=>?_⟩
 .exact h (by simpa using e)
 .have:=G b D;simpa using this
theorem Vb{A:List aO}(hA:A.length<2^40){Q:R}(hq:∀b L,iz (nW A)=b->Q (.bool b) L){vs:List AV}{L:SH}{bm:Nat}(Y:aE vs L [.mp bm,.lst (A.map av),.YJ A.length,.YJ 0] [(bm,⟨0,[]⟩)]):W.loop (pg Q) vs L:=by
 refine qc (α:=Nat) (λi=>([.mp bm,.lst (A.map av),.YJ A.length,.YJ (i:Int)],[(bm,⟨0,mM (A.take i)⟩)])) (λi=>A.length-i) (λi=>i<=A.length/\nW (A.take i)) 0 ⟨Xq _,by simp[nW]⟩ Y ?_;rintro i ⟨hi,M⟩ nx hnx;refine vw ?_
 try dsimp only
 rcases Fn i A.length with h|h
 .have d1:decide ((i:Int)<(A.length:Int))=true:=a8 h;have hw1:IntKind.i64.wrap ((i:Int)+1)=((i+1:Nat):Int):=ax h YC;have Z:=aq (f:=av) h;have D:=P4 A[i];have ht:=LE h;have B:¬nW (A.take (i+1))->∀L,Q (.bool false) L:=λj L=>hq _ _ (eh λhN=>j ⟨λs hs=>hN.1 s (List.mem_of_mem_take hs),hN.2.sublist (List.take_sublist _ _)⟩)
  have G:nW (A.take (i+1))->nx [.mp bm,.lst (A.map av),.YJ A.length,.YJ ((i+1:Nat):Int)] [(bm,⟨0,mM (A.take (i+1))⟩)]:=λj=>hnx (i+1) ⟨h,j⟩ YC _ _ (.refl _ _)
  rw[ht]at B G;clear hq hnx ht Y;generalize A[i]=s at *;generalize A.take i=l at *;have O:=IW l;cases u:cY s with
  |false=>
   rw[u]at D;have j:¬nW (l++[s]):=λj=>by have:=j.1 s YF;rw[u]at this;cases this
   repeat' (first|refine sy ?_|refine s2 ?_ ?_|intro)
   all_goals exact B j _
  |true=>
   rw[u]at D;by_cases E:s∈l
   .have S:=NI E;have j:¬nW (l++[s]):=λj=>by have:=(X1.1 j.2).2.2 s E s YF;exact this rfl
    repeat' (first|refine sy ?_|refine Nz (.head _) O S ?_|refine s2 ?_ ?_|intro)
    all_goals exact B j _
   .have S:=P5 E;have hp:=NJ E;have j:nW (l++[s]):=⟨λx Z=>by
     rcases WM.1 Z with h|h
     .exact M.1 x h
     .rw[WP.1 h];exact u,X1.2 ⟨M.2,YF,λa ha b j=>by rw[WP.1 j];rintro rfl;exact E ha⟩⟩
    repeat' (first|refine sy ?_|refine Nz (.head _) O S ?_|refine U4 (.here _) O rfl hp ?_|refine s2 ?_ ?_|intro)
    all_goals exact G j
 .have d1:decide ((i:Int)<(A.length:Int))=false:=bq h;rw[W9 h]at M
  repeat' (first|refine sy ?_|refine s2 ?_ ?_|intro)
  exact hq _ _ (fM M)
section
variable {w:aK} {Q:R} {ns:List aO} (hns:ns.length<=12) (h4:w.locks.length<=4) (h2:w.conds.length<=2) (hf2:w.futures.length<=2) (ht4:w.threads.length<=4) (hq:∀b L,iz (nW (eD w ns))=b->Q (.bool b) L)
include hns h4 h2 hf2 ht4 hq
theorem Vc{vs:List AV}{L:SH}(o:Option Nat)(E:o=none->ns++w.locks.map bv.name=[])(Y:aE vs L [.pptr [w.enc] 0 0,ai o (ns++w.locks.map bv.name).length,.lst (w.conds.map bO.enc),.YJ w.conds.length,.YJ 0] (ab o 1 ((ns++w.locks.map bv.name).map av))):W.loop (ph Q) vs L:=by
 obtain⟨S,O⟩:∃S:Nat->List aO,S=λi=>ns++w.locks.map bv.name++(w.conds.take i).map bO.name:=⟨_,rfl⟩
 have M:S 0=ns++w.locks.map bv.name:=by subst O;simp
 have D:S w.conds.length++w.futures++w.threads=eD w ns:=by subst O;simp[eD]
 have B:∀i (h:i<w.conds.length),S (i+1)=S i++[w.conds[i].name]:=λi h=>by subst O;simp only[LE h,WL,WU,WS,Xp]
 have G:∀i,(S i).length<=18:=λi=>by subst O;rw[LT,LT,Xd,Xd,Xb];omega
 rw[<-M]at Y E;clear M O;refine qc (α:=Nat×Option Nat) (λa=>([.pptr [w.enc] 0 0,ai a.2 (S a.1).length,.lst (w.conds.map bO.enc),.YJ w.conds.length,.YJ (a.1:Int)],ab a.2 1 ((S a.1).map av))) (λa=>w.conds.length-a.1) (λa=>a.1<=w.conds.length/\(a.2=none->S a.1=[])) (0,o) ⟨Nat.zero_le _,E⟩ Y ?_;rintro⟨i,o⟩ ⟨hi,E⟩ nx hnx;refine vw ?_;dsimp only at *;have hA:=G i;rcases Nat.lt_or_ge i w.conds.length with h|h
 .have d1:decide ((i:Int)<(w.conds.length:Int))=true:=a8 h;have hw1:IntKind.i64.wrap ((i:Int)+1)=((i+1:Nat):Int):=ax h YC;have hx:=aq (f:=bO.enc) h;have hgo:∀j L',dD L' [(j,⟨1,(S i).map av++[[.str w.conds[i].name]]⟩)]->nx [.pptr [w.enc] 0 0,.sl j 0 ((S i).length+1),.lst (w.conds.map bO.enc),.YJ w.conds.length,.YJ ((i+1:Nat):Int)] L':=λj L' h3=>
   hnx (i+1,some j) ⟨h,nofun⟩ (by dsimp only;omega) _ _ (aE.pickE h3 (by simp[ai,B i h]) (by simp[ab,av,B i h]))
  clear hnx B D G Y;generalize w.conds[i]=c at *;generalize S i=C at *;obtain⟨nm,mx⟩:=c;unfold bO.enc at hx;dsimp only at *
  repeat' (first|refine sy ?_|refine bG mm rp YF (λe=>by simp[E e]) YE YF YH YH YE (λj hnb_=>?_)|refine s2 ?_ ?_|intro)
  exact hgo _ _ rp
 .have d1:decide ((i:Int)<(w.conds.length:Int))=false:=bq h;obtain rfl:i=w.conds.length:=by omega
  repeat' (first|refine sy ?_|refine s2 ?_ ?_|intro)
  refine pF rp (λ_=>rfl) YF (λe=>by simp[E e]) YC YC (λ_=>rfl) (λo1 Z=>?_)
  repeat' (first|refine sy ?_|refine s2 ?_ ?_|intro)
  refine pF rp (λ_=>rfl) YF (λe=>Z e) YC YC (λ_=>rfl) (λo2 u=>?_);refine P1 λbm hbm=>?_
  refine uW ?_ (λe=>by have:=u e;simp only[List.append_eq_nil_iff,List.map_eq_nil_iff]at this;simp[this]);have e1:(S w.conds.length).map av++w.futures.map av++w.threads.map av=(eD w ns).map av:=by rw[<-D];simp
  have e2:(S w.conds.length).length+w.futures.length+w.threads.length=(eD w ns).length:=by rw[<-D];simp;omega
  have e3:(eD w ns).length<=30:=by rw[<-e2];omega
  rw[e1]at u ⊢;rw[e2];refine Vb (A:=eD w ns) YC hq (bm:=bm) (aE.drop (K:=ab o2 1 ((eD w ns).map av)) (R:=[(bm,⟨0,[]⟩)]) (by rw[Xr];exact(List.perm_append_singleton _ _).symm) rfl ((fi.cons (.refl _) (.cons (Fz.slot rfl u YG (λ_ _=>rfl) λ_ _ q a a2 h1 h2=>by rw[h1]at h2;cases h2;exact .refl _) (.cons (.refl _) (.cons (.refl _) .nil)))).at_.2))
theorem Vd{vs:List AV}{L:SH}(o:Option Nat)(u:o=none->ns=[])(E:aE vs L [.pptr [w.enc] 0 0,ai o ns.length,.lst (w.locks.map bv.enc),.YJ w.locks.length,.YJ 0] (ab o 1 (ns.map av))):W.loop (pi Q) vs L:=by
 have B:=λvs L o u E=>Vc hns h4 h2 hf2 ht4 hq (vs:=vs) (L:=L) o u E
 obtain⟨S,Y⟩:∃S:Nat->List aO,S=λi=>ns++(w.locks.take i).map bv.name:=⟨_,rfl⟩
 have O:S 0=ns:=by subst Y;simp
 have M:S w.locks.length=ns++w.locks.map bv.name:=by subst Y;simp
 have D:∀i (h:i<w.locks.length),S (i+1)=S i++[w.locks[i].name]:=λi h=>by subst Y;simp only[LE h,WL,WU,WS,Xp]
 have G:∀i,(S i).length<=18:=λi=>by subst Y;rw[LT,Xd,Xb];omega
 rw[<-M]at B;rw[<-O]at E u;clear O Y hq;refine qc (α:=Nat×Option Nat) (λa=>([.pptr [w.enc] 0 0,ai a.2 (S a.1).length,.lst (w.locks.map bv.enc),.YJ w.locks.length,.YJ (a.1:Int)],ab a.2 1 ((S a.1).map av))) (λa=>w.locks.length-a.1) (λa=>a.1<=w.locks.length/\(a.2=none->S a.1=[])) (0,o) ⟨Nat.zero_le _,u⟩ E ?_;rintro⟨i,o⟩ ⟨hi,u⟩ nx hnx;refine vw ?_;dsimp only at *;have hA:=G i;rcases Nat.lt_or_ge i w.locks.length with h|h
 .have d1:decide ((i:Int)<(w.locks.length:Int))=true:=a8 h;have hw1:IntKind.i64.wrap ((i:Int)+1)=((i+1:Nat):Int):=ax h YC;have hx:=aq (f:=bv.enc) h;have Z:∀j L',dD L' [(j,⟨1,(S i).map av++[[.str w.locks[i].name]]⟩)]->nx [.pptr [w.enc] 0 0,.sl j 0 ((S i).length+1),.lst (w.locks.map bv.enc),.YJ w.locks.length,.YJ ((i+1:Nat):Int)] L':=λj L' h3=>
   hnx (i+1,some j) ⟨h,nofun⟩ (by dsimp only;omega) _ _ (aE.pickE h3 (by simp[ai,D i h]) (by simp[ab,av,D i h]))
  clear hnx D M G E B;generalize w.locks[i]=c at *;generalize S i=C at *;obtain⟨nm,mx⟩:=c;unfold bv.enc at hx;dsimp only at *
  repeat' (first|refine sy ?_|refine bG mm rp YF (λe=>by simp[u e]) YE YF YH YH YE (λj hnb_=>?_)|refine s2 ?_ ?_|intro)
  exact Z _ _ rp
 .have d1:decide ((i:Int)<(w.locks.length:Int))=false:=bq h;obtain rfl:i=w.locks.length:=by omega
  repeat' (first|refine sy ?_|refine s2 ?_ ?_|intro)
  exact B _ _ o u (.refl _ _)
theorem Wo:jo (.agg w.enc) (.lst (ns.map av)) [] Q:=by
 have B:=λvs L o E D=>Vd hns h4 h2 hf2 ht4 hq (vs:=vs) (L:=L) o E D
 clear hq;refine vw ?_
 repeat' (first|refine sx ?_|refine sb λu j=>?_|refine s2 ?_ ?_|intro)
 refine NK (λ_=>rfl) YC YC (λ_=>rfl) (λe=>?_) (λu j=>?_)
 .subst e
  repeat' (first|refine sy ?_|refine s2 ?_ ?_|intro)
  exact B _ _ none (λ_=>rfl) (aE.drop (K:=[]) (.refl _) rfl ((fi.cons (.refl _) (.cons .nile (.cons (.refl _) (.cons (.refl _) (.cons (.refl _) .nil))))).at_.2))
 .repeat' (first|refine sx ?_|refine sb λu j=>?_|refine s2 ?_ ?_|intro)
  exact B _ _ (some u) nofun (.refl _ _)
end
theorem Ln(w:aK){ns:List aO}(hns:ns.length<=12)(h4:w.locks.length<=4)(h2:w.conds.length<=2)(hf2:w.futures.length<=2)(ht4:w.threads.length<=4):ao Tryz.prog 102 [.agg w.enc,.lst (ns.map av)] (.bool (iz (nW (eD w ns)))):=
 ac.fz (pj _ _ _ _ (Wo hns h4 h2 hf2 ht4 λb L h=>⟨_,[],aE.all (.refl _),by rw[h],rfl⟩))
theorem IX{l:List aH}(u:l.length<=12){ns:List aO}(h:dT l ns):ao Tryz.prog 101 [.lst (l.map aH.enc)] (.tup [.lst (ns.map av),.bool true]):=
 ac.fz (iL _ _ _ (ss l u (λj L v B h2=>⟨_,[],aE.all (.tups (.cons h2 (.cons (.refl _) .nil))),by rw[h.uniq B],rfl⟩) λh2=>absurd h (h2 ns)))
theorem Lo{l:List aH}(u:l.length<=12)(h:∀ns,¬dT l ns):ao Tryz.prog 101 [.lst (l.map aH.enc)] (.tup [.nils,.bool false]):=
 ac.fz (iL _ _ _ (ss l u (λj L v B h2=>absurd B (h j)) λ_ L=>⟨_,[],aE.all (.refl _),rfl,rfl⟩))
end
def NL{n:Nat}{t x:Int}{s:bM}{l:List bM}:mL n t x (s::l)↔t<=s.thread/\s.thread<n/\s.stmt=(if t<s.thread then 0 else x)/\mL n s.thread (s.stmt+1) l:=Iff.rfl
def CG(w:aK)(h60:w.sites.length<=60):ao Tryz.prog 104 [.agg w.enc] (.bool (iz (mL w.threads.length 0 0 w.sites))):=by
  refine o9 _ _ _ ?_;refine vw ?_;generalize S:(λ(u:AV) (K:SH)=>u=AV.bool (iz (mL w.threads.length 0 0 w.sites))/\K=[])=Q;have O:∀b,iz (mL w.threads.length 0 0 w.sites)=b->Q (.bool b) []:=λb D=>by subst S;exact⟨by rw[D],rfl⟩
  clear S
  repeat' (first|refine sy ?_|refine s2 (λh=>?_) λh=>?_|intro)
  refine wN (α:=Nat×Int×Nat) (λa=>([.pptr [w.enc] 0 0,.YJ a.2.1,.YJ (a.2.2:Int),.lst (w.sites.map bM.enc),.YJ w.sites.length,.YJ (a.1:Int)],[])) (λa=>w.sites.length-a.1) (λa=>a.1<=w.sites.length/\a.2.2<=a.1/\(mL w.threads.length 0 0 w.sites↔mL w.threads.length a.2.1 a.2.2 (w.sites.drop a.1))) (0,0,0) ⟨Nat.zero_le _,Nat.le_refl _,YF⟩ rfl rfl ?_;rintro⟨i,t,x⟩ ⟨hi,M,E⟩ nx hnx;refine vw ?_;dsimp only at *;rcases Nat.lt_or_ge i w.sites.length with h|h
  · have d1:decide ((i:Int)<(w.sites.length:Int))=true:=a8 h
    have hw1:IntKind.i64.wrap ((i:Int)+1)=((i+1:Nat):Int):=ax h YC;have hw2:IntKind.i64.wrap ((x:Int)+1)=((x+1:Nat):Int):=by rw[WY _ YC];omega
    have hw3:IntKind.i64.wrap (0+1)=((0+1:Nat):Int):=rfl;have Z:=aq (f:=bM.enc) h;rw[X0 h]at E;generalize w.sites[i]=s at *;rw[NL]at E;have B:¬(t<=s.thread/\s.thread<w.threads.length/\s.stmt=if t<s.thread then 0 else(x:Int))->Q (.bool false) []:=λD=>O _ (eh λG=>D (by have:=E.1 G;exact⟨this.1,this.2.1,this.2.2.1⟩))
    have j:∀y:Nat,y<=i->(t<=s.thread/\s.thread<w.threads.length/\s.stmt=if t<s.thread then 0 else(x:Int))->s.stmt=(y:Int)->nx [.pptr [w.enc] 0 0,.YJ s.thread,.YJ ((y+1:Nat):Int),.lst (w.sites.map bM.enc),.YJ w.sites.length,.YJ ((i+1:Nat):Int)] []:=λy hy D hs=>
      hnx (i+1,s.thread,y+1) ⟨h,by dsimp only;omega,by
        rw[E];dsimp only;have e:s.stmt+1=((y+1:Nat):Int):=by omega
        rw[e];exact⟨λh=>h.2.2.2,λh=>⟨D.1,D.2.1,D.2.2,h⟩⟩⟩ (by dsimp only;omega)
    clear hnx E;obtain⟨Y,sm,ln⟩:=s;unfold bM.enc at Z;dsimp only at *
    repeat' (first|refine sy ?_|refine s2 ?_ ?_|intro)
    all_goals first
      |(refine B λG=>?_;have h3:=G.1;have h4:=G.2.1;have h5:=G.2.2;clear G B j;split at h5<;>simp only[decide_eq_true_eq,decide_eq_false_iff_not,ge_iff_le,ne_eq,Decidable.not_not]at * <;>omega)
      |(refine j 0 (Xq _) ?_ ?_<;>clear B j<;>simp only[decide_eq_true_eq,decide_eq_false_iff_not,ge_iff_le,ne_eq,Decidable.not_not]at * <;>first|omega|(refine⟨YC,YC,?_⟩;rw[if_pos YC];omega))
      | (simp only [decide_eq_true_eq, decide_eq_false_iff_not, ge_iff_le, ne_eq, Decidable.not_not] at *
         obtain rfl:t=Y:=by omega
         refine j x M ?_ ?_<;>clear B j<;>first|omega|(refine⟨YC,YC,?_⟩;rw[if_neg YC];omega))
  · have d1:decide ((i:Int)<(w.sites.length:Int))=false:=bq h
    rw[List.drop_eq_nil_of_le h]at E
    repeat' (first|refine sy ?_|refine s2 ?_ ?_|intro)
    exact O _ (fM (E.2 trivial))
def Lq(w:aK):ao Tryz.prog 55 [.agg w.enc] (.bool (iz (uU w))):=by
 refine o7 _ _ _ ?_;refine vw ?_;generalize hQ:(λ(u:AV) (K:SH)=>u=AV.bool (iz (uU w))/\K=[])=Q;have M:∀b,iz (uU w)=b->Q (.bool b) []:=λb O=>by subst hQ;exact⟨by rw[O],rfl⟩
 clear hQ;by_cases h0:w.cells.length<=12/\w.locks.length<=4/\w.conds.length<=2/\w.futures.length<=2/\w.sites.length<=60/\1<=w.threads.length/\w.threads.length<=4
 .obtain⟨G,l4,d2,f2,S,t1,t4⟩:=h0;have e1:decide ((w.cells.length:Int) > 12)=false:=decide_eq_false YC;have e2:decide ((w.locks.length:Int) > 4)=false:=decide_eq_false YC;have e3:decide ((w.conds.length:Int) > 2)=false:=decide_eq_false YC;have e4:decide ((w.futures.length:Int) > 2)=false:=decide_eq_false YC;have e5:decide ((w.sites.length:Int) > 60)=false:=decide_eq_false YC;have e6:decide ((w.threads.length:Int)<1)=false:=decide_eq_false YC;have e7:decide ((w.threads.length:Int) > 4)=false:=decide_eq_false YC;by_cases B:∃j,dT w.cells j
  .obtain⟨j,B⟩:=B;have hvc:=IX G B;have hns:j.length<=12:=by have:=B.len;omega
   have Y:=Ln w hns l4 d2 f2 t4;have hvs:=CG w S;cases D:iz (nW (eD w j))with
   |false=>
    rw[D]at Y;have O:iz (uU w)=false:=eh λh=>by obtain⟨n2,E,h2⟩:=h.names;obtain rfl:=B.uniq E;rw[fM ⟨h2.1,h2.2⟩]at D;cases D
    repeat' (first|refine sy ?_|refine s2 ?_ ?_|intro)
    all_goals exact M _ O
   |true=>
    rw[D]at Y
    repeat' (first|refine sy ?_|refine s2 ?_ ?_|intro)
    refine cF w.conds (λc=>!jB w c.mutex false) (λi=>[.pptr [w.enc] 0 0,.lst (w.conds.map bO.enc),.YJ w.conds.length,.YJ (i:Int)]) YC rfl (λi E hd hi Z nx hn=>?_) (λi E hd Z nx=>?_)
    all_goals refine vw ?_
    .have hx:=aq (f:=bO.enc) E;have hlk:=DV w w.conds[i].mutex false;have hbad:jB w w.conds[i].mutex false=false->iz (uU w)=false:=λh=>eh λh2=>by rw[h2.mtx _ (WN E)]at h;cases h
     generalize w.conds[i]=c at *;obtain⟨nm,mx⟩:=c;unfold bO.enc at hx;dsimp only at *;cases hl:jB w mx false with
     |false=>
      rw[hl]at hlk
      repeat' (first|refine sy ?_|refine s2 ?_ ?_|intro)
      exact M _ (hbad hl)
     |true=>
      rw[hl]at hlk
      repeat' (first|refine sy ?_|refine s2 ?_ ?_|intro)
      exact hn (by rw[hl];rfl)
    .repeat' (first|refine sy ?_|refine s2 ?_ ?_|intro)
     refine M _ ?_;cases hs:iz (mL w.threads.length 0 0 w.sites)with
     |false=>exact eh λh=>by rw[fM h.sites]at hs;cases hs
     |true=>have D:=fo.1 D;exact fM ⟨G,l4,d2,f2,S,t1,t4,⟨j,B,D.1,D.2⟩,λc hc=>by simpa using Z c hc,fo.1 hs⟩
  .have hvc:=Lo G λj h=>B ⟨j,h⟩
   repeat' (first|refine sy ?_|refine s2 ?_ ?_|intro)
   all_goals exact M _ (eh λh=>by obtain⟨j,E,_⟩:=h.names;exact B ⟨j,E⟩)
 .have O:iz (uU w)=false:=eh λh=>h0 ⟨h.c12,h.l4,h.d2,h.f2,h.s60,h.t1,h.t4⟩
  repeat' (first|refine sy ?_|refine s2 ?_ ?_|intro)
  all_goals first
   |exact M _ O
   |(exfalso;refine h0 ?_;clear M O h0;simp only[decide_eq_true_eq,decide_eq_false_iff_not]at *;omega)
structure fy(c:aL):Prop where
 world:uU c.w
 len:c.ts.length=c.w.threads.length
 thr:∀i (h:i<c.ts.length),rt c.w i c.ts[i]
def AZ(c:aL)(hl:∀t∈c.ts,t.ins.length<2^48):ao Tryz.prog 28 [.agg c.enc] (.bool (iz (fy c))):=by
 have hw:=Lq c.w;have ht:=λi (h:i<c.ts.length)=>AI c.w i c.ts[i] (hl _ (WN h))
 obtain⟨w,ts⟩:=c;dsimp only at *;refine wK _ _ _ ?_;refine vw ?_;generalize hQ:(λ(u:AV) (K:SH)=>u=AV.bool (iz (fy ⟨w,ts⟩))/\K=[])=Q;have O:∀b,iz (fy ⟨w,ts⟩)=b->Q (.bool b) []:=λb hb=>by subst hQ;exact⟨by rw[hb],rfl⟩
 clear hQ;cases D:iz (uU w)with
 |false=>
  rw[D]at hw
  repeat' (first|refine sy ?_|refine s2 ?_ ?_|intro)
  all_goals exact O _ (eh λh=>by have:=h.world;rw[fM this]at D;cases D)
 |true=>
  rw[D]at hw;have D:=fo.1 D;by_cases B:ts.length=w.threads.length
  .have e1:decide ((ts.length:Int)≠(w.threads.length:Int))=false:=by simp[B]
   have h4:=D.t4
   repeat' (first|refine sy ?_|refine s2 (λh=>?_) λh=>?_|intro)
   refine cS ts.length (λk=>∀j (h:j<ts.length),j<k->rt w j ts[j]) (λk=>[.pptr [(⟨w,ts⟩:aL).enc] 0 0,.lst (ts.map eG.enc),.YJ ts.length,.YJ k]) YC (λj h hj=>absurd hj (XX _)) rfl (λk S hd hi Y nx hn=>?_) (λk S hd Y nx=>?_)
   all_goals refine vw ?_
   .have hx:=aq (f:=eG.enc) S;have E:=ht k S;have G:¬rt w k ts[k]->Q (.bool false) []:=λh=>O _ (eh λh2=>h (h2.thr k S))
    have hgo:rt w k ts[k]->nx [.pptr [(⟨w,ts⟩:aL).enc] 0 0,.lst (ts.map eG.enc),.YJ ts.length,.YJ ((k+1:Nat):Int)] []:=λh=>hn λj hj hjk=>by
     rcases Fn j k with g|g
     .exact Y j hj g
     .have e:j=k:=by omega
      subst e;exact h
    clear hn Y;generalize ts[k]=c at *;obtain⟨rg,Z⟩:=c;cases M:iz (rt w k ⟨rg,Z⟩)with
    |false=>
     rw[M]at E
     repeat' (first|refine sy ?_|refine s2 ?_ ?_|intro)
     exact G λh=>by rw[fM h]at M;cases M
    |true=>
     rw[M]at E
     repeat' (first|refine sy ?_|refine s2 ?_ ?_|intro)
     exact hgo (fo.1 M)
   .repeat' (first|refine sy ?_|refine s2 ?_ ?_|intro)
    exact O _ (fM ⟨D,B,λj h=>Y j h (by have:j<ts.length:=h;omega)⟩)
  .have e1:decide ((ts.length:Int)≠(w.threads.length:Int))=true:=by simp;omega
   repeat' (first|refine sy ?_|refine s2 ?_ ?_|intro)
   all_goals exact O _ (eh λh=>B h.len)
def iB:RF:=nv (cg Tryz.prog Tryz.f15 [(27022,⟨[2,4,5,6,7],[],true,[]⟩),(12,⟨[2,4,5,6,7],[27022],false,[]⟩)] [(0,[2]),(5,[8,9])])
abbrev oL(Q:R):Vs->SH->Prop:=Jp iB 19 Q 27022 []
abbrev yR(a:Kn):Vs->SH->Kn->Prop:=Lp iB 19 q0 12 [a]
abbrev A4(a b:AV)(L:SH)(Q:R):Prop:=Pc iB 20 Q 0 [] [a,b] L
def yS(u j:AV)(L:SH)(Q:R)(h:A4 u j L Q):ac Tryz.prog 15 [u,j] L Q:=
 fv iB Tryz.func15 h
def lz:RF:=nv (cg Tryz.prog Tryz.f57 [(24,⟨[2,3,43,44,45],[],true,[]⟩),(9,⟨[1,2,3,28,29,30],[],true,[]⟩)] [(0,[1]),(4,[5]),(9,[7])])
abbrev uX(Q:R):Vs->SH->Kn->Prop:=Lp lz 18 Q 24 []
abbrev uY(Q:R):Vs->SH->Kn->Prop:=Lp lz 19 Q 9 []
abbrev Hb(a:AV)(L:SH)(Q:R):Prop:=Pc lz 20 Q 0 [] [a] L
def E1(j:AV)(L:SH)(Q:R)(h:Hb j L Q):ac Tryz.prog 57 [j] L Q:=
 fv lz Tryz.func57 h
def jX:RF:=nv (cg Tryz.prog Tryz.f29 [(36031,⟨[5,6,7],[],true,[]⟩),(12,⟨[2,5,6,7,15,16,17],[36031],false,[]⟩)] [(0,[2]),(5,[9]),(7,[10,11])])
abbrev fF(Q:R):Vs->SH->Prop:=Jp jX 19 Q 36031 []
abbrev sB(a:Kn):Vs->SH->Kn->Prop:=Lp jX 19 q0 12 [a]
abbrev E2(a b:AV)(L:SH)(Q:R):Prop:=Pc jX 20 Q 0 [] [a,b] L
def sC(u j:AV)(L:SH)(Q:R)(h:E2 u j L Q):ac Tryz.prog 29 [u,j] L Q:=
 fv jX Tryz.func29 h
def qe:RF:=nv (cg Tryz.prog Tryz.f33 [(6,⟨[2,3,4,5,13,14],[],true,[]⟩)] [(0,[2,3]),(4,[8,9])])
abbrev E3(Q:R):Vs->SH->Kn->Prop:=Lp qe 19 Q 6 []
abbrev Hd(a b:AV)(L:SH)(Q:R):Prop:=Pc qe 20 Q 0 [] [a,b] L
def E4(u j:AV)(L:SH)(Q:R)(h:Hd u j L Q):ac Tryz.prog 33 [u,j] L Q:=
 fv qe Tryz.func33 h
def sD:RF:=nv (cg Tryz.prog Tryz.f81 [] [(0,[3,4]),(3,[8,9,10]),(6,[11])])
abbrev CJ(a b c:AV)(L:SH)(Q:R):Prop:=Pc sD 20 Q 0 [] [a,b,c] L
def A5(B u j:AV)(L:SH)(Q:R)(h:CJ B u j L Q):ac Tryz.prog 81 [B,u,j] L Q:=
 fv sD Tryz.func81 h
def lB:RF:=nv (cg Tryz.prog Tryz.f131 [(36031,⟨[3,4,6,7,19,49],[],true,[]⟩),(18013,⟨[3,4,6,7,19,20],[],true,[]⟩)] [(0,[3,4])])
abbrev dE(a b c:AV)(L:SH)(Q:R):Prop:=Pc lB 20 Q 0 [] [a,b,c] L
def tF(B u j:AV)(L:SH)(Q:R)(h:dE B u j L Q):ac Tryz.prog 131 [B,u,j] L Q:=
 fv lB Tryz.func131 h
def iY:RF:=nv (cg Tryz.prog Tryz.f58 [(132127,⟨[6,7,9,13],[],true,[]⟩),(111106,⟨[3,5,6,7,9,13,14,17],[],true,[]⟩),(4202,⟨[3,5,6,7,9,13,14,15,16,17],[111106],false,[]⟩),(108103,⟨[3,5,6,7,9,13,14,17,215],[111106],false,[]⟩),(96091,⟨[3,5,6,7,9,12,13,14,17,105,210],[111106],false,[]⟩),(4802,⟨[3,5,6,7,9,12,13,14,15,16,17,105],[111106],false,[]⟩),(2108,⟨[3,5,6,7,9,11,12,74],[],true,[]⟩)] [(0,[3,4,5]),(4,[11]),(10,[15]),(39,[18])])
abbrev cI(Q:R):Vs->SH->Prop:=Jp iY 18 Q 111106 []
abbrev He(a:Kn)(b:SH)(c d e f g h i j k l:AV):Prop:=Pc iY 18 q0 4202 [a] [h,i,j,k,d,c,e,f,g,l] b
abbrev E5(a:Kn)(b:SH)(c d e f g h i j k l m n:AV):Prop:=Pc iY 18 q0 4802 [a] [i,j,k,l,e,n,d,f,g,h,m,c] b
abbrev xV(Q:R)(a b c d e f g h:AV)(i:SH):Prop:=Pc iY 19 Q 2108 [] [c,b,e,f,d,a,g,h] i
abbrev IZ(a b c:AV)(L:SH)(Q:R):Prop:=Pc iY 20 Q 0 [] [a,b,c] L
def Hf(B u j:AV)(L:SH)(Q:R)(h:IZ B u j L Q):ac Tryz.prog 58 [B,u,j] L Q:=
 fv iY Tryz.func58 h
def fB:RF:=nv (cg Tryz.prog Tryz.f111 [(3602,⟨[2,3,6,21,22,23],[9],false,[]⟩),(24,⟨[2,3,6,21,22,23,41,42,43],[9],false,[]⟩),(9,⟨[2,3,21,22,23],[],true,[]⟩)] [(0,[1]),(4,[5])])
abbrev wU(a:Kn)(b:SH)(c d e f g h:AV):Prop:=Pc fB 17 q0 3602 [a] [f,c,d,g,h,e] b
abbrev wV(a:Kn):Vs->SH->Kn->Prop:=Lp fB 18 q0 24 [a]
abbrev mN(Q:R):Vs->SH->Kn->Prop:=Lp fB 19 Q 9 []
abbrev yT(a:AV)(L:SH)(Q:R):Prop:=Pc fB 20 Q 0 [] [a] L
def wW(j:AV)(L:SH)(Q:R)(h:yT j L Q):ac Tryz.prog 111 [j] L Q:=
 fv fB Tryz.func111 h
def oM:RF:=nv (cg Tryz.prog Tryz.f30 [] [(0,[1])])
abbrev yU(a:AV)(L:SH)(Q:R):Prop:=Pc oM 20 Q 0 [] [a] L
def wX(j:AV)(L:SH)(Q:R)(h:yU j L Q):ac Tryz.prog 30 [j] L Q:=
 fv oM Tryz.func30 h
def uZ:RF:=nv (cg Tryz.prog Tryz.f174 [] [])
abbrev E6(a b:AV)(L:SH)(Q:R):Prop:=Pc uZ 20 Q 0 [] [a,b] L
def CK(u j:AV)(L:SH)(Q:R)(h:E6 u j L Q):ac Tryz.prog 174 [u,j] L Q:=
 fv uZ Tryz.func174 h
section
theorem Qc{n a:Int}(h:n=4\/n=5):(Ay n a).2=true:=by unfold Ay;rcases h with rfl|rfl<;>rfl
theorem NU{n a b:Int}(h:6<=n/\n<=18):(jV n a b).2=true:=by
 have:n=6\/n=7\/n=8\/n=9\/n=10\/n=11\/n=12\/n=13\/n=14\/n=15\/n=16\/n=17\/n=18:=by omega
 unfold jV;rcases this with rfl|rfl|rfl|rfl|rfl|rfl|rfl|rfl|rfl|rfl|rfl|rfl|rfl<;>rfl
structure x7(c:eG)(s:aG):Prop where
 regs:(s.regs.length:Int)=c.regs
 taint:(s.taint.length:Int)=c.regs
section
variable {w:aK} {t:Nat} {c:eG} (hP:rt w t c) (hsh:c.ins.length<2^40)
include hP hsh
omit hsh in
theorem Lz{i:az}(hi:i∈c.ins)(Z:i.sil){s:aG}(u:x7 c s):∃s2,aZ i s=some s2/\x7 c s2/\s2.pc=(if i.op=5 then i.a else IntKind.i64.wrap (s.pc+1))/\s2.ev=s.ev:=by
 obtain⟨O,M,rfl⟩:=List.mem_iff_getElem.1 hi;have Y:=hP.ins O M;generalize c.ins[O]=i at *;have hr:=Y.regs;have S:=Y.obj;have has:∀r∈aC i,s.has r=true:=λr D=>by have:=hr r D;have:=u.regs;unfold aG.has;rw[aw];omega
 obtain⟨h1,h5⟩:=Z;have E:i.op=1\/i.op=2\/i.op=3\/i.op=4\/i.op=5:=by omega
 have fit:∀a v l,x7 c (s.put a v l):=λa v l=>⟨by simp[aG.put,u.regs],by simp[aG.put,u.taint]⟩
 unfold aZ;rcases E with e|e|e|e|e
 .have j:=has i.a (by simp[aC,e]);rw[if_pos e,if_pos j];exact⟨_,rfl,fit _ _ _,by simp[e,aG.put],rfl⟩
 .have j:=has i.a (by simp[aC,e]);have B:=has i.b (by simp[aC,e])
  rw[if_neg YC,if_pos e,if_pos (by simp[j,B])];exact⟨_,rfl,fit _ _ _,by simp[e,aG.put],rfl⟩
 .have j:=has i.a (by simp[aC,e]);have B:=has i.b (by simp[aC,e])
  have G:i.n=4\/i.n=5:=by simpa[jh,e]using S
  rw[if_neg YC,if_neg YC,if_pos e,if_pos (by simp[j,B,Qc G])];exact⟨_,rfl,fit _ _ _,by simp[e,aG.put],rfl⟩
 .have j:=has i.a (by simp[aC,e]);have B:=has i.b (by simp[aC,e]);have hc:=has i.c (by simp[aC,e])
  have G:6<=i.n/\i.n<=18:=by simpa[jh,e]using S
  rw[if_neg YC,if_neg YC,if_neg YC,if_pos e,if_pos (by simp[j,B,hc,NU G])];exact⟨_,rfl,fit _ _ _,by simp[e,aG.put],rfl⟩
 .rw[if_neg YC,if_neg YC,if_neg YC,if_neg YC];exact⟨_,rfl,⟨u.regs,u.taint⟩,by simp[e],rfl⟩
theorem NV:∀(m:Nat) {k:Nat} {s:aG},vT c.ins k m->s.pc=k->x7 c s->∀n,m<=n->∃(G:Nat) (i:az) (s2:aG),eV c.ins n s=(s2,true)/\x7 c s2/\s2.pc=G/\c.ins[G]? =some i/\¬i.sil/\s2.ev=s.ev:=by
 intro m
 induction m with
 |zero=>
  intro k s S hp hf n _;cases S with
  |ev _ i B M=>
  have hk:=(Xm.1 B).1;have E:inB s.pc c.ins.length=true:=by rw[aw];omega
  have Y:c.ins.getD s.pc.toNat default=i:=by rw[hp];simp[List.getD,B]
  have D:(c.ins.getD s.pc.toNat default).op<1\/5<(c.ins.getD s.pc.toNat default).op:=by rw[Y];unfold az.sil at M;omega
  refine⟨k,i,s,?_,hf,hp,B,M,rfl⟩;cases n with
  |zero=>unfold eV;rw[if_pos E,if_pos D]
  |succ n=>unfold eV;rw[if_pos E,if_pos D]
 |succ m ih=>
  intro k s S hp hf n hn;obtain⟨n,rfl⟩:∃n',n=n'+1:=⟨n-1,YC⟩;have hk:=S.lt;have E:inB s.pc c.ins.length=true:=by rw[aw];omega
  have O:∀(i:az) (Z:Nat),c.ins[k]? =some i->i.sil->((if i.op=5 then i.a else IntKind.i64.wrap (s.pc+1))=(Z:Int))->vT c.ins Z m->∃(G:Nat) (i:az) (s2:aG),eV c.ins (n+1) s=(s2,true)/\x7 c s2/\s2.pc=G/\c.ins[G]? =some i/\¬i.sil/\s2.ev=s.ev:=by
   intro i Z B M he u;obtain⟨s2,h1,h2,h3,h4⟩:=Lz hP (XC B) M hf;have Y:c.ins.getD s.pc.toNat default=i:=by rw[hp];simp[List.getD,B]
   have D:¬((c.ins.getD s.pc.toNat default).op<1\/5<(c.ins.getD s.pc.toNat default).op):=by rw[Y];unfold az.sil at M;omega
   obtain⟨G,i',s3,r1,r2,r3,r4,r5,r6⟩:=ih u (by rw[h3];exact he) h2 n YC;refine⟨G,i',s3,?_,r2,r3,r4,r5,r6.trans h4⟩;rw[<-Y]at h1;unfold eV;rw[if_pos E,if_neg D,h1];exact r1
  cases S with
  |go _ _ i B M h5 u=>exact O i (k+1) B M (by rw[if_neg h5,hp,WY _ YC];omega) u
  |jump _ _ j i B h5 ha u=>exact O i j B ⟨YC,YC⟩ (by rw[if_pos h5,ha]) u
theorem Hu{k:Nat}{s:aG}(D:k<c.ins.length)(hp:s.pc=k)(j:x7 c s):∃(u:Nat) (i:az) (s2:aG),bu c s=(s2,true)/\x7 c s2/\s2.pc=u/\c.ins[u]? =some i/\¬i.sil/\s2.ev=s.ev:=by obtain⟨m,B⟩:=hP.lans k D;unfold bu;rw[if_pos ⟨j.regs,j.taint⟩];exact NV hP hsh m B hp j _ (Nat.le_of_lt B.bound)
end
end
def vc:RF:=nv (cg Tryz.prog Tryz.f18 [(12,⟨[2,3,5],[],true,[]⟩)] [(0,[2,3])])
abbrev Fc(a b:AV)(L:SH)(Q:R):Prop:=Pc vc 20 Q 0 [] [a,b] L
def CP(u j:AV)(L:SH)(Q:R)(h:Fc u j L Q):ac Tryz.prog 18 [u,j] L Q:=
 fv vc Tryz.func18 h
def lD:RF:=nv (cg Tryz.prog Tryz.f41 [(12,⟨[0,1,5],[],true,[]⟩)] [])
abbrev ve(a b:AV)(L:SH)(Q:R):Prop:=Pc lD 20 Q 0 [] [a,b] L
def tI(u j:AV)(L:SH)(Q:R)(h:ve u j L Q):ac Tryz.prog 41 [u,j] L Q:=
 fv lD Tryz.func41 h
def lF:RF:=nv (cg Tryz.prog Tryz.f79 [] [(0,[2,3])])
abbrev vj(a b:AV)(L:SH)(Q:R):Prop:=Pc lF 20 Q 0 [] [a,b] L
def tJ(u j:AV)(L:SH)(Q:R)(h:vj u j L Q):ac Tryz.prog 79 [u,j] L Q:=
 fv lF Tryz.func79 h
def kC:RF:=nv (cg Tryz.prog Tryz.f39 [(12,⟨[0,1,5],[],true,[]⟩)] [])
abbrev tK(a b:AV)(L:SH)(Q:R):Prop:=Pc kC 20 Q 0 [] [a,b] L
def rI(u j:AV)(L:SH)(Q:R)(h:tK u j L Q):ac Tryz.prog 39 [u,j] L Q:=
 fv kC Tryz.func39 h
def lG:RF:=nv (cg Tryz.prog Tryz.f17 [] [(0,[2,3])])
abbrev vk(a b:AV)(L:SH)(Q:R):Prop:=Pc lG 20 Q 0 [] [a,b] L
def tL(u j:AV)(L:SH)(Q:R)(h:vk u j L Q):ac Tryz.prog 17 [u,j] L Q:=
 fv lG Tryz.func17 h
def lH:RF:=nv (cg Tryz.prog Tryz.f54 [(51046,⟨[1,4,37],[],true,[]⟩),(30025,⟨[1,4,13],[],true,[]⟩),(21016,⟨[1,4,5],[],true,[]⟩)] [(0,[1])])
abbrev vq(a:AV)(L:SH)(Q:R):Prop:=Pc lH 20 Q 0 [] [a] L
def tN(j:AV)(L:SH)(Q:R)(h:vq j L Q):ac Tryz.prog 54 [j] L Q:=
 fv lH Tryz.func54 h
def oh(i:az):ao Tryz.prog 54 [.agg i.enc] (.lst ((aC i).map ah)):=by
 obtain⟨op,u,j,D,n,B⟩:=i;refine ac.fz (tN _ _ _ ?_);refine vw ?_;generalize M:(λ(v:AV) (L:SH)=>∃G O,aE [v] L [G] O/\G=AV.lst ((aC ⟨op,u,j,D,n,B⟩).map ah)/\O=[])=Q;have E:∀(l:List Int),aC ⟨op,u,j,D,n,B⟩=l->∀v L,Fz L v (.lst (l.map ah))->Q v L:=λl S v L h=>by subst M;exact⟨_,[],aE.all h,by rw[S],rfl⟩
 clear M
 repeat' (first|refine sy ?_|refine s2 ?_ ?_|intro)
 all_goals first
  |exact E [u] (by simp_all[aC];done) _ _ (Fz.sls (l:=[u]) (f:=ah) (.head _) rfl YG rfl)
  |exact E [j] (by simp_all[aC];done) _ _ (Fz.sls (l:=[j]) (f:=ah) (.head _) rfl YG rfl)
  |exact E [u,j] (by simp_all[aC];done) _ _ (Fz.sls (l:=[u,j]) (f:=ah) (.head _) rfl YG rfl)
  |exact E [u,D] (by simp_all[aC];done) _ _ (Fz.sls (l:=[u,D]) (f:=ah) (.head _) rfl YG rfl)
  |exact E [j,D] (by simp_all[aC];done) _ _ (Fz.sls (l:=[j,D]) (f:=ah) (.head _) rfl YG rfl)
  |exact E [u,j,D] (by simp_all[aC];done) _ _ (Fz.sls (l:=[u,j,D]) (f:=ah) (.head _) rfl YG rfl)
  |exact E [] (by simp_all[aC];done) _ _ .nils
def vu(l:List Int)(M:l.length<2^62):ao Tryz.prog 80 [.lst (l.map ah),.lst (l.map ah)] (.bool true):=by
 refine vt _ _ _ _ ?_;refine vw ?_;generalize j:(λ(u:AV) (K:SH)=>u=AV.bool true/\K=[])=Q;have E:Q (.bool true) []:=by subst j;exact⟨rfl,rfl⟩
 clear j;have d0:decide ((l.length:Int)≠(l.length:Int))=false:=by simp
 repeat' (first|refine sy ?_|refine s2 ?_ ?_|intro)
 refine cS l.length (λ_=>True) (λi=>[.lst (l.map ah),.lst (l.map ah),.YJ i]) M trivial rfl (λi B O Y _ D G=>?_) (λi B O _ D=>?_)
 all_goals refine vw ?_
 .have S:=aq (f:=ah) B;have Z:decide (l[i]≠l[i])=false:=by simp
  repeat' (first|refine sy ?_|refine s2 ?_ ?_|intro)
  exact G trivial
 .repeat' (first|refine sy ?_|refine s2 ?_ ?_|intro)
  exact E
def kE:RF:=nv (cg Tryz.prog Tryz.f42 [(27,⟨[2,3,6],[],true,[]⟩),(12,⟨[2,3,5],[],true,[]⟩)] [(0,[2,3])])
abbrev tP(a b:AV)(L:SH)(Q:R):Prop:=Pc kE 20 Q 0 [] [a,b] L
def rM(u j:AV)(L:SH)(Q:R)(h:tP u j L Q):ac Tryz.prog 42 [u,j] L Q:=
 fv kE Tryz.func42 h
section
section
variable (c:eG) (s:aG) (U:List Int) (hU:U.length<=2^30) (hr:s.regs.length<2^40) (ht:s.taint.length<2^40) (hsh:∀l∈s.taint,l.length<=2^30) (hsub:∀l∈s.taint,∀x∈l,x∈U) (hc:c.ins.length<2^40)
include hU hr ht hsh hsub hc
end
theorem N9(s:aG)(h1:s.regs.length<2^40)(h2:s.taint.length<2^40)(S:∀l∈s.taint,l.length<=2^30):ao Tryz.prog 42 [.agg s.enc,.agg s.enc] (.bool true):=by
 refine rM _ _ _ _ ?_;refine vw ?_;generalize G:(λ(v:AV) (L:SH)=>v=AV.bool true/\L=[])=Q;have M:Q (.bool true) []:=by subst G;exact⟨rfl,rfl⟩
 clear G;have d1:decide (s.pc≠s.pc)=false:=by simp
 have d2:decide (s.ev≠s.ev)=false:=by simp
 have d3:decide ((s.regs.length:Int)≠(s.regs.length:Int))=false:=by simp
 have d4:decide ((s.taint.length:Int)≠(s.taint.length:Int))=false:=by simp
 repeat' (first|refine sy ?_|refine s2 ?_ ?_|intro)
 refine j8 s.regs.length (λi=>([.pptr [s.enc] 0 0,.pptr [s.enc] 0 0,.YJ i],[])) (λi=>True) trivial rfl rfl ?_;intro i hi _;dsimp only;refine vw ?_;rcases Nat.lt_or_ge i s.regs.length with B|B
 .have O:=a8 B;have Z:=aq (f:=ah) B;have d5:decide (s.regs[i]≠s.regs[i])=false:=by simp
  repeat' (first|refine sy ?_|refine s2 ?_ ?_|intro)
  exact⟨i+1,YC,YC,trivial,dX (by rw[ax B YC]<;>rfl) rfl⟩
 .have O:=bq B
  repeat' (first|refine sy ?_|refine s2 ?_ ?_|intro)
  refine j8 s.taint.length (λi=>([.pptr [s.enc] 0 0,.pptr [s.enc] 0 0,.YJ i],[])) (λi=>True) trivial rfl rfl ?_;intro j hj _;dsimp only;refine vw ?_;rcases Nat.lt_or_ge j s.taint.length with u|u
  .have E:=a8 u;have Y:=aq (f:=bP) u;have D:=vu s.taint[j] (by have:=S _ (WN u);omega)
   repeat' (first|refine sy ?_|refine s2 ?_ ?_|intro)
   exact⟨j+1,YC,YC,trivial,dX (by rw[ax u YC]<;>rfl) rfl⟩
  .have E:=bq u
   repeat' (first|refine sy ?_|refine s2 ?_ ?_|intro)
   exact M
end
def ac.pure{P:Program}{f:FuncId}{args:List AV}{Q:AV->SH->Prop}(h:ac P f args [] Q)(ha:∀a∈args,cE a)(Y:∀u K,Q u K->cE u):∃v K,Q v K/\ao P f args v:=by
 obtain⟨v,H',L',h1,h2,D⟩:=h.2 af.empty (λb _=>gp b) ⟨List.nodup_nil,nofun⟩;have hV:My P f args v:=λw E G hW B=>(h1 w E G hW B).mono λe w' ⟨M,j,he,S,k2,O,k4⟩=>⟨M,j,H',he,S,O⟩
 exact⟨v,L',D,h.1,λH hb Z=>⟨v,H,[],Uc (Y _ _ D) (λi a hi=>ha a (XC hi)) hV H,.refl hb Z,rfl,rfl⟩⟩
def cE.lsts{rows:List (List AV)}(h:∀r∈rows,∀a∈r,cE a):cE (.lst rows):=.lst rows λi r j a B u=>h r (XC B) a (XC u)
def cE.lmap{α:Type}{f:α->List AV}{l:List α}(h:∀x∈l,∀a∈f x,cE a):cE (.lst (l.map f)):=.lsts λr u=>by obtain⟨x,j,rfl⟩:=Xi.1 u;exact h x j
def cE.aggs{cs:List AV}(h:∀a∈cs,cE a):cE (.agg cs):=.agg cs λi a j=>h a (XC j)
def cE.tups{cs:List AV}(h:∀a∈cs,cE a):cE (.tup cs):=.tup cs λi a j=>h a (XC j)
def LX(s:aO):∀a∈av s,cE a:=λa h=>by rw[WP.1 h];exact .str _
mutual
def ae.pure:∀x:ae,∀a∈x.enc,cE a
 | .mk op n name l=>by have:=ae.pures l;simp only[ae.enc,Xk,Xv,false_implies,implies_true,and_true];exact⟨.int _ _,.int _ _,.str _,.lsts this⟩
def ae.pures:∀l:List ae,∀r∈ae.encs l,∀a∈r,cE a
 |[]=>nofun
 | x::l=>by simp only[ae.encs,Xk];exact⟨ae.pure x,ae.pures l⟩
end
mutual
def aa.pure:∀x:aa,∀a∈x.enc,cE a
 | .mk op line name arg index e body els=>by
  have u:=aa.pures body;have j:=aa.pures els
  simp only[aa.enc,Xk,Xv,false_implies,implies_true,and_true];exact⟨.int _ _,.int _ _,.str _,.str _,.lmap λx _=>x.pure,.int _ _,.int _ _,.str _,.lmap λx _=>x.pure,.lsts u,.lsts j⟩
def aa.pures:∀l:List aa,∀r∈aa.encs l,∀a∈r,cE a
 |[]=>nofun
 | x::l=>by simp only[aa.encs,Xk];exact⟨aa.pure x,aa.pures l⟩
end
def aA.pure(d:aA):∀a∈d.enc,cE a:=by simp only[aA.enc,Xk,Xv,false_implies,implies_true,and_true];exact⟨.int _ _,.int _ _,.str _,.int _ _,.int _ _,.str _⟩
def aj.pure(d:aj):∀a∈d.enc,cE a:=by simp only[aj.enc,Xk,Xv,false_implies,implies_true,and_true];exact⟨.str _,.int _ _,.lmap λx _=>LX x,.lmap λx _=>x.pure⟩
def aY.pure(p:aY):cE (.agg p.enc):=.aggs (by
 simp only[aY.enc,Xk,Xv,false_implies,implies_true,and_true];exact⟨.lmap λx _=>x.pure,.lmap λx _=>x.pure⟩)
def HW(e j:Int):cE (.tup [.YJ e,.YJ j]):=.tups (by
 simp only[Xk,Xv,false_implies,implies_true,and_true];exact⟨.int _ _,.int _ _⟩)
def jY{a b:Nat}(h:a+b<2^62):IntKind.i64.wrap ((a:Int)+(b:Int))=((a+b:Nat):Int):=by rw[WY _ YC];omega
def aA.wt_pos(d:aA):1<=d.wt:=by unfold aA.wt;omega
def aj.wt_pos(d:aj):1<=d.wt:=by unfold aj.wt;omega
def aj.local_len(t:aj){i:Nat}(h:i<t.locals.length):t.locals[i].length<t.wt:=by have:=zx (f:=List.length) t.locals i h;unfold aj.wt;omega
def aY.decl_wt(p:aY){i:Nat}(h:i<p.decls.length):p.decls[i].wt<=p.wt:=by have:=zx (f:=aA.wt) p.decls i h;unfold aY.wt;omega
def aY.thread_wt(p:aY){i:Nat}(h:i<p.threads.length):p.threads[i].wt<=p.wt:=by have:=zx (f:=aj.wt) p.threads i h;unfold aY.wt;omega
def aY.decls_len(p:aY):p.decls.length<=p.wt:=by have:=EK aA.wt_pos p.decls;unfold aY.wt;omega
def aY.threads_len(p:aY):p.threads.length<=p.wt:=by have:=EK aj.wt_pos p.threads;unfold aY.wt;omega
def gZ{α:Type}{p:α->Bool}:∀(l:List α) (j:Nat),(iy p l j=-1/\l.find? p=none)\/∃(k:Nat) (h:k<l.length),iy p l j=(j+k:Nat)/\l.find? p=some l[k]
 |[],_=>.inl ⟨rfl,rfl⟩
 | x::l,j=>by
  by_cases h:p x=true
  .exact .inr ⟨0,YF,by simp[iy,h],by simp[h]⟩
  .rcases gZ (p:=p) l (j+1)with⟨h1,h2⟩|⟨k,h1,h2,h3⟩
   .exact .inl ⟨by simp[iy,h,h1],by simp[h,h2]⟩
   .refine .inr ⟨k+1,by simpa using h1,?_,by simpa[h]using h3⟩;simp only[iy,h,W7,if_false,h2];congr 1;omega
def VD{k:IntKind}{a b:Nat}{K:AV->Prop}(h:K (.int k ((max a b:Nat):Int))):W.mnx true (.int k (a:Int)) (.int k (b:Int)) K:=by
 rw[MC];have:(if(b:Int) > a then(b:Int)else a)=((max a b:Nat):Int):=by split<;>omega
 rw[this];exact h
def iE{α:Type}{f:α->List AV}{l:List α}{n i:Nat}{k:IntKind}{L:SH}{K:AV->Prop}(h:K (.lst ((l.take i).map f)))(B:i<=l.length:=by omega)(u:∀x,(f x).length=n:=by intro x;rfl):W.slice n (.lst (l.map f)) none (some (.int k (i:Int))) none L K:=by
 refine qH (l:=0) (h:=i) rfl ?_ (Xq _) (by simpa using B) (λr j=>?_) ?_
 .simp[cZ,mf]
 .cases l with
  |nil=>cases j
  |cons x l=>simp at j;rw[<-j];exact u x
 .simpa[List.map_take]using h
def Jt{k:IntKind}{s:Int}{K:AV->Prop}(h:K (.int k (((max s 1).toNat:Nat):Int))):W.mnx true (.int k s) (.int k 1) K:=by
 rw[MC];have:(if(1:Int) > s then(1:Int)else s)=(((max s 1).toNat:Nat):Int):=by split<;>omega
 rw[this];exact h
structure pk where
 t:Nat
 o1:Option Nat
 ar:List aa
 k:Nat
 o2:Option Nat
 sp:List aO
 o3:Option Nat
 se:List aO
def pk.row(p:aY)(s:pk):List AV:=[.lst (p.decls.map aA.enc),.lst (p.threads.map aj.enc),.YJ s.t,ai s.o1 s.k,ai s.o2 s.sp.length,ai s.o3 s.se.length]
def pk.L(p:aY)(bw:Nat)(s:pk):SH:=(bw,⟨6,[s.row p]⟩)::(ab s.o1 11 (s.ar.map aa.enc)++(ab s.o2 1 (s.sp.map av)++ab s.o3 1 (s.se.map av)))
structure pk.Ok(s:pk)(m:Nat):Prop where
 a0:s.o1=none->s.ar=[]
 ak:s.k<=s.ar.length
 k6:s.k<=6
 p0:s.o2=none->s.sp=[]
 e0:s.o3=none->s.se=[]
 pm:s.sp.length<=m
 em:s.se.length<=m
def ac.permR{P:Program}{f:FuncId}{args:List AV}{L:SH}{Q:AV->SH->Prop}(h:ac P f args L λv j=>∃L'',j.Perm L''/\Q v L''):ac P f args L Q:=⟨h.1,λH B u=>by
 obtain⟨v,M,j,G,E,L'',hp,D⟩:=h.2 H B u;exact⟨v,M,L'',G,E.permS hp,D⟩⟩
def ac.within{P:Program}{f:FuncId}{args:List AV}{K L R:SH}{α:Type}{F:α->AV}(h:ac P f args K λu j=>∃r,u=F r/\j=K)(hp:L.Perm (K++R)):ac P f args L λu j=>∃r,u=F r/\j=L:=
 ac.permR (h.frame hp λv j ⟨r,D,B⟩=>⟨L,by rw[B];exact hp.symm,r,D,rfl⟩)
def aa.wts_succ{l:List aa}{i:Nat}(h:i<l.length):aa.wts (l.take (i+1))=aa.wts (l.take i)+l[i].wt:=by
 rw[LE h];generalize l.take i=m
 induction m with
 |nil=>simp[aa.wts]
 |cons y m j=>simp only[XS,aa.wts,j];omega
def aa.wts_take(l:List aa)(i:Nat):aa.wts (l.take i)<=aa.wts l:=by
 induction l generalizing i with
 |nil=>simp
 | cons x l j=>cases i with
  |zero=>simp[aa.wts]
  |succ i=>have:=j i;simp only[YA,aa.wts];omega
def qQ{o:Option Nat}{k:Nat}{K:AV->Prop}(h:K (.YJ (k:Int)))(j:o=none->k=0):W.len (ai o k) K:=by
 cases o with
 |none=>rw[j rfl]at h;exact ED h
 |some b=>exact Ez h
def HX{KL:R}{L O:SH}{o:Option Nat}{i n by_ M:Nat}{rows m:List (List AV)}{r:List AV}(G:(M,(⟨n,m⟩:Blk))∈L)(S:m=[r])(E:eZ o n rows L O)(j:i<=rows.length)(Z:o=none->rows=[])(B:i<=1000)(u:by_<=1000)(h4:r.all AV.one=true)
  (h:∀b,b∉L.names->KL (.sl b 0 (i+1)) ((b,⟨n,rows.take i++[r]⟩)::O)):W.append n by_ (ai o i) (.sl M 0 1) L KL:=by
 subst S;have e1:2*(i+(0+1))*by_<=2*(1000+1)*1000:=Nat.mul_le_mul YC u
 have e2:2*(0+1)*by_<=2*(0+1)*1000:=Nat.mul_le_mul YC u
 cases o with
 |none=>
  have D:=Z rfl;subst D;obtain rfl:i=0:=by simpa using j
  have Y:=E.none';subst Y;exact EC (KL:=KL) (by_:=by_) (lq G rfl rfl) (by show 2*(0+1)*by_<=2^48;omega) YF (by simpa using h4) YF (λb B=>by simpa using h b B)
 |some b=>
  refine lm (y:=⟨n,rows⟩) (l:=rows.take i) E.some'.mem' rfl (by simpa using j) YF (lq G rfl rfl) ?_ ?_ (by simpa using h4) E.some' (λb' B=>?_)
  .rw[Xb,XF j];simp only[WO,WT];omega
  .rw[Xb,XF j];simp only[WO,WT];omega
  .rw[Xb,XF j];exact h b' B
def Th{α:Type}(a t b:α)(R:List α):(a::t::b::R).Perm ((b::([a]++R))++[t]):=by have h:(a::t::b::R).Perm ([t]++(b::([a]++R))):=(List.Perm.swap t a _).trans ((List.Perm.swap b a R).cons t);exact h.trans W1
def xn{n b k m:Nat}{j:IntKind}{y:Blk}{L:SH}{K:AV->Prop}(h:K (.sl b 0 k))(D:k<=m)(B:(b,y)∈L)(u:y.size=n):W.slice n (.sl b 0 m) none (some (.int j (k:Int))) none L K:=by refine wm (l:=0) (h:=k) rfl (by simp[cZ,mf]) (Xq _) D B u ?_;simpa using h
def Fy:List AV:=[.YJ 0,.YJ 0,.str [],.str [],.nils,.YJ 0,.YJ 0,.str [],.nils,.nils,.nils]
def qv{α:Type}{f:α->Nat}:∀(l:List α) (i:Nat) (h:i<l.length),((l.take i).map f).sum+f l[i]<=(l.map f).sum
 |x::l,0,_=>by simp
 |x::l,i+1,h=>by have:=qv (f:=f) l i (by simpa using h);simp only[XY,YA,WS,XO];omega
def l8{α:Type}{f:α->Nat}{l:List α}{i:Nat}(h:i<l.length):((l.take (i+1)).map f).sum=((l.take i).map f).sum+f l[i]:=by rw[LE h,WL,List.sum_append];simp
def bT{α:Type}(f:α->Nat)(l:List α):Nat:=(l.map f).sum
def dI{α:Type}{f:α->Nat}{l:List α}{i:Nat}(h:i<l.length):bT f (l.take (i+1))=bT f (l.take i)+f l[i]:=l8 h
def oq{α:Type}(f:α->Nat)(l:List α)(i:Nat):bT f (l.take i)<=bT f l:=by
 unfold bT
 induction l generalizing i with
 |nil=>simp
 | cons x l j=>cases i with
  |zero=>simp
  |succ i=>have:=j i;simp only[YA,WS,XO];omega
def BJ{α:Type}{f g:α->Nat}(h:∀x,f x<=g x)(l:List α):bT f l<=bT g l:=by
 unfold bT
 induction l with
 |nil=>simp
 |cons x l j=>have:=h x;simp only[WS,XO];omega
def qR{P:Program}{g:FuncId}{args:List AV}{K M L:SH}{j:AV->SH->Prop}{KL:R}(h:ac P g args K j)(D:L.Perm (K++M))(B:∀v u,j v u->∃L'',(u++M).Perm L''/\KL v L''):W.callM P g args L KL:=⟨ac.permR (h.frame D B)⟩
def zF{n:Nat}{rows:List (List AV)}:ab none n rows=[]:=rfl
def zG{b n:Nat}{rows:List (List AV)}:ab (some b) n rows=[(b,⟨n,rows⟩)]:=rfl
def iF{P:Program}{g:FuncId}{args:List AV}{i:Nat}{L:SH}{j:AV->SH->List Nat->Prop}(h:W.callM P g args L (λv K=>∀u,j v K u)):W.dcallM P [] i g args L j:=
 ⟨L,[],YF,nofun,h.1.mono λv D B=>by simpa using B _⟩
mutual
def aa.cnt:aa->Nat
 |.mk _ _ _ _ _ _ body els=>aa.cnts body+aa.cnts els
def aa.cnts:List aa->Nat
 |[]=>0
 |x::l=>1+x.cnt+aa.cnts l
end
def aa.cnt_eq(x:aa):x.cnt=aa.cnts x.body+aa.cnts x.els:=by cases x;rfl
def aa.cnts_eq:∀l:List aa,aa.cnts l=l.length+(l.map aa.cnt).sum
 |[]=>rfl
 |x::l=>by rw[aa.cnts,aa.cnts_eq l];simp;omega
mutual
def aa.cnt_wt:∀x:aa,x.cnt<x.wt
 |.mk a b c d e f j u=>by have:=aa.cnts_wt j;have:=aa.cnts_wt u;simp only[aa.cnt,aa.wt];omega
def aa.cnts_wt:∀l:List aa,aa.cnts l<=aa.wts l
 |[]=>Fd _
 |x::l=>by have:=aa.cnt_wt x;have:=aa.cnts_wt l;simp only[aa.cnts,aa.wts];omega
end
def eJ(b:UInt8):List AV:=[.int .u8 (b.toNat:Int)]
def vD:RF:=nv (cg Tryz.prog Tryz.f6 [] [])
abbrev FB(a b:AV)(L:SH)(Q:R):Prop:=Pc vD 20 Q 0 [] [a,b] L
def Dd(u j:AV)(L:SH)(Q:R)(h:FB u j L Q):ac Tryz.prog 6 [u,j] L Q:=
 fv vD Tryz.func6 h
def qy:RF:=nv (cg Tryz.prog Tryz.f10 [(9,⟨[0,3,4],[],true,[]⟩)] [])
abbrev BK(a:AV)(L:SH)(Q:R):Prop:=Pc qy 20 Q 0 [] [a] L
def zd(j:AV)(L:SH)(Q:R)(h:BK j L Q):ac Tryz.prog 10 [j] L Q:=
 fv qy Tryz.func10 h
section
open Go.ChangeShapes Go.WideShapes Go.ChangeAt Go.RowKit
def Mk:bR:=⟨λ_=>none,λ_=>False⟩
def Ml:Nat->Prop:=λ_=>False
def V3{α:Type}(e:α->List AV)(G:α->Prop):Rel α:=λw _ x cs=>G x/\fP w Mk Ml (e x) cs
theorem Il{w:World}{σ:bR}{T:Nat->Prop}{a:AV}{v:Value}(h:bN w σ T a v):fP w σ T [a] [v]:=⟨rfl,λi x u j B=>by
 match i with
 |0=>cases j;cases B;exact h
 |i+1=>simp at j⟩
theorem qY{w:World}{σ:bR}{T:Nat->Prop}{a:AV}{v:Value}{l:List AV}{m:List Value}(h:fP w σ T [a] [v])(j:fP w σ T l m):fP w σ T (a::l) (v::m):=⟨by simp[j.1],λi x u D B=>by
 match i with
 |0=>exact h.2 0 x u D B
 |i+1=>exact j.2 i x u (by simpa using D) (by simpa using B)⟩
theorem Im{w:World}{σ:bR}{T:Nat->Prop}:fP w σ T [] []:=⟨rfl,λi x u j B=>by simp at j⟩
section
variable {H:Type} {enc:TypeId×Value->H} {P:Program} {w:World} {base:Nat} {spare:Nat->Bool} {held:Bool}
theorem TW{t:TypeId}{k:IntKind}(ht:P.underlying t=some (.int k)):Opens H enc P w base spare held t (V3 (λn:Int=>[.int k n]) λn=>(Lit.int k n).wf=true):=λj B x h=>by obtain⟨n,rfl,u⟩:=opens_int ht j B x h;exact⟨n,u,Il (.int k n)⟩
theorem Pf{α:Type}{t e:TypeId}{size:Nat}{f:α->List AV}{G:α->Prop}(ht:P.underlying t=some (.slice e))(hc:P.cellsOf e=size)(hs:0<size)(he:Opens H enc P w base spare held e (V3 f G)):
  Opens H enc P w base spare held t (V3 (λl:List α=>[.lst (l.map f)]) λl=>l.length<=maxLen/\∀x∈l,G x):=λY cs x h=>by
 obtain⟨l,A,c,rfl,h1,h2,h3⟩:=opens_slice ht hc hs he Y cs x h;refine⟨l,⟨YC,λx M=>?_⟩,Il ?_⟩
 .obtain⟨i,hi,rfl⟩:=XJ M;obtain⟨b,o,_,_,B⟩:=h3 YC;obtain⟨E,_,hR,_⟩:=B i l[i] (mt hi);exact hR.1
 .rcases XH l.length with Z|Z
  .have:l=[]:=XA.1 Z;subst this;exact .lst0 A c h2
  .obtain⟨b,o,rfl,hb,B⟩:=h3 Z;have:=bN.lst (w:=w) (σ:=Mk) (T:=Ml) (l.map f) b o size c ⟨λh=>h,λi r D=>?_,λi j hi hj=>?_,hs,by simpa using Z⟩ (by simpa using h1) h2 (λi r j a u D ha hu=>?_)
   .simpa using this
   .rw[W6]at D;cases M:l[i]? with
    |none=>rw[M]at D;cases D
    |some y=>rw[M]at D;cases D;obtain⟨E,k1,O,_⟩:=B i y M;rw[O.2.1,k1]
   .have hi':i<l.length:=by simpa using hi
    obtain⟨E,k1,O,k3⟩:=B i l[i] (mt hi');exact⟨E[j],k3 j _ (mt YC)⟩
   .rw[W6]at D;cases M:l[i]? with
    |none=>rw[M]at D;cases D
    |some y=>
     rw[M]at D;cases D;obtain⟨E,k1,O,k3⟩:=B i y M;have hj:j<E.length:=by rw[<-O.2.1];exact aF ha
     have S:=k3 j _ (mt hj);rw[hu]at S;cases S;exact O.2.2 j a _ ha (mt hj)
end
theorem Ee{P:Program}{f:FuncId}{args:List AV}{vs:List Value}(h:ao P f args (.bool true))(w:World)(S:fP w Mk Ml args vs)(hG:jy w Ml:=by exact λg r h=>by cases h):Calls P f vs.toArray w λe w'=>e=.returned (.bool true)/\Below w.heap.size w w':=by
 obtain⟨v,H',L',h1,h2,rfl,rfl⟩:=h.2 af.empty (λb _=>gp b) ⟨List.nodup_nil,λp hp=>by simp at hp⟩;have j:bB Mk af.empty=Ml:=by
  funext c;apply propext;constructor
  .rintro(h|⟨b,x,D,E,_,_⟩)
   .exact h
   .rw[gp]at E;cases E
  .exact λh=>h.elim
 have hW:bQ w Mk af.empty:=⟨λb D u=>(by cases u),λb D u=>(by cases u),λb x u=>(by rw[gp]at u;cases u),λc Z=>Z.elim,λb b' x x' D M u=>(by rw[gp]at u;cases u),by rw[j];exact hG⟩;refine(h1 w Mk vs hW (by rw[j];exact S)).mono ?_;rintro e w' ⟨v',G,rfl,O,k2,B,_⟩;cases O;rw[j]at B;exact⟨rfl,B.os,B.tape,B.output,B.size,λk Y=>B.keep k Y λh=>h⟩
end
section
open Go.ChangeShapes Go.WideShapes Go.ChangeAt Go.RowKit
def Pg{H:Type}{enc:TypeId×Value->H}{P:Program}{w:World}{base:Nat}{j:Nat->Bool}{B:Bool}{fuel:Nat}{t e:TypeId}{n:Nat}{cs:List Value}{ds:List (DataW H)}{q:List MemPlace}(ht:P.underlying t=some (.array n e))(Z:P.cellsOf e=1)(hn:P.cellsOf t=n)(h:DataW.trod enc P w base j B fuel t cs=some (.agg ds,q)){i:Nat}{d:DataW H}(E:ds[i]? =some d):
  ∃m c y,cs[i]? =some c/\DataW.trod enc P w base j B m e [c]=some (d,y):=by
 obtain⟨xs,m,_,O,hl,G,M⟩:=DataW.trod_array ht h;simp only[Prod.mk.injEq,DataW.agg.injEq]at O;rw[O.1,W6]at E;cases u:xs[i]? with
 |none=>rw[u]at E;cases E
 |some x=>
  rw[u]at E;cases E;have Y:i<n:=by rw[<-G];exact(Xm.1 u).1
  have D:i<cs.length:=by omega
  have S:=M i Y;rw[Z,Nat.mul_one,u,X0 D,YA,List.take_zero]at S;exact⟨m,cs[i],x.2,mt D,S⟩
def QO{P:Program}{w:World}{fuel:Nat}{t e:TypeId}{n:Nat}{cs:Array Value}{l:List Int}{q:List MemPlace}{g:Nat}{M:String}(hg:P.globalNamed M=some g)(Y:w.var? P M=some cs)(ht:P.underlying t=some (.array n e))(hc:P.cellsOf e=1)(Z:P.cellsOf t=n)(he:P.underlying e=some (.int .i64))(h:DataW.trod (λ_=>()) P w 0 (λ_=>true) false fuel t cs.toList=some (.agg (l.map λn=>.lit (.int .i64 n)),q))(j:Nat)(a:AV)(B:(l.map λn=>AV.int .i64 n)[j]? =some a):∃u,w.cell? ⟨g,j,none⟩=some u/\FV u=some a:=by
 rw[W6]at B;cases E:l[j]? with
 |none=>rw[E]at B;cases B
 |some v=>
  rw[E]at B;cases B;obtain⟨m,c,y,G,D⟩:=Pg ht hc Z h (i:=j) (d:=.lit (.int .i64 v)) (by rw[W6,E];rfl);obtain⟨k,S,O,_⟩:=DataW.trod_int he D;simp only[List.cons.injEq,and_true]at S;simp only[Prod.mk.injEq,DataW.lit.injEq,Lit.int.injEq,true_and]at O;refine⟨c,?_,?_⟩
  .rw[World.var?_cell hg Y j,<-Array.getElem?_toList,G]
  .rw[S,<-O.1];rfl
def QP{P:Program}{w:World}{fuel:Nat}{t e:TypeId}{n:Nat}{cs:Array Value}{l:List (List UInt8)}{q:List MemPlace}{g:Nat}{M:String}(hg:P.globalNamed M=some g)(Y:w.var? P M=some cs)(ht:P.underlying t=some (.array n e))(hc:P.cellsOf e=1)(Z:P.cellsOf t=n)(he:P.underlying e=some .string)(h:DataW.trod (λ_=>()) P w 0 (λ_=>true) false fuel t cs.toList=some (.agg (l.map λn=>.lit (.string n)),q))(j:Nat)(a:AV)(B:(l.map AV.str)[j]? =some a):∃u,w.cell? ⟨g,j,none⟩=some u/\FV u=some a:=by
 rw[W6]at B;cases E:l[j]? with
 |none=>rw[E]at B;cases B
 |some v=>
  rw[E]at B;cases B;obtain⟨m,c,y,G,D⟩:=Pg ht hc Z h (i:=j) (d:=.lit (.string v)) (by rw[W6,E];rfl);obtain⟨k,S,O,_⟩:=DataW.trod_string he D;simp only[List.cons.injEq,and_true]at S;simp only[Prod.mk.injEq,DataW.lit.injEq,Lit.string.injEq]at O;refine⟨c,?_,?_⟩
  .rw[World.var?_cell hg Y j,<-Array.getElem?_toList,G]
  .rw[S,O.1];rfl
def VT:(Tryz.prog.globals[1]?).map (·.type)=some 255:=by kernel_rfl
def TX:(Tryz.prog.globals[0]?).map (·.type)=some 210:=by kernel_rfl
def VU : Tryz.prog.globalNamed "interleave/token.keywords" = some 1 := by kernel_rfl
def TY : Tryz.prog.globalNamed "interleave/run.kinds" = some 0 := by kernel_rfl
def KO {W : World} (h : laidMetH Tryz.prog [("interleave/token.keywords", Rows.laid_interleave_token_keywords), ("interleave/run.kinds", Rows.laid_interleave_run_kinds)] W) : jy W Ml := by
 rw[MakeChecks.laidMetH_plain _ _ _ (by kernel_rfl)]at h;obtain⟨ps,⟨g0,t0,cs0,f0,p0,q0,hg0,ht0,hv0,hd0,⟨g1,t1,cs1,f1,p1,q1,hg1,ht1,hv1,hd1,_,_⟩,_⟩,_,_⟩:=h;obtain rfl:=Yf (VU.symm.trans hg0);obtain rfl:=Yf (TY.symm.trans hg1);obtain rfl:=Yf (VT.symm.trans ht0);obtain rfl:=Yf (TX.symm.trans ht1);intro g r hg;unfold VW at hg;split at hg
 .rename_i e;subst e;cases hg;exact⟨λh=>h,YG,QO hg1 hv1 Tryz.underlying210 (by kernel_rfl) (by kernel_rfl) Tryz.underlying3 hd1⟩
 .split at hg
  .rename_i e;subst e;cases hg;exact⟨λh=>h,YG,QP hg0 hv0 Tryz.underlying255 (by kernel_rfl) (by kernel_rfl) Tryz.underlying9 hd0⟩
  .cases hg
end
