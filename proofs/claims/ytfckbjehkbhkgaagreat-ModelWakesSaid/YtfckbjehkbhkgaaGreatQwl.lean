/- part -/
import Derived.Test.YtfckbjehkbhkgaaGreatQwj
import Derived.WalkSpells
import Derived.Deep.DeepMust
set_option linter.all false
set_option maxRecDepth 100000
set_option maxHeartbeats 0
namespace Go.Proofs.YtfckbjehkbhkgaaGreat.Am
def HO{j:AV->SH->List Nat->Prop}{us:List W.WR}{i:Nat}{g:FuncId}{args:List AV}{L:SH}{R:AV->SH->Prop}(h:ac Tryz.prog g args [] R)(E:∀x∈us,W.free x ⟨i,[],[],[],true,[]⟩)(D:∀v K,R v K->j v (K++L) []):W.dcallM Tryz.prog us i g args L j:=
 ⟨[],L,.refl _,E,h.mono λu K B=>D u K B⟩
def Gg(Q:R)(x15 x16 x17:AV)(L14:SH):Prop:=
 W.faddr 0 x15 λx45=>W.store 1 x45 x17 L14 λL46=>Qi 2 x15 L46 λx48=>wc (.fn 51 []) [x48] L46 (Al Q x15 x16)
def pw(q:Nat)(o:Option Nat)(j:Nat)(l:LockD):List AV:=if j=q then [.acU l.owner,af o l.readers.length]else l.enc
def cV(q:Nat)(o:Option Nat)(ls:List LockD):List (List AV):=ls.zipIdx.map λp=>pw q o p.2 p.1
def dh(q:Nat)(o:Option Nat)(j:List LockD):(cV q o j).length=j.length:=by simp[cV]
def iq(q:Nat)(o:Option Nat)(u:List LockD)(j:Nat)(B:j<u.length):(cV q o u)[j]? =some (pw q o j u[j]):=by simp[cV,B]
def IT(q:Nat)(o:Option Nat)(ls:List LockD)(k:Nat):SH:=if q<k then ab o 1 ((ls.getD q default).readers.map aa)else []
def CG:List AV:=[.acU 0,.nils]
def lP(q:Nat)(o:Option Nat)(ls:List LockD)(k:Nat):List (List AV):=(cV q o ls).take k++List.replicate (ls.length-k) CG
def O2(q:Nat)(o:Option Nat)(j:List LockD)(k:Nat)(u:k<=j.length):(lP q o j k).length=j.length:=by simp[lP,dh];omega
def O3(q:Nat)(o E:Option Nat)(B:List LockD)(k:Nat)(h:k<=q\/o=E):(cV q o B).take k=(cV q E B).take k:=by
 rcases h with h|rfl
 .apply acp;intro j;rcases LE j k with D|D
  .rw[abJ D,abJ D];rcases LE j B.length with u|u
   .rw[iq _ _ _ _ u,iq _ _ _ _ u];simp[pw,show j≠q by omega]
   .rw[aah (by rw[dh];exact u),aah (by rw[dh];exact u)]
  .rw[aah acS,aah acS]
 .rfl
def Gh(q:Nat)(o u:Option Nat)(j:List LockD)(k:Nat)(D:k<j.length)(h:k<=q\/o=u):(lP q o j k).set k (pw q u k j[k])=lP q u j (k+1):=by
 unfold lP;have G:((cV q o j).take k).length=k:=by simp[dh];omega
 rw[List.set_append_right _ _ acN,G,Nat.sub_self];obtain⟨m,E⟩:∃m,j.length-k=m+1:=⟨j.length-k-1,acN⟩;rw[E,List.replicate_succ,List.set_cons_zero,O3 q o u j k h];have B:k<(cV q u j).length:=by rw[dh];exact D
 rw[Fn B,show j.length-(k+1)=m by omega];have:(cV q u j)[k]=pw q u k j[k]:=by have:=iq q u j k D;rw[mt B]at this;exact Option.some.inj this
 rw[this];simp
def Ra(q:Nat)(o:Option Nat)(j:List LockD)(k:Nat)(D:k<j.length):(lP q o j k)[k]? =some CG:=by
 unfold lP;have B:((cV q o j).take k).length=k:=by simp[dh];omega
 rw[aaL acN,B,Nat.sub_self];obtain⟨m,u⟩:∃m,j.length-k=m+1:=⟨j.length-k-1,acN⟩;rw[u];rfl
structure Rb(s:SyncD)(q:Nat)(v:AV)(L:SH):Prop where
 ex:∃(bl:Nat) (o od ot:Option Nat),v=.agg [.sl bl 0 s.locks.length,.acU s.tx,cU od s.done.length,cU ot s.threads.length]/\
  L=(bl,⟨2,cV q o s.locks⟩)::(IT q o s.locks s.locks.length++(ab od 1 (s.done.map au)++ab ot 3 (s.threads.map ThrD.enc)))/\(od=none->s.done=[])/\(ot=none->s.threads=[])/\(o=none->q<s.locks.length->(s.locks.getD q default).readers=[])
def Mj(s:SyncD)(q E b2 D:Nat)(h1:s.locks.length<2^40)(hrd:∀l∈s.locks,l.readers.length<2^40)(Q:AV->SH->Prop)
  (S:∀o:Option Nat,(o=none->q<s.locks.length->(s.locks.getD q default).readers=[])->Gg Q (.ptr E 0 0) (.ptr b2 0 0) (.sl D 0 s.locks.length) ((D,⟨2,cV q o s.locks⟩)::(b2,⟨4,[[.nils,.acU 0,.nils,.nils]]⟩)::(E,⟨4,[s.enc]⟩)::IT q o s.locks s.locks.length)) :
  W.loop (An Q) [.ptr E 0 0,.ptr b2 0 0,.sl D 0 s.locks.length,.lst (s.locks.map LockD.enc),.acU s.locks.length,.acU (0:Nat)] [(D,⟨2,List.replicate s.locks.length CG⟩),(b2,⟨4,[[.nils,.acU 0,.nils,.nils]]⟩),(E,⟨4,[s.enc]⟩)]:=by
 refine aL s.locks.length (λk (o:Option Nat)=>([.ptr E 0 0,.ptr b2 0 0,.sl D 0 s.locks.length,.lst (s.locks.map LockD.enc),.acU s.locks.length,.acU k],(D,⟨2,lP q o s.locks k⟩)::(b2,⟨4,[[.nils,.acU 0,.nils,.nils]]⟩)::(E,⟨4,[s.enc]⟩)::IT q o s.locks k)) (λk o=>o=none->q<k->(s.locks.getD q default).readers=[]) none (λ_ h=>by omega) (fR rfl (by simp[lP,IT])) ?_;intro k o hk ho;dsimp only;refine vw ?_;rcases Nat.lt_or_ge k s.locks.length with u|u
 .have hd:=aS u;have hx:=aj (f:=LockD.enc) u;have hz:=Ra q o s.locks k u;have hkl:k<(lP q o s.locks k).length:=by rw[O2 _ _ _ _ hk];exact u
  have Z:(s.locks[k]).readers.length*8<=140737488355328:=by have:=hrd _ (LT u);omega
  repeat' (first|refine sy ?_|intro)
  refine HO (rP _ Z) (by simp[rm,rz,W.free,ai]) ?_;rintro v K ⟨B,rfl,rfl,N⟩
  skip
  have fin:∀(L:SH),L=ab B 1 ((s.locks[k]).readers.map aa)++((D,⟨2,(lP q o s.locks k).set k [.acU (s.locks[k]).owner,af B (s.locks[k]).readers.length]⟩)::(b2,⟨4,[[.nils,.acU 0,.nils,.nils]]⟩)::(E,⟨4,[s.enc]⟩)::IT q o s.locks k)->
    ∃j Y,k<j/\j<=s.locks.length/\(Y=none->q<j->(s.locks.getD q default).readers=[])/\ax [.ptr E 0 0,.ptr b2 0 0,.sl D 0 s.locks.length,.lst (s.locks.map LockD.enc),.acU s.locks.length,.acU (IntKind.i64.wrap ((k:Int)+1))] L
     [.ptr E 0 0,.ptr b2 0 0,.sl D 0 s.locks.length,.lst (s.locks.map LockD.enc),.acU s.locks.length,.acU j] ((D,⟨2,lP q Y s.locks j⟩)::(b2,⟨4,[[.nils,.acU 0,.nils,.nils]]⟩)::(E,⟨4,[s.enc]⟩)::IT q Y s.locks j):=by
   intro L hL;subst hL;rw[av u acN];by_cases O:k=q
   .subst O;refine⟨k+1,B,acN,acN,λe _=>by simpa[List.getD,u]using N e,?_⟩;rw[<-Gh k o B s.locks k u (.inl (Fd _))];have e1:IT k o s.locks k=[]:=by simp[IT]
    have e2:IT k B s.locks (k+1)=ab B 1 ((s.locks[k]).readers.map aa):=by simp[IT,List.getD,u]
    have e3:pw k B k s.locks[k]=[.acU (s.locks[k]).owner,af B (s.locks[k]).readers.length]:=by simp[pw]
    rw[e1,e2,e3];exact ax.forget (K:=[]) aar
   .refine⟨k+1,o,acN,acN,λe hq=>ho e acN,?_⟩;have e1:IT q o s.locks (k+1)=IT q o s.locks k:=by
     by_cases hq:q<k
     .simp[IT,hq,show q<k+1 by omega]
     .simp[IT,hq,show¬q<k+1 by omega]
    rw[e1,<-Gh q o o s.locks k u (.inr rfl)];have e3:pw q o k s.locks[k]=[.acU (s.locks[k]).owner,.lst ((s.locks[k]).readers.map aa)]:=by simp[pw,O,LockD.enc]
    rw[e3];refine ax.row (K:=ab B 1 ((s.locks[k]).readers.map aa)) (.refl _) acQ ?_;intro j r r' M G;rw[abs]at M G;by_cases hj:k=j
    .rw[if_pos hj]at M G;rw[if_pos acN]at M G;cases M;cases G;refine .cons (.refl _) (.cons ?_ .nil);exact Fz.slot (f:=aa) rfl (λe=>by rw[N e];rfl) acR (λy _=>rfl) (λy _ q a a2 h1 h2=>by rw[h1]at h2;cases h2;exact .refl _)
    .rw[if_neg hj]at M G;rw[M]at G;cases G;exact fy.refl _ _
  cases B with
  |none=>
   dsimp only[ab,af,List.nil_append]at fin ⊢
   repeat' (first|refine sy ?_|intro)
   exact fin _ rfl
  |some b'=>
   dsimp only[ab,af,List.cons_append,List.nil_append]at fin ⊢
   repeat' (first|refine sy ?_|intro)
   exact fin _ rfl
 .have hd:=aW u;have hk0:k=s.locks.length:=by omega
  subst hk0;have:=S o ho;rw[show lP q o s.locks s.locks.length=cV q o s.locks by simp[lP,dh,aaT]];refine kH (QI ?_);refine WF (Jz hd ?_);refine vw ?_;exact this
def Gi{s:SyncD}(j:s.threads.length<2^40):s.threads.length*24<=140737488355328:=by omega
def J5(s:SyncD)(q:Nat)(h1:s.locks.length<2^40)(h2:s.done.length<=140737488351232)(h3:s.threads.length<2^40)(G:∀l∈s.locks,l.readers.length<2^40):
  ac Tryz.prog 78 [.agg s.enc] [] (Rb s q):=by
 refine ac.fz (Ao _ _ _ ?_);refine vw ?_;generalize hQ:(λ(v:AV) (L:SH)=>∃Y L2,ax [v] L [Y] L2/\Rb s q Y L2)=Q
 repeat' (first|refine sx ?_|refine sb λE Z=>?_|fail)
 rename_i S _ O _;revert E;intro D _;refine Mj s q S O D h1 G Q ?_;intro o ho;unfold Gg
 repeat' (first|refine sy ?_|intro)
 refine fm (rQ _ acN) ?_;rintro v K ⟨B,rfl,rfl,M⟩;refine vw ?_;have fin:∀(v:AV) (L:SH) (u:Option Nat),(u=none->s.threads=[])->v=.agg [.sl D 0 s.locks.length,.acU s.tx,cU B s.done.length,cU u s.threads.length]->
   (∃x y:Blk,L=(D,⟨2,cV q o s.locks⟩)::(O,x)::(S,y)::(IT q o s.locks s.locks.length++ab B 1 (s.done.map au)++ab u 3 (s.threads.map ThrD.enc)))->Q v L:=by
  rintro v L u j rfl ⟨x,y,rfl⟩;subst hQ;refine⟨_,_,ax.forget (K:=[(O,x),(S,y)]) (R:=(D,⟨2,cV q o s.locks⟩)::(IT q o s.locks s.locks.length++ab B 1 (s.done.map au)++ab u 3 (s.threads.map ThrD.enc))) ?_,⟨D,o,B,u,rfl,by rw[abr],M,j,ho⟩⟩;exact(List.Perm.swap _ _ _).trans ((List.Perm.swap _ _ _).cons _)
 cases B with
 |none=>
  dsimp only[cU]at fin ⊢
  repeat' (first|refine sy ?_|intro)
  refine fm (yu _ (Gi h3)) ?_;rintro v K ⟨u,rfl,rfl,j⟩;refine vw ?_;cases u with
  |none=>
   dsimp only[cU]at fin ⊢
   repeat' (first|refine sy ?_|intro)
   exact fin _ _ none j rfl ⟨_,_,rfl⟩
  |some N=>
   dsimp only[cU]at fin ⊢
   repeat' (first|refine sy ?_|intro)
   exact fin _ _ (some N) j rfl ⟨_,_,rfl⟩
 |some bd=>
  dsimp only[cU]at fin ⊢
  repeat' (first|refine sy ?_|intro)
  refine fm (yu _ (Gi h3)) ?_;rintro v K ⟨u,rfl,rfl,j⟩;refine vw ?_;cases u with
  |none=>
   dsimp only[cU]at fin ⊢
   repeat' (first|refine sy ?_|intro)
   exact fin _ _ none j rfl ⟨_,_,rfl⟩
  |some N=>
   dsimp only[cU]at fin ⊢
   repeat' (first|refine sy ?_|intro)
   exact fin _ _ (some N) j rfl ⟨_,_,rfl⟩
section
def eR(T:List ThrD)(c:Int)(i:Nat):Bool:=bH (T.getD i default) c
def aJ(T:List ThrD)(c:Int)(n:Nat):List Nat:=(List.range n).filter λi=>eR T c i
def bB(l:List Nat)(wake:Int):Int:=match l with
 |[]=>-1
 |u::l=>if(u::l).any (λx=>decide ((x:Int)=wake))then wake else u
def da(T:List ThrD)(c wake:Int):Int:=bB (aJ T c T.length) wake
def gj(T:List ThrD)(i:Nat)(st:Int):List ThrD:=T.set i {T.getD i default with status:=st}
def fI(T:List ThrD)(c wake:Int):List ThrD:=if 0<=da T c wake then gj T (da T c wake).toNat 4 else T
theorem uD{l:List Nat}{wake:Int}(h:0<=bB l wake):(bB l wake).toNat∈l:=by
 cases l with
 |nil=>simp[bB]at h
 |cons u l=>
  simp only[bB]at h ⊢;split
  .rename_i D;obtain⟨x,j,B⟩:=acw.1 D;have:=of_decide_eq_true B;rw[<-this];simpa using j
  .simp
theorem CH(l:List Nat)(wake:Int):bB l wake=-1\/0<=bB l wake:=by
 cases l with
 |nil=>simp[bB]
 |cons u l=>
  right;simp only[bB];split
  .rename_i B;obtain⟨x,D,j⟩:=acw.1 B;have:=of_decide_eq_true j;omega
  .omega
theorem J6(l:List Nat)(i:Nat)(wake:Int):bB (l++[i]) wake=if bB l wake<0\/(i:Int)=wake then(i:Int)else bB l wake:=by
 cases l with
 |nil=>simp only[bB,abK];split<;>simp_all
 |cons u l=>
  have j:=CH (u::l) wake;simp only[abX];rw[bB,<-List.cons_append,List.any_append];by_cases E:(i:Int)=wake
  .simp[E]
  .by_cases B:(u::l).any (λx=>decide ((x:Int)=wake))=true
   .have D:bB (u::l) wake=wake:=by simp only[bB];rw[if_pos B]
    rw[D]at j ⊢;obtain⟨x,M,G⟩:=acw.1 B;have:=of_decide_eq_true G;rw[B,Bool.true_or,if_pos rfl,if_neg acN]
   .have D:bB (u::l) wake=u:=by simp only[bB];rw[if_neg B]
    rw[D,if_neg (by simp only[Bool.or_eq_true,not_or];exact⟨B,by simp[E]⟩),if_neg acN]
theorem iF(T:List ThrD)(c:Int)(n:Nat):aJ T c (n+1)=aJ T c n++(if eR T c n then [n]else []):=by simp only[aJ,List.range_succ,acK,List.filter_cons,List.filter_nil]
theorem uE{T:List ThrD}{c:Int}{n x:Nat}(h:x∈aJ T c n):x<n:=by simp only[aJ,acn,acd]at h;exact h.1
theorem A3(T:List ThrD)(i:Nat)(st:Int)(j:i<T.length):(T.map ThrD.enc).set i ((ThrD.enc T[i]).set 0 (.acU st))=(gj T i st).map ThrD.enc:=by unfold gj;rw[abT];congr 1;simp[List.getD,j,ThrD.enc]
section
variable (a b d:AV) (bt:Nat)
theorem O4(T:List ThrD)(c wake:Int)(hT:T.length<2^40)(S:([a,b,d,.sl bt 0 T.length]:List AV).all AV.one=true):
  ac Tryz.prog 83 [.agg [a,b,d,.sl bt 0 T.length],.acU c,.acU wake] [(bt,⟨3,T.map ThrD.enc⟩)] λv L=>v=.acU (da T c wake)/\L=[(bt,⟨3,(fI T c wake).map ThrD.enc⟩)]:=by
 refine yk _ _ _ _ _ ?_;refine vw ?_;generalize hQ:(λ(v:AV) (L:SH)=>v=AV.acU (da T c wake)/\L=[(bt,(⟨3,(fI T c wake).map ThrD.enc⟩:Blk))])=Q
 repeat' (first|refine BN ?_ rfl S (by exact aaq _)|refine sy ?_|intro)
 refine qi T.length (λi=>([.acU c,.acU wake,.pptr [[a,b,d,.sl bt 0 T.length]] 0 0,.acU (bB (aJ T c i) wake),.sl bt 0 T.length,.acU T.length,.acU i],[(bt,⟨3,T.map ThrD.enc⟩)])) (λ_=>True) trivial (by simp[aJ,bB]) rfl ?_;intro i hi _;dsimp only;refine vw ?_;rcases Nat.lt_or_ge i T.length with G|G
 .have hd:=aS G;have hx:=aj (f:=ThrD.enc) G;have hsn:=J6 (aJ T c i) i wake;have M:=iF T c i;have D:eR T c i=bH T[i] c:=by simp[eR,G]
  have u:∀ch:Int,ch=bB (aJ T c (i+1)) wake->∃j,i<j/\j<=T.length/\True/\ax [.acU c,.acU wake,.pptr [[a,b,d,.sl bt 0 T.length]] 0 0,.acU ch,.sl bt 0 T.length,.acU T.length,.acU (IntKind.i64.wrap ((i:Int)+1))] [(bt,⟨3,T.map ThrD.enc⟩)]
    [.acU c,.acU wake,.pptr [[a,b,d,.sl bt 0 T.length]] 0 0,.acU (bB (aJ T c j) wake),.sl bt 0 T.length,.acU T.length,.acU j] [(bt,⟨3,T.map ThrD.enc⟩)]:=λch hch=>⟨i+1,acN,acN,trivial,fR (by rw[av G acN,hch]) rfl⟩
  cases hw:bH T[i] c with
  |false=>
   rw[hw]at D
   repeat' (first|refine sy ?_|(refine pf 110 ?_;refine pm (nq _ _) ?_)|refine s2 ?_ ?_|intro)
   exact u _ (by rw[M,D];simp)
  |true=>
   rw[hw]at D;have hn:bB (aJ T c (i+1)) wake=if bB (aJ T c i) wake<0\/(i:Int)=wake then(i:Int)else bB (aJ T c i) wake:=by rw[M,D,if_pos rfl,hsn]
   by_cases B:bB (aJ T c i) wake<0
   .have Y:decide (bB (aJ T c i) wake<0)=true:=decide_eq_true B
    repeat' (first|refine sy ?_|(refine pf 110 ?_;refine pm (nq _ _) ?_)|refine s2 ?_ ?_|intro)
    exact u _ (by rw[hn,if_pos (.inl B)])
   .have Y:decide (bB (aJ T c i) wake<0)=false:=decide_eq_false B;by_cases g2:(i:Int)=wake
    .have e2:decide ((i:Int)=wake)=true:=decide_eq_true g2
     repeat' (first|refine sy ?_|(refine pf 110 ?_;refine pm (nq _ _) ?_)|refine s2 ?_ ?_|intro)
     exact u _ (by rw[hn,if_pos (.inr g2)])
    .have e2:decide ((i:Int)=wake)=false:=decide_eq_false g2
     repeat' (first|refine sy ?_|(refine pf 110 ?_;refine pm (nq _ _) ?_)|refine s2 ?_ ?_|intro)
     exact u _ (by rw[hn,if_neg acN])
 .have hd:=aW G;have hi0:i=T.length:=by omega
  subst hi0;have hns:bB (aJ T c T.length) wake=da T c wake:=rfl;rw[hns];by_cases B:0<=da T c wake
  .have Y:decide (0<=da T c wake)=true:=decide_eq_true B;have N:(da T c wake).toNat<T.length:=uE (uD B);have hx:=aj (f:=ThrD.enc) N;have O:da T c wake=((da T c wake).toNat:Nat):=(abD B).symm;have Z:=A3 T _ 4 N;have E:fI T c wake=gj T (da T c wake).toNat 4:=by rw[fI,if_pos B]
   generalize hk:(da T c wake).toNat=k at *;rw[O]at Y hQ ⊢
   repeat' (first|refine sy ?_|refine s2 ?_ ?_|intro)
   subst hQ;exact⟨rfl,by rw[E,<-Z]⟩
  .have Y:decide (0<=da T c wake)=false:=decide_eq_false B;have E:fI T c wake=T:=by rw[fI,if_neg B]
   repeat' (first|refine sy ?_|refine s2 ?_ ?_|intro)
   subst hQ;exact⟨rfl,by rw[E]⟩
def dt(T:List ThrD)(c:Int)(n:Nat):List ThrD:=T.zipIdx.map λp=>if decide (p.2<n)&&bH p.1 c then {p.1 with status:=4} else p.1
theorem eW(T:List ThrD)(c:Int)(n i:Nat)(j:i<T.length):(dt T c n)[i]? =some (if decide (i<n)&&bH T[i] c then {T[i]with status:=4} else T[i]):=by simp[dt,j]
theorem c9(T:List ThrD)(c:Int)(n:Nat):(dt T c n).length=T.length:=by simp[dt]
theorem HP(T:List ThrD)(c:Int):dt T c 0=T:=by
 apply acp;intro i;rcases LE i T.length with j|j
 .rw[eW T c 0 i j];simp[j]
 .rw[aah (by rw[c9];exact j),aah j]
theorem HQ(T:List ThrD)(c:Int)(n:Nat)(G:n<T.length):dt T c (n+1)=if bH T[n] c then(dt T c n).set n {T[n]with status:=4} else dt T c n:=by
 apply acp;intro i;have u:∀j:i<T.length,(if bH T[n] c then(dt T c n).set n {T[n]with status:=4} else dt T c n)[i]? =some (if decide (i<n+1)&&bH T[i] c then {T[i]with status:=4} else T[i]):=λj=>by
  by_cases B:i=n
  .subst B;cases D:bH T[i] c with
   |true=>simp[D,c9,j]
   |false=>simp[D,eW T c i i j]
  .have E:decide (i<n+1)=decide (i<n):=by apply decide_eq_decide.2;omega
   rw[E];split
   .rw[List.getElem?_set_ne acN];exact eW T c n i j
   .exact eW T c n i j
 rcases LE i T.length with j|j
 .rw[u j,eW T c (n+1) i j]
 .rw[aah (by rw[c9];exact j),aah];split<;>simp[c9,j]
theorem HR(T:List ThrD)(c:Int)(hT:T.length<2^40)(G:([a,b,d,.sl bt 0 T.length]:List AV).all AV.one=true):
  ac Tryz.prog 84 [.agg [a,b,d,.sl bt 0 T.length],.acU c] [(bt,⟨3,T.map ThrD.enc⟩)] λv L=>v=.acU ((aJ T c T.length).length:Nat)/\L=[(bt,⟨3,(dt T c T.length).map ThrD.enc⟩)]:=by
 refine sJ _ _ _ _ ?_;refine vw ?_;generalize hQ:(λ(v:AV) (L:SH)=>v=AV.acU ((aJ T c T.length).length:Nat)/\L=[(bt,(⟨3,(dt T c T.length).map ThrD.enc⟩:Blk))])=Q
 repeat' (first|refine BN ?_ rfl G (by exact aaq _)|refine sy ?_|intro)
 refine qi T.length (λi=>([.acU c,.pptr [[a,b,d,.sl bt 0 T.length]] 0 0,.acU ((aJ T c i).length:Nat),.sl bt 0 T.length,.acU T.length,.acU i],[(bt,⟨3,(dt T c i).map ThrD.enc⟩)])) (λ_=>True) trivial (by simp[aJ]) (by rw[HP]) ?_;intro i hi _;dsimp only;refine vw ?_;rcases Nat.lt_or_ge i T.length with j|j
 .have Z:=aS j;have E:i<(dt T c i).length:=by rw[c9];exact j
  have N:(dt T c i)[i]=T[i]:=by have:=eW T c i i j;rw[mt E]at this;simpa using this
  have Y:=aj (f:=ThrD.enc) E;rw[N]at Y;have D:=iF T c i;have u:eR T c i=bH T[i] c:=by simp[eR,j]
  have B:=HQ T c i j;have M:(aJ T c i).length<=i:=abe (aci _ _) acQ;cases S:bH T[i] c with
  |false=>
   rw[S]at u B
   repeat' (first|refine sy ?_|(refine pf 110 ?_;refine pm (nq _ _) ?_)|refine s2 ?_ ?_|intro)
   refine⟨i+1,acN,acN,trivial,fR (by rw[av j acN,D,u];simp[co]) (by rw[B];simp)⟩
  |true=>
   rw[S]at u B
   repeat' (first|refine sy ?_|(refine pf 110 ?_;refine pm (nq _ _) ?_)|refine s2 ?_ ?_|intro)
   refine⟨i+1,acN,acN,trivial,fR (by rw[av j acN,D,u,av (Nat.lt_of_le_of_lt M j) acN];simp[co]) ?_⟩;rw[B,if_pos rfl,abT];simp[ThrD.enc]
 .have Z:=aW j;have O:i=T.length:=by omega
  subst O
  repeat' (first|refine sy ?_|refine s2 ?_ ?_|intro)
  subst hQ;exact⟨rfl,rfl⟩
end
end
def zA(P:Program)(g:FuncId)(cs:List AV)(p:Int->Bool):Prop:=∀x:Int,aq P g (.acU x::cs) (.bool (p x))
def zA.call{P:Program}{g:FuncId}{cs:List AV}{p:Int->Bool}(h:zA P g cs p){x:Int}{L:SH}{KL:AV->SH->Prop}(j:KL (.bool (p x)) L):W.call P (.fn g cs) [.acU x] L KL:=⟨(h x).call j⟩
def yv(p:Int->Bool)(l:List Int):Int:=if l.any p then(l.findIdx p:Int)else -1
def O5{p:Int->Bool}{l:List Int}{i:Nat}(B:i<l.length)(u:(l.take i).any p=false)(hp:p l[i]=true):yv p l=i:=by
 have E:l.any p=true:=acw.2 ⟨l[i],LT B,hp⟩;have D:l.findIdx p=i:=by rw[List.findIdx_eq B];refine⟨hp,λj G=>?_⟩;have:=List.any_eq_false.1 u l[j] (List.mem_take_iff_getElem.2 ⟨j,acN,rfl⟩);simpa using this
 rw[yv,if_pos E,D]
def HS(g:FuncId)(cs:List AV)(p:Int->Bool)(hp:zA Tryz.prog g cs p)(b:Nat)(xs:List Int)(D:xs.length<2^62):ac Tryz.prog 109 [.sl b 0 xs.length,.fn g cs] [(b,⟨1,xs.map aa⟩)] λv L=>v=.acU (yv p xs)/\L=[(b,⟨1,xs.map aa⟩)]:=by
 refine i4 _ _ _ _ ?_;refine vw ?_;generalize B:(λ(v:AV) (L:SH)=>v=AV.acU (yv p xs)/\L=[(b,(⟨1,xs.map aa⟩:Blk))])=Q
 repeat' (first|refine sy ?_|intro)
 refine qi xs.length (λi=>([.sl b 0 xs.length,.fn g cs,.acU xs.length,.acU i],[(b,⟨1,xs.map aa⟩)])) (λi=>(xs.take i).any p=false) acQ rfl rfl ?_;intro i M j;dsimp only;refine vw ?_;rcases Nat.lt_or_ge i xs.length with u|u
 .have G:=aj (f:=aa) u;have E:=aS u
  repeat' (first|refine Q4 (zA.call hp ?_)|refine sy ?_|refine s2 (λh=>?_) λh=>?_|intro)
  .subst B;exact⟨by rw[O5 u j h],rfl⟩
  .refine⟨i+1,acN,acN,?_,fR (by rw[av u D]<;>rfl) rfl⟩;rw[Fn u,List.any_append,j];simpa using h
 .have E:=aW u
  repeat' (first|refine sy ?_|refine s2 ?_ ?_|intro)
  subst B;rw[aaT u]at j;exact⟨by rw[yv,if_neg (by simp[j])],rfl⟩
def rR{k:IntKind}{m d:Nat}:cE (some (.int k (m:Int))) d=some m:=by simp[cE,gQ]
def Mk{p:Int->Bool}{l:List Int}(h:yv p l≠-1):∃i:Nat,yv p l=i/\i<l.length/\(l.take (i+1)).filter (λx=>!p x)=l.take i:=by
 unfold yv at h ⊢;split at h
 .rename_i B;rw[if_pos B];refine⟨l.findIdx p,rfl,List.findIdx_lt_length.2 (acw.1 B),?_⟩;have u:=List.findIdx_lt_length.2 (acw.1 B);rw[Fn u,acK];have E:p l[l.findIdx p]=true:=List.findIdx_getElem;rw[List.filter_cons_of_neg (by simp[E]),List.filter_nil,aby,List.filter_eq_self];intro x D;obtain⟨j,G,rfl⟩:=List.mem_take_iff_getElem.1 D;have:=List.not_of_lt_findIdx (xs:=l) (p:=p) (i:=j) acN;simpa using this
 .exact absurd rfl h
def Gj{p:Int->Bool}{l:List Int}(h:yv p l=-1):l.filter (λx=>!p x)=l:=by
 unfold yv at h;split at h
 .omega
 .rename_i j;rw[List.filter_eq_self];intro x u;simp only[acI,List.any_eq_false]at j;simpa using j x u
def EU(g:FuncId)(cs:List AV)(p:Int->Bool)(hp:zA Tryz.prog g cs p)(b:Nat)(xs:List Int)(hl:xs.length<2^61):ac Tryz.prog 81 [.sl b 0 xs.length,.fn g cs] [(b,⟨1,xs.map aa⟩)] λv L=>∃R:List Int,v=.sl b 0 (xs.filter λx=>!p x).length/\L=[(b,⟨1,R.map aa⟩)]/\R.take (xs.filter λx=>!p x).length=(xs.filter λx=>!p x)/\R.length=xs.length:=by
 refine iN _ _ _ _ ?_;refine vw ?_;refine Q4 (LZ (zw (HS g cs p hp b xs acN) ?_));rintro v L ⟨rfl,rfl⟩;refine vw ?_;generalize hQ:(λ(v:AV) (L:SH)=>∃R:List Int,v=AV.sl b 0 (xs.filter λx=>!p x).length/\L=[(b,(⟨1,R.map aa⟩:Blk))]/\R.take (xs.filter λx=>!p x).length=(xs.filter λx=>!p x)/\R.length=xs.length)=Q;by_cases Z:yv p xs=-1
 .have hd:decide (yv p xs=-1)=true:=decide_eq_true Z
  repeat' (first|refine sy ?_|intro)
  subst hQ;refine⟨xs,?_,rfl,?_,rfl⟩
  .rw[Gj Z]
  .rw[Gj Z];simp
 .have hd:decide (yv p xs=-1)=false:=decide_eq_false Z;obtain⟨u,hi0,hlt,E⟩:=Mk Z;rw[hi0]at hd ⊢
  repeat' (first|refine sy ?_|intro)
  rw[av hlt acN];have hc:∀j,((xs.take j).filter λx=>!p x).length<=j:=λj=>abe (aci _ _) acS
  refine aL (xs.length-(u+1)) (λk (R:List Int)=>([.sl b 0 xs.length,.fn g cs,.acU (((xs.take (u+1+k)).filter λx=>!p x).length:Nat),.acU (u+1+k:Nat)],[(b,⟨1,R.map aa⟩)]))
   (λk R=>R.length=xs.length/\R.take ((xs.take (u+1+k)).filter λx=>!p x).length=((xs.take (u+1+k)).filter λx=>!p x)/\R.drop (u+1+k)=xs.drop (u+1+k)) xs ⟨rfl,by rw[acz,E];simp,rfl⟩ (fR (by rw[acz,E,abm,abV acN]) rfl) ?_
  rintro k R hk ⟨S,O,r3⟩;dsimp only;refine vw ?_;have N:=hc (u+1+k);generalize hj:u+1+k=j at O r3 N ⊢;rcases Nat.lt_or_ge j xs.length with G|G
  .have hd2:=aS G;have h1':j<R.length:=by omega
   have hxj:R[j]=xs[j]:=by have h0:=congrArg (λl=>l[0]?) r3;simp only[abY,acz]at h0;rw[mt h1',mt G]at h0;exact Option.some.inj h0
   have hx:=aj (f:=aa) h1';rw[hxj]at hx;have D:(xs.take (j+1)).filter (λx=>!p x)=(xs.take j).filter (λx=>!p x)++([xs[j]].filter λx=>!p x):=by rw[Fn G,acK]
   have hm1:((xs.take j).filter λx=>!p x).length<xs.length:=by omega
   have Y:((xs.take j).filter λx=>!p x).length<R.length:=by omega
   have hxm:=aj (f:=aa) Y;cases B:p xs[j]with
   |true=>
    have hnp:(!p xs[j])=false:=by simp[B]
    repeat' (first|refine Q4 (zA.call hp ?_)|refine sy ?_|refine s2 ?_ ?_|intro)
    refine⟨k+1,R,acN,acN,⟨S,?_,?_⟩,fR ?_ rfl⟩
    .rw[show u+1+(k+1)=j+1 by omega,D];simpa[B]using O
    .rw[show u+1+(k+1)=j+1 by omega,<-List.drop_drop,<-List.drop_drop,r3]
    .rw[show u+1+(k+1)=j+1 by omega,D,av G acN];simp[B,co]
   |false=>
    have hnp:(!p xs[j])=true:=by simp[B]
    repeat' (first|refine Q4 (zA.call hp ?_)|refine sy ?_|refine s2 ?_ ?_|intro)
    refine⟨k+1,R.set ((xs.take j).filter λx=>!p x).length xs[j],acN,acN,⟨by simp[S],?_,?_⟩,fR ?_ ?_⟩
    .rw[show u+1+(k+1)=j+1 by omega,D];simp only[List.filter_cons,B,Bool.not_false,if_true,List.filter_nil,aal,ach];rw[Fn (by simpa using Y),List.take_set_of_le (Fd _),O];simp
    .rw[show u+1+(k+1)=j+1 by omega,List.drop_set_of_lt acN,<-List.drop_drop,<-List.drop_drop,r3]
    .rw[show u+1+(k+1)=j+1 by omega,D,av G acN,av hm1 acN];simp[B,co]
    .simp[abT,aa]
  .have hd2:=aW G;have ht:xs.take j=xs:=aaT G;rw[ht]at O N ⊢;have M:(xs.filter λx=>!p x).length<=xs.length:=aci _ _;generalize hmm:(xs.filter λx=>!p x).length=m at O N M hQ ⊢
   repeat' (first|refine sy ?_|refine xN (l:=m) (h:=xs.length) rR rfl M (Fd _) (.head _) rfl ?_|refine OU (.here _) rfl (by simp[S];omega) rfl ?_|refine xN (l:=0) (h:=m) rfl rR (abt _) M (.head _) rfl ?_|intro)
   subst hQ;refine⟨R.take m++List.replicate (xs.length-m) 0,acQ,?_,?_,?_⟩
   .simp only[abI];rw[List.drop_of_length_le (by simp[S];omega),aby,ST,acD];simp[aa]
   .rw[List.take_left' (by simp[S];omega)];exact O
   .simp[S];omega
def O6(t x:Int)(L:SH):zA Tryz.prog 82 [.pptr [[.acU t]] 0 0] (λx=>decide (x=t)):=λx=>by
 refine wD _ _ _ _ ?_;refine vw ?_
 repeat' (first|refine sy ?_|intro)
 exact⟨rfl,rfl⟩
def bM(w:aF):SyncD:=⟨List.replicate w.locks.length ⟨-1,[]⟩,-1,List.replicate w.futures.length false,(List.replicate w.threads.length (⟨0,0,false⟩:ThrD)).set 0 ⟨1,0,false⟩⟩
def gZ:RF:=nv (bQ Tryz.prog Tryz.f116 [(39,⟨[1,4,5,6,7],[9],true,[]⟩),(72,⟨[1,4,10],[],true,[]⟩),(60,⟨[1,4,9],[],true,[]⟩),(9,⟨[1,4,5],[],true,[]⟩)] [(0,[1]),(4,[6]),(15,[8])])
abbrev C1(Q:R)(a:Kn):Vs->SH->Kn->Prop:=Lp gZ 18 Q 39 [a]
abbrev C2(Q:R):Vs->SH->Kn->Prop:=Lp gZ 17 Q 72 []
abbrev C3(Q:R):Vs->SH->Kn->Prop:=Lp gZ 18 Q 60 []
abbrev tK(a:AV)(L:SH)(Q:R):Prop:=Pc gZ 20 Q 0 [] [a] L
def qV(j:AV)(L:SH)(Q:R)(h:tK j L Q):ac Tryz.prog 116 [j] L Q:=
 fv gZ Tryz.func116 h
def ii:RF:=nv (bQ Tryz.prog Tryz.f95 [(54,⟨[1,8],[],true,[]⟩),(36,⟨[1,6],[],true,[]⟩),(21,⟨[1,3,5],[],true,[]⟩)] [(0,[1]),(20,[9])])
abbrev sL(Q:R):Vs->SH->Kn->Prop:=Lp ii 17 Q 54 []
abbrev uI(a:AV)(L:SH)(Q:R):Prop:=Pc ii 20 Q 0 [] [a] L
def sM(j:AV)(L:SH)(Q:R)(h:uI j L Q):ac Tryz.prog 95 [j] L Q:=
 fv ii Tryz.func95 h
def C4:RF:=nv (bQ Tryz.prog Tryz.f149 [] [])
abbrev Mq(a b:AV)(L:SH)(Q:R):Prop:=Pc C4 20 Q 0 [] [a,b] L
def Kr(u j:AV)(L:SH)(Q:R)(h:Mq u j L Q):ac Tryz.prog 149 [u,j] L Q:=
 fv C4 Tryz.func149 h
def tL:RF:=nv (bQ Tryz.prog Tryz.f170 [] [(0,[3])])
abbrev E7(a b c:AV)(L:SH)(Q:R):Prop:=Pc tL 20 Q 0 [] [a,b,c] L
def C5(B u j:AV)(L:SH)(Q:R)(h:E7 B u j L Q):ac Tryz.prog 170 [B,u,j] L Q:=
 fv tL Tryz.func170 h
def pB:RF:=nv (bQ Tryz.prog Tryz.f147 [(75070,⟨[2,3,6,108],[],true,[]⟩),(66061,⟨[2,3,6,98],[],true,[]⟩),(54049,⟨[2,3,6,78],[],true,[]⟩),(39034,⟨[2,3,6,59],[],true,[]⟩)] [(0,[2,3])])
abbrev Ay(a b:AV)(L:SH)(Q:R):Prop:=Pc pB 20 Q 0 [] [a,b] L
def yA(u j:AV)(L:SH)(Q:R)(h:Ay u j L Q):ac Tryz.prog 147 [u,j] L Q:=
 fv pB Tryz.func147 h
def tM:RF:=nv (bQ Tryz.prog Tryz.f148 [(6,⟨[0,1,5],[],true,[]⟩)] [])
abbrev E8(a b:AV)(L:SH)(Q:R):Prop:=Pc tM 20 Q 0 [] [a,b] L
def C6(u j:AV)(L:SH)(Q:R)(h:E8 u j L Q):ac Tryz.prog 148 [u,j] L Q:=
 fv tM Tryz.func148 h
def gP:RF:=nv (bQ Tryz.prog Tryz.f121 [(48,⟨[1,3,5,7,8,10,11],[15],true,[]⟩),(15,⟨[1,3,5,7,8],[],true,[]⟩)] [(0,[3,5]),(7,[9])])
abbrev jx(Q:R)(a:Kn):Vs->SH->Kn->Prop:=Lp gP 18 Q 48 [a]
abbrev sN(a b c:AV)(L:SH)(Q:R):Prop:=Pc gP 20 Q 0 [] [a,b,c] L
def qW(B u j:AV)(L:SH)(Q:R)(h:sN B u j L Q):ac Tryz.prog 121 [B,u,j] L Q:=
 fv gP Tryz.func121 h
def tN:RF:=nv (bQ Tryz.prog Tryz.f101 [(12,⟨[1,3],[],true,[]⟩)] [(0,[1])])
abbrev E9(a:AV)(L:SH)(Q:R):Prop:=Pc tN 20 Q 0 [] [a] L
def C7(j:AV)(L:SH)(Q:R)(h:E9 j L Q):ac Tryz.prog 101 [j] L Q:=
 fv tN Tryz.func101 h
section
section
variable {w:aF} {Q:R} {c:aU} {i nb bs:Nat} {n5:W.Kn} (hl:w.cells.length<=12) (h1:1<=c.size) (h4:c.size<=4) (hf:c.size<=(w.cells.length-i:Nat))
 (hno:¬CL c (w.cells.drop i)->∀L,Q (.tup [.nils,.bool false]) L) (x:AV) (L:SH)
 (hgo:CL c (w.cells.drop i)->n5 [.pptr [w.enc] 0 0,x,.acU ((i+c.size.toNat:Nat):Int)] L)
include hl h1 h4 hf hno hgo
theorem Zu:W.loop (C1 Q n5) [.pptr [w.enc] 0 0,x,.acU (i:Int),.pptr [c.enc] 0 0,.acU 0] L:=by
 obtain⟨E,S,sz,vo,u⟩:=c;dsimp only at *;obtain⟨m,rfl⟩:=Int.eq_ofNat_of_zero_le (show 0<=sz by omega);have he:aU.enc ⟨E,S,m,vo,u⟩=[.str E,.acU S,.acU (m:Int),.bool vo,.acU u]:=rfl;rw[he];refine cT m (λk=>∀j,j<k->w.cells[i+j]? =some ⟨E,j,m,false,u⟩) (λk=>[.pptr [w.enc] 0 0,x,.acU (i:Int),.pptr [[.str E,.acU S,.acU (m:Int),.bool vo,.acU u]] 0 0,.acU (k:Int)]) acN (λj h=>absurd h (Nat.not_lt_zero _)) rfl (λk h d1 hw1 O nx M=>?_) (λk h d1 O nx=>?_)
 all_goals refine vw ?_
 .have Y:IntKind.i64.wrap ((i:Int)+(k:Int))=((i+k:Nat):Int):=by rw[abg _ acN];omega
  have N:i+k<w.cells.length:=by omega
  have hx:=aj (f:=aU.enc) N;have G:w.cells[i+k]? =some w.cells[i+k]:=mt N;generalize w.cells[i+k]=c at hx G;have D:c≠⟨E,k,m,false,u⟩->∀L,Q (.tup [.nils,.bool false]) L:=λZ=>hno λhb=>by have h2:=hb.eq k (by show(k:Int)<(m:Int);omega);rw[abY,G]at h2;exact Z (Option.some.inj h2)
  have B:c=⟨E,k,m,false,u⟩->∀j,j<k+1->w.cells[i+j]? =some ⟨E,j,m,false,u⟩:=λZ j hj=>by
   rcases LE j k with g|g
   .exact O j g
   .have e:j=k:=by omega
    subst e;rw[G,Z]
  obtain⟨cn,cx,cs,cv,ci⟩:=c;unfold aU.enc at hx;dsimp only at *;rw[aU.mk.injEq]at B;rw[Ne,aU.mk.injEq]at D;clear O
  repeat' (first|refine sy ?_|refine s2 ?_ ?_|intro)
  all_goals first
   |(refine D (λh2=>?_) _;clear M hgo hno B D;simp_all;done)
   |(refine M (B ?_);clear M hgo hno B D;simp_all;done)
 .have Y:IntKind.i64.wrap ((i:Int)+(m:Int))=((i+m:Nat):Int):=by rw[abg _ acN];omega
  obtain rfl:k=m:=by omega
  repeat' (first|refine sy ?_|refine s2 ?_ ?_|intro)
  exact hgo ⟨h1,h4,by rw[acH];exact hf,λj hj=>by rw[abY];exact O j (by simpa using hj)⟩
end
section
variable {w:aF} {Q:R} (hc12:w.cells.length<=12) (h4:w.locks.length<=4) (h2:w.conds.length<=2) (hf2:w.futures.length<=2) (ht4:w.threads.length<=4)
include h4 h2 hf2 ht4
theorem Zv{u:List bU}(hns:u.length<=12)(hq:∀L v,Fz L v (.lst ((iP w u).map ay))->Q (.tup [v,.bool true]) L){vs:List AV}{L:SH}(o:Option Nat)(G:o=none->u++w.locks.map bZ.name=[])(Y:ax vs L [.pptr [w.enc] 0 0,af o (u++w.locks.map bZ.name).length,.acU 0] (ab o 1 ((u++w.locks.map bZ.name).map ay))):W.loop (C2 Q) vs L:=by
 obtain⟨S,O⟩:∃S:Nat->List bU,S=λi=>u++w.locks.map bZ.name++(w.conds.take i).map cM.name:=⟨_,rfl⟩
 have N:S 0=u++w.locks.map bZ.name:=by subst O;simp
 have D:S w.conds.length++w.futures++w.threads=iP w u:=by subst O;simp[iP]
 have B:∀i (h:i<w.conds.length),S (i+1)=S i++[w.conds[i].name]:=λi h=>by subst O;simp only[Fn h,ST,abr,aai,abF]
 have M:∀i,(S i).length<=18:=λi=>by subst O;rw[aal,aal,acl,acl,abm];omega
 rw[<-N]at Y G;clear N O;refine HZ (α:=Nat×Option Nat) (λa=>([.pptr [w.enc] 0 0,af a.2 (S a.1).length,.acU (a.1:Int)],ab a.2 1 ((S a.1).map ay))) (λa=>w.conds.length-a.1) (λa=>a.1<=w.conds.length/\(a.2=none->S a.1=[])) (0,o) ⟨Nat.zero_le _,G⟩ Y ?_;rintro⟨i,o⟩ ⟨hi,G⟩ nx hnx;refine vw ?_;dsimp only at *;have hA:=M i;rcases Nat.lt_or_ge i w.conds.length with h|h
 .have d1:decide ((i:Int)<(w.conds.length:Int))=true:=aS h;have hw1:IntKind.i64.wrap ((i:Int)+1)=((i+1:Nat):Int):=av h acN;have hx:=aj (f:=cM.enc) h;have hgo:∀j L',cO L' [(j,⟨1,(S i).map ay++[[.str w.conds[i].name]]⟩)]->nx [.pptr [w.enc] 0 0,.sl j 0 ((S i).length+1),.acU ((i+1:Nat):Int)] L':=λj L' h3=>
   hnx (i+1,some j) ⟨h,nofun⟩ (by dsimp only;omega) _ _ (ax.pickE h3 (by simp[af,B i h]) (by simp[ab,ay,B i h]))
  clear hnx B D M Y;generalize w.conds[i]=c at *;generalize S i=C at *;obtain⟨nm,mx⟩:=c;unfold cM.enc at hx;dsimp only at *
  repeat' (first|refine sy ?_|refine aM mm rp acQ (λe=>by simp[G e]) acP acQ acS acS acP (λj hnb_=>?_)|refine s2 ?_ ?_|intro)
  exact hgo _ _ rp
 .have d1:decide ((i:Int)<(w.conds.length:Int))=false:=aW h;obtain rfl:i=w.conds.length:=by omega
  repeat' (first|refine sy ?_|refine s2 ?_ ?_|intro)
  refine CC rp (λ_=>rfl) acQ (λe=>by simp[G e]) acN acN (λ_=>rfl) (λo1 Z=>?_)
  repeat' (first|refine sy ?_|refine s2 ?_ ?_|intro)
  refine CC rp (λ_=>rfl) acQ (λe=>Z e) acN acN (λ_=>rfl) (λo2 E=>?_);have e1:(S w.conds.length).map ay++w.futures.map ay++w.threads.map ay=(iP w u).map ay:=by rw[<-D];simp
  have e2:(S w.conds.length).length+w.futures.length+w.threads.length=(iP w u).length:=by rw[<-D];simp;omega
  rw[e1]at E ⊢;rw[e2,aby];exact hq _ _ (Fz.slot rfl E acR (λ_ _=>rfl) λ_ _ q a a2 h1 h2=>by rw[h1]at h2;cases h2;exact .refl _)
theorem Zw{u:List bU}(Z:u.length<=12)(hq:∀L v,Fz L v (.lst ((iP w u).map ay))->Q (.tup [v,.bool true]) L){vs:List AV}{L:SH}(o:Option Nat)(B:o=none->u=[])(G:ax vs L [.pptr [w.enc] 0 0,af o u.length,.acU 0] (ab o 1 (u.map ay))):W.loop (C3 Q) vs L:=by
 have D:=λvs L o B G=>Zv h4 h2 hf2 ht4 Z hq (vs:=vs) (L:=L) o B G
 obtain⟨S,Y⟩:∃S:Nat->List bU,S=λi=>u++(w.locks.take i).map bZ.name:=⟨_,rfl⟩
 have O:S 0=u:=by subst Y;simp
 have N:S w.locks.length=u++w.locks.map bZ.name:=by subst Y;simp
 have E:∀i (h:i<w.locks.length),S (i+1)=S i++[w.locks[i].name]:=λi h=>by subst Y;simp only[Fn h,ST,abr,aai,abF]
 have M:∀i,(S i).length<=18:=λi=>by subst Y;rw[aal,acl,abm];omega
 rw[<-N]at D;rw[<-O]at G B;clear O Y hq;refine HZ (α:=Nat×Option Nat) (λa=>([.pptr [w.enc] 0 0,af a.2 (S a.1).length,.acU (a.1:Int)],ab a.2 1 ((S a.1).map ay))) (λa=>w.locks.length-a.1) (λa=>a.1<=w.locks.length/\(a.2=none->S a.1=[])) (0,o) ⟨Nat.zero_le _,B⟩ G ?_;rintro⟨i,o⟩ ⟨hi,B⟩ nx hnx;refine vw ?_;dsimp only at *;have hA:=M i;rcases Nat.lt_or_ge i w.locks.length with h|h
 .have d1:decide ((i:Int)<(w.locks.length:Int))=true:=aS h;have hw1:IntKind.i64.wrap ((i:Int)+1)=((i+1:Nat):Int):=av h acN;have hx:=aj (f:=bZ.enc) h;have hgo:∀j L',cO L' [(j,⟨1,(S i).map ay++[[.str w.locks[i].name]]⟩)]->nx [.pptr [w.enc] 0 0,.sl j 0 ((S i).length+1),.acU ((i+1:Nat):Int)] L':=λj L' h3=>
   hnx (i+1,some j) ⟨h,nofun⟩ (by dsimp only;omega) _ _ (ax.pickE h3 (by simp[af,E i h]) (by simp[ab,ay,E i h]))
  clear hnx E N M G D;generalize w.locks[i]=c at *;generalize S i=C at *;obtain⟨nm,mx⟩:=c;unfold bZ.enc at hx;dsimp only at *
  repeat' (first|refine sy ?_|refine aM mm rp acQ (λe=>by simp[B e]) acP acQ acS acS acP (λj hnb_=>?_)|refine s2 ?_ ?_|intro)
  exact hgo _ _ rp
 .have d1:decide ((i:Int)<(w.locks.length:Int))=false:=aW h;obtain rfl:i=w.locks.length:=by omega
  repeat' (first|refine sy ?_|refine s2 ?_ ?_|intro)
  exact D _ _ o B (.refl _ _)
include hc12
theorem Zx(hy:∀G L v,fo w.cells G->Fz L v (.lst ((iP w G).map ay))->Q (.tup [v,.bool true]) L)(hn:(∀G,¬fo w.cells G)->∀L,Q (.tup [.nils,.bool false]) L):tK (.agg w.enc) [] Q:=by
  refine vw ?_
  repeat' (first|refine sx ?_|refine sb λu M=>?_|refine s2 (λh=>?_) λh=>?_|fail)
  refine HZ (α:=Nat×List bU×Option Nat) (λa=>([.pptr [w.enc] 0 0,af a.2.2 a.2.1.length,.acU (a.1:Int)],ab a.2.2 1 (a.2.1.map ay))) (λa=>w.cells.length-a.1) (λa=>iO w.cells a.1 a.2.1/\(a.2.2=none->a.2.1=[])) (0,[],none) ⟨.zero _,λ_=>rfl⟩ (ax.drop (K:=[]) (.refl _) rfl ((fy.cons (.refl _) (.cons .nile (.cons (.refl _) .nil))).at_.2)) ?_;rintro⟨i,B,o⟩ ⟨O,ho⟩ nx hnx;refine vw ?_;dsimp only at *;have hva:=O.2.1;have hva2:=O.1;rcases Nat.lt_or_ge i w.cells.length with h|h
  · have hx:=aj (f:=aU.enc) h
    have d1:decide ((i:Int)<(w.cells.length:Int))=true:=aS h;have hw1:IntKind.i64.wrap ((i:Int)+1)=((i+1:Nat):Int):=av h acN;have hw2:IntKind.i64.wrap ((w.cells.length:Int)-(i:Int))=((w.cells.length-i:Nat):Int):=by rw[abg _ acN];omega
    have Z:w.cells[i].size=0->w.cells[i].index≠0->∀G,¬fo w.cells G:=O.no1 h;have Y:w.cells[i].size=0->w.cells[i].index=0->iO w.cells (i+1) (B++[w.cells[i].name]):=O.step h;have D:w.cells[i].size≠0->¬CL w.cells[i] (w.cells.drop i)->∀G,¬fo w.cells G:=O.no2 h;have S:w.cells[i].size≠0->CL w.cells[i] (w.cells.drop i)->iO w.cells (i+w.cells[i].size.toNat) (B++[w.cells[i].name]):=O.jump h;have hgo:∀j u L',iO w.cells j (B++[w.cells[i].name])->i<j->cO L' [(u,⟨1,B.map ay++[[.str w.cells[i].name]]⟩)]->nx [.pptr [w.enc] 0 0,.sl u 0 (B.length+1),.acU (j:Int)] L':=λj u L' h1 h2 h3=>
      hnx (j,B++[w.cells[i].name],some u) ⟨h1,nofun⟩ (by have:=h1.1;dsimp only;omega) _ _ (ax.pickE h3 (by simp[af]) (by simp[ab,ay]))
    clear hnx O;have E:=λh1 h4' hf hno x L hgo=>Zu (Q:=Q) (n5:=nx) (c:=w.cells[i]'h) (i:=i) hc12 h1 h4' hf hno x L hgo
    generalize w.cells[i]=c at *;obtain⟨nm,ix,sz,vo,ini⟩:=c;have he:aU.enc ⟨nm,ix,sz,vo,ini⟩=[.str nm,.acU ix,.acU sz,.bool vo,.acU ini]:=rfl;rw[he]at hx E;clear he;dsimp only at *
    repeat' (first|refine sx ?_|refine aM mm rp acQ (λe=>by simp[ho e]) acP acQ acS acS acP (λu M=>?_)|refine sb λu M=>?_|refine s2 (λh=>?_) λh=>?_|fail)
    all_goals first
      |exact hn (Z (of_decide_eq_true acO) (of_decide_eq_true acO)) _
      |(refine hgo (i+1) _ _ (Y (of_decide_eq_true acO) ?_) (Nat.lt_succ_self _) rp;clear E hgo hn hy Z Y D S;simp only[ne_eq,decide_eq_false_iff_not,Decidable.not_not]at *;assumption)
      | (refine hn (D (of_decide_eq_false acO) fun N => ?_) _
         have hb1:=N.lo;have hb2:=N.hi;have hb3:=N.fits
         rw[List.length_drop]at hb3;clear E hgo hn hy Z Y D S N;dsimp only at hb1 hb2 hb3
         (simp only[decide_eq_true_eq,decide_eq_false_iff_not]at *;omega))
      |skip
    rename_i g1 g2 g3;simp only[decide_eq_false_iff_not]at g1 g2 g3 h;exact E acN acN acN (λN=>hn (D acN N)) _ _ (λN=>hgo _ _ _ (S acN N) acN rp)
  · have d1:decide ((i:Int)<(w.cells.length:Int))=false:=aW h
    have hv:=O.done h
    repeat' (first|refine sy ?_|refine s2 ?_ ?_|intro)
    exact Zw h4 h2 hf2 ht4 acN (λL v hf=>hy B L v hv hf) o ho (.refl _ _)
end
theorem Pk{w:aF}(hc12:w.cells.length<=12)(h4:w.locks.length<=4)(h2:w.conds.length<=2)(hf2:w.futures.length<=2)(ht4:w.threads.length<=4){j:List bU}(h:fo w.cells j):aq Tryz.prog 116 [.agg w.enc] (.tup [.lst ((iP w j).map ay),.bool true]):=
 ac.fz (qV _ _ _ (Zx hc12 h4 h2 hf2 ht4 (λu L v h1 h2=>⟨_,[],ax.all (.tups (.cons h2 (.cons (.refl _) .nil))),by rw[h.uniq h1],rfl⟩) λh2=>absurd h (h2 j)))
theorem RE{w:aF}(hc12:w.cells.length<=12)(h4:w.locks.length<=4)(h2:w.conds.length<=2)(hf2:w.futures.length<=2)(ht4:w.threads.length<=4)(h:∀u,¬fo w.cells u):aq Tryz.prog 116 [.agg w.enc] (.tup [.nils,.bool false]):=
 ac.fz (qV _ _ _ (Zx hc12 h4 h2 hf2 ht4 (λj L v h1 h2=>absurd h1 (h j)) λ_ L=>⟨_,[],ax.all (.refl _),rfl,rfl⟩))
end
section
theorem zC{α:Type}{f:α->List AV}{l:List α}{n i:Nat}{k:IntKind}{L:SH}{K:AV->Prop}(h:K (.lst ((l.take i).map f)))(B:i<=l.length:=by omega)(u:∀x,(f x).length=n:=by intro x;rfl):W.slice n (.lst (l.map f)) none (some (.int k (i:Int))) none L K:=by
 refine ip (l:=0) (h:=i) rfl rfl (abt _) (by simpa using B) (λr j=>?_) ?_
 .obtain⟨x,_,rfl⟩:=abP.1 (List.mem_of_mem_head? j);exact u x
 .rw[List.drop_zero,Nat.sub_zero,<-List.map_take];exact h
theorem Um{l:List bU}{s:bU}:decide (Zy l s≥0)=lu (s∈l):=by
  unfold Zy;by_cases h:s∈l
  · rw[iG h]
    refine decide_eq_true ?_;have:∀(l:List bU) (k:Nat),s∈l→0≤lm (λx=>decide (x=s)) l k:=by
      intro l
      induction l with
      |nil=>intro k h;simp at h
      |cons x l ih=>
        intro k h;rw[lm];by_cases hx:x=s
        · rw[if_pos (decide_eq_true hx)];omega
        · rw[if_neg (by simpa using hx)]
          exact ih _ (by rcases aaj.1 h with h | h; · exact absurd h.symm hx
                         · exact h)
    exact this l 0 h
  · rw[gU h,gz (λx hx=>decide_eq_false λ(e:x=s)=>h (e▸hx))]
    rfl
def jR(l:List cF):Nat->Int×Int
 |0=>(0,0)
 | i+1=>match l[i]? with
  |some s=>(s.thread,s.stmt+1)
  |none=>(0,0)
section
variable (w:aF) {Q:R} (h60:w.sites.length<=60) (h4:w.locks.length<=4) (h2:w.conds.length<=2) (ht4:w.threads.length<=4)
include h60 ht4
theorem ZA(Y:∀b,lu (Kd w.threads.length 0 0 w.sites)=b->Q (.bool b) []):W.loop (sL Q) [.pptr [w.enc] 0 0,.acU 0] []:=by
 refine cT w.sites.length (λi=>0<=(jR w.sites i).1/\0<=(jR w.sites i).2/\(jR w.sites i).2<=i/\(Kd w.threads.length 0 0 w.sites↔Kd w.threads.length (jR w.sites i).1 (jR w.sites i).2 (w.sites.drop i))) (λi=>[.pptr [w.enc] 0 0,.acU (i:Int)]) acN ⟨Int.le_refl _,Int.le_refl _,Int.le_refl _,Iff.rfl⟩ rfl (λi h d1 hw1 E nx D=>?_) (λi h d1 E nx=>?_)
 all_goals refine vw ?_
 .obtain⟨g1,g2,g3,E⟩:=E;have hx:=aj (f:=cF.enc) h;have Z:jR w.sites (i+1)=(w.sites[i].thread,w.sites[i].stmt+1):=by simp only[jR,mt h]
  rw[List.drop_eq_getElem_cons h,WY]at E;rw[Z]at D;dsimp only at D;generalize w.sites[i]=s at *;obtain⟨M,sm,ln⟩:=s;unfold cF.enc at hx;dsimp only at *;have u:¬((jR w.sites i).1<=M/\M<w.threads.length/\sm=if(jR w.sites i).1<M then 0 else(jR w.sites i).2)->Q (.bool false) []:=λG=>Y _ (gU λh2=>G (by have:=E.1 h2;exact⟨this.1,this.2.1,this.2.2.1⟩))
  have B:((jR w.sites i).1<=M/\M<w.threads.length/\sm=if(jR w.sites i).1<M then 0 else(jR w.sites i).2)->nx [.pptr [w.enc] 0 0,.acU ((i+1:Nat):Int)] []:=λG=>
   D ⟨acN,by have:=G.2.2;split at this<;>omega,by have:=G.2.2;split at this<;>omega,by
    rw[E];exact⟨λh=>h.2.2.2,λh=>⟨G.1,G.2.1,G.2.2,h⟩⟩⟩
  clear D E Y;cases i with
  |zero=>
   generalize hA:jR w.sites 0=A at u B g1 g2 g3;obtain rfl:A=(0,0):=hA.symm;dsimp only at u B g1 g2 g3
   repeat' (first|refine sy ?_|refine s2 ?_ ?_|intro)
   all_goals first
    |(refine u λh2=>?_;have h3:=h2.1;have h4:=h2.2.1;have h5:=h2.2.2;clear h2 u B;split at h5<;>simp only[decide_eq_true_eq,decide_eq_false_iff_not,ge_iff_le,ne_eq,Decidable.not_not]at * <;>omega)
    |(refine B ?_;clear u B;simp only[decide_eq_true_eq,decide_eq_false_iff_not,ge_iff_le,ne_eq,Decidable.not_not]at *;refine⟨acN,acN,?_⟩;first|(split<;>omega)|(rw[ite_self];omega))
  |succ j=>
   have S:=aj (f:=cF.enc) (show j<w.sites.length by omega);have O:w.sites[j]? =some (w.sites[j]'acN):=mt acN;generalize w.sites[j]'acN=s2 at S O;have Z:jR w.sites (j+1)=(s2.thread,s2.stmt+1):=by simp only[jR,O]
   rw[Z]at u B g1 g2 g3;obtain⟨th2,N,ln2⟩:=s2;unfold cF.enc at S;dsimp only at *;have hw2:IntKind.i64.wrap (((j+1:Nat):Int)-1)=(j:Int):=by rw[IntWalk.i64_in _ acN];omega
   have hw3:IntKind.i64.wrap (N+1)=N+1:=abg _ acN;have hz:decide (((j+1:Nat):Int)=0)=false:=decide_eq_false acN;have hp:decide (((j+1:Nat):Int) > 0)=true:=decide_eq_true acN
   repeat' (first|refine sy ?_|refine s2 ?_ ?_|intro)
   all_goals first
    |(refine u λh2=>?_;have h3:=h2.1;have h4:=h2.2.1;have h5:=h2.2.2;clear h2 u B;split at h5<;>simp only[decide_eq_true_eq,decide_eq_false_iff_not,ge_iff_le,ne_eq,Decidable.not_not]at * <;>omega)
    |(refine B ?_;clear u B;simp only[decide_eq_true_eq,decide_eq_false_iff_not,ge_iff_le,ne_eq,Decidable.not_not]at *;refine⟨acN,acN,?_⟩;first|(split<;>omega)|(rw[ite_self];omega))
 .subst h;rw[List.drop_length]at E
  repeat' (first|refine sy ?_|refine s2 ?_ ?_|intro)
  exact Y _ (iG (E.2.2.2.2 trivial))
end
end
def Ks(l:List Int)(n:Int)(hl:l.length<2^40):aq Tryz.prog 86 [.lst (l.map aa),.acU n] (.lst ((l.filter λy=>!decide (y=n)).map aa)):=by
 refine OY λQ E=>yg _ _ _ _ ?_
 refine vw ?_;refine aL l.length (λi (o:Option Nat)=>([.lst (l.map aa),.acU n,af o ((l.take i).filter λy=>!decide (y=n)).length,.acU i],ab o 1 (((l.take i).filter λy=>!decide (y=n)).map aa))) (λi o=>o=none->((l.take i).filter λy=>!decide (y=n))=[]) none (λ_=>rfl) (ax.vals (.cons (.refl _) (.cons (.refl _) (.cons .nile (.cons (.refl _) .nil))))) ?_;intro i o hi M;dsimp only;refine vw ?_;have O:((l.take i).filter λy=>!decide (y=n)).length<=i:=Nat.le_trans (List.length_filter_le _ _) acS;rcases Nat.lt_or_ge i l.length with u|u
 .have S:=aS u;have Z:=aj (f:=aa) u;have j:((l.take (i+1)).filter λy=>!decide (y=n))=if l[i]=n then((l.take i).filter λy=>!decide (y=n))else((l.take i).filter λy=>!decide (y=n))++[l[i]]:=by rw[Fn u,acK];by_cases h:l[i]=n<;>simp[h]
  clear E;by_cases h:l[i]=n
  .have Y:decide (l[i]≠n)=false:=decide_eq_false (λe=>e h);rw[if_pos h]at j
   repeat' (first|refine sy ?_|refine s2 ?_ ?_|intro)
   exact⟨i+1,o,acN,acN,by rw[j];exact M,fR (by rw[av u acN,j]) (by rw[j])⟩
  .have Y:decide (l[i]≠n)=true:=decide_eq_true h;rw[if_neg h]at j;have G:o=none->(((l.take i).filter λy=>!decide (y=n)).map aa)=[]:=λe=>by rw[M e];rfl
   repeat' (first|refine sx ?_|refine aM rp rp acQ G acP acQ acS acS acP (λB D=>?_)|refine sb λB D=>?_|refine s2 ?_ ?_|intro)
   exact⟨i+1,some B,acN,acN,nofun,ax.pickE (R:=[(B,_)]) rp (by rw[av u acN,j];simp[co,af]) (by rw[j];simp[ab,aa])⟩
 .have S:=aW u;rw[aaT u]at *;have fin:∀L,(∀q∈ab o 1 ((l.filter λy=>!decide (y=n)).map aa),q∈L)->Q (af o (l.filter λy=>!decide (y=n)).length) L:=λL N=>E _ _ (by
   cases o with
   |none=>rw[M rfl];exact .emp
   |some b=>exact Fz.sls (N _ (.head _)) rfl acR rfl)
  clear E
  repeat' (first|refine sy ?_|refine s2 ?_ ?_|intro)
  exact fin _ λq h=>h
def uK(i:Nat):List AV:=[.acU (i:Int)]
def zD(a b d:AV)(bt:Nat)(T:List ThrD)(c:Int)(hT:T.length<2^40)(O:([a,b,d,.sl bt 0 T.length]:List AV).all AV.one=true):
  ac Tryz.prog 87 [.agg [a,b,d,.sl bt 0 T.length],.acU c] [(bt,⟨3,T.map ThrD.enc⟩)] λv L=>v=.lst ((aJ T c T.length).map uK)/\L=[(bt,⟨3,T.map ThrD.enc⟩)]:=by
 refine ac.fz (mY _ _ _ _ ?_);refine vw ?_;generalize hQ:(λ(v:AV) (L:SH)=>∃v2 L2,ax [v] L [v2] L2/\v2=AV.lst ((aJ T c T.length).map uK)/\L2=[(bt,(⟨3,T.map ThrD.enc⟩:Blk))])=Q
 repeat' (first|refine BN ?_ rfl O (by exact aaq _)|refine sx ?_|refine sb λB E=>?_|refine s2 (λh=>?_) λh=>?_|fail)
 refine aL T.length (λi (o:Option Nat)=>([.acU c,.pptr [[a,b,d,.sl bt 0 T.length]] 0 0,af o (aJ T c i).length,.acU i],(bt,⟨3,T.map ThrD.enc⟩)::ab o 1 ((aJ T c i).map uK))) (λi o=>o=none->aJ T c i=[]) none (λ_=>rfl) (ax.vals (.cons (.refl _) (.cons (.refl _) (.cons .nile (.cons (.refl _) .nil))))) ?_;intro i o hi ho;dsimp only;refine vw ?_;have hle:(aJ T c i).length<=i:=Nat.le_trans (List.length_filter_le _ _) acQ;rcases Nat.lt_or_ge i T.length with G|G
 .have hd:=aS G;have hx:=aj (f:=ThrD.enc) G;have u:=iF T c i;rw[show eR T c i=bH T[i] c by simp[eR,G]]at u;have ho2:o=none->(aJ T c i).map uK=[]:=λe=>by rw[ho e];rfl
  have D:bH T[i] c=false->∃j o',i<j/\j<=T.length/\(o'=none->aJ T c j=[])/\ax [.acU c,.pptr [[a,b,d,.sl bt 0 T.length]] 0 0,af o (aJ T c i).length,.acU (IntKind.i64.wrap ((i:Int)+1))] ((bt,⟨3,T.map ThrD.enc⟩)::ab o 1 ((aJ T c i).map uK))
    [.acU c,.pptr [[a,b,d,.sl bt 0 T.length]] 0 0,af o' (aJ T c j).length,.acU j] ((bt,⟨3,T.map ThrD.enc⟩)::ab o' 1 ((aJ T c j).map uK)):=λh=>by
   rw[h]at u;simp only[abj,if_false,aby]at u;exact⟨i+1,o,acN,acN,by rw[u];exact ho,fR (by rw[av G acN,u]) (by rw[u])⟩
  generalize T[i]=y at *;obtain⟨M,N,Z⟩:=y;rw[show ThrD.enc ⟨M,N,Z⟩=[.acU M,.acU N,.bool Z]from rfl]at hx;by_cases Y:M=3
  .have d1:decide (M=3)=true:=decide_eq_true Y;by_cases S:N=c
   .have d2:decide (N=c)=true:=decide_eq_true S;rw[show bH ⟨M,N,Z⟩ c=true by simp[bH,Y,S],if_pos rfl]at u
    repeat' (first|refine sx ?_|refine aM rp rp acQ ho2 acP acQ acS acS acP (λB E=>?_)|refine sb λB E=>?_|refine s2 ?_ ?_|intro)
    exact⟨i+1,some B,acN,acN,nofun,ax.pickE (R:=[(bt,_),(B,_)]) rp (by rw[av G acN,u];simp[co,af]) (by rw[u];simp[ab,uK])⟩
   .have d2:decide (N=c)=false:=decide_eq_false S;have sk:=D (by simp[bH,S])
    repeat' (first|refine sy ?_|refine s2 ?_ ?_|intro)
    exact sk
  .have d1:decide (M=3)=false:=decide_eq_false Y;have sk:=D (by simp[bH,Y])
   repeat' (first|refine sy ?_|refine s2 ?_ ?_|intro)
   exact sk
 .have hd:=aW G;have hi0:i=T.length:=by omega
  subst hi0;have fin:Q (af o (aJ T c T.length).length) ((bt,⟨3,T.map ThrD.enc⟩)::ab o 1 ((aJ T c T.length).map uK)):=by
   subst hQ;refine⟨.lst ((aJ T c T.length).map uK),_,ax.drop (K:=ab o 1 ((aJ T c T.length).map uK)) (R:=[(bt,⟨3,T.map ThrD.enc⟩)]) (aar (l₁:=[(bt,(⟨3,T.map ThrD.enc⟩:Blk))])) rfl (fy.at_ (.cons ?_ .nil)).2,rfl,rfl⟩;cases o with
   |none=>rw[ho rfl];exact .emp
   |some b=>exact Fz.sls (.head _) rfl acR rfl
  clear hQ
  repeat' (first|refine sy ?_|refine s2 ?_ ?_|intro)
  exact fin
def Kt(s:SyncD)(h1:s.locks.length<2^40)(h2:s.done.length<=140737488351232)(h3:s.threads.length<2^40)(Y:∀l∈s.locks,l.readers.length<2^40):
  ac Tryz.prog 43 [.agg s.enc] [] λv L=>∃(M:Option Nat) (E bt:Nat),v=.agg [af M s.locks.length,.acU s.tx,.sl E 0 s.done.length,.sl bt 0 s.threads.length]/\L=ab M 2 (s.locks.map LockD.enc)++[(bt,⟨3,s.threads.map ThrD.enc⟩),(E,⟨1,s.done.map au⟩)]/\(M=none->s.locks=[]):=by
 refine ac.fz (EQ _ _ _ ?_);refine vw ?_;generalize hQ:(λ(v:AV) (L:SH)=>∃v2 L2,ax [v] L [v2] L2/\∃(M:Option Nat) (E bt:Nat),v2=.agg [af M s.locks.length,.acU s.tx,.sl E 0 s.done.length,.sl bt 0 s.threads.length]/\L2=ab M 2 (s.locks.map LockD.enc)++[(bt,(⟨3,s.threads.map ThrD.enc⟩:Blk)),(E,⟨1,s.done.map au⟩)]/\(M=none->s.locks=[]))=Q
 repeat' (first|refine sx ?_|refine dJ rp (λ_=>rfl) acP acS acS (λ_=>rfl) (λu B=>?_)|refine sb λu B=>?_|refine s2 (λh=>?_) λh=>?_|fail)
 rename_i a5 _ b2 _ a3 _ E _ a1 _ bt _;rw[Nat.zero_add,Nat.zero_add];revert u;intro b3 _;refine aL s.locks.length (λi (o:Option Nat)=>([.pptr [s.enc] 0 0,.ptr b2 0 0,.ptr b3 0 0,.acU i],(b3,⟨4,[[af o i,.acU s.tx,.sl E 0 s.done.length,.sl bt 0 s.threads.length]]⟩)::(bt,⟨3,s.threads.map ThrD.enc⟩)::(E,⟨1,s.done.map au⟩)::(b2,⟨4,[[.nils,.acU 0,.nils,.nils]]⟩)::ab o 2 ((s.locks.take i).map LockD.enc))) (λi o=>o=none->i=0) none (λ_=>rfl) (ax.box (K:=[]) (.refl _) (.cons .nile (.cons (.refl _) (.cons (.refl _) (.cons (.refl _) .nil))))) ?_;intro i o hi ho;dsimp only;refine vw ?_;have D:((s.locks.take i).map LockD.enc).length=i:=by simp;omega
 have h0:o=none->(s.locks.take i).map LockD.enc=[]:=λe=>by rw[ho e];rfl
 rcases LE i s.locks.length with N|N
 .have hd:=aS N;have hx:=aj (f:=LockD.enc) N;have hr:=Y _ (LT N)
  repeat' (first|refine sx ?_|refine dJ rp (λ_=>rfl) acP acS acS (λ_=>rfl) (λu B=>?_)|refine aM rp rp D h0 acP acQ acS acS acP (λu B=>?_)|refine sb λu B=>?_|refine s2 (λh=>?_) λh=>?_|fail)
  rename_i br _ _ _;refine⟨i+1,some u,acN,acN,nofun,?_⟩;refine ax.rowA (A:=[(b3,_),(bt,_),(E,_),(b2,_)]) (b:=u) (R:=[]) (rows':=(s.locks.take (i+1)).map LockD.enc) rp ?_ ?_ (by rw[av N acN]<;>rfl)
  .simp;omega
  .intro j r r' O G;rw[Fn N,ST]at G;rcases LE j i with Z|Z
   .rw[aaW (by rw[D];exact Z)]at O G;rw[O]at G;cases G;exact fy.refl _ _
   .rw[aaL (by rw[D];exact Z),D]at O G;generalize j-i=k at O G
    match k with
    |0=>cases O;cases G;exact .cons (.refl _) (.cons (Fz.sls (l:=s.locks[i].readers) mm rfl acR acQ) .nil)
    |k+1=>simp at O
 .have hd:=aW N;have hi0:i=s.locks.length:=by omega
  subst hi0;rw[aaT (Fd _)];have S:o=none->s.locks=[]:=λe=>abU.1 (ho e)
  cases o with
  |none=>
   dsimp only[af,ab]
   repeat' (first|refine sy ?_|refine s2 ?_ ?_|intro)
   subst hQ;exact⟨_,_,ax.pick (R:=[(bt,_),(E,_)]) rp rfl,none,E,bt,rfl,rfl,S⟩
  |some bl=>
   dsimp only[af,ab]
   repeat' (first|refine sy ?_|refine s2 ?_ ?_|intro)
   subst hQ;exact⟨_,_,ax.pick (R:=[(bl,_),(bt,_),(E,_)]) rp rfl,some bl,E,bt,rfl,rfl,S⟩
def C9{k:IntKind}{m d:Nat}:cE (some (.int k (m:Int))) d=some m:=by simp[cE,gQ]
def wU{α:Type}{f:α->List AV}{l:List α}{n i:Nat}{k:IntKind}{L:SH}{K:AV->Prop}(u:∀x,(f x).length=n)(B:i<=l.length)(h:K (.lst ((l.take i).map f))):W.slice n (.lst (l.map f)) none (some (.int k (i:Int))) none L K:=by
 refine ip (l:=0) (h:=i) rfl C9 (abt _) (by simpa using B) (λr j=>?_) ?_
 .cases l with
  |nil=>cases j
  |cons x l=>simp at j;rw[<-j];exact u x
 .rw[List.drop_zero,Nat.sub_zero,<-List.map_take];exact h
def wV{α:Type}{f:α->List AV}{l:List α}{n i:Nat}{k:IntKind}{L:SH}{K:AV->Prop}(u:∀x,(f x).length=n)(B:i<=l.length)(h:K (.lst ((l.drop i).map f))):W.slice n (.lst (l.map f)) (some (.int k (i:Int))) none none L K:=by
 refine ip (l:=i) (h:=(l.map f).length) C9 rfl (by simpa using B) (Fd _) (λr j=>?_) ?_
 .cases l with
  |nil=>cases j
  |cons x l=>simp at j;rw[<-j];exact u x
 .rw[aaT acQ,<-List.map_drop];exact h
def Kv{b B i k n by_:Nat}{rows m:List (List AV)}{L D:SH}{KL:AV->SH->Prop}(N:(B,(⟨n,m⟩:Blk))∈L)(u:dF b ⟨n,rows⟩ L D)(E:rows.length=i)(G:k=m.length)(h2:2*(i+m.length)*by_<=2^48)(O:2*(i+m.length)<=2^62)(h4:(m.all λr=>r.all AV.one)=true)
  (h:∀j,j∉L.names->KL (.sl j 0 (i+m.length)) ((j,⟨n,rows++m⟩)::D)):W.append n by_ (.sl b 0 i) (.sl B 0 k) L KL:=by
 subst G;subst E;exact lJ (y:=⟨n,rows⟩) (l:=rows) u.mem' rfl acQ acQ (j7 N rfl rfl) h2 O h4 u (λj M=>h j M)
def Ik(l:List Int)(n:Int):List Int:=l.takeWhile λx=>decide (x<n)
def lU(l:List Int)(n:Int):List Int:=l.dropWhile λx=>decide (x<n)
def qY(l:List Int)(n:Int):List Int:=if(lU l n).head? =some n then l else Ik l n++n::lU l n
def Da(l:List Int)(n:Int):Ik l n++lU l n=l:=List.takeWhile_append_dropWhile
def Il:∀(l:List Int) (n:Int) (i:Nat),(∀x∈l.take i,x<n)->(∀x,(l.drop i).head? =some x->¬x<n)->Ik l n=l.take i/\lU l n=l.drop i
 |[],n,i,_,_=>by simp[Ik,lU]
 | x::l,n,0,_,h2=>by have:¬x<n:=h2 x rfl;simp[Ik,lU,this]
 | x::l,n,i+1,h1,h2=>by have D:x<n:=h1 x acQ;obtain⟨B,u⟩:=Il l n i (λy j=>h1 y (by simp[j])) (λy j=>h2 y (by simpa using j));unfold Ik at B ⊢;unfold lU at u ⊢;simp[D,B,u]
def N7(l:List Int)(n:Int)(hl:l.length<2^41):aq Tryz.prog 111 [.lst (l.map aa),.acU n] (.lst ((qY l n).map aa)):=by
 refine ac.fz (Ij _ _ _ _ ?_);refine vw ?_;generalize hQ:(λ(v:AV) (L:SH)=>∃S L2,ax [v] L [S] L2/\S=AV.lst ((qY l n).map aa)/\L2=[])=Q;refine qi l.length (λi=>([.lst (l.map aa),.acU n,.acU i],[])) (λi=>∀x∈l.take i,x<n) acQ rfl rfl ?_;intro i hi O;dsimp only;refine vw ?_;have fin:∀(b:Nat) (L:SH) (k:Nat),k=(l.take i).length+1+(l.drop i).length->Ik l n=l.take i/\lU l n=l.drop i->¬(lU l n).head? =some n->(b,(⟨1,((l.take i).map aa++[[.acU n]])++(l.drop i).map aa⟩:Blk))∈L->Q (.sl b 0 k) L:=λb L k hk j B hm=>by
  subst hQ;have e:qY l n=l.take i++n::l.drop i:=by unfold qY;rw[if_neg B,j.1,j.2]
  exact⟨_,[],ax.all (Fz.sls (l:=qY l n) hm (by rw[e];simp[aa]) acR (by rw[hk,e];simp;omega)),rfl,rfl⟩
 rcases LE i l.length with G|G
 .have hd:=aS G;have E:=aj (f:=aa) G;have N:l.take (i+1)=l.take i++[l[i]]:=Fn G;have u:(l.drop i).head? =some l[i]:=by rw[ack G];rfl
  have hlt:(l.take i).length=i:=by simp;omega
  cases Z:decide (l[i]<n)with
  |true=>
   repeat' (first|refine sy ?_|refine s2 (λh=>?_) λh=>?_|intro)
   exact⟨i+1,acN,acN,λx E=>by
    rw[N]at E;rcases aak.1 E with h|h
    .exact O x h
    .simp at h;subst h;exact of_decide_eq_true Z,fR (by rw[av G acN]<;>rfl) rfl⟩
  |false=>
   have j:=Il l n i O (λx E=>by rw[u]at E;cases E;exact of_decide_eq_false Z);cases Y:decide (l[i]=n)with
   |true=>
    repeat' (first|refine sy ?_|refine s2 ?_ ?_|intro)
    subst hQ;have e:qY l n=l:=by unfold qY;rw[if_pos];rw[j.2,u,of_decide_eq_true Y]
    exact⟨_,[],ax.all (.refl _),by rw[e]<;>rfl,rfl⟩
   |false=>
    have B:¬(lU l n).head? =some n:=by rw[j.2,u];intro h;cases h;simp at Y
    repeat' (first|refine sy ?_|refine wU (λ_=>rfl) acN ?_|refine wV (λ_=>rfl) acN ?_|refine dJ rp (λ_=>rfl) acQ acS acS (λ_=>rfl) (λM D=>?_)|refine Kv rp rp acQ acP acS acS acP (λM D=>?_)|refine s2 ?_ ?_|intro)
    exact fin _ _ _ acQ j B (by simp[co])
 .have hd:=aW G;have hi0:i=l.length:=by omega
  have u:(l.drop i).head? =none:=by rw[List.drop_eq_nil_of_le G];rfl
  have j:=Il l n i O (λx E=>by rw[u]at E;cases E);have B:¬(lU l n).head? =some n:=by rw[j.2,u];nofun
  repeat' (first|refine sy ?_|refine wU (λ_=>rfl) acN ?_|refine wV (λ_=>rfl) acN ?_|refine dJ rp (λ_=>rfl) acQ acS acS (λ_=>rfl) (λM D=>?_)|refine Kv rp rp acQ acP acS acS acP (λM D=>?_)|refine s2 ?_ ?_|intro)
  exact fin _ _ _ acQ j B (by simp[co])
def RJ(l:List Int)(n:Int):(qY l n).length<=l.length+1:=by
 unfold qY;split
 .omega
 .have:=congrArg List.length (Da l n);simp only[aal,abi]at this ⊢;omega
def RK{l:List Int}{n:Int}(h:l.Pairwise (·<·)):(qY l n).Pairwise (·<·):=by
 unfold qY;split
 .exact h
 .rename_i u;have Y:=Da l n;rw[<-Y]at h;obtain⟨h1,G,Z⟩:=List.pairwise_append.1 h;have B:∀x∈Ik l n,x<n:=λx D=>by unfold Ik at D;have:=abh.1 (List.all_takeWhile (p:=λx=>decide (x<n)) (l:=l)) x D;exact of_decide_eq_true this
  refine List.pairwise_append.2 ⟨h1,List.pairwise_cons.2 ⟨?_,G⟩,?_⟩
  .cases M:lU l n with
   |nil=>intro y j;cases j
   |cons x r=>
    rw[M]at u G;have D:¬x<n:=by
     have:(lU l n).head? =some x:=by rw[M];rfl
     unfold lU at this;have O:=List.head?_dropWhile_not (p:=λx=>decide (x<n)) l;rw[this]at O;simpa using O
    have S:x≠n:=λe=>u (by rw[e];rfl)
    intro y j;rcases aaj.1 j with rfl|j
    .omega
    .have:=(List.pairwise_cons.1 G).1 y j;omega
  .intro a N b E;rcases aaj.1 E with rfl|E
   .exact B a N
   .exact Z a N b E
def RL{l:List Int}{n x:Int}:x∈qY l n↔x∈l\/x=n:=by
 unfold qY;have j:=Da l n;split
 .rename_i u;constructor
  .exact .inl
  .rintro(h|rfl)
   .exact h
   .rw[<-j];exact aaY _ (List.mem_of_mem_head? u)
 .constructor
  .intro h;rcases aak.1 h with h|h
   .left;rw[<-j];exact abR _ h
   .rcases aaj.1 h with h|h
    .exact .inr h
    .left;rw[<-j];exact aaY _ h
  .rintro(h|rfl)
   .rw[<-j]at h;rcases aak.1 h with h|h
    .exact abR _ h
    .exact aaY _ (acb _ h)
   .exact aaY _ acJ
def puts(l m:List Int):List Int:=m.foldl qY l
def Kw:∀(m:List Int) {l:List Int},l.Pairwise (·<·)->(puts l m).Pairwise (·<·)
 |[],_,h=>h
 |x::m,_,h=>Kw m (RK h)
def Kx:∀(m:List Int) {l:List Int} {x:Int},x∈puts l m↔x∈l\/x∈m
 |[],l,x=>by simp[puts]
 | y::m,l,x=>by
  have:=Kx m (l:=qY l y) (x:=x);unfold puts at this ⊢;rw[acg,this,RL];simp only[aaj];constructor
  .rintro((h|h)|h)
   .exact .inl h
   .exact .inr (.inl h)
   .exact .inr (.inr h)
  .rintro(h|h|h)
   .exact .inl (.inl h)
   .exact .inl (.inr h)
   .exact .inr h
def Db:∀(m l:List Int),(puts l m).length<=l.length+m.length
 |[],l=>by simp[puts]
 | y::m,l=>by have j:=Db m (qY l y);have u:=RJ l y;unfold puts at j ⊢;rw[acg,abi];omega
def Up(m:List Int):puts [] m=Qj m:=Ub (Kw m .nil) (NX m) λx=>by rw[Kx,HU];simp
def Gt(l m:List Int)(x:Int):puts l (m++[x])=qY (puts l m) x:=by unfold puts;rw[acL];rfl
def RM(l m r:List Int):puts l (m++r)=puts (puts l m) r:=by unfold puts;rw[acL]
def Gu(a b:List Int)(ha:a.length<2^40)(hb:b.length<2^40):aq Tryz.prog 85 [.lst (a.map aa),.lst (b.map aa)] (.lst ((Qj (a++b)).map aa)):=by
 refine ac.fz (C8 _ _ _ _ ?_);refine vw ?_;generalize Z:(λ(v:AV) (L:SH)=>∃G O,ax [v] L [G] O/\G=AV.lst ((Qj (a++b)).map aa)/\O=[])=Q;refine aL a.length (λi (_:Unit)=>([.lst (a.map aa),.lst (b.map aa),.lst ((puts [] (a.take i)).map aa),.acU i],[])) (λ_ _=>True) () trivial (ax.vals (.cons (.refl _) (.cons (.refl _) (.cons .nils (.cons (.refl _) .nil))))) ?_;rintro i _ hi _;dsimp only;refine vw ?_;have D:=Db (a.take i) [];have Y:(a.take i).length<=a.length:=by rw[List.length_take];exact Nat.min_le_right _ _
 simp only[abq]at D;rcases LE i a.length with B|B
 .have E:=aS B;have S:=aj (f:=aa) B;have hp:=N7 (puts [] (a.take i)) a[i] acN
  repeat' (first|refine sy ?_|(refine pf 111 ?_;refine pm (hp) ?_)|refine s2 ?_ ?_|intro)
  exact⟨i+1,(),acN,acN,trivial,fR (by rw[av B acN,Fn B,Gt]<;>rfl) rfl⟩
 .have E:=aW B
  repeat' (first|refine sy ?_|refine s2 ?_ ?_|intro)
  rw[List.take_of_length_le B]at *;refine qi b.length (λi=>([.lst (b.map aa),.lst ((puts (puts [] a) (b.take i)).map aa),.acU i],[])) (λ_=>True) trivial rfl rfl ?_;intro j hj _;dsimp only;refine vw ?_;have N:=Db (b.take j) (puts [] a);have M:(b.take j).length<=b.length:=by rw[List.length_take];exact Nat.min_le_right _ _
  rcases LE j b.length with u|u
  .have E:=aS u;have S:=aj (f:=aa) u;have hp:=N7 (puts (puts [] a) (b.take j)) b[j] acN
   repeat' (first|refine sy ?_|(refine pf 111 ?_;refine pm (hp) ?_)|refine s2 ?_ ?_|intro)
   exact⟨j+1,acN,acN,trivial,fR (by rw[av u acN,Fn u,Gt]<;>rfl) rfl⟩
  .have E:=aW u;rw[aaT u,<-RM,Up]
   repeat' (first|refine sy ?_|refine s2 ?_ ?_|intro)
   subst Z;exact⟨_,[],ax.all (.refl _),rfl,rfl⟩
def rL:RF:=nv (bQ Tryz.prog Tryz.f66 [(9,⟨[0,3,4],[],true,[]⟩)] [])
abbrev Ec(a:AV)(L:SH)(Q:R):Prop:=Pc rL 20 Q 0 [] [a] L
def AR(j:AV)(L:SH)(Q:R)(h:Ec j L Q):ac Tryz.prog 66 [j] L Q:=
 fv rL Tryz.func66 h
def xz:RF:=nv (bQ Tryz.prog Tryz.f39 [] [(1,[5,6])])
abbrev IN(a b:AV)(L:SH)(Q:R):Prop:=Pc xz 20 Q 0 [] [a,b] L
def FT(u j:AV)(L:SH)(Q:R)(h:IN u j L Q):ac Tryz.prog 39 [u,j] L Q:=
 fv xz Tryz.func39 h
