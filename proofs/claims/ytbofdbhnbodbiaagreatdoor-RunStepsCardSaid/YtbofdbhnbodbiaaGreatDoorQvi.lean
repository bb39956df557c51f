/- A part of the proof; the statement is proved in the last part. -/
import Derived.Test.YtbofdbhnbodbiaaGreatDoorQvh
set_option linter.all false
set_option maxRecDepth 100000
set_option maxHeartbeats 20000000
namespace Go.Proofs.YtbofdbhnbodbiaaGreatDoor.Am
def yf{j:AV->SH->List Nat->Prop}{us:List W.WR}{i:Nat}{g:FuncId}{args:List AV}{L:SH}{R:AV->SH->Prop}(h:ac Tryz.prog g args [] R)(E:∀x∈us,W.free x ⟨i,[],[],[],true,[]⟩)(D:∀v K,R v K->j v (K++L) []):W.dcallM Tryz.prog us i g args L j:=
 ⟨[],L,.refl _,E,h.mono λu K B=>D u K B⟩
def Bj(Q:R)(x15 x16 x17:AV)(L14:SH):Prop:=
 W.faddr 0 x15 λx45=>W.store 1 x45 x17 L14 λL46=>HO 2 x15 L46 λx48=>wc (.fn 157 []) [x48] L46 (vX Q x15 x16)
def ml(q:Nat)(o:Option Nat)(j:Nat)(l:LockD):List AV:=if j=q then [.Uf l.owner,aj o l.readers.length]else l.enc
def bZ(q:Nat)(o:Option Nat)(ls:List LockD):List (List AV):=ls.zipIdx.map λp=>ml q o p.2 p.1
def cu(q:Nat)(o:Option Nat)(j:List LockD):(bZ q o j).length=j.length:=by simp[bZ]
def fP(q:Nat)(o:Option Nat)(u:List LockD)(j:Nat)(B:j<u.length):(bZ q o u)[j]? =some (ml q o j u[j]):=by simp[bZ,B]
def C6(q:Nat)(o:Option Nat)(ls:List LockD)(k:Nat):SH:=if q<k then ab o 1 ((ls.getD q default).readers.map ah)else []
def yg:List AV:=[.Uf 0,.nils]
def jH(q:Nat)(o:Option Nat)(ls:List LockD)(k:Nat):List (List AV):=(bZ q o ls).take k++List.replicate (ls.length-k) yg
def HS(q:Nat)(o:Option Nat)(j:List LockD)(k:Nat)(u:k<=j.length):(jH q o j k).length=j.length:=by simp[jH,cu];omega
def HT(q:Nat)(o E:Option Nat)(B:List LockD)(k:Nat)(h:k<=q\/o=E):(bZ q o B).take k=(bZ q E B).take k:=by
 rcases h with h|rfl
 .apply TH;intro j;rcases Fn j k with D|D
  .rw[S5 D,S5 D];rcases Fn j B.length with u|u
   .rw[fP _ _ _ _ u,fP _ _ _ _ u];simp[ml,show j≠q by omega]
   .rw[LE (by rw[cu];exact u),LE (by rw[cu];exact u)]
  .rw[LE (by simp;omega),LE (by simp;omega)]
 .rfl
def Bk(q:Nat)(o u:Option Nat)(j:List LockD)(k:Nat)(D:k<j.length)(h:k<=q\/o=u):(jH q o j k).set k (ml q u k j[k])=jH q u j (k+1):=by
 unfold jH;have G:((bZ q o j).take k).length=k:=by simp[cu];omega
 rw[List.set_append_right _ _ Ua,G,T7];obtain⟨m,E⟩:∃m,j.length-k=m+1:=⟨j.length-k-1,Ua⟩;rw[E,List.replicate_succ,List.set_cons_zero,HT q o u j k h];have B:k<(bZ q u j).length:=by rw[cu];exact D
 rw[Sw B,show j.length-(k+1)=m by omega];have:(bZ q u j)[k]=ml q u k j[k]:=by have:=fP q u j k D;rw[mt B]at this;exact TZ this
 rw[this];simp
def JH(q:Nat)(o:Option Nat)(j:List LockD)(k:Nat)(D:k<j.length):(jH q o j k)[k]? =some yg:=by
 unfold jH;have B:((bZ q o j).take k).length=k:=by simp[cu];omega
 rw[SA Ua,B,T7];obtain⟨m,u⟩:∃m,j.length-k=m+1:=⟨j.length-k-1,Ua⟩;rw[u];rfl
structure JI(s:SyncD)(q:Nat)(v:AV)(L:SH):Prop where
 ex:∃(bl:Nat) (o od ot:Option Nat),v=.agg [.sl bl 0 s.locks.length,.Uf s.tx,aJ od s.done.length,aJ ot s.threads.length]/\
  L=(bl,⟨2,bZ q o s.locks⟩)::(C6 q o s.locks s.locks.length++(ab od 1 (s.done.map aB)++ab ot 3 (s.threads.map ThrD.enc)))/\(od=none->s.done=[])/\(ot=none->s.threads=[])/\(o=none->q<s.locks.length->(s.locks.getD q default).readers=[])
def FK(s:SyncD)(q E b2 D:Nat)(h1:s.locks.length<2^40)(hrd:∀l∈s.locks,l.readers.length<2^40)(Q:AV->SH->Prop)
  (Z:∀o:Option Nat,(o=none->q<s.locks.length->(s.locks.getD q default).readers=[])->Bj Q (.ptr E 0 0) (.ptr b2 0 0) (.sl D 0 s.locks.length) ((D,⟨2,bZ q o s.locks⟩)::(b2,⟨4,[[.nils,.Uf 0,.nils,.nils]]⟩)::(E,⟨4,[s.enc]⟩)::C6 q o s.locks s.locks.length)) :
  W.loop (vY Q) [.ptr E 0 0,.ptr b2 0 0,.sl D 0 s.locks.length,.lst (s.locks.map LockD.enc),.Uf s.locks.length,.Uf (0:Nat)] [(D,⟨2,List.replicate s.locks.length yg⟩),(b2,⟨4,[[.nils,.Uf 0,.nils,.nils]]⟩),(E,⟨4,[s.enc]⟩)]:=by
 refine bD s.locks.length (λk (o:Option Nat)=>([.ptr E 0 0,.ptr b2 0 0,.sl D 0 s.locks.length,.lst (s.locks.map LockD.enc),.Uf s.locks.length,.Uf k],(D,⟨2,jH q o s.locks k⟩)::(b2,⟨4,[[.nils,.Uf 0,.nils,.nils]]⟩)::(E,⟨4,[s.enc]⟩)::C6 q o s.locks k)) (λk o=>o=none->q<k->(s.locks.getD q default).readers=[]) none (λ_ h=>by omega) (df rfl (by simp[jH,C6])) ?_;intro k o hk ho;dsimp only;refine vw ?_;rcases Nat.lt_or_ge k s.locks.length with u|u
 .have hd:=aW u;have hx:=ao (f:=LockD.enc) u;have hz:=JH q o s.locks k u;have hkl:k<(jH q o s.locks k).length:=by rw[HS _ _ _ _ hk];exact u
  have hrk:(s.locks[k]).readers.length*8<=140737488355328:=by have:=hrd _ (Sy u);omega
  repeat' (first|refine st ?_|refine sb λO G=>?_|fail)
  refine yf (Be _ hrk) (by simp[rm,rz,W.free,af]) ?_;rintro v K ⟨B,rfl,rfl,S⟩
  skip
  have fin:∀(L:SH),L=ab B 1 ((s.locks[k]).readers.map ah)++((D,⟨2,(jH q o s.locks k).set k [.Uf (s.locks[k]).owner,aj B (s.locks[k]).readers.length]⟩)::(b2,⟨4,[[.nils,.Uf 0,.nils,.nils]]⟩)::(E,⟨4,[s.enc]⟩)::C6 q o s.locks k)->
    ∃j o2,k<j/\j<=s.locks.length/\(o2=none->q<j->(s.locks.getD q default).readers=[])/\az [.ptr E 0 0,.ptr b2 0 0,.sl D 0 s.locks.length,.lst (s.locks.map LockD.enc),.Uf s.locks.length,.Uf (IntKind.i64.wrap ((k:Int)+1))] L
     [.ptr E 0 0,.ptr b2 0 0,.sl D 0 s.locks.length,.lst (s.locks.map LockD.enc),.Uf s.locks.length,.Uf j] ((D,⟨2,jH q o2 s.locks j⟩)::(b2,⟨4,[[.nils,.Uf 0,.nils,.nils]]⟩)::(E,⟨4,[s.enc]⟩)::C6 q o2 s.locks j):=by
   intro L hL;subst hL;rw[ax u Ua];by_cases Y:k=q
   .subst Y;refine⟨k+1,B,Ua,Ua,λe _=>by simpa[List.getD,u]using S e,?_⟩;rw[<-Bk k o B s.locks k u (.inl (Fd _))];have e1:C6 k o s.locks k=[]:=by simp[C6]
    have e2:C6 k B s.locks (k+1)=ab B 1 ((s.locks[k]).readers.map ah):=by simp[C6,List.getD,u]
    have e3:ml k B k s.locks[k]=[.Uf (s.locks[k]).owner,aj B (s.locks[k]).readers.length]:=by simp[ml]
    rw[e1,e2,e3];exact az.forget (K:=[]) SG
   .refine⟨k+1,o,Ua,Ua,λe hq=>ho e Ua,?_⟩;have e1:C6 q o s.locks (k+1)=C6 q o s.locks k:=by
     by_cases hq:q<k
     .simp[C6,hq,show q<k+1 by omega]
     .simp[C6,hq,show¬q<k+1 by omega]
    rw[e1,<-Bk q o o s.locks k u (.inr rfl)];have e3:ml q o k s.locks[k]=[.Uf (s.locks[k]).owner,.lst ((s.locks[k]).readers.map ah)]:=by simp[ml,Y,LockD.enc]
    rw[e3];refine az.row (K:=ab B 1 ((s.locks[k]).readers.map ah)) (.refl _) Ud ?_;intro j r r' N M;rw[SS]at N M;by_cases hj:k=j
    .rw[if_pos hj]at N M;rw[if_pos Ua]at N M;cases N;cases M;refine .cons (.refl _) (.cons ?_ .nil);exact Fz.slot (f:=ah) rfl (λe=>by rw[S e];rfl) Ue (λy _=>rfl) (λy _ q a a2 h1 h2=>by rw[h1]at h2;cases h2;exact .refl _)
    .rw[if_neg hj]at N M;rw[N]at M;cases M;exact fU.refl _ _
  cases B with
  |none=>
   dsimp only[ab,aj,List.nil_append]at fin ⊢
   repeat' (first|refine st ?_|refine sb λO G=>?_|fail)
   exact fin _ rfl
  |some b'=>
   dsimp only[ab,aj,List.cons_append,List.nil_append]at fin ⊢
   repeat' (first|refine st ?_|refine sb λO G=>?_|fail)
   exact fin _ rfl
 .have hd:=aX u;have hk0:k=s.locks.length:=by omega
  subst hk0;have:=Z o ho;rw[show jH q o s.locks s.locks.length=bZ q o s.locks by simp[jH,cu,SX]];refine jt (Jg ?_);refine NY (DG hd ?_);refine vw ?_;exact this
def Bl{s:SyncD}(j:s.threads.length<2^40):s.threads.length*24<=140737488355328:=by omega
def DZ(s:SyncD)(q:Nat)(h1:s.locks.length<2^40)(h2:s.done.length<=140737488351232)(h3:s.threads.length<2^40)(M:∀l∈s.locks,l.readers.length<2^40):
  ac Tryz.prog 114 [.agg s.enc] [] (JI s q):=by
 refine ac.fz (vZ _ _ _ ?_);refine vw ?_;generalize hQ:(λ(v:AV) (L:SH)=>∃Z L2,az [v] L [Z] L2/\JI s q Z L2)=Q
 repeat' (first|refine st ?_|refine sb λu j=>?_|fail)
 rename_i Y _ S _;revert u;intro G _;refine FK s q Y S G h1 M Q ?_;intro o ho;unfold Bj
 repeat' (first|refine st ?_|refine sb λu j=>?_|fail)
 refine nD (HR _ Ua) ?_;rintro v K ⟨E,rfl,rfl,N⟩;refine vw ?_;have fin:∀(v:AV) (L:SH) (D:Option Nat),(D=none->s.threads=[])->v=.agg [.sl G 0 s.locks.length,.Uf s.tx,aJ E s.done.length,aJ D s.threads.length]->
   (∃x y:Blk,L=(G,⟨2,bZ q o s.locks⟩)::(S,x)::(Y,y)::(C6 q o s.locks s.locks.length++ab E 1 (s.done.map aB)++ab D 3 (s.threads.map ThrD.enc)))->Q v L:=by
  rintro v L D B rfl ⟨x,y,rfl⟩;subst hQ;refine⟨_,_,az.forget (K:=[(S,x),(Y,y)]) (R:=(G,⟨2,bZ q o s.locks⟩)::(C6 q o s.locks s.locks.length++ab E 1 (s.done.map aB)++ab D 3 (s.threads.map ThrD.enc))) ?_,⟨G,o,E,D,rfl,by rw[S3],N,B,ho⟩⟩;exact(List.Perm.swap _ _ _).trans ((List.Perm.swap _ _ _).cons _)
 cases E with
 |none=>
  dsimp only[aJ]at fin ⊢
  repeat' (first|refine st ?_|refine sb λu j=>?_|fail)
  refine nD (Bf _ (Bl h3)) ?_;rintro v K ⟨D,rfl,rfl,B⟩;refine vw ?_;cases D with
  |none=>
   dsimp only[aJ]at fin ⊢
   repeat' (first|refine st ?_|refine sb λu j=>?_|fail)
   exact fin _ _ none B rfl ⟨_,_,rfl⟩
  |some O=>
   dsimp only[aJ]at fin ⊢
   repeat' (first|refine st ?_|refine sb λu j=>?_|fail)
   exact fin _ _ (some O) B rfl ⟨_,_,rfl⟩
 |some bd=>
  dsimp only[aJ]at fin ⊢
  repeat' (first|refine st ?_|refine sb λu j=>?_|fail)
  refine nD (Bf _ (Bl h3)) ?_;rintro v K ⟨D,rfl,rfl,B⟩;refine vw ?_;cases D with
  |none=>
   dsimp only[aJ]at fin ⊢
   repeat' (first|refine st ?_|refine sb λu j=>?_|fail)
   exact fin _ _ none B rfl ⟨_,_,rfl⟩
  |some O=>
   dsimp only[aJ]at fin ⊢
   repeat' (first|refine st ?_|refine sb λu j=>?_|fail)
   exact fin _ _ (some O) B rfl ⟨_,_,rfl⟩
section
def fF(T:List ThrD)(c:Int)(i:Nat):Bool:=cU (T.getD i default) c
def aG(T:List ThrD)(c:Int)(n:Nat):List Nat:=(List.range n).filter λi=>fF T c i
def bB(l:List Nat)(wake:Int):Int:=match l with
 |[]=>-1
 |u::l=>if(u::l).any (λx=>decide ((x:Int)=wake))then wake else u
def cH(T:List ThrD)(c wake:Int):Int:=bB (aG T c T.length) wake
def fh(T:List ThrD)(i:Nat)(st:Int):List ThrD:=T.set i {T.getD i default with status:=st}
def eR(T:List ThrD)(c wake:Int):List ThrD:=if 0<=cH T c wake then fh T (cH T c wake).toNat 4 else T
theorem yh{l:List Nat}{wake:Int}(h:0<=bB l wake):(bB l wake).toNat∈l:=by
 cases l with
 |nil=>simp[bB]at h
 |cons u l=>
  simp only[bB]at h ⊢;split
  .rename_i D;obtain⟨x,j,B⟩:=TW.1 D;have:=of_decide_eq_true B;rw[<-this];simpa using j
  .simp
theorem FL(l:List Nat)(wake:Int):bB l wake=-1\/0<=bB l wake:=by
 cases l with
 |nil=>simp[bB]
 |cons u l=>
  right;simp only[bB];split
  .rename_i B;obtain⟨x,D,j⟩:=TW.1 B;have:=of_decide_eq_true j;omega
  .omega
theorem D0(l:List Nat)(i:Nat)(wake:Int):bB (l++[i]) wake=if bB l wake<0\/(i:Int)=wake then(i:Int)else bB l wake:=by
 cases l with
 |nil=>simp only[bB,Tu];split<;>simp_all
 |cons u l=>
  have j:=FL (u::l) wake;simp only[TF];rw[bB,<-TF,List.any_append];by_cases E:(i:Int)=wake
  .simp[E]
  .by_cases B:(u::l).any (λx=>decide ((x:Int)=wake))=true
   .have D:bB (u::l) wake=wake:=by simp only[bB];rw[if_pos B]
    rw[D]at j ⊢;obtain⟨x,M,G⟩:=TW.1 B;have:=of_decide_eq_true G;rw[B,Bool.true_or,if_pos rfl,if_neg Ua]
   .have D:bB (u::l) wake=u:=by simp only[bB];rw[if_neg B]
    rw[D,if_neg (by simp only[T6,not_or];exact⟨B,by simp[E]⟩),if_neg Ua]
theorem lR(T:List ThrD)(c:Int)(n:Nat):aG T c (n+1)=aG T c n++(if fF T c n then [n]else []):=by simp only[aG,List.range_succ,List.filter_append,List.filter_cons,List.filter_nil]
theorem qO{T:List ThrD}{c:Int}{n x:Nat}(h:x∈aG T c n):x<n:=by simp only[aG,TT,Tw]at h;exact h.1
theorem w9(T:List ThrD)(i:Nat)(st:Int)(j:i<T.length):(T.map ThrD.enc).set i ((ThrD.enc T[i]).set 0 (.Uf st))=(fh T i st).map ThrD.enc:=by unfold fh;rw[To];congr 1;simp[List.getD,j,ThrD.enc]
section
variable (a b d:AV) (bt:Nat)
theorem HU(T:List ThrD)(c wake:Int)(hT:T.length<2^40)(Z:([a,b,d,.sl bt 0 T.length]:List AV).all AV.one=true):
  ac Tryz.prog 119 [.agg [a,b,d,.sl bt 0 T.length],.Uf c,.Uf wake] [(bt,⟨3,T.map ThrD.enc⟩)] λv L=>v=.Uf (cH T c wake)/\L=[(bt,⟨3,(eR T c wake).map ThrD.enc⟩)]:=by
 refine t6 _ _ _ _ _ ?_;refine vw ?_;generalize hQ:(λ(v:AV) (L:SH)=>v=AV.Uf (cH T c wake)/\L=[(bt,(⟨3,(eR T c wake).map ThrD.enc⟩:Blk))])=Q
 repeat' (first|refine xU ?_ rfl Z (by exact T8 _)|refine st ?_|refine sb λD u=>?_|fail)
 refine iR T.length (λi=>([.Uf c,.Uf wake,.pptr [[a,b,d,.sl bt 0 T.length]] 0 0,.Uf (bB (aG T c i) wake),.sl bt 0 T.length,.Uf T.length,.Uf i],[(bt,⟨3,T.map ThrD.enc⟩)])) (λ_=>True) trivial (by simp[aG,bB]) rfl ?_;intro i hi _;dsimp only;refine vw ?_;rcases Nat.lt_or_ge i T.length with N|N
 .have hd:=aW N;have hx:=ao (f:=ThrD.enc) N;have hsn:=D0 (aG T c i) i wake;have O:=lR T c i;have G:fF T c i=cU T[i] c:=by simp[fF,N]
  have B:∀ch:Int,ch=bB (aG T c (i+1)) wake->∃j,i<j/\j<=T.length/\True/\az [.Uf c,.Uf wake,.pptr [[a,b,d,.sl bt 0 T.length]] 0 0,.Uf ch,.sl bt 0 T.length,.Uf T.length,.Uf (IntKind.i64.wrap ((i:Int)+1))] [(bt,⟨3,T.map ThrD.enc⟩)]
    [.Uf c,.Uf wake,.pptr [[a,b,d,.sl bt 0 T.length]] 0 0,.Uf (bB (aG T c j) wake),.sl bt 0 T.length,.Uf T.length,.Uf j] [(bt,⟨3,T.map ThrD.enc⟩)]:=λch hch=>⟨i+1,Ua,Ua,trivial,df (by rw[ax N Ua,hch]) rfl⟩
  cases hw:cU T[i] c with
  |false=>
   rw[hw]at G
   repeat' (first|refine st ?_|(refine pf 162 ?_;refine pm (kR _ _) ?_)|refine sb λD u=>?_|refine s2 (λh=>?_) λh=>?_|fail)
   exact B _ (by rw[O,G];simp)
  |true=>
   rw[hw]at G;have hn:bB (aG T c (i+1)) wake=if bB (aG T c i) wake<0\/(i:Int)=wake then(i:Int)else bB (aG T c i) wake:=by rw[O,G,if_pos rfl,hsn]
   by_cases E:bB (aG T c i) wake<0
   .have e1:decide (bB (aG T c i) wake<0)=true:=decide_eq_true E
    repeat' (first|refine st ?_|(refine pf 162 ?_;refine pm (kR _ _) ?_)|refine sb λD u=>?_|refine s2 (λh=>?_) λh=>?_|fail)
    exact B _ (by rw[hn,if_pos (.inl E)])
   .have e1:decide (bB (aG T c i) wake<0)=false:=decide_eq_false E;by_cases g2:(i:Int)=wake
    .have e2:decide ((i:Int)=wake)=true:=decide_eq_true g2
     repeat' (first|refine st ?_|(refine pf 162 ?_;refine pm (kR _ _) ?_)|refine sb λD u=>?_|refine s2 (λh=>?_) λh=>?_|fail)
     exact B _ (by rw[hn,if_pos (.inr g2)])
    .have e2:decide ((i:Int)=wake)=false:=decide_eq_false g2
     repeat' (first|refine st ?_|(refine pf 162 ?_;refine pm (kR _ _) ?_)|refine sb λD u=>?_|refine s2 (λh=>?_) λh=>?_|fail)
     exact B _ (by rw[hn,if_neg Ua])
 .have hd:=aX N;have hi0:i=T.length:=by omega
  subst hi0;have hns:bB (aG T c T.length) wake=cH T c wake:=rfl;rw[hns];by_cases E:0<=cH T c wake
  .have e1:decide (0<=cH T c wake)=true:=decide_eq_true E;have S:(cH T c wake).toNat<T.length:=qO (yh E);have hx:=ao (f:=ThrD.enc) S;have Y:cH T c wake=((cH T c wake).toNat:Nat):=(Int.toNat_of_nonneg E).symm;have hst:=w9 T _ 4 S;have M:eR T c wake=fh T (cH T c wake).toNat 4:=by rw[eR,if_pos E]
   generalize hk:(cH T c wake).toNat=k at *;rw[Y]at e1 hQ ⊢
   repeat' (first|refine st ?_|refine sb λD u=>?_|refine s2 (λh=>?_) λh=>?_|fail)
   subst hQ;exact⟨rfl,by rw[M,<-hst]⟩
  .have e1:decide (0<=cH T c wake)=false:=decide_eq_false E;have M:eR T c wake=T:=by rw[eR,if_neg E]
   repeat' (first|refine st ?_|refine sb λD u=>?_|refine s2 (λh=>?_) λh=>?_|fail)
   subst hQ;exact⟨rfl,by rw[M]⟩
def cM(T:List ThrD)(c:Int)(n:Nat):List ThrD:=T.zipIdx.map λp=>if decide (p.2<n)&&cU p.1 c then {p.1 with status:=4} else p.1
theorem ed(T:List ThrD)(c:Int)(n i:Nat)(j:i<T.length):(cM T c n)[i]? =some (if decide (i<n)&&cU T[i] c then {T[i]with status:=4} else T[i]):=by simp[cM,j]
theorem cB(T:List ThrD)(c:Int)(n:Nat):(cM T c n).length=T.length:=by simp[cM]
theorem Cg(T:List ThrD)(c:Int):cM T c 0=T:=by
 apply TH;intro i;rcases Fn i T.length with j|j
 .rw[ed T c 0 i j];simp[j]
 .rw[LE (by rw[cB];exact j),LE j]
theorem Ch(T:List ThrD)(c:Int)(n:Nat)(G:n<T.length):cM T c (n+1)=if cU T[n] c then(cM T c n).set n {T[n]with status:=4} else cM T c n:=by
 apply TH;intro i;have u:∀j:i<T.length,(if cU T[n] c then(cM T c n).set n {T[n]with status:=4} else cM T c n)[i]? =some (if decide (i<n+1)&&cU T[i] c then {T[i]with status:=4} else T[i]):=λj=>by
  by_cases B:i=n
  .subst B;cases D:cU T[i] c with
   |true=>simp[D,cB,j]
   |false=>simp[D,ed T c i i j]
  .have E:decide (i<n+1)=decide (i<n):=by apply decide_eq_decide.2;omega
   rw[E];split
   .rw[List.getElem?_set_ne Ua];exact ed T c n i j
   .exact ed T c n i j
 rcases Fn i T.length with j|j
 .rw[u j,ed T c (n+1) i j]
 .rw[LE (by rw[cB];exact j),LE];split<;>simp[cB,j]
theorem Ci(T:List ThrD)(c:Int)(hT:T.length<2^40)(N:([a,b,d,.sl bt 0 T.length]:List AV).all AV.one=true):
  ac Tryz.prog 120 [.agg [a,b,d,.sl bt 0 T.length],.Uf c] [(bt,⟨3,T.map ThrD.enc⟩)] λv L=>v=.Uf ((aG T c T.length).length:Nat)/\L=[(bt,⟨3,(cM T c T.length).map ThrD.enc⟩)]:=by
 refine o8 _ _ _ _ ?_;refine vw ?_;generalize hQ:(λ(v:AV) (L:SH)=>v=AV.Uf ((aG T c T.length).length:Nat)/\L=[(bt,(⟨3,(cM T c T.length).map ThrD.enc⟩:Blk))])=Q
 repeat' (first|refine xU ?_ rfl N (by exact T8 _)|refine st ?_|refine sb λE j=>?_|fail)
 refine iR T.length (λi=>([.Uf c,.pptr [[a,b,d,.sl bt 0 T.length]] 0 0,.Uf ((aG T c i).length:Nat),.sl bt 0 T.length,.Uf T.length,.Uf i],[(bt,⟨3,(cM T c i).map ThrD.enc⟩)])) (λ_=>True) trivial (by simp[aG]) (by rw[Cg]) ?_;intro i hi _;dsimp only;refine vw ?_;rcases Nat.lt_or_ge i T.length with u|u
 .have hd:=aW u;have M:i<(cM T c i).length:=by rw[cB];exact u
  have S:(cM T c i)[i]=T[i]:=by have:=ed T c i i u;rw[mt M]at this;simpa using this
  have hx:=ao (f:=ThrD.enc) M;rw[S]at hx;have G:=lR T c i;have B:fF T c i=cU T[i] c:=by simp[fF,u]
  have D:=Ch T c i u;have O:(aG T c i).length<=i:=SK (TP _ _) Ud;cases Z:cU T[i] c with
  |false=>
   rw[Z]at B D
   repeat' (first|refine st ?_|(refine pf 162 ?_;refine pm (kR _ _) ?_)|refine sb λE j=>?_|refine s2 (λh=>?_) λh=>?_|fail)
   refine⟨i+1,Ua,Ua,trivial,df (by rw[ax u Ua,G,B];simp[cF]) (by rw[D];simp)⟩
  |true=>
   rw[Z]at B D
   repeat' (first|refine st ?_|(refine pf 162 ?_;refine pm (kR _ _) ?_)|refine sb λE j=>?_|refine s2 (λh=>?_) λh=>?_|fail)
   refine⟨i+1,Ua,Ua,trivial,df (by rw[ax u Ua,G,B,ax (Nat.lt_of_le_of_lt O u) Ua];simp[cF]) ?_⟩;rw[D,if_pos rfl,To];simp[ThrD.enc]
 .have hd:=aX u;have Y:i=T.length:=by omega
  subst Y
  repeat' (first|refine st ?_|refine sb λE j=>?_|refine s2 (λh=>?_) λh=>?_|fail)
  subst hQ;exact⟨rfl,rfl⟩
end
end
def vp(P:Program)(g:FuncId)(cs:List AV)(p:Int->Bool):Prop:=∀x:Int,aq P g (.Uf x::cs) (.bool (p x))
def vp.call{P:Program}{g:FuncId}{cs:List AV}{p:Int->Bool}(h:vp P g cs p){x:Int}{L:SH}{KL:AV->SH->Prop}(j:KL (.bool (p x)) L):W.call P (.fn g cs) [.Uf x] L KL:=⟨(h x).call j⟩
def ud(p:Int->Bool)(l:List Int):Int:=if l.any p then(l.findIdx p:Int)else -1
def HV{p:Int->Bool}{l:List Int}{i:Nat}(B:i<l.length)(u:(l.take i).any p=false)(hp:p l[i]=true):ud p l=i:=by
 have E:l.any p=true:=TW.2 ⟨l[i],Sy B,hp⟩;have D:l.findIdx p=i:=by rw[List.findIdx_eq B];refine⟨hp,λj G=>?_⟩;have:=List.any_eq_false.1 u l[j] (List.mem_take_iff_getElem.2 ⟨j,Ua,rfl⟩);simpa using this
 rw[ud,if_pos E,D]
def Cj(g:FuncId)(cs:List AV)(p:Int->Bool)(hp:vp Tryz.prog g cs p)(b:Nat)(xs:List Int)(G:xs.length<2^62):ac Tryz.prog 161 [.sl b 0 xs.length,.fn g cs] [(b,⟨1,xs.map ah⟩)] λv L=>v=.Uf (ud p xs)/\L=[(b,⟨1,xs.map ah⟩)]:=by
 refine gJ _ _ _ _ ?_;refine vw ?_;generalize E:(λ(v:AV) (L:SH)=>v=AV.Uf (ud p xs)/\L=[(b,(⟨1,xs.map ah⟩:Blk))])=Q
 repeat' (first|refine st ?_|refine sb λD u=>?_|fail)
 refine iR xs.length (λi=>([.sl b 0 xs.length,.fn g cs,.Uf xs.length,.Uf i],[(b,⟨1,xs.map ah⟩)])) (λi=>(xs.take i).any p=false) Ud rfl rfl ?_;intro i O j;dsimp only;refine vw ?_;rcases Nat.lt_or_ge i xs.length with B|B
 .have N:=ao (f:=ah) B;have M:=aW B
  repeat' (first|refine nA (vp.call hp ?_)|refine st ?_|refine sb λD u=>?_|refine s2 (λh=>?_) λh=>?_|fail)
  .subst E;exact⟨by rw[HV B j h],rfl⟩
  .refine⟨i+1,Ua,Ua,?_,df (by rw[ax B G]<;>rfl) rfl⟩;rw[Sw B,List.any_append,j];simpa using h
 .have M:=aX B
  repeat' (first|refine st ?_|refine sb λD u=>?_|refine s2 (λh=>?_) λh=>?_|fail)
  subst E;rw[SX B]at j;exact⟨by rw[ud,if_neg (by simp[j])],rfl⟩
def Bm{k:IntKind}{m d:Nat}:cC (some (.int k (m:Int))) d=some m:=by simp[cC,ky]
def FM{p:Int->Bool}{l:List Int}(h:ud p l≠-1):∃i:Nat,ud p l=i/\i<l.length/\(l.take (i+1)).filter (λx=>!p x)=l.take i:=by
 unfold ud at h ⊢;split at h
 .rename_i B;rw[if_pos B];refine⟨l.findIdx p,rfl,List.findIdx_lt_length.2 (TW.1 B),?_⟩;have u:=List.findIdx_lt_length.2 (TW.1 B);rw[Sw u,List.filter_append];have E:p l[l.findIdx p]=true:=List.findIdx_getElem;rw[List.filter_cons_of_neg (by simp[E]),List.filter_nil,Ta,List.filter_eq_self];intro x D;obtain⟨j,G,rfl⟩:=List.mem_take_iff_getElem.1 D;have:=List.not_of_lt_findIdx (xs:=l) (p:=p) (i:=j) Ua;simpa using this
 .exact absurd rfl h
def Bn{p:Int->Bool}{l:List Int}(h:ud p l=-1):l.filter (λx=>!p x)=l:=by
 unfold ud at h;split at h
 .omega
 .rename_i j;rw[List.filter_eq_self];intro x u;simp only[Bool.not_eq_true,List.any_eq_false]at j;simpa using j x u
def zZ(g:FuncId)(cs:List AV)(p:Int->Bool)(hp:vp Tryz.prog g cs p)(b:Nat)(xs:List Int)(hl:xs.length<2^61):ac Tryz.prog 117 [.sl b 0 xs.length,.fn g cs] [(b,⟨1,xs.map ah⟩)] λv L=>∃R:List Int,v=.sl b 0 (xs.filter λx=>!p x).length/\L=[(b,⟨1,R.map ah⟩)]/\R.take (xs.filter λx=>!p x).length=(xs.filter λx=>!p x)/\R.length=xs.length:=by
 refine gu _ _ _ _ ?_;refine vw ?_;refine nA (FH (vm (Cj g cs p hp b xs Ua) ?_));rintro v L ⟨rfl,rfl⟩;refine vw ?_;generalize hQ:(λ(v:AV) (L:SH)=>∃R:List Int,v=AV.sl b 0 (xs.filter λx=>!p x).length/\L=[(b,(⟨1,R.map ah⟩:Blk))]/\R.take (xs.filter λx=>!p x).length=(xs.filter λx=>!p x)/\R.length=xs.length)=Q;by_cases hm:ud p xs=-1
 .have hd:decide (ud p xs=-1)=true:=decide_eq_true hm
  repeat' (first|refine st ?_|refine sb λE B=>?_|fail)
  subst hQ;refine⟨xs,?_,rfl,?_,rfl⟩
  .rw[Bn hm]
  .rw[Bn hm];simp
 .have hd:decide (ud p xs=-1)=false:=decide_eq_false hm;obtain⟨u,hi0,hlt,M⟩:=FM hm;rw[hi0]at hd ⊢
  repeat' (first|refine st ?_|refine sb λE B=>?_|fail)
  rw[ax hlt Ua];have hc:∀j,((xs.take j).filter λx=>!p x).length<=j:=λj=>SK (TP _ _) (by simp;omega)
  refine bD (xs.length-(u+1)) (λk (R:List Int)=>([.sl b 0 xs.length,.fn g cs,.Uf (((xs.take (u+1+k)).filter λx=>!p x).length:Nat),.Uf (u+1+k:Nat)],[(b,⟨1,R.map ah⟩)]))
   (λk R=>R.length=xs.length/\R.take ((xs.take (u+1+k)).filter λx=>!p x).length=((xs.take (u+1+k)).filter λx=>!p x)/\R.drop (u+1+k)=xs.drop (u+1+k)) xs ⟨rfl,by rw[T2,M];simp,rfl⟩ (df (by rw[T2,M,ST,Tn Ua]) rfl) ?_
  rintro k R hk ⟨Z,Y,r3⟩;dsimp only;refine vw ?_;have S:=hc (u+1+k);generalize hj:u+1+k=j at Y r3 S ⊢;rcases Nat.lt_or_ge j xs.length with N|N
  .have hd2:=aW N;have h1':j<R.length:=by omega
   have hxj:R[j]=xs[j]:=by have h0:=congrArg (λl=>l[0]?) r3;simp only[Ti,T2]at h0;rw[mt h1',mt N]at h0;exact TZ h0
   have hx:=ao (f:=ah) h1';rw[hxj]at hx;have G:(xs.take (j+1)).filter (λx=>!p x)=(xs.take j).filter (λx=>!p x)++([xs[j]].filter λx=>!p x):=by rw[Sw N,List.filter_append]
   have hm1:((xs.take j).filter λx=>!p x).length<xs.length:=by omega
   have hm2:((xs.take j).filter λx=>!p x).length<R.length:=by omega
   have hxm:=ao (f:=ah) hm2;cases D:p xs[j]with
   |true=>
    have hnp:(!p xs[j])=false:=by simp[D]
    repeat' (first|refine nA (vp.call hp ?_)|refine st ?_|refine sb λE B=>?_|refine s2 (λh=>?_) λh=>?_|fail)
    refine⟨k+1,R,Ua,Ua,⟨Z,?_,?_⟩,df ?_ rfl⟩
    .rw[show u+1+(k+1)=j+1 by omega,G];simpa[D]using Y
    .rw[show u+1+(k+1)=j+1 by omega,<-List.drop_drop,<-List.drop_drop,r3]
    .rw[show u+1+(k+1)=j+1 by omega,G,ax N Ua];simp[D,cF]
   |false=>
    have hnp:(!p xs[j])=true:=by simp[D]
    repeat' (first|refine nA (vp.call hp ?_)|refine st ?_|refine sb λE B=>?_|refine s2 (λh=>?_) λh=>?_|fail)
    refine⟨k+1,R.set ((xs.take j).filter λx=>!p x).length xs[j],Ua,Ua,⟨by simp[Z],?_,?_⟩,df ?_ ?_⟩
    .rw[show u+1+(k+1)=j+1 by omega,G];simp only[List.filter_cons,D,Bool.not_false,if_true,List.filter_nil,SD,List.length_singleton];rw[Sw (by simpa using hm2),List.take_set_of_le (Fd _),Y];simp
    .rw[show u+1+(k+1)=j+1 by omega,List.drop_set_of_lt Ua,<-List.drop_drop,<-List.drop_drop,r3]
    .rw[show u+1+(k+1)=j+1 by omega,G,ax N Ua,ax hm1 Ua];simp[D,cF]
    .simp[To,ah]
  .have hd2:=aX N;have ht:xs.take j=xs:=SX N;rw[ht]at Y S ⊢;have O:(xs.filter λx=>!p x).length<=xs.length:=TP _ _;generalize hmm:(xs.filter λx=>!p x).length=m at Y S O hQ ⊢
   repeat' (first|refine st ?_|refine tT (l:=m) (h:=xs.length) Bm rfl O (Fd _) (.head _) rfl ?_|refine HL (.here _) rfl (by simp[Z];omega) rfl ?_|refine tT (l:=0) (h:=m) rfl Bm (SL _) O (.head _) rfl ?_|refine sb λE B=>?_|fail)
   subst hQ;refine⟨R.take m++List.replicate (xs.length-m) 0,Ud,?_,?_,?_⟩
   .simp only[Tm];rw[List.drop_of_length_le (by simp[Z];omega),Ta,LT,List.map_take];simp[ah]
   .rw[List.take_left' (by simp[Z];omega)];exact Y
   .simp[Z];omega
def HW(t x:Int)(L:SH):vp Tryz.prog 118 [.pptr [[.Uf t]] 0 0] (λx=>decide (x=t)):=λx=>by
 refine sg _ _ _ _ ?_;refine vw ?_
 repeat' (first|refine st ?_|refine sb λu j=>?_|fail)
 exact⟨rfl,rfl⟩
end Go.Proofs.YtbofdbhnbodbiaaGreatDoor.Am
