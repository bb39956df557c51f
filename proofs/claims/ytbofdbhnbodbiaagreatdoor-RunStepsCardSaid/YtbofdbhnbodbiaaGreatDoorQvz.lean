/- A part of the proof; the statement is proved in the last part. -/
import Derived.Test.YtbofdbhnbodbiaaGreatDoorQvy
set_option linter.all false
set_option maxRecDepth 100000
set_option maxHeartbeats 20000000
namespace Go.Proofs.YtbofdbhnbodbiaaGreatDoor.Am
section
theorem BC(o:Option Nat)(n:Nat):(aj o n).one=true:=by cases o<;>rfl
theorem oI{ol:Option Nat}{n m k bd bt:Nat}{tx:Int}:([aj ol n,.Uf tx,.sl bd 0 m,.sl bt 0 k]:List AV).all AV.one=true:=by show((aj ol n).one&&(true&&(true&&(true&&true))))=true;rw[BC];rfl
theorem vH{ol:Option Nat}{j:List LockD}{L:SH}(B:ol=none->j=[])(u:∀p∈ab ol 2 (j.map LockD.enc),p∈L):Fz L (aj ol j.length) (.lst (j.map LockD.enc)):=by
 cases ol with
 |none=>rw[B rfl];exact .emp
 |some b=>exact Fz.sls (u _ (Sz.2 rfl)) rfl Ue rfl
section
variable (w:aI) (s:SyncD) (t o wake:Int) (b7 b12 bd bt:Nat) (ol:Option Nat)
def Il:SH:=(bt,⟨3,s.threads.map ThrD.enc⟩)::(bd,⟨1,s.done.map aB⟩)::(b12,⟨4,[[.nils,.Uf 0,.nils,.nils]]⟩)::(b7,⟨4,[s.enc]⟩)::ab ol 2 (s.locks.map LockD.enc)
def Pz(s:SyncD)(bd bt:Nat)(ol:Option Nat):AV:=.agg [aj ol s.locks.length,.Uf s.tx,.sl bd 0 s.done.length,.sl bt 0 s.threads.length]
def lr(k:Int)(Q:R):Prop:=∀L:SH,Fz L (aj ol s.locks.length) (.lst ((bG w s t k o wake).1.locks.map LockD.enc))->Fz L (.sl bt 0 s.threads.length) (.lst ((bG w s t k o wake).1.threads.map ThrD.enc))->Fz L (.sl bd 0 s.done.length) (.lst ((bG w s t k o wake).1.done.map aB))->
 Q (.tup [.agg [aj ol s.locks.length,.Uf (bG w s t k o wake).1.tx,.sl bd 0 s.done.length,.sl bt 0 s.threads.length],.Uf (bG w s t k o wake).2,.bool true]) L
def Im(k:Int)(Q:R):Prop:=mC Q (.Uf k) (.Uf t) (.Uf o) (.Uf wake) (.ptr b7 0 0) (.ptr b12 0 0) (.pptr [w.enc] 0 0) (Pz s bd bt ol) (Il s b7 b12 bd bt ol)
variable (Q:R) (hf:wi w s) (ht:inB t w.threads.length=true) (hol:ol=none->s.locks=[]) (hnd:(Il s b7 b12 bd bt ol).names.Nodup)
include hf ht hol hnd
theorem Q6(k:Int)(O:allowedS w k o=true)(hk:k=1\/k=2\/k=3\/k=4\/k=5\/k=12\/k=13\/k=14\/k=15\/k=20\/k=21\/k=22\/k=23)(E:lr w s t o wake bd bt ol k Q):Im w s t o wake b7 b12 bd bt ol k Q:=by
 unfold Im Pz Il;refine vw ?_;simp only[SH.names,Il,Sx,Tc,SB,not_or]at hnd;obtain⟨⟨n1,n2,n3,n4⟩,⟨n5,n6,n7⟩,⟨n8,n9⟩,n10,_⟩:=hnd;have M:inB t s.threads.length=true:=by rw[hf.threads];exact ht
 have hy:=lS M;obtain⟨t0,t1⟩:=av.1 M;have u:k=20->inB o s.threads.length=true:=λh=>by subst h;rw[hf.threads];simpa[allowedS]using O
 have j:k=22->inB o s.done.length=true:=λh=>by subst h;rw[hf.done];simpa[allowedS]using O
 have D:∀S:Int,([aj ol s.locks.length,.Uf S,.sl bd 0 s.done.length,.sl bt 0 s.threads.length]:List AV).all AV.one=true:=λS=>oI
 unfold lr bG at E;clear O;rcases hk with rfl|rfl|rfl|rfl|rfl|rfl|rfl|rfl|rfl|rfl|rfl|rfl|rfl
 all_goals simp only[Int.reduceEq,Int.reduceNeg,if_true,if_false,or_self,or_true,true_or,or_false,false_or,reduceIte,reduceCtorEq]at E
 case inr.inr.inr.inr.inr.inr.inr.inr.inr.inl=>
  have N:=u rfl;have hx:=lS N;obtain⟨Z,Y⟩:=av.1 N;clear hf ht u j
  repeat' (first|refine st ?_|refine a8 rp rfl rfl (D _) rfl ?_|refine sb λG B=>?_|refine s2 (λh=>?_) λh=>?_|fail)
  exact E _ (vH hol (λp hp=>by simp only[SB,SC];simp[hp])) (Fz.sls mm (kS rfl) Ud (by simp[cY])) (Fz.sls mm rfl Ud rfl)
 case inr.inr.inr.inr.inr.inr.inr.inr.inr.inr.inr.inl=>
  have N:=j rfl;obtain⟨Z,Y⟩:=av.1 N;have hx:(s.done.map aB)[0+o.toNat]? =some (aB (s.done.getD o.toNat default)):=by rw[Tm];exact bQ N
  clear hf ht u j
  repeat' (first|refine st ?_|refine a8 rp rfl rfl (D _) rfl ?_|refine sb λG B=>?_|refine s2 (λh=>?_) λh=>?_|fail)
  refine E _ (vH hol (λp hp=>by simp only[SB,SC];simp[hp])) (Fz.sls mm rfl Ud rfl) (Fz.sls mm ?_ Ud Ud);rw[To,Tm];rfl
 all_goals
  clear hf ht u j
  repeat' (first|refine st ?_|refine a8 rp rfl rfl (D _) rfl ?_|refine sb λG B=>?_|refine s2 (λh=>?_) λh=>?_|fail)
  first
   |exact E _ (vH hol (λp hp=>by simp only[SB,SC];simp[hp])) (Fz.sls mm (kS rfl) Ud (by simp[cY])) (Fz.sls mm rfl Ud rfl)
   |exact E _ (vH hol (λp hp=>by simp only[SB,SC];simp[hp])) (Fz.sls mm rfl Ud rfl) (Fz.sls mm rfl Ud rfl)
end
section
variable (w:aI) (s:SyncD) (t o wake:Int) (b7 b12 bd bt bl:Nat) (Q:R) (hf:wi w s) (ht:inB t w.threads.length=true) (hnd:(Il s b7 b12 bd bt (some bl)).names.Nodup)
include hf ht hnd
theorem Q7(k:Int)(M:allowedS w k o=true)(Y:k=6\/k=7\/k=10\/k=11\/k=8\/k=9)(u:(aF s o).readers.length<2^40)(D:lr w s t o wake bd bt (some bl) k Q):Im w s t o wake b7 b12 bd bt (some bl) k Q:=by
 unfold Im Pz Il;refine vw ?_;simp only[SH.names,Il,ab,Sx,S6,Tc,SB,not_or,Th,not_false_eq_true,and_true]at hnd;obtain⟨⟨n1,n2,n3,n4⟩,⟨n5,n6,n7⟩,⟨n8,n9⟩,n10,_⟩:=hnd;have j:inB t s.threads.length=true:=by rw[hf.threads];exact ht
 have hy:=lS j;obtain⟨t0,t1⟩:=av.1 j;have S:inB o s.locks.length=true:=by rw[hf.locks];rcases Y with rfl|rfl|rfl|rfl|rfl|rfl<;>(simp[allowedS]at M;exact M.1)
 have hx:=sj S;obtain⟨o0,o1⟩:=av.1 S;have B:∀N:Int,([aj (some bl) s.locks.length,.Uf N,.sl bd 0 s.done.length,.sl bt 0 s.threads.length]:List AV).all AV.one=true:=λN=>oI
 have G:∀b,ac Tryz.prog 78 [.lst ((aF s o).readers.map ah),.sl b 0 1] [(b,⟨1,[[.Uf t]]⟩)] λv L=>v=.lst ((si (aF s o).readers t).map ah)/\L=[]:=λb=>ac.pre (args2:=[.lst ((aF s o).readers.map ah),.lst ([t].map ah)]) (L2:=[]) (az.drop (K:=[(b,⟨1,[[.Uf t]]⟩)]) Ud rfl (fU.at_ (.cons (.refl _) (.cons (Fz.sls (l:=[t]) (f:=ah) (Sz.2 rfl) rfl Ue rfl) .nil))).2) (Bz _ [t] u Ud)
 have E:=EF (aF s o).readers t u;dsimp only[ab,aj]at B ⊢;unfold lr bG at D;dsimp only[aj]at D;clear M hf ht;rcases Y with rfl|rfl|rfl|rfl|rfl|rfl
 all_goals
  simp only[Int.reduceEq,Int.reduceNeg,if_true,if_false,or_self,or_true,true_or,or_false,false_or,reduceIte,reduceCtorEq]at D
  repeat' (first|refine st ?_|refine a8 rp rfl rfl (B _) rfl ?_|((with_reducible refine eh 78 ?_);(refine r9 (G _) rp (by(simp only[rm,rc,rz,W.free,cF,↓reduceIte,Nat.reduceEqDiff,af,fk,T1,Tb,Th,not_false_eq_true,implies_true,and_true,true_and,and_self,SO,reduceCtorEq,forall_const,false_implies,Sz,forall_eq,Ta,Tu,SB,or_false,false_or,forall_eq_or_imp,not_or])<;>(repeat' constructor)<;>first|assumption|(exact Ne.symm Ub)|(intro e_;subst e_;simp[SH.names]at *;done)) ?_;rintro _ _ ⟨rfl,rfl⟩))|(refine pf 79 ?_;refine pm (E) ?_)|refine sb λZ O=>?_|refine s2 (λh=>?_) λh=>?_|fail)
  exact D _ (Fz.sls mm (oW rfl) Ud (by simp[cg])) (Fz.sls mm rfl Ud rfl) (Fz.sls mm rfl Ud rfl)
theorem Q8(k:Int)(S:allowedS w k o=true)(O:k=16\/k=17)(D:lr w s t o wake bd bt (some bl) k Q):Im w s t o wake b7 b12 bd bt (some bl) k Q:=by
 unfold Im Pz Il;refine vw ?_;simp only[SH.names,Il,ab,Sx,S6,Tc,SB,not_or,Th,not_false_eq_true,and_true]at hnd;obtain⟨⟨n1,n2,n3,n4⟩,⟨n5,n6,n7⟩,⟨n8,n9⟩,n10,_⟩:=hnd;have u:inB t s.threads.length=true:=by rw[hf.threads];exact ht
 have hy:=lS u;obtain⟨t0,t1⟩:=av.1 u;have E:inB o w.conds.length=true:=by rcases O with rfl|rfl<;>simpa[allowedS]using S
 have N:=Bi hf E;have hx:=sj N;obtain⟨m0,Z⟩:=av.1 N;have hcx:=bQ (f:=bR.enc) E;obtain⟨c0,c1⟩:=av.1 E;unfold ig at hx m0 Z;have B:∀G:Int,([aj (some bl) s.locks.length,.Uf G,.sl bd 0 s.done.length,.sl bt 0 s.threads.length]:List AV).all AV.one=true:=λG=>oI
 have j:∀v,((s.threads.map ThrD.enc).set (0+t.toNat) ((aR s t).enc.set 0 v))[0+t.toNat]? =some ((aR s t).enc.set 0 v):=λv=>JO hy
 have hy3:=j (.Uf 3);have hy4:=j (.Uf 2);clear j;dsimp only[ab,aj]at B ⊢;unfold lr bG ig at D;dsimp only[aj]at D;clear S hf ht;rcases O with rfl|rfl
 all_goals
  simp only[Int.reduceEq,Int.reduceNeg,if_true,if_false,or_self,or_true,true_or,or_false,false_or,reduceIte,reduceCtorEq]at D
  repeat' (first|refine st ?_|refine a8 rp rfl rfl (B _) rfl ?_|refine sb λY M=>?_|refine s2 (λh=>?_) λh=>?_|fail)
  refine D _ (Fz.sls mm (oW rfl) Ud (by simp[cg])) (Fz.sls mm ?_ Ud (by simp[cY])) (Fz.sls mm rfl Ud rfl);rw[List.set_set];exact kS rfl
end
end
section
def jV(T:List ThrD)(l:List Nat):List ThrD:=l.foldl (λT i=>fh T i 4) T
theorem uK:∀(l:List Nat) (T:List ThrD),(jV T l).length=T.length
 |[],_=>rfl
 | i::l,T=>by have:=uK l (fh T i 4);unfold jV at this ⊢;rw[TL,this];simp[fh]
theorem EH:∀(l:List Nat) (T:List ThrD) (j:Nat) (B:j<T.length),(jV T l)[j]? =some (if j∈l then {T[j]with status:=4} else T[j])
 |[],T,j,B=>by simp[jV,B]
 | i::l,T,j,B=>by
  have E:j<(fh T i 4).length:=by simp[fh,B]
  have:=EH l (fh T i 4) j E;unfold jV at this ⊢;rw[TL,this];by_cases u:i=j
  .subst u;have:(fh T i 4)[i]={T[i]with status:=4}:=by simp[fh,B]
   rw[this];simp
  .have:(fh T i 4)[j]=T[j]:=by simp[fh,List.getElem_set_ne u]
   rw[this];have D:j≠i:=λe=>u e.symm
   simp[D]
theorem In(T:List ThrD)(c:Int):jV T (aG T c T.length)=cM T c T.length:=by
 apply TH;intro j;rcases Fn j T.length with u|u
 .rw[EH _ _ _ u,ed _ _ _ _ u];have D:j∈aG T c T.length↔cU T[j] c=true:=by
   have:fF T c j=cU T[j] c:=by simp[fF,u]
   simp[aG,this,u]
  by_cases B:cU T[j] c=true
  .rw[if_pos (D.2 B)];simp[u,B]
  .rw[if_neg (λh=>B (D.1 h))];simp[B]
 .rw[LE (by rw[uK];exact u),LE (by rw[cB];exact u)]
theorem F9(T:List ThrD)(l:List Nat)(i:Nat):jV T (l++[i])=fh (jV T l) i 4:=by unfold jV;rw[List.foldl_append];rfl
section
variable (w:aI) (s:SyncD) (t o wake:Int) (b7 b12 bd bt:Nat) (ol:Option Nat) (Q:R) (hol:ol=none->s.locks=[]) (hT:s.threads.length<2^40)
include hol hT
theorem OG(M:lr w s t o wake bd bt ol 18 Q):Im w s t o wake b7 b12 bd bt ol 18 Q:=by
 unfold Im Pz Il;refine vw ?_;have D:∀tx:Int,([aj ol s.locks.length,.Uf tx,.sl bd 0 s.done.length,.sl bt 0 s.threads.length]:List AV).all AV.one=true:=λtx=>oI
 have Z:=vG (aj ol s.locks.length) (.Uf s.tx) (.sl bd 0 s.done.length) bt s.threads o hT (D _);unfold lr bG at M;simp only[Int.reduceEq,Int.reduceNeg,if_true,if_false,or_self,or_true,true_or,or_false,false_or,reduceIte,reduceCtorEq]at M;have B:cH s.threads o wake=bB (aG s.threads o s.threads.length) wake:=rfl;have N:∀x∈aG s.threads o s.threads.length,x<s.threads.length:=λx hx=>qO hx
 have Y:(aG s.threads o s.threads.length).length<=s.threads.length:=SK (TP _ _) Ud;cases hl:aG s.threads o s.threads.length with
 |nil=>
  rw[hl]at Z B;have O:cH s.threads o wake=-1:=B;rw[O,show eR s.threads o wake=s.threads by unfold eR;rw[O,if_neg Ue]]at M
  repeat' (first|refine st ?_|refine a8 rp rfl rfl (D _) rfl ?_|((with_reducible refine bb 80 ?_);(refine fE Z rp ?_;rintro _ _ ⟨rfl,rfl⟩))|refine sb λS E=>?_|refine s2 (λh=>?_) λh=>?_|fail)
  exact M _ (vH hol (λp hp=>by simp only[SB,SC];simp[hp])) (Fz.sls mm rfl Ud rfl) (Fz.sls mm rfl Ud rfl)
 |cons u l=>
  rw[hl]at Z B N Y;have hz:decide (((u::l).length:Int) > 0)=true:=decide_eq_true (by simp only[SQ];omega);have hrow:(((u::l):List Nat).map rq)[(0:Nat)]? =some (rq u):=rfl;have hmap:((u::l).map rq)=(((u::l).map λi:Nat=>(i:Int)).map ah):=by rw[List.map_map];rfl
  have j:=Hf ((u::l).map λi:Nat=>(i:Int)) wake (by simp at Y ⊢;omega);rw[<-hmap]at j;have hany:((u::l).map λi:Nat=>(i:Int)).contains wake=(u::l).any λx=>decide ((x:Int)=wake):=by rw[Bool.eq_iff_iff];simp only[List.contains_iff_mem,Tl,TW,decide_eq_true_eq]
  rw[hany]at j;simp only[bB]at B;have fin:∀(i:Nat),cH s.threads o wake=(i:Int)->∀L,(bd,(⟨1,s.done.map aB⟩:Blk))∈L->(bt,(⟨3,(fh s.threads i 4).map ThrD.enc⟩:Blk))∈L->(∀p∈ab ol 2 (s.locks.map LockD.enc),p∈L)->Q (.tup [.agg [aj ol s.locks.length,.Uf s.tx,.sl bd 0 s.done.length,.sl bt 0 s.threads.length],.Uf (i:Int),.bool true]) L:=λi hi L m1 m2 m3=>by rw[hi,show eR s.threads o wake=fh s.threads i 4 by unfold eR;rw[hi,if_pos Ua];rfl]at M;exact M _ (vH hol m3) (Fz.sls m2 rfl Ud (by simp[fh])) (Fz.sls m1 rfl Ud rfl)
  clear M;cases ha:(u::l).any λx=>decide ((x:Int)=wake)with
  |false=>
   rw[ha]at j B;have O:cH s.threads o wake=(u:Int):=B;have hu:u<s.threads.length:=N u Ud;have hx:=ao (f:=ThrD.enc) hu;have G:=w9 s.threads u 4 hu
   repeat' (first|refine st ?_|refine a8 rp rfl rfl (D _) rfl ?_|((with_reducible refine bb 80 ?_);(refine fE Z rp ?_;rintro _ _ ⟨rfl,rfl⟩))|(refine pf 81 ?_;refine pm (j) ?_)|refine sb λS E=>?_|refine s2 (λh=>?_) λh=>?_|fail)
   refine fin u O _ mm ?_ (λp hp=>by simp only[SB,SC];simp[hp]);rw[<-G];exact mm
  |true=>
   rw[ha]at j B;have O:cH s.threads o wake=wake:=B;obtain⟨u',hu1,hu2⟩:=TW.1 ha;have hu3:=of_decide_eq_true hu2;have hu:u'<s.threads.length:=N u' hu1;have hx:=ao (f:=ThrD.enc) hu;have G:=w9 s.threads u' 4 hu;subst hu3
   repeat' (first|refine st ?_|refine a8 rp rfl rfl (D _) rfl ?_|((with_reducible refine bb 80 ?_);(refine fE Z rp ?_;rintro _ _ ⟨rfl,rfl⟩))|(refine pf 81 ?_;refine pm (j) ?_)|refine sb λS E=>?_|refine s2 (λh=>?_) λh=>?_|fail)
   refine fin u' O _ mm ?_ (λp hp=>by simp only[SB,SC];simp[hp]);rw[<-G];exact mm
theorem OH(M:lr w s t o wake bd bt ol 19 Q):Im w s t o wake b7 b12 bd bt ol 19 Q:=by
 unfold Im Pz Il;refine vw ?_;have D:∀S:Int,([aj ol s.locks.length,.Uf S,.sl bd 0 s.done.length,.sl bt 0 s.threads.length]:List AV).all AV.one=true:=λS=>oI
 have hw:=vG (aj ol s.locks.length) (.Uf s.tx) (.sl bd 0 s.done.length) bt s.threads o hT (D _);unfold lr bG at M;simp only[Int.reduceEq,Int.reduceNeg,if_true,if_false,or_self,or_true,true_or,or_false,false_or,reduceIte,reduceCtorEq]at M;have G:∀x∈aG s.threads o s.threads.length,x<s.threads.length:=λx Y=>qO Y
 have hwl:(aG s.threads o s.threads.length).length<=s.threads.length:=SK (TP _ _) Ud;have B:=In s.threads o;have fin:∀L,(bd,(⟨1,s.done.map aB⟩:Blk))∈L->(bt,(⟨3,(jV s.threads (aG s.threads o s.threads.length)).map ThrD.enc⟩:Blk))∈L->(∀p∈ab ol 2 (s.locks.map LockD.enc),p∈L)->Q (.tup [.agg [aj ol s.locks.length,.Uf s.tx,.sl bd 0 s.done.length,.sl bt 0 s.threads.length],.Uf ((aG s.threads o s.threads.length).length:Nat),.bool true]) L:=λL m1 m2 m3=>
  M _ (vH hol m3) (Fz.sls m2 (by rw[B];rfl) Ud (by simp[Bo,cB])) (Fz.sls m1 rfl Ud rfl)
 clear B M;generalize aG s.threads o s.threads.length=wl at *
 repeat' (first|refine st ?_|refine a8 rp rfl rfl (D _) rfl ?_|((with_reducible refine bb 80 ?_);(refine fE hw rp ?_;rintro _ _ ⟨rfl,rfl⟩))|refine sb λE u=>?_|refine s2 (λh=>?_) λh=>?_|fail)
 refine iR wl.length (λi=>([.ptr b7 0 0,.ptr b12 0 0,.lst (wl.map rq),.Uf i],(bt,⟨3,(jV s.threads (wl.take i)).map ThrD.enc⟩)::(bd,⟨1,s.done.map aB⟩)::(b12,⟨4,[[.nils,.Uf 0,.nils,.nils]]⟩)::(b7,⟨4,[[aj ol s.locks.length,.Uf s.tx,.sl bd 0 s.done.length,.sl bt 0 s.threads.length]]⟩)::ab ol 2 (s.locks.map LockD.enc))) (λ_=>True) trivial rfl rfl ?_;intro i hi _;dsimp only;refine vw ?_;rcases Nat.lt_or_ge i wl.length with j|j
 .have hd:=aW j;have Y:=ao (f:=rq) j;have Z:wl[i]<(jV s.threads (wl.take i)).length:=by rw[uK];exact G _ (Sy j)
  have hu':wl[i]<s.threads.length:=G _ (Sy j);have hy:=ao (f:=ThrD.enc) Z;have O:=w9 _ wl[i] 4 Z;have N:jV s.threads (wl.take (i+1))=fh (jV s.threads (wl.take i)) wl[i] 4:=by rw[Sw j,F9]
  clear fin
  repeat' (first|refine st ?_|refine sb λE u=>?_|refine s2 (λh=>?_) λh=>?_|fail)
  refine⟨i+1,Ua,Ua,trivial,df (by rw[ax j Ua]) ?_⟩;rw[N,<-O]
 .have hd:=aX j;rw[SX j]
  repeat' (first|refine st ?_|refine a8 rp rfl rfl (D _) rfl ?_|refine sb λE u=>?_|refine s2 (λh=>?_) λh=>?_|fail)
  exact fin _ mm mm (λp hp=>by simp only[SB,SC];simp[hp])
end
theorem OI{α:Type}(bt bd b12 b7:α)(X:List α):((X++[bt,bd])++[b12,b7]).Perm (bt::bd::b12::b7::X):=by rw[S3];exact SG (l₁:=X) (l₂:=[bt,bd,b12,b7])
section
variable (w:aI) (s:SyncD) (t k o wake:Int)
theorem Q9(j:aE w s t k o=true)(bd bt:Nat)(ol:Option Nat):lr w s t o wake bd bt ol k (wj w s t k o wake):=by intro L D B u;refine⟨_,[],az.all (Fz.tups (.cons (Fz.aggs (.cons D (.cons (.refl _) (.cons u (.cons B .nil))))) (.cons (.refl _) (.cons (.refl _) .nil)))),?_,rfl⟩;unfold dE;rw[if_pos j];rfl
theorem KB(E:D4 w s)(Y:aE w s t k o=true)(b7 b12:Nat)(Q:R)(M:∀bd bt ol,lr w s t o wake bd bt ol k Q):
  W.callM Tryz.prog 77 [.agg s.enc] [(b12,⟨4,[[.nils,.Uf 0,.nils,.nils]]⟩),(b7,⟨4,[s.enc]⟩)] (mC Q (.Uf k) (.Uf t) (.Uf o) (.Uf wake) (.ptr b7 0 0) (.ptr b12 0 0) (.pptr [w.enc] 0 0)):=by
 have B:=Y;unfold aE at B;simp only[SN]at B;obtain⟨⟨⟨S,N⟩,hal⟩,hkd⟩:=B;have G:=fO.1 S;have O:∀o,(aF s o).readers.length<2^40:=λo=>by
  unfold aF;rcases Fn o.toNat s.locks.length with h|h
  .rw[show s.locks.getD o.toNat default=s.locks[o.toNat] by simp[h]];exact E.rd _ (Sy h)
  .rw[show s.locks.getD o.toNat default=default by simp[List.getD,LE h]];decide
 refine w6 (EG s E.locks E.done E.threads E.rd) ?_;rintro v K ⟨ol,bd,bt,rfl,rfl,hol⟩;refine⟨Il s b7 b12 bd bt ol,OI _ _ _ _ _,λj=>?_⟩;show Im w s t o wake b7 b12 bd bt ol k Q;have u:∀{p:Int},inB p w.locks.length=true->(∀D,(Il s b7 b12 bd bt (some D)).names.Nodup->lr w s t o wake bd bt (some D) k Q->Im w s t o wake b7 b12 bd bt (some D) k Q)->Im w s t o wake b7 b12 bd bt ol k Q:=λ{p} hp h=>by
  cases ol with
  |none=>rw[<-G.locks,hol rfl]at hp;obtain⟨p0,p1⟩:=av.1 hp;simp at p1;omega
  |some D=>exact h D j (M _ _ _)
 by_cases h1:k=1\/k=2\/k=3\/k=4\/k=5\/k=12\/k=13\/k=14\/k=15\/k=20\/k=21\/k=22\/k=23
 .exact Q6 w s t o wake b7 b12 bd bt ol Q G N hol j k hal h1 (M _ _ _)
 by_cases h2:k=6\/k=7\/k=10\/k=11\/k=8\/k=9
 .exact u (p:=o) (by rcases h2 with rfl|rfl|rfl|rfl|rfl|rfl<;>(simp[allowedS]at hal;exact hal.1)) λD j=>Q7 w s t o wake b7 b12 bd bt D Q G N j k hal h2 (O o)
 by_cases Z:k=16\/k=17
 .have hc:inB o w.conds.length=true:=by rcases Z with rfl|rfl<;>simpa[allowedS]using hal
  exact u (by rw[<-G.locks];exact Bi G hc) λD j=>Q8 w s t o wake b7 b12 bd bt D Q G N j k hal Z
 by_cases h4:k=18
 .subst h4;exact OG w s t o wake b7 b12 bd bt ol Q hol E.threads (M _ _ _)
 by_cases h5:k=19
 .subst h5;exact OH w s t o wake b7 b12 bd bt ol Q hol E.threads (M _ _ _)
 .rw[eQ Ua]at hal;cases hal
theorem Io(G:D4 w s):aq Tryz.prog 43 [.agg w.enc,.agg s.enc,.Uf t,.Uf k,.Uf o,.Uf wake] (JQ (dE w s t k o wake)):=by
 refine ac.fz (yS _ _ _ _ _ _ _ _ ?_);show qn _ _ _ _ _ _ _ (wj w s t k o wake);refine vw ?_;have D:=ED w s t k o (by have:=G.conds;omega) G.rd;have fin:aE w s t k o=false->∀L,wj w s t k o wake (.tup [.agg [.nils,.Uf 0,.nils,.nils],.Uf 0,.bool false]) L:=λM L=>by refine⟨_,[],az.all (Fz.tups (.cons (Fz.aggs (.cons .nils (.cons (.refl _) (.cons .nils (.cons .nils .nil))))) (.cons (.refl _) (.cons (.refl _) .nil)))),?_,rfl⟩;unfold dE;rw[M];rfl
 have B:=λj=>Q9 w s t k o wake j
 generalize wj w s t k o wake=Q at *;cases j:aE w s t k o with
 |false=>
  rw[j]at D;have fin:=fin j
  repeat' (first|refine st ?_|(refine pf 76 ?_;refine pm (D) ?_)|refine sb λE u=>?_|refine s2 (λh=>?_) λh=>?_|fail)
  exact fin _
 |true=>
  rw[j]at D;have N:=λb7 b12=>KB w s t k o wake G j b7 b12 Q (B j)
  clear fin
  repeat' (first|exact N _ _|refine st ?_|(refine pf 76 ?_;refine pm (D) ?_)|refine sb λE u=>?_|refine s2 (λh=>?_) λh=>?_|fail)
end
end
section
theorem EI{α β:Type}(f:α->β)(l:List α)(q k:Nat)(r:β)(u:k<l.length):((l.take (k+1)).map f).set q r=((l.take k).map f).set q r++[if k=q then r else f l[k]]:=by
 rw[Sw u,LT];have j:((l.take k).map f).length=k:=by simp;omega
 by_cases h:q<k
 .rw[List.set_append_left _ _ Ua,if_neg Ua];rfl
 .rw[List.set_append_right _ _ Ua,j,List.set_eq_of_length_le (l:=(l.take k).map f) Ua];by_cases e:k=q
  .subst e;simp
  .rw[if_neg e,List.set_eq_of_length_le (by simp;omega)];rfl
theorem EJ{α:Type}(l:List α)(q:Nat)(r:α)(h:l.length<=q):l.set q r=l:=List.set_eq_of_length_le h
theorem az.rowP{vs:List AV}{L A R K:SH}{b n:Nat}{rows rows':List (List AV)}(h:L.Perm (K++(A++(b,⟨n,rows⟩)::R)))(D:rows.length=rows'.length)(hr:∀(j:Nat) (r G:List AV),rows[j]? =some r->rows'[j]? =some G->fU K r G):az vs L vs (A++(b,⟨n,rows'⟩)::R):=by
 refine⟨K,_,h,⟨rfl,λi a M h1 u=>by rw[h1]at u;cases u;exact .refl _⟩,Ud,λi p q h1 u=>?_⟩;have B:p=q->p.1=q.1/\p.2.size=q.2.size/\p.2.rows.length=q.2.rows.length/\∀(j:Nat) (r E:List AV),p.2.rows[j]? =some r->q.2.rows[j]? =some E->r.length=E.length/\∀(k:Nat) (a M:AV),r[k]? =some a->E[k]? =some M->Fz K a M:=λe=>by subst e;exact⟨rfl,rfl,rfl,λj r E Z S=>by rw[Z]at S;cases S;exact⟨rfl,λk a M Y O=>by rw[Y]at O;cases O;exact .refl _⟩⟩
 rcases Fn i A.length with N|N
 .rw[SE N]at h1 u;rw[h1]at u;cases u;exact B rfl
 .rw[SA N]at h1 u;generalize i-A.length=k at h1 u
  match k with
  |0=>cases h1;cases u;exact⟨rfl,rfl,D,λj r G g1 g2=>(hr j r G g1 g2).at_⟩
  |k+1=>simp only[TJ]at h1 u;rw[h1]at u;cases u;exact B rfl
theorem OJ{α:Type}(u j b3 b2:α)(N T:List α):(u::j::(N++(b3::b2::T))).Perm ((j::N)++([b3,b2]++u::T)):=by
 refine(List.Perm.swap _ _ _).trans (List.Perm.cons _ ?_);refine TD.symm.trans ?_ |>.trans (List.Perm.refl _)
 refine List.Perm.append_left N ?_;exact((List.Perm.swap _ _ _).trans ((List.Perm.swap _ _ _).cons _))
theorem Mm{α:Type}(j b3 b2:α)(N T:List α):(j::(N++(b3::b2::T))).Perm (b3::b2::j::(N++T)):=
 ((TD.trans (TD.cons _)).cons _).trans ((List.Perm.swap _ _ _).trans ((List.Perm.swap _ _ _).cons _))
def iB(s:cm)(bc bf:Nat)(x:AV):List AV:=[.lst (s.sync.locks.map LockD.enc),.Uf s.sync.tx,.lst (s.sync.done.map aB),.lst (s.sync.threads.map ThrD.enc),.sl bc 0 s.cells.length,.sl bf 0 s.futures.length,x]
theorem BD(s:cm)(bc bf:Nat)(o:Option Nat)(n:Nat):(iB s bc bf (aj o n)).all AV.one=true:=by show(true&&(true&&(true&&(true&&(true&&(true&&((aj o n).one&&true)))))))=true;rw[BC];rfl
def pJ(s:aC)(o t:Option Nat):List AV:=[.Uf s.pc,aJ o s.regs.length,aJ t s.taint.length,.Uf s.ev]
def ma(s:aC)(o t:Option Nat):SH:=ab o 1 (s.regs.map ah)++ab t 1 (s.taint.map bz)
section
variable (s:cm) (q b2 b3 bc bf:Nat) (h1:s.threads.length<=2^30) (hr:∀e∈s.threads,e.regs.length<2^40/\e.taint.length<=2^30/\∀r∈e.taint,r.length<=2^30) (Q:R)
include h1 hr
theorem KC(E L0:SH)(hL0:L0.Perm ((b3,⟨7,[iB s bc bf .nils]⟩)::(b2,⟨7,[aO]⟩)::E))
  (B:∀(M o t:Option Nat) (z:List AV),(M=none->s.threads=[])->(o=none->q<s.threads.length->(s.threads.getD q aC.zero).regs=[])->(t=none->q<s.threads.length->(s.threads.getD q aC.zero).taint=[])->Q (.agg (iB s bc bf (aj M s.threads.length))) ((b3,⟨7,[iB s bc bf (aj M s.threads.length)]⟩)::((b2,⟨7,[z]⟩)::(ab M 4 ((s.threads.map aC.enc).set q (pJ (s.threads.getD q aC.zero) o t))++((if q<s.threads.length then ma (s.threads.getD q aC.zero) o t else [])++E))))) :
  W.loop (qi Q) [.pptr [s.enc] 0 0,.ptr b2 0 0,.ptr b3 0 0,.Uf (0:Nat)] L0:=by
 generalize hth:s.threads.getD q aC.zero=th at *;refine bD s.threads.length (λk (p:Option Nat×Option Nat×Option Nat)=>([.pptr [s.enc] 0 0,.ptr b2 0 0,.ptr b3 0 0,.Uf k],(b3,⟨7,[iB s bc bf (aj p.1 k)]⟩)::((b2,⟨7,[aO]⟩)::(ab p.1 4 (((s.threads.take k).map aC.enc).set q (pJ th p.2.1 p.2.2))++((if q<k then ma th p.2.1 p.2.2 else [])++E)))))
  (λk p=>(p.1=none->k=0)/\(p.2.1=none->q<k->th.regs=[])/\(p.2.2=none->q<k->th.taint=[])) (none,none,none) ⟨λ_=>rfl,λ_ h=>by omega,λ_ h=>by omega⟩ (az.box (K:=[]) hL0 (by unfold iB;exact .cons (.refl _) (.cons (.refl _) (.cons (.refl _) (.cons (.refl _) (.cons (.refl _) (.cons (.refl _) (.cons .nile .nil)))))))) ?_
 rintro k ⟨M,o,t⟩ hk ⟨i1,i2,i3⟩;dsimp only at i1 i2 i3 ⊢;refine vw ?_;rcases Nat.lt_or_ge k s.threads.length with G|G
 .have hd:=aW G;have hx:=ao (f:=aC.enc) G;obtain⟨r1,r2,r3⟩:=hr _ (Sy G);have hcp:=EA s.threads[k] r1 Ua r3;generalize hT:(if q<k then ma th o t else [])++E=T;have hlen:(((s.threads.take k).map aC.enc).set q (pJ th o t)).length=k:=by simp;omega
  have h0:M=none->((s.threads.take k).map aC.enc).set q (pJ th o t)=[]:=λe=>by rw[i1 e];rfl
  have hss:=EI aC.enc s.threads q k (pJ th o t) G;generalize hX:((s.threads.take k).map aC.enc).set q (pJ th o t)=X at *;unfold iB aO;rw[show s.enc=[.lst (s.sync.locks.map LockD.enc),.Uf s.sync.tx,.lst (s.sync.done.map aB),.lst (s.sync.threads.map ThrD.enc),.lst (s.cells.map ah),.lst (s.futures.map ah),.lst (s.threads.map aC.enc)]from rfl];clear B hr
  repeat' (first|refine st ?_|refine sb λO u=>?_|fail)
  refine yf hcp (by simp[rm,rz,W.free,af]) ?_;rintro v K ⟨Z,S,rfl,rfl,ho',ht'⟩
  skip
  have fin:∀(nb nt:Nat) (D:Blk),∃(j:Nat) (p:Option Nat×Option Nat×Option Nat),k<j/\j<=s.threads.length/\((p.1=none->j=0)/\(p.2.1=none->q<j->th.regs=[])/\(p.2.2=none->q<j->th.taint=[]))/\az [.pptr [[.lst (s.sync.locks.map LockD.enc),.Uf s.sync.tx,.lst (s.sync.done.map aB),.lst (s.sync.threads.map ThrD.enc),.lst (s.cells.map ah),.lst (s.futures.map ah),.lst (s.threads.map aC.enc)]] 0 0,.ptr b2 0 0,.ptr b3 0 0,.Uf (IntKind.i64.wrap ((k:Int)+1))]
    ((nb,⟨4,X++[pJ s.threads[k] Z S]⟩)::(nt,D)::(ma s.threads[k] Z S++((b3,⟨7,[iB s bc bf (.sl nb 0 (k+1))]⟩)::(b2,⟨7,[aO]⟩)::T)))
    [.pptr [[.lst (s.sync.locks.map LockD.enc),.Uf s.sync.tx,.lst (s.sync.done.map aB),.lst (s.sync.threads.map ThrD.enc),.lst (s.cells.map ah),.lst (s.futures.map ah),.lst (s.threads.map aC.enc)]] 0 0,.ptr b2 0 0,.ptr b3 0 0,.Uf j]
    ((b3,⟨7,[iB s bc bf (aj p.1 j)]⟩)::((b2,⟨7,[aO]⟩)::(ab p.1 4 (((s.threads.take j).map aC.enc).set q (pJ th p.2.1 p.2.2))++((if q<j then ma th p.2.1 p.2.2 else [])++E)))):=by
   intro nb nt D;rw[ax G Ua];by_cases hkq:k=q
   .subst hkq;have eth:th=s.threads[k]:=by rw[<-hth];simp[G]
    subst eth;refine⟨k+1,(some nb,Z,S),Ua,Ua,⟨nofun,λe _=>ho' e,λe _=>ht' e⟩,?_⟩;dsimp only;rw[EI aC.enc s.threads k k (pJ s.threads[k] Z S) G,EJ _ _ _ (by simp;omega),if_pos rfl,if_pos (Nat.lt_succ_self k)];rw[<-hX,EJ _ _ _ (by simp;omega),<-hT,if_neg (Nat.lt_irrefl k),List.nil_append];refine az.forget (K:=[(nt,D)]) ((List.Perm.swap _ _ _).trans (List.Perm.cons _ ?_));exact Mm _ _ _ _ _
   .refine⟨k+1,(some nb,o,t),Ua,Ua,⟨nofun,λe h=>i2 e Ua,λe h=>i3 e Ua⟩,?_⟩;dsimp only;rw[hss,if_neg hkq,<-hT];have e1:(if q<k+1 then ma th o t else [])=(if q<k then ma th o t else []):=by
     by_cases hq:q<k
     .rw[if_pos hq,if_pos Ua]
     .rw[if_neg hq,if_neg Ua]
    rw[e1];refine az.rowP (K:=(nt,D)::ma s.threads[k] Z S) (A:=[(b3,_),(b2,_)]) (OJ _ _ _ _ _ _) Ud ?_;intro j r r' N Y;rcases Fn j X.length with hj|hj
    .rw[SE hj]at N Y;rw[N]at Y;cases Y;exact fU.refl _ _
    .rw[SA hj]at N Y;rcases hm:j-X.length with _|m
     .rw[hm]at N Y;cases N;cases Y;refine .cons (.refl _) (.cons ?_ (.cons ?_ (.cons (.refl _) .nil)))
      .exact fw rfl ho' λb e=>by subst e;simp[ma,ab]
      .exact fw rfl ht' λb e=>by subst e;simp[ma,ab]
     .rw[hm]at N;simp at N
  rcases Z with _|c'<;>rcases S with _|d'
  all_goals
   dsimp only[aJ,ab,List.nil_append,List.cons_append]
   repeat' (first|refine st ?_|refine bF rp rp hlen h0 Uc Ud (by simp;omega) (by simp;omega) Uc (λO u=>?_)|refine sb λO u=>?_|fail)
   exact fin _ _ _
 .have hd:=aX G;have hk0:k=s.threads.length:=by omega
  subst hk0;rw[SX (Fd _)];have he:=λz=>B M o t z (λe=>Tp.1 (i1 e)) i2 i3
  unfold iB aO at *;rw[show s.enc=[.lst (s.sync.locks.map LockD.enc),.Uf s.sync.tx,.lst (s.sync.done.map aB),.lst (s.sync.threads.map ThrD.enc),.lst (s.cells.map ah),.lst (s.futures.map ah),.lst (s.threads.map aC.enc)]from rfl];have hb:=BD s bc bf M s.threads.length;unfold iB at hb;clear B hr
  repeat' (first|refine st ?_|refine a8 rp rfl rfl hb rfl ?_|refine sb λO u=>?_|fail)
  exact he _
end
theorem Ga(s:SyncD)(h1:s.locks.length<2^40)(h2:s.done.length<=140737488351232)(B:s.threads.length<2^40)(j:∀l∈s.locks,l.readers.length<2^40):aq Tryz.prog 77 [.agg s.enc] (.agg s.enc):=by refine ac.fz ((EG s h1 h2 B j).mono ?_);rintro v L ⟨D,G,E,rfl,rfl,u⟩;exact⟨.agg s.enc,[],az.all (Fz.aggs (.cons (vH u λp hp=>by simp[hp]) (.cons (.refl _) (.cons (Fz.sls (size:=1) Ud rfl Ue rfl) (.cons (Fz.sls (size:=3) Ud rfl Ue rfl) .nil))))),rfl,rfl⟩
structure OK(s:cm)(q:Nat)(v:AV)(L:SH):Prop where
 ex:∃(bc bf:Nat) (ot o t:Option Nat),v=.agg (iB s bc bf (aj ot s.threads.length))/\
  L=ab ot 4 ((s.threads.map aC.enc).set q (pJ (s.threads.getD q aC.zero) o t))++((if q<s.threads.length then ma (s.threads.getD q aC.zero) o t else [])++[(bf,⟨1,s.futures.map ah⟩),(bc,⟨1,s.cells.map ah⟩)])/\
  (ot=none->s.threads=[])/\(o=none->q<s.threads.length->(s.threads.getD q aC.zero).regs=[])/\(t=none->q<s.threads.length->(s.threads.getD q aC.zero).taint=[])
theorem KD(s:cm)(q:Nat)(h1:s.threads.length<=2^30)(hc:s.cells.length<2^40)(hf:s.futures.length<2^40)(hr:∀e∈s.threads,e.regs.length<2^40/\e.taint.length<=2^30/\∀r∈e.taint,r.length<=2^30)
  (g1:s.sync.locks.length<2^40) (Z:s.sync.done.length<=140737488351232) (Y:s.sync.threads.length<2^40) (S:∀l∈s.sync.locks,l.readers.length<2^40):ac Tryz.prog 44 [.agg s.enc] [] (OK s q):=by
 have N:=Ga s.sync g1 Z Y S;refine ac.fz (As _ _ _ ?_);refine vw ?_;generalize D:(λ(v:AV) (L:SH)=>∃B E,az [v] L [B] E/\OK s q B E)=Q;have O:∀(b2 b3 bc bf:Nat) (L:SH),tW L ((b3,⟨7,[iB s bc bf .nils]⟩)::(b2,⟨7,[aO]⟩)::[(bf,⟨1,s.futures.map ah⟩),(bc,⟨1,s.cells.map ah⟩)]) []->W.loop (qi Q) [.pptr [s.enc] 0 0,.ptr b2 0 0,.ptr b3 0 0,.Uf (0:Nat)] L:=by intro b2 b3 bc bf L M;refine KC s q b2 b3 bc bf h1 hr Q [(bf,⟨1,s.futures.map ah⟩),(bc,⟨1,s.cells.map ah⟩)] L (by simpa using M.perm) ?_;intro G o t z a1 a2 a3;subst D;exact⟨_,_,az.forget (K:=[(b3,_),(b2,_)]) (.refl _),⟨bc,bf,G,o,t,rfl,rfl,a1,a2,a3⟩⟩
 clear D hr;unfold cm.enc SyncD.enc iB aO at *
 repeat' (first|refine st ?_|(refine pf 77 ?_;refine pm (N) ?_)|refine ga rp (λ_=>rfl) Uc (by simp;omega) (by simp;omega) (λ_=>rfl) (λu j=>?_)|refine sb λu j=>?_|fail)
 rw[Tm,Tm];exact O _ _ _ _ _ rp
end
end Go.Proofs.YtbofdbhnbodbiaaGreatDoor.Am
