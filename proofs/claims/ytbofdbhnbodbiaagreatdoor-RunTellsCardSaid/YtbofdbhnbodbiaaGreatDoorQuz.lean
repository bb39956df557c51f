/- A part of the proof; the statement is proved in the last part. -/
import Derived.Test.YtbofdbhnbodbiaaGreatDoorQuy
set_option linter.all false
set_option maxRecDepth 100000
set_option maxHeartbeats 20000000
namespace Go.Proofs.YtbofdbhnbodbiaaGreatDoor.Am
section
theorem B3(o:Option Nat)(n:Nat):(aj o n).one=true:=by cases o<;>rfl
theorem oU{ol:Option Nat}{n m k bd bt:Nat}{tx:Int}:([aj ol n,.U1 tx,.sl bd 0 m,.sl bt 0 k]:List AV).all AV.one=true:=by show((aj ol n).one&&(true&&(true&&(true&&true))))=true;rw[B3];rfl
theorem we{ol:Option Nat}{j:List LockD}{L:SH}(B:ol=none->j=[])(u:∀p∈ab ol 2 (j.map LockD.enc),p∈L):Fz L (aj ol j.length) (.lst (j.map LockD.enc)):=by
 cases ol with
 |none=>rw[B rfl];exact .emp
 |some b=>exact Fz.sls (u _ (Tl.2 rfl)) rfl U0 rfl
section
variable (w:aG) (s:SyncD) (t o wake:Int) (b7 b12 bd bt:Nat) (ol:Option Nat)
def IU:SH:=(bt,⟨3,s.threads.map ThrD.enc⟩)::(bd,⟨1,s.done.map aB⟩)::(b12,⟨4,[[.nils,.U1 0,.nils,.nils]]⟩)::(b7,⟨4,[s.enc]⟩)::ab ol 2 (s.locks.map LockD.enc)
def Qi(s:SyncD)(bd bt:Nat)(ol:Option Nat):AV:=.agg [aj ol s.locks.length,.U1 s.tx,.sl bd 0 s.done.length,.sl bt 0 s.threads.length]
def lE(k:Int)(Q:R):Prop:=∀L:SH,Fz L (aj ol s.locks.length) (.lst ((bG w s t k o wake).1.locks.map LockD.enc))->Fz L (.sl bt 0 s.threads.length) (.lst ((bG w s t k o wake).1.threads.map ThrD.enc))->Fz L (.sl bd 0 s.done.length) (.lst ((bG w s t k o wake).1.done.map aB))->
 Q (.tup [.agg [aj ol s.locks.length,.U1 (bG w s t k o wake).1.tx,.sl bd 0 s.done.length,.sl bt 0 s.threads.length],.U1 (bG w s t k o wake).2,.bool true]) L
def IV(k:Int)(Q:R):Prop:=mN Q (.U1 k) (.U1 t) (.U1 o) (.U1 wake) (.ptr b7 0 0) (.ptr b12 0 0) (.pptr [w.enc] 0 0) (Qi s bd bt ol) (IU s b7 b12 bd bt ol)
variable (Q:R) (hf:wK w s) (ht:inB t w.threads.length=true) (hol:ol=none->s.locks=[]) (hnd:(IU s b7 b12 bd bt ol).names.Nodup)
include hf ht hol hnd
theorem RN(k:Int)(O:allowedS w k o=true)(hk:k=1\/k=2\/k=3\/k=4\/k=5\/k=12\/k=13\/k=14\/k=15\/k=20\/k=21\/k=22\/k=23)(E:lE w s t o wake bd bt ol k Q):IV w s t o wake b7 b12 bd bt ol k Q:=by
 unfold IV Qi IU;refine vw ?_;simp only[SH.names,IU,Tj,T2,To,not_or]at hnd;obtain⟨⟨n1,n2,n3,n4⟩,⟨n5,n6,n7⟩,⟨n8,n9⟩,n10,_⟩:=hnd;have M:inB t s.threads.length=true:=by rw[hf.threads];exact ht
 have hy:=l7 M;obtain⟨t0,t1⟩:=av.1 M;have u:k=20->inB o s.threads.length=true:=λh=>by subst h;rw[hf.threads];simpa[allowedS]using O
 have j:k=22->inB o s.done.length=true:=λh=>by subst h;rw[hf.done];simpa[allowedS]using O
 have D:∀S:Int,([aj ol s.locks.length,.U1 S,.sl bd 0 s.done.length,.sl bt 0 s.threads.length]:List AV).all AV.one=true:=λS=>oU
 unfold lE bG at E;clear O;rcases hk with rfl|rfl|rfl|rfl|rfl|rfl|rfl|rfl|rfl|rfl|rfl|rfl|rfl
 all_goals simp only[Int.reduceEq,Int.reduceNeg,if_true,if_false,or_self,or_true,true_or,or_false,false_or,reduceIte,reduceCtorEq]at E
 case inr.inr.inr.inr.inr.inr.inr.inr.inr.inl=>
  have N:=u rfl;have hx:=l7 N;obtain⟨Z,Y⟩:=av.1 N;clear hf ht u j
  repeat' (first|refine st ?_|refine a8 rp rfl rfl (D _) rfl ?_|refine sb λG B=>?_|refine s2 (λh=>?_) λh=>?_|fail)
  exact E _ (we hol (λp hp=>by simp only[To,Tn];simp[hp])) (Fz.sls mm (ld rfl) UZ (by simp[c9])) (Fz.sls mm rfl UZ rfl)
 case inr.inr.inr.inr.inr.inr.inr.inr.inr.inr.inr.inl=>
  have N:=j rfl;obtain⟨Z,Y⟩:=av.1 N;have hx:(s.done.map aB)[0+o.toNat]? =some (aB (s.done.getD o.toNat default)):=by rw[Uc];exact bS N
  clear hf ht u j
  repeat' (first|refine st ?_|refine a8 rp rfl rfl (D _) rfl ?_|refine sb λG B=>?_|refine s2 (λh=>?_) λh=>?_|fail)
  refine E _ (we hol (λp hp=>by simp only[To,Tn];simp[hp])) (Fz.sls mm rfl UZ rfl) (Fz.sls mm ?_ UZ UZ);rw[Ue,Uc];rfl
 all_goals
  clear hf ht u j
  repeat' (first|refine st ?_|refine a8 rp rfl rfl (D _) rfl ?_|refine sb λG B=>?_|refine s2 (λh=>?_) λh=>?_|fail)
  first
   |exact E _ (we hol (λp hp=>by simp only[To,Tn];simp[hp])) (Fz.sls mm (ld rfl) UZ (by simp[c9])) (Fz.sls mm rfl UZ rfl)
   |exact E _ (we hol (λp hp=>by simp only[To,Tn];simp[hp])) (Fz.sls mm rfl UZ rfl) (Fz.sls mm rfl UZ rfl)
end
section
variable (w:aG) (s:SyncD) (t o wake:Int) (b7 b12 bd bt bl:Nat) (Q:R) (hf:wK w s) (ht:inB t w.threads.length=true) (hnd:(IU s b7 b12 bd bt (some bl)).names.Nodup)
include hf ht hnd
theorem RQ(k:Int)(M:allowedS w k o=true)(Y:k=6\/k=7\/k=10\/k=11\/k=8\/k=9)(u:(aH s o).readers.length<2^40)(D:lE w s t o wake bd bt (some bl) k Q):IV w s t o wake b7 b12 bd bt (some bl) k Q:=by
 unfold IV Qi IU;refine vw ?_;simp only[SH.names,IU,ab,Tj,TV,T2,To,not_or,T6,not_false_eq_true,and_true]at hnd;obtain⟨⟨n1,n2,n3,n4⟩,⟨n5,n6,n7⟩,⟨n8,n9⟩,n10,_⟩:=hnd;have j:inB t s.threads.length=true:=by rw[hf.threads];exact ht
 have hy:=l7 j;obtain⟨t0,t1⟩:=av.1 j;have S:inB o s.locks.length=true:=by rw[hf.locks];rcases Y with rfl|rfl|rfl|rfl|rfl|rfl<;>(simp[allowedS]at M;exact M.1)
 have hx:=sK S;obtain⟨o0,o1⟩:=av.1 S;have B:∀N:Int,([aj (some bl) s.locks.length,.U1 N,.sl bd 0 s.done.length,.sl bt 0 s.threads.length]:List AV).all AV.one=true:=λN=>oU
 have G:∀b,ac Tryz.prog 78 [.lst ((aH s o).readers.map ah),.sl b 0 1] [(b,⟨1,[[.U1 t]]⟩)] λv L=>v=.lst ((sJ (aH s o).readers t).map ah)/\L=[]:=λb=>ac.pre (args2:=[.lst ((aH s o).readers.map ah),.lst ([t].map ah)]) (L2:=[]) (az.drop (K:=[(b,⟨1,[[.U1 t]]⟩)]) UZ rfl (eP.at_ (.cons (.refl _) (.cons (Fz.sls (l:=[t]) (f:=ah) (Tl.2 rfl) rfl U0 rfl) .nil))).2) (B1 _ [t] u UZ)
 have E:=Fa (aH s o).readers t u;dsimp only[ab,aj]at B ⊢;unfold lE bG at D;dsimp only[aj]at D;clear M hf ht;rcases Y with rfl|rfl|rfl|rfl|rfl|rfl
 all_goals
  simp only[Int.reduceEq,Int.reduceNeg,if_true,if_false,or_self,or_true,true_or,or_false,false_or,reduceIte,reduceCtorEq]at D
  repeat' (first|refine st ?_|refine a8 rp rfl rfl (B _) rfl ?_|((with_reducible refine ew 78 ?_);(refine sD (G _) rp (by(simp only[rm,rc,rz,W.free,cF,↓reduceIte,Nat.reduceEqDiff,af,fx,UN,T1,T6,not_false_eq_true,implies_true,and_true,true_and,and_self,Tz,reduceCtorEq,forall_const,false_implies,Tl,forall_eq,TZ,Ui,To,or_false,false_or,forall_eq_or_imp,not_or])<;>(repeat' constructor)<;>first|assumption|(exact Ne.symm UX)|(intro e_;subst e_;simp[SH.names]at *;done)) ?_;rintro _ _ ⟨rfl,rfl⟩))|(refine pf 79 ?_;refine pm (E) ?_)|refine sb λZ O=>?_|refine s2 (λh=>?_) λh=>?_|fail)
  exact D _ (Fz.sls mm (ph rfl) UZ (by simp[cf])) (Fz.sls mm rfl UZ rfl) (Fz.sls mm rfl UZ rfl)
theorem RS(k:Int)(S:allowedS w k o=true)(O:k=16\/k=17)(D:lE w s t o wake bd bt (some bl) k Q):IV w s t o wake b7 b12 bd bt (some bl) k Q:=by
 unfold IV Qi IU;refine vw ?_;simp only[SH.names,IU,ab,Tj,TV,T2,To,not_or,T6,not_false_eq_true,and_true]at hnd;obtain⟨⟨n1,n2,n3,n4⟩,⟨n5,n6,n7⟩,⟨n8,n9⟩,n10,_⟩:=hnd;have u:inB t s.threads.length=true:=by rw[hf.threads];exact ht
 have hy:=l7 u;obtain⟨t0,t1⟩:=av.1 u;have E:inB o w.conds.length=true:=by rcases O with rfl|rfl<;>simpa[allowedS]using S
 have N:=BF hf E;have hx:=sK N;obtain⟨m0,Z⟩:=av.1 N;have hcx:=bS (f:=bP.enc) E;obtain⟨c0,c1⟩:=av.1 E;unfold iu at hx m0 Z;have B:∀G:Int,([aj (some bl) s.locks.length,.U1 G,.sl bd 0 s.done.length,.sl bt 0 s.threads.length]:List AV).all AV.one=true:=λG=>oU
 have j:∀v,((s.threads.map ThrD.enc).set (0+t.toNat) ((aR s t).enc.set 0 v))[0+t.toNat]? =some ((aR s t).enc.set 0 v):=λv=>Kl hy
 have hy3:=j (.U1 3);have hy4:=j (.U1 2);clear j;dsimp only[ab,aj]at B ⊢;unfold lE bG iu at D;dsimp only[aj]at D;clear S hf ht;rcases O with rfl|rfl
 all_goals
  simp only[Int.reduceEq,Int.reduceNeg,if_true,if_false,or_self,or_true,true_or,or_false,false_or,reduceIte,reduceCtorEq]at D
  repeat' (first|refine st ?_|refine a8 rp rfl rfl (B _) rfl ?_|refine sb λY M=>?_|refine s2 (λh=>?_) λh=>?_|fail)
  refine D _ (Fz.sls mm (ph rfl) UZ (by simp[cf])) (Fz.sls mm ?_ UZ (by simp[c9])) (Fz.sls mm rfl UZ rfl);rw[List.set_set];exact ld rfl
end
end
section
def j7(T:List ThrD)(l:List Nat):List ThrD:=l.foldl (λT i=>fq T i 4) T
theorem u7:∀(l:List Nat) (T:List ThrD),(j7 T l).length=T.length
 |[],_=>rfl
 | i::l,T=>by have:=u7 l (fq T i 4);unfold j7 at this ⊢;rw[Ut,this];simp[fq]
theorem Fc:∀(l:List Nat) (T:List ThrD) (j:Nat) (B:j<T.length),(j7 T l)[j]? =some (if j∈l then {T[j]with status:=4} else T[j])
 |[],T,j,B=>by simp[j7,B]
 | i::l,T,j,B=>by
  have E:j<(fq T i 4).length:=by simp[fq,B]
  have:=Fc l (fq T i 4) j E;unfold j7 at this ⊢;rw[Ut,this];by_cases u:i=j
  .subst u;have:(fq T i 4)[i]={T[i]with status:=4}:=by simp[fq,B]
   rw[this];simp
  .have:(fq T i 4)[j]=T[j]:=by simp[fq,List.getElem_set_ne u]
   rw[this];have D:j≠i:=λe=>u e.symm
   simp[D]
theorem IW(T:List ThrD)(c:Int):j7 T (aI T c T.length)=cO T c T.length:=by
 apply Us;intro j;rcases Tf j T.length with u|u
 .rw[Fc _ _ _ u,ef _ _ _ _ u];have D:j∈aI T c T.length↔cW T[j] c=true:=by
   have:fN T c j=cW T[j] c:=by simp[fN,u]
   simp[aI,this,u]
  by_cases B:cW T[j] c=true
  .rw[if_pos (D.2 B)];simp[u,B]
  .rw[if_neg (λh=>B (D.1 h))];simp[B]
 .rw[Tg (by rw[u7];exact u),Tg (by rw[cB];exact u)]
theorem GG(T:List ThrD)(l:List Nat)(i:Nat):j7 T (l++[i])=fq (j7 T l) i 4:=by unfold j7;rw[List.foldl_append];rfl
section
variable (w:aG) (s:SyncD) (t o wake:Int) (b7 b12 bd bt:Nat) (ol:Option Nat) (Q:R) (hol:ol=none->s.locks=[]) (hT:s.threads.length<2^40)
include hol hT
theorem Pm(M:lE w s t o wake bd bt ol 18 Q):IV w s t o wake b7 b12 bd bt ol 18 Q:=by
 unfold IV Qi IU;refine vw ?_;have D:∀tx:Int,([aj ol s.locks.length,.U1 tx,.sl bd 0 s.done.length,.sl bt 0 s.threads.length]:List AV).all AV.one=true:=λtx=>oU
 have Z:=wa (aj ol s.locks.length) (.U1 s.tx) (.sl bd 0 s.done.length) bt s.threads o hT (D _);unfold lE bG at M;simp only[Int.reduceEq,Int.reduceNeg,if_true,if_false,or_self,or_true,true_or,or_false,false_or,reduceIte,reduceCtorEq]at M;have B:cI s.threads o wake=bE (aI s.threads o s.threads.length) wake:=rfl;have N:∀x∈aI s.threads o s.threads.length,x<s.threads.length:=λx hx=>qY hx
 have Y:(aI s.threads o s.threads.length).length<=s.threads.length:=Tx (Ux _ _) UZ;cases hl:aI s.threads o s.threads.length with
 |nil=>
  rw[hl]at Z B;have O:cI s.threads o wake=-1:=B;rw[O,show eX s.threads o wake=s.threads by unfold eX;rw[O,if_neg U0]]at M
  repeat' (first|refine st ?_|refine a8 rp rfl rfl (D _) rfl ?_|((with_reducible refine bb 80 ?_);(refine fM Z rp ?_;rintro _ _ ⟨rfl,rfl⟩))|refine sb λS E=>?_|refine s2 (λh=>?_) λh=>?_|fail)
  exact M _ (we hol (λp hp=>by simp only[To,Tn];simp[hp])) (Fz.sls mm rfl UZ rfl) (Fz.sls mm rfl UZ rfl)
 |cons u l=>
  rw[hl]at Z B N Y;have hz:decide (((u::l).length:Int) > 0)=true:=decide_eq_true (by simp only[TC];omega);have hrow:(((u::l):List Nat).map rK)[(0:Nat)]? =some (rK u):=rfl;have hmap:((u::l).map rK)=(((u::l).map λi:Nat=>(i:Int)).map ah):=by rw[List.map_map];rfl
  have j:=HM ((u::l).map λi:Nat=>(i:Int)) wake (by simp at Y ⊢;omega);rw[<-hmap]at j;have hany:((u::l).map λi:Nat=>(i:Int)).contains wake=(u::l).any λx=>decide ((x:Int)=wake):=by rw[Bool.eq_iff_iff];simp only[List.contains_iff_mem,TR,UI,decide_eq_true_eq]
  rw[hany]at j;simp only[bE]at B;have fin:∀(i:Nat),cI s.threads o wake=(i:Int)->∀L,(bd,(⟨1,s.done.map aB⟩:Blk))∈L->(bt,(⟨3,(fq s.threads i 4).map ThrD.enc⟩:Blk))∈L->(∀p∈ab ol 2 (s.locks.map LockD.enc),p∈L)->Q (.tup [.agg [aj ol s.locks.length,.U1 s.tx,.sl bd 0 s.done.length,.sl bt 0 s.threads.length],.U1 (i:Int),.bool true]) L:=λi hi L m1 m2 m3=>by rw[hi,show eX s.threads o wake=fq s.threads i 4 by unfold eX;rw[hi,if_pos UW];rfl]at M;exact M _ (we hol m3) (Fz.sls m2 rfl UZ (by simp[fq])) (Fz.sls m1 rfl UZ rfl)
  clear M;cases ha:(u::l).any λx=>decide ((x:Int)=wake)with
  |false=>
   rw[ha]at j B;have O:cI s.threads o wake=(u:Int):=B;have hu:u<s.threads.length:=N u UZ;have hx:=am (f:=ThrD.enc) hu;have G:=xv s.threads u 4 hu
   repeat' (first|refine st ?_|refine a8 rp rfl rfl (D _) rfl ?_|((with_reducible refine bb 80 ?_);(refine fM Z rp ?_;rintro _ _ ⟨rfl,rfl⟩))|(refine pf 81 ?_;refine pm (j) ?_)|refine sb λS E=>?_|refine s2 (λh=>?_) λh=>?_|fail)
   refine fin u O _ mm ?_ (λp hp=>by simp only[To,Tn];simp[hp]);rw[<-G];exact mm
  |true=>
   rw[ha]at j B;have O:cI s.threads o wake=wake:=B;obtain⟨u',hu1,hu2⟩:=UI.1 ha;have hu3:=of_decide_eq_true hu2;have hu:u'<s.threads.length:=N u' hu1;have hx:=am (f:=ThrD.enc) hu;have G:=xv s.threads u' 4 hu;subst hu3
   repeat' (first|refine st ?_|refine a8 rp rfl rfl (D _) rfl ?_|((with_reducible refine bb 80 ?_);(refine fM Z rp ?_;rintro _ _ ⟨rfl,rfl⟩))|(refine pf 81 ?_;refine pm (j) ?_)|refine sb λS E=>?_|refine s2 (λh=>?_) λh=>?_|fail)
   refine fin u' O _ mm ?_ (λp hp=>by simp only[To,Tn];simp[hp]);rw[<-G];exact mm
theorem Pn(M:lE w s t o wake bd bt ol 19 Q):IV w s t o wake b7 b12 bd bt ol 19 Q:=by
 unfold IV Qi IU;refine vw ?_;have D:∀S:Int,([aj ol s.locks.length,.U1 S,.sl bd 0 s.done.length,.sl bt 0 s.threads.length]:List AV).all AV.one=true:=λS=>oU
 have hw:=wa (aj ol s.locks.length) (.U1 s.tx) (.sl bd 0 s.done.length) bt s.threads o hT (D _);unfold lE bG at M;simp only[Int.reduceEq,Int.reduceNeg,if_true,if_false,or_self,or_true,true_or,or_false,false_or,reduceIte,reduceCtorEq]at M;have G:∀x∈aI s.threads o s.threads.length,x<s.threads.length:=λx Y=>qY Y
 have hwl:(aI s.threads o s.threads.length).length<=s.threads.length:=Tx (Ux _ _) UZ;have B:=IW s.threads o;have fin:∀L,(bd,(⟨1,s.done.map aB⟩:Blk))∈L->(bt,(⟨3,(j7 s.threads (aI s.threads o s.threads.length)).map ThrD.enc⟩:Blk))∈L->(∀p∈ab ol 2 (s.locks.map LockD.enc),p∈L)->Q (.tup [.agg [aj ol s.locks.length,.U1 s.tx,.sl bd 0 s.done.length,.sl bt 0 s.threads.length],.U1 ((aI s.threads o s.threads.length).length:Nat),.bool true]) L:=λL m1 m2 m3=>
  M _ (we hol m3) (Fz.sls m2 (by rw[B];rfl) UZ (by simp[BL,cB])) (Fz.sls m1 rfl UZ rfl)
 clear B M;generalize aI s.threads o s.threads.length=wl at *
 repeat' (first|refine st ?_|refine a8 rp rfl rfl (D _) rfl ?_|((with_reducible refine bb 80 ?_);(refine fM hw rp ?_;rintro _ _ ⟨rfl,rfl⟩))|refine sb λE u=>?_|refine s2 (λh=>?_) λh=>?_|fail)
 refine iY wl.length (λi=>([.ptr b7 0 0,.ptr b12 0 0,.lst (wl.map rK),.U1 i],(bt,⟨3,(j7 s.threads (wl.take i)).map ThrD.enc⟩)::(bd,⟨1,s.done.map aB⟩)::(b12,⟨4,[[.nils,.U1 0,.nils,.nils]]⟩)::(b7,⟨4,[[aj ol s.locks.length,.U1 s.tx,.sl bd 0 s.done.length,.sl bt 0 s.threads.length]]⟩)::ab ol 2 (s.locks.map LockD.enc))) (λ_=>True) trivial rfl rfl ?_;intro i hi _;dsimp only;refine vw ?_;rcases Nat.lt_or_ge i wl.length with j|j
 .have hd:=aS j;have Y:=am (f:=rK) j;have Z:wl[i]<(j7 s.threads (wl.take i)).length:=by rw[u7];exact G _ (Tk j)
  have hu':wl[i]<s.threads.length:=G _ (Tk j);have hy:=am (f:=ThrD.enc) Z;have O:=xv _ wl[i] 4 Z;have N:j7 s.threads (wl.take (i+1))=fq (j7 s.threads (wl.take i)) wl[i] 4:=by rw[Th j,GG]
  clear fin
  repeat' (first|refine st ?_|refine sb λE u=>?_|refine s2 (λh=>?_) λh=>?_|fail)
  refine⟨i+1,UW,UW,trivial,dq (by rw[aw j UW]) ?_⟩;rw[N,<-O]
 .have hd:=aX j;rw[TH j]
  repeat' (first|refine st ?_|refine a8 rp rfl rfl (D _) rfl ?_|refine sb λE u=>?_|refine s2 (λh=>?_) λh=>?_|fail)
  exact fin _ mm mm (λp hp=>by simp only[To,Tn];simp[hp])
end
theorem Po{α:Type}(bt bd b12 b7:α)(X:List α):((X++[bt,bd])++[b12,b7]).Perm (bt::bd::b12::b7::X):=by rw[TS];exact Tt (l₁:=X) (l₂:=[bt,bd,b12,b7])
section
variable (w:aG) (s:SyncD) (t k o wake:Int)
theorem RU(j:aJ w s t k o=true)(bd bt:Nat)(ol:Option Nat):lE w s t o wake bd bt ol k (wL w s t k o wake):=by intro L D B u;refine⟨_,[],az.all (Fz.tups (.cons (Fz.aggs (.cons D (.cons (.refl _) (.cons u (.cons B .nil))))) (.cons (.refl _) (.cons (.refl _) .nil)))),?_,rfl⟩;unfold eg;rw[if_pos j];rfl
theorem Lf(E:ED w s)(Y:aJ w s t k o=true)(b7 b12:Nat)(Q:R)(M:∀bd bt ol,lE w s t o wake bd bt ol k Q):
  W.callM Tryz.prog 77 [.agg s.enc] [(b12,⟨4,[[.nils,.U1 0,.nils,.nils]]⟩),(b7,⟨4,[s.enc]⟩)] (mN Q (.U1 k) (.U1 t) (.U1 o) (.U1 wake) (.ptr b7 0 0) (.ptr b12 0 0) (.pptr [w.enc] 0 0)):=by
 have B:=Y;unfold aJ at B;simp only[Ty]at B;obtain⟨⟨⟨S,N⟩,hal⟩,hkd⟩:=B;have G:=fW.1 S;have O:∀o,(aH s o).readers.length<2^40:=λo=>by
  unfold aH;rcases Tf o.toNat s.locks.length with h|h
  .rw[show s.locks.getD o.toNat default=s.locks[o.toNat] by simp[h]];exact E.rd _ (Tk h)
  .rw[show s.locks.getD o.toNat default=default by simp[List.getD,Tg h]];decide
 refine xr (Fb s E.locks E.done E.threads E.rd) ?_;rintro v K ⟨ol,bd,bt,rfl,rfl,hol⟩;refine⟨IU s b7 b12 bd bt ol,Po _ _ _ _ _,λj=>?_⟩;show IV w s t o wake b7 b12 bd bt ol k Q;have u:∀{p:Int},inB p w.locks.length=true->(∀D,(IU s b7 b12 bd bt (some D)).names.Nodup->lE w s t o wake bd bt (some D) k Q->IV w s t o wake b7 b12 bd bt (some D) k Q)->IV w s t o wake b7 b12 bd bt ol k Q:=λ{p} hp h=>by
  cases ol with
  |none=>rw[<-G.locks,hol rfl]at hp;obtain⟨p0,p1⟩:=av.1 hp;simp at p1;omega
  |some D=>exact h D j (M _ _ _)
 by_cases h1:k=1\/k=2\/k=3\/k=4\/k=5\/k=12\/k=13\/k=14\/k=15\/k=20\/k=21\/k=22\/k=23
 .exact RN w s t o wake b7 b12 bd bt ol Q G N hol j k hal h1 (M _ _ _)
 by_cases h2:k=6\/k=7\/k=10\/k=11\/k=8\/k=9
 .exact u (p:=o) (by rcases h2 with rfl|rfl|rfl|rfl|rfl|rfl<;>(simp[allowedS]at hal;exact hal.1)) λD j=>RQ w s t o wake b7 b12 bd bt D Q G N j k hal h2 (O o)
 by_cases Z:k=16\/k=17
 .have hc:inB o w.conds.length=true:=by rcases Z with rfl|rfl<;>simpa[allowedS]using hal
  exact u (by rw[<-G.locks];exact BF G hc) λD j=>RS w s t o wake b7 b12 bd bt D Q G N j k hal Z
 by_cases h4:k=18
 .subst h4;exact Pm w s t o wake b7 b12 bd bt ol Q hol E.threads (M _ _ _)
 by_cases h5:k=19
 .subst h5;exact Pn w s t o wake b7 b12 bd bt ol Q hol E.threads (M _ _ _)
 .rw[eW UW]at hal;cases hal
theorem IX(G:ED w s):aq Tryz.prog 43 [.agg w.enc,.agg s.enc,.U1 t,.U1 k,.U1 o,.U1 wake] (Ko (eg w s t k o wake)):=by
 refine ac.fz (zh _ _ _ _ _ _ _ _ ?_);show qw _ _ _ _ _ _ _ (wL w s t k o wake);refine vw ?_;have D:=E8 w s t k o (by have:=G.conds;omega) G.rd;have fin:aJ w s t k o=false->∀L,wL w s t k o wake (.tup [.agg [.nils,.U1 0,.nils,.nils],.U1 0,.bool false]) L:=λM L=>by refine⟨_,[],az.all (Fz.tups (.cons (Fz.aggs (.cons .nils (.cons (.refl _) (.cons .nils (.cons .nils .nil))))) (.cons (.refl _) (.cons (.refl _) .nil)))),?_,rfl⟩;unfold eg;rw[M];rfl
 have B:=λj=>RU w s t k o wake j
 generalize wL w s t k o wake=Q at *;cases j:aJ w s t k o with
 |false=>
  rw[j]at D;have fin:=fin j
  repeat' (first|refine st ?_|(refine pf 76 ?_;refine pm (D) ?_)|refine sb λE u=>?_|refine s2 (λh=>?_) λh=>?_|fail)
  exact fin _
 |true=>
  rw[j]at D;have N:=λb7 b12=>Lf w s t k o wake G j b7 b12 Q (B j)
  clear fin
  repeat' (first|exact N _ _|refine st ?_|(refine pf 76 ?_;refine pm (D) ?_)|refine sb λE u=>?_|refine s2 (λh=>?_) λh=>?_|fail)
end
end
section
theorem Fd{α β:Type}(f:α->β)(l:List α)(q k:Nat)(r:β)(u:k<l.length):((l.take (k+1)).map f).set q r=((l.take k).map f).set q r++[if k=q then r else f l[k]]:=by
 rw[Th u,Ti];have j:((l.take k).map f).length=k:=by simp;omega
 by_cases h:q<k
 .rw[List.set_append_left _ _ UW,if_neg UW];rfl
 .rw[List.set_append_right _ _ UW,j,List.set_eq_of_length_le (l:=(l.take k).map f) UW];by_cases e:k=q
  .subst e;simp
  .rw[if_neg e,List.set_eq_of_length_le (by simp;omega)];rfl
theorem Fe{α:Type}(l:List α)(q:Nat)(r:α)(h:l.length<=q):l.set q r=l:=List.set_eq_of_length_le h
theorem az.rowP{vs:List AV}{L A R K:SH}{b n:Nat}{rows rows':List (List AV)}(h:L.Perm (K++(A++(b,⟨n,rows⟩)::R)))(D:rows.length=rows'.length)(hr:∀(j:Nat) (r G:List AV),rows[j]? =some r->rows'[j]? =some G->eP K r G):az vs L vs (A++(b,⟨n,rows'⟩)::R):=by
 refine⟨K,_,h,⟨rfl,λi a M h1 u=>by rw[h1]at u;cases u;exact .refl _⟩,UZ,λi p q h1 u=>?_⟩;have B:p=q->p.1=q.1/\p.2.size=q.2.size/\p.2.rows.length=q.2.rows.length/\∀(j:Nat) (r E:List AV),p.2.rows[j]? =some r->q.2.rows[j]? =some E->r.length=E.length/\∀(k:Nat) (a M:AV),r[k]? =some a->E[k]? =some M->Fz K a M:=λe=>by subst e;exact⟨rfl,rfl,rfl,λj r E Z S=>by rw[Z]at S;cases S;exact⟨rfl,λk a M Y O=>by rw[Y]at O;cases O;exact .refl _⟩⟩
 rcases Tf i A.length with N|N
 .rw[Tq N]at h1 u;rw[h1]at u;cases u;exact B rfl
 .rw[Tm N]at h1 u;generalize i-A.length=k at h1 u
  match k with
  |0=>cases h1;cases u;exact⟨rfl,rfl,D,λj r G g1 g2=>(hr j r G g1 g2).at_⟩
  |k+1=>simp only[UA]at h1 u;rw[h1]at u;cases u;exact B rfl
theorem Pp{α:Type}(u j b3 b2:α)(N T:List α):(u::j::(N++(b3::b2::T))).Perm ((j::N)++([b3,b2]++u::T)):=by
 refine(List.Perm.swap _ _ _).trans (List.Perm.cons _ ?_);refine Up.symm.trans ?_ |>.trans (List.Perm.refl _)
 refine List.Perm.append_left N ?_;exact((List.Perm.swap _ _ _).trans ((List.Perm.swap _ _ _).cons _))
theorem MV{α:Type}(j b3 b2:α)(N T:List α):(j::(N++(b3::b2::T))).Perm (b3::b2::j::(N++T)):=
 ((Up.trans (Up.cons _)).cons _).trans ((List.Perm.swap _ _ _).trans ((List.Perm.swap _ _ _).cons _))
def iJ(s:cy)(bc bf:Nat)(x:AV):List AV:=[.lst (s.sync.locks.map LockD.enc),.U1 s.sync.tx,.lst (s.sync.done.map aB),.lst (s.sync.threads.map ThrD.enc),.sl bc 0 s.cells.length,.sl bf 0 s.futures.length,x]
theorem B4(s:cy)(bc bf:Nat)(o:Option Nat)(n:Nat):(iJ s bc bf (aj o n)).all AV.one=true:=by show(true&&(true&&(true&&(true&&(true&&(true&&((aj o n).one&&true)))))))=true;rw[B3];rfl
def pW(s:aD)(o t:Option Nat):List AV:=[.U1 s.pc,aK o s.regs.length,aK t s.taint.length,.U1 s.ev]
def mn(s:aD)(o t:Option Nat):SH:=ab o 1 (s.regs.map ah)++ab t 1 (s.taint.map bC)
section
variable (s:cy) (q b2 b3 bc bf:Nat) (h1:s.threads.length<=2^30) (hr:∀e∈s.threads,e.regs.length<2^40/\e.taint.length<=2^30/\∀r∈e.taint,r.length<=2^30) (Q:R)
include h1 hr
theorem Lg(E L0:SH)(hL0:L0.Perm ((b3,⟨7,[iJ s bc bf .nils]⟩)::(b2,⟨7,[aC]⟩)::E))
  (B:∀(M o t:Option Nat) (z:List AV),(M=none->s.threads=[])->(o=none->q<s.threads.length->(s.threads.getD q aD.zero).regs=[])->(t=none->q<s.threads.length->(s.threads.getD q aD.zero).taint=[])->Q (.agg (iJ s bc bf (aj M s.threads.length))) ((b3,⟨7,[iJ s bc bf (aj M s.threads.length)]⟩)::((b2,⟨7,[z]⟩)::(ab M 4 ((s.threads.map aD.enc).set q (pW (s.threads.getD q aD.zero) o t))++((if q<s.threads.length then mn (s.threads.getD q aD.zero) o t else [])++E))))) :
  W.loop (qt Q) [.pptr [s.enc] 0 0,.ptr b2 0 0,.ptr b3 0 0,.U1 (0:Nat)] L0:=by
 generalize hth:s.threads.getD q aD.zero=th at *;refine bz s.threads.length (λk (p:Option Nat×Option Nat×Option Nat)=>([.pptr [s.enc] 0 0,.ptr b2 0 0,.ptr b3 0 0,.U1 k],(b3,⟨7,[iJ s bc bf (aj p.1 k)]⟩)::((b2,⟨7,[aC]⟩)::(ab p.1 4 (((s.threads.take k).map aD.enc).set q (pW th p.2.1 p.2.2))++((if q<k then mn th p.2.1 p.2.2 else [])++E)))))
  (λk p=>(p.1=none->k=0)/\(p.2.1=none->q<k->th.regs=[])/\(p.2.2=none->q<k->th.taint=[])) (none,none,none) ⟨λ_=>rfl,λ_ h=>by omega,λ_ h=>by omega⟩ (az.box (K:=[]) hL0 (by unfold iJ;exact .cons (.refl _) (.cons (.refl _) (.cons (.refl _) (.cons (.refl _) (.cons (.refl _) (.cons (.refl _) (.cons .nile .nil)))))))) ?_
 rintro k ⟨M,o,t⟩ hk ⟨i1,i2,i3⟩;dsimp only at i1 i2 i3 ⊢;refine vw ?_;rcases Nat.lt_or_ge k s.threads.length with G|G
 .have hd:=aS G;have hx:=am (f:=aD.enc) G;obtain⟨r1,r2,r3⟩:=hr _ (Tk G);have hcp:=E4 s.threads[k] r1 UW r3;generalize hT:(if q<k then mn th o t else [])++E=T;have hlen:(((s.threads.take k).map aD.enc).set q (pW th o t)).length=k:=by simp;omega
  have h0:M=none->((s.threads.take k).map aD.enc).set q (pW th o t)=[]:=λe=>by rw[i1 e];rfl
  have hss:=Fd aD.enc s.threads q k (pW th o t) G;generalize hX:((s.threads.take k).map aD.enc).set q (pW th o t)=X at *;unfold iJ aC;rw[show s.enc=[.lst (s.sync.locks.map LockD.enc),.U1 s.sync.tx,.lst (s.sync.done.map aB),.lst (s.sync.threads.map ThrD.enc),.lst (s.cells.map ah),.lst (s.futures.map ah),.lst (s.threads.map aD.enc)]from rfl];clear B hr
  repeat' (first|refine st ?_|refine sb λO u=>?_|fail)
  refine yB hcp (by simp[rm,rz,W.free,af]) ?_;rintro v K ⟨Z,S,rfl,rfl,ho',ht'⟩
  skip
  have fin:∀(nb nt:Nat) (D:Blk),∃(j:Nat) (p:Option Nat×Option Nat×Option Nat),k<j/\j<=s.threads.length/\((p.1=none->j=0)/\(p.2.1=none->q<j->th.regs=[])/\(p.2.2=none->q<j->th.taint=[]))/\az [.pptr [[.lst (s.sync.locks.map LockD.enc),.U1 s.sync.tx,.lst (s.sync.done.map aB),.lst (s.sync.threads.map ThrD.enc),.lst (s.cells.map ah),.lst (s.futures.map ah),.lst (s.threads.map aD.enc)]] 0 0,.ptr b2 0 0,.ptr b3 0 0,.U1 (IntKind.i64.wrap ((k:Int)+1))]
    ((nb,⟨4,X++[pW s.threads[k] Z S]⟩)::(nt,D)::(mn s.threads[k] Z S++((b3,⟨7,[iJ s bc bf (.sl nb 0 (k+1))]⟩)::(b2,⟨7,[aC]⟩)::T)))
    [.pptr [[.lst (s.sync.locks.map LockD.enc),.U1 s.sync.tx,.lst (s.sync.done.map aB),.lst (s.sync.threads.map ThrD.enc),.lst (s.cells.map ah),.lst (s.futures.map ah),.lst (s.threads.map aD.enc)]] 0 0,.ptr b2 0 0,.ptr b3 0 0,.U1 j]
    ((b3,⟨7,[iJ s bc bf (aj p.1 j)]⟩)::((b2,⟨7,[aC]⟩)::(ab p.1 4 (((s.threads.take j).map aD.enc).set q (pW th p.2.1 p.2.2))++((if q<j then mn th p.2.1 p.2.2 else [])++E)))):=by
   intro nb nt D;rw[aw G UW];by_cases hkq:k=q
   .subst hkq;have eth:th=s.threads[k]:=by rw[<-hth];simp[G]
    subst eth;refine⟨k+1,(some nb,Z,S),UW,UW,⟨nofun,λe _=>ho' e,λe _=>ht' e⟩,?_⟩;dsimp only;rw[Fd aD.enc s.threads k k (pW s.threads[k] Z S) G,Fe _ _ _ (by simp;omega),if_pos rfl,if_pos (Nat.lt_succ_self k)];rw[<-hX,Fe _ _ _ (by simp;omega),<-hT,if_neg (Nat.lt_irrefl k),List.nil_append];refine az.forget (K:=[(nt,D)]) ((List.Perm.swap _ _ _).trans (List.Perm.cons _ ?_));exact MV _ _ _ _ _
   .refine⟨k+1,(some nb,o,t),UW,UW,⟨nofun,λe h=>i2 e UW,λe h=>i3 e UW⟩,?_⟩;dsimp only;rw[hss,if_neg hkq,<-hT];have e1:(if q<k+1 then mn th o t else [])=(if q<k then mn th o t else []):=by
     by_cases hq:q<k
     .rw[if_pos hq,if_pos UW]
     .rw[if_neg hq,if_neg UW]
    rw[e1];refine az.rowP (K:=(nt,D)::mn s.threads[k] Z S) (A:=[(b3,_),(b2,_)]) (Pp _ _ _ _ _ _) UZ ?_;intro j r r' N Y;rcases Tf j X.length with hj|hj
    .rw[Tq hj]at N Y;rw[N]at Y;cases Y;exact eP.refl _ _
    .rw[Tm hj]at N Y;rcases hm:j-X.length with _|m
     .rw[hm]at N Y;cases N;cases Y;refine .cons (.refl _) (.cons ?_ (.cons ?_ (.cons (.refl _) .nil)))
      .exact fF rfl ho' λb e=>by subst e;simp[mn,ab]
      .exact fF rfl ht' λb e=>by subst e;simp[mn,ab]
     .rw[hm]at N;simp at N
  rcases Z with _|c'<;>rcases S with _|d'
  all_goals
   dsimp only[aK,ab,List.nil_append,List.cons_append]
   repeat' (first|refine st ?_|refine bA rp rp hlen h0 UY UZ (by simp;omega) (by simp;omega) UY (λO u=>?_)|refine sb λO u=>?_|fail)
   exact fin _ _ _
 .have hd:=aX G;have hk0:k=s.threads.length:=by omega
  subst hk0;rw[TH (Te _)];have he:=λz=>B M o t z (λe=>T9.1 (i1 e)) i2 i3
  unfold iJ aC at *;rw[show s.enc=[.lst (s.sync.locks.map LockD.enc),.U1 s.sync.tx,.lst (s.sync.done.map aB),.lst (s.sync.threads.map ThrD.enc),.lst (s.cells.map ah),.lst (s.futures.map ah),.lst (s.threads.map aD.enc)]from rfl];have hb:=B4 s bc bf M s.threads.length;unfold iJ at hb;clear B hr
  repeat' (first|refine st ?_|refine a8 rp rfl rfl hb rfl ?_|refine sb λO u=>?_|fail)
  exact he _
end
theorem GH(s:SyncD)(h1:s.locks.length<2^40)(h2:s.done.length<=140737488351232)(B:s.threads.length<2^40)(j:∀l∈s.locks,l.readers.length<2^40):aq Tryz.prog 77 [.agg s.enc] (.agg s.enc):=by refine ac.fz ((Fb s h1 h2 B j).mono ?_);rintro v L ⟨D,G,E,rfl,rfl,u⟩;exact⟨.agg s.enc,[],az.all (Fz.aggs (.cons (we u λp hp=>by simp[hp]) (.cons (.refl _) (.cons (Fz.sls (size:=1) UZ rfl U0 rfl) (.cons (Fz.sls (size:=3) UZ rfl U0 rfl) .nil))))),rfl,rfl⟩
structure Pq(s:cy)(q:Nat)(v:AV)(L:SH):Prop where
 ex:∃(bc bf:Nat) (ot o t:Option Nat),v=.agg (iJ s bc bf (aj ot s.threads.length))/\
  L=ab ot 4 ((s.threads.map aD.enc).set q (pW (s.threads.getD q aD.zero) o t))++((if q<s.threads.length then mn (s.threads.getD q aD.zero) o t else [])++[(bf,⟨1,s.futures.map ah⟩),(bc,⟨1,s.cells.map ah⟩)])/\
  (ot=none->s.threads=[])/\(o=none->q<s.threads.length->(s.threads.getD q aD.zero).regs=[])/\(t=none->q<s.threads.length->(s.threads.getD q aD.zero).taint=[])
theorem Lh(s:cy)(q:Nat)(h1:s.threads.length<=2^30)(hc:s.cells.length<2^40)(hf:s.futures.length<2^40)(hr:∀e∈s.threads,e.regs.length<2^40/\e.taint.length<=2^30/\∀r∈e.taint,r.length<=2^30)
  (g1:s.sync.locks.length<2^40) (Z:s.sync.done.length<=140737488351232) (Y:s.sync.threads.length<2^40) (S:∀l∈s.sync.locks,l.readers.length<2^40):ac Tryz.prog 44 [.agg s.enc] [] (Pq s q):=by
 have N:=GH s.sync g1 Z Y S;refine ac.fz (AK _ _ _ ?_);refine vw ?_;generalize D:(λ(v:AV) (L:SH)=>∃B E,az [v] L [B] E/\Pq s q B E)=Q;have O:∀(b2 b3 bc bf:Nat) (L:SH),uo L ((b3,⟨7,[iJ s bc bf .nils]⟩)::(b2,⟨7,[aC]⟩)::[(bf,⟨1,s.futures.map ah⟩),(bc,⟨1,s.cells.map ah⟩)]) []->W.loop (qt Q) [.pptr [s.enc] 0 0,.ptr b2 0 0,.ptr b3 0 0,.U1 (0:Nat)] L:=by intro b2 b3 bc bf L M;refine Lg s q b2 b3 bc bf h1 hr Q [(bf,⟨1,s.futures.map ah⟩),(bc,⟨1,s.cells.map ah⟩)] L (by simpa using M.perm) ?_;intro G o t z a1 a2 a3;subst D;exact⟨_,_,az.forget (K:=[(b3,_),(b2,_)]) (.refl _),⟨bc,bf,G,o,t,rfl,rfl,a1,a2,a3⟩⟩
 clear D hr;unfold cy.enc SyncD.enc iJ aC at *
 repeat' (first|refine st ?_|(refine pf 77 ?_;refine pm (N) ?_)|refine gp rp (λ_=>rfl) UY (by simp;omega) (by simp;omega) (λ_=>rfl) (λu j=>?_)|refine sb λu j=>?_|fail)
 rw[Uc,Uc];exact O _ _ _ _ _ rp
end
end Go.Proofs.YtbofdbhnbodbiaaGreatDoor.Am
