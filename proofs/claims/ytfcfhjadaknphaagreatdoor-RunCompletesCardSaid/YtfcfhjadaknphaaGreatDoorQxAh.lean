/- part -/
import Derived.Test.YtfcfhjadaknphaaGreatDoorQxAb
import Derived.Test.YtfcfhjadaknphaaGreatDoorQxAe
set_option linter.all false
set_option maxRecDepth 100000
set_option maxHeartbeats 0
namespace Go.Proofs.YtfcfhjadaknphaaGreatDoor.Am
section
theorem D7(o:Option Nat)(n:Nat):(ai o n).one=true:=by cases o<;>rfl
theorem qt{ol:Option Nat}{n m k bd bt:Nat}{tx:Int}:([ai ol n,.YJ tx,.sl bd 0 m,.sl bt 0 k]:List AV).all AV.one=true:=by show((ai ol n).one&&(true&&(true&&(true&&true))))=true;rw[D7];rfl
theorem yh{ol:Option Nat}{j:List LockD}{L:SH}(B:ol=none->j=[])(u:∀p∈ab ol 2 (j.map LockD.enc),p∈L):Fz L (ai ol j.length) (.lst (j.map LockD.enc)):=by
 cases ol with
 |none=>rw[B rfl];exact .emp
 |some b=>exact Fz.sls (u _ (WP.2 rfl)) rfl YG rfl
section
variable (w:aK) (s:SyncD) (t o wake:Int) (b7 b12 bd bt:Nat) (ol:Option Nat)
def LL:SH:=(bt,⟨3,s.threads.map ThrD.enc⟩)::(bd,⟨1,s.done.map aD⟩)::(b12,⟨4,[[.nils,.YJ 0,.nils,.nils]]⟩)::(b7,⟨4,[s.enc]⟩)::ab ol 2 (s.locks.map LockD.enc)
def T4(s:SyncD)(bd bt:Nat)(ol:Option Nat):AV:=.agg [ai ol s.locks.length,.YJ s.tx,.sl bd 0 s.done.length,.sl bt 0 s.threads.length]
def mU(k:Int)(Q:R):Prop:=∀L:SH,Fz L (ai ol s.locks.length) (.lst ((bn w s t k o wake).1.locks.map LockD.enc))->Fz L (.sl bt 0 s.threads.length) (.lst ((bn w s t k o wake).1.threads.map ThrD.enc))->Fz L (.sl bd 0 s.done.length) (.lst ((bn w s t k o wake).1.done.map aD))->
 Q (.tup [.agg [ai ol s.locks.length,.YJ (bn w s t k o wake).1.tx,.sl bd 0 s.done.length,.sl bt 0 s.threads.length],.YJ (bn w s t k o wake).2,.bool true]) L
def LM(k:Int)(Q:R):Prop:=oR Q (.YJ k) (.YJ t) (.YJ o) (.YJ wake) (.ptr b7 0 0) (.ptr b12 0 0) (.pptr [w.enc] 0 0) (T4 s bd bt ol) (LL s b7 b12 bd bt ol)
variable (Q:R) (hf:yE w s) (ht:inB t w.threads.length=true) (hol:ol=none->s.locks=[]) (hnd:(LL s b7 b12 bd bt ol).names.Nodup)
include hf ht hol hnd
theorem Vw(k:Int)(M:allowedS w k o=true)(hk:k=1\/k=2\/k=3\/k=4\/k=5\/k=12\/k=13\/k=14\/k=15\/k=20\/k=21\/k=22\/k=23)(D:mU w s t o wake bd bt ol k Q):LM w s t o wake b7 b12 bd bt ol k Q:=by
 unfold LM T4 LL;refine vw ?_;simp only[SH.names,LL,WS,Xw,WX,not_or]at hnd;obtain⟨⟨n1,n2,n3,n4⟩,⟨n5,n6,n7⟩,⟨n8,n9⟩,n10,_⟩:=hnd;have E:inB t s.threads.length=true:=by rw[hf.threads];exact ht
 have hy:=nQ E;obtain⟨t0,t1⟩:=aw.1 E;have u:k=20->inB o s.threads.length=true:=λh=>by subst h;rw[hf.threads];simpa[allowedS]using M
 have j:k=22->inB o s.done.length=true:=λh=>by subst h;rw[hf.done];simpa[allowedS]using M
 have B:∀O:Int,([ai ol s.locks.length,.YJ O,.sl bd 0 s.done.length,.sl bt 0 s.threads.length]:List AV).all AV.one=true:=λO=>qt
 unfold mU bn at D;clear M;rcases hk with rfl|rfl|rfl|rfl|rfl|rfl|rfl|rfl|rfl|rfl|rfl|rfl|rfl
 all_goals simp only[Int.reduceEq,Int.reduceNeg,if_true,if_false,or_self,or_true,true_or,or_false,false_or,reduceIte,reduceCtorEq]at D
 case inr.inr.inr.inr.inr.inr.inr.inr.inr.inl=>
  have G:=u rfl;have Z:=nQ G;obtain⟨Y,S⟩:=aw.1 G;clear hf ht u j
  repeat' (first|refine sy ?_|refine bI rp rfl rfl (B _) rfl ?_|refine s2 ?_ ?_|intro)
  exact D _ (yh hol (λp hp=>by simp only[WX,WM];simp[hp])) (Fz.sls mm (mD rfl) YF (by simp[dP])) (Fz.sls mm rfl YF rfl)
 case inr.inr.inr.inr.inr.inr.inr.inr.inr.inr.inr.inl=>
  have G:=j rfl;obtain⟨Y,S⟩:=aw.1 G;have Z:(s.done.map aD)[0+o.toNat]? =some (aD (s.done.getD o.toNat default)):=by rw[Xn];exact co G
  clear hf ht u j
  repeat' (first|refine sy ?_|refine bI rp rfl rfl (B _) rfl ?_|refine s2 ?_ ?_|intro)
  refine D _ (yh hol (λp hp=>by simp only[WX,WM];simp[hp])) (Fz.sls mm rfl YF rfl) (Fz.sls mm ?_ YF YF);rw[XI,Xn];rfl
 all_goals
  clear hf ht u j
  repeat' (first|refine sy ?_|refine bI rp rfl rfl (B _) rfl ?_|refine s2 ?_ ?_|intro)
  first
   |exact D _ (yh hol (λp hp=>by simp only[WX,WM];simp[hp])) (Fz.sls mm (mD rfl) YF (by simp[dP])) (Fz.sls mm rfl YF rfl)
   |exact D _ (yh hol (λp hp=>by simp only[WX,WM];simp[hp])) (Fz.sls mm rfl YF rfl) (Fz.sls mm rfl YF rfl)
end
section
variable (w:aK) (s:SyncD) (t o wake:Int) (b7 b12 bd bt bl:Nat) (Q:R) (hf:yE w s) (ht:inB t w.threads.length=true) (hnd:(LL s b7 b12 bd bt (some bl)).names.Nodup)
include hf ht hnd
theorem Vx(k:Int)(G:allowedS w k o=true)(S:k=6\/k=7\/k=10\/k=11\/k=8\/k=9)(u:(aP s o).readers.length<2^40)(D:mU w s t o wake bd bt (some bl) k Q):LM w s t o wake b7 b12 bd bt (some bl) k Q:=by
 unfold LM T4 LL;refine vw ?_;simp only[SH.names,LL,ab,WS,Xp,Xw,WX,not_or,Xv,not_false_eq_true,and_true]at hnd;obtain⟨⟨n1,n2,n3,n4⟩,⟨n5,n6,n7⟩,⟨n8,n9⟩,n10,_⟩:=hnd;have j:inB t s.threads.length=true:=by rw[hf.threads];exact ht
 have hy:=nQ j;obtain⟨t0,t1⟩:=aw.1 j;have O:inB o s.locks.length=true:=by rw[hf.locks];rcases S with rfl|rfl|rfl|rfl|rfl|rfl<;>(simp[allowedS]at G;exact G.1)
 have hx:=uG O;obtain⟨o0,o1⟩:=aw.1 O;have B:∀M:Int,([ai (some bl) s.locks.length,.YJ M,.sl bd 0 s.done.length,.sl bt 0 s.threads.length]:List AV).all AV.one=true:=λM=>qt
 have E:∀b,ac Tryz.prog 169 [.lst ((aP s o).readers.map ah),.sl b 0 1] [(b,⟨1,[[.YJ t]]⟩)] λv L=>v=.lst ((uF (aP s o).readers t).map ah)/\L=[]:=λb=>ac.pre (args2:=[.lst ((aP s o).readers.map ah),.lst ([t].map ah)]) (L2:=[]) (aE.drop (K:=[(b,⟨1,[[.YJ t]]⟩)]) YF rfl (fi.at_ (.cons (.refl _) (.cons (Fz.sls (l:=[t]) (f:=ah) (WP.2 rfl) rfl YG rfl) .nil))).2) (D5 _ [t] u YF)
 have Y:=HJ (aP s o).readers t u;dsimp only[ab,ai]at B ⊢;unfold mU bn at D;dsimp only[ai]at D;clear G hf ht;rcases S with rfl|rfl|rfl|rfl|rfl|rfl
 all_goals
  simp only[Int.reduceEq,Int.reduceNeg,if_true,if_false,or_self,or_true,true_or,or_false,false_or,reduceIte,reduceCtorEq]at D
  repeat' (first|refine sy ?_|refine bI rp rfl rfl (B _) rfl ?_|((with_reducible refine dR 169 ?_);(refine uz (E _) rp (by(simp only[rm,rc,rz,W.free,c8,↓reduceIte,Nat.reduceEqDiff,am,gE,Yl,Xk,Xv,not_false_eq_true,implies_true,and_true,true_and,and_self,W7,reduceCtorEq,forall_const,false_implies,WP,forall_eq,Xr,XM,WX,or_false,false_or,forall_eq_or_imp,not_or])<;>(repeat' constructor)<;>first|assumption|(exact Ne.symm YD)|(intro Z;subst Z;simp[SH.names]at *;done)) ?_;rintro _ _ ⟨rfl,rfl⟩))|refine s2 ?_ ?_|intro)
  exact D _ (Fz.sls mm (qK rfl) YF (by simp[cN])) (Fz.sls mm rfl YF rfl) (Fz.sls mm rfl YF rfl)
theorem Vy(k:Int)(S:allowedS w k o=true)(O:k=16\/k=17)(D:mU w s t o wake bd bt (some bl) k Q):LM w s t o wake b7 b12 bd bt (some bl) k Q:=by
 unfold LM T4 LL;refine vw ?_;simp only[SH.names,LL,ab,WS,Xp,Xw,WX,not_or,Xv,not_false_eq_true,and_true]at hnd;obtain⟨⟨n1,n2,n3,n4⟩,⟨n5,n6,n7⟩,⟨n8,n9⟩,n10,_⟩:=hnd;have u:inB t s.threads.length=true:=by rw[hf.threads];exact ht
 have hy:=nQ u;obtain⟨t0,t1⟩:=aw.1 u;have E:inB o w.conds.length=true:=by rcases O with rfl|rfl<;>simpa[allowedS]using S
 have M:=DK hf E;have hx:=uG M;obtain⟨Z,Y⟩:=aw.1 M;have hcx:=co (f:=bO.enc) E;obtain⟨c0,c1⟩:=aw.1 E;unfold jC at hx Z Y;have B:∀G:Int,([ai (some bl) s.locks.length,.YJ G,.sl bd 0 s.done.length,.sl bt 0 s.threads.length]:List AV).all AV.one=true:=λG=>qt
 have j:∀v,((s.threads.map ThrD.enc).set (0+t.toNat) ((a7 s t).enc.set 0 v))[0+t.toNat]? =some ((a7 s t).enc.set 0 v):=λv=>Nk hy
 have hy3:=j (.YJ 3);have hy4:=j (.YJ 2);clear j;dsimp only[ab,ai]at B ⊢;unfold mU bn jC at D;dsimp only[ai]at D;clear S hf ht;rcases O with rfl|rfl
 all_goals
  simp only[Int.reduceEq,Int.reduceNeg,if_true,if_false,or_self,or_true,true_or,or_false,false_or,reduceIte,reduceCtorEq]at D
  repeat' (first|refine sy ?_|refine bI rp rfl rfl (B _) rfl ?_|refine s2 ?_ ?_|intro)
  refine D _ (Fz.sls mm (qK rfl) YF (by simp[cN])) (Fz.sls mm ?_ YF (by simp[dP])) (Fz.sls mm rfl YF rfl);rw[List.set_set];exact mD rfl
end
end
section
def lK(T:List ThrD)(l:List Nat):List ThrD:=l.foldl (λT i=>gB T i 4) T
theorem xm:∀(l:List Nat) (T:List ThrD),(lK T l).length=T.length
 |[],_=>rfl
 | i::l,T=>by have:=xm l (gB T i 4);unfold lK at this ⊢;rw[XL,this];simp[gB]
theorem HL:∀(l:List Nat) (T:List ThrD) (j:Nat) (B:j<T.length),(lK T l)[j]? =some (if j∈l then {T[j]with status:=4} else T[j])
 |[],T,j,B=>by simp[lK,B]
 | i::l,T,j,B=>by
  have E:j<(gB T i 4).length:=by simp[gB,B]
  have:=HL l (gB T i 4) j E;unfold lK at this ⊢;rw[XL,this];by_cases u:i=j
  .subst u;have:(gB T i 4)[i]={T[i]with status:=4}:=by simp[gB,B]
   rw[this];simp
  .have:(gB T i 4)[j]=T[j]:=by simp[gB,List.getElem_set_ne u]
   rw[this];have D:j≠i:=λe=>u e.symm
   simp[D]
theorem LN(T:List ThrD)(c:Int):lK T (aM T c T.length)=dq T c T.length:=by
 apply XW;intro j;rcases Fn j T.length with u|u
 .rw[HL _ _ _ u,fk _ _ _ _ u];have D:j∈aM T c T.length↔dH T[j] c=true:=by
   have:gS T c j=dH T[j] c:=by simp[gS,u]
   simp[aM,this,u]
  by_cases B:dH T[j] c=true
  .rw[if_pos (D.2 B)];simp[u,B]
  .rw[if_neg (λh=>B (D.1 h))];simp[B]
 .rw[ST (by rw[xm];exact u),ST (by rw[cX];exact u)]
theorem Jk(T:List ThrD)(l:List Nat)(i:Nat):lK T (l++[i])=gB (lK T l) i 4:=by unfold lK;rw[Yw];rfl
section
variable (w:aK) (s:SyncD) (t o wake:Int) (b7 b12 bd bt:Nat) (ol:Option Nat) (Q:R) (hol:ol=none->s.locks=[]) (hT:s.threads.length<2^40)
include hol hT
theorem S6(G:mU w s t o wake bd bt ol 18 Q):LM w s t o wake b7 b12 bd bt ol 18 Q:=by
 unfold LM T4 LL;refine vw ?_;have D:∀tx:Int,([ai ol s.locks.length,.YJ tx,.sl bd 0 s.done.length,.sl bt 0 s.threads.length]:List AV).all AV.one=true:=λtx=>qt
 have Y:=yg (ai ol s.locks.length) (.YJ s.tx) (.sl bd 0 s.done.length) bt s.threads o hT (D _);unfold mU bn at G;simp only[Int.reduceEq,Int.reduceNeg,if_true,if_false,or_self,or_true,true_or,or_false,false_or,reduceIte,reduceCtorEq]at G;have j:cm s.threads o wake=aS (aM s.threads o s.threads.length) wake:=rfl;have M:∀x∈aM s.threads o s.threads.length,x<s.threads.length:=λx hx=>nP hx
 have S:(aM s.threads o s.threads.length).length<=s.threads.length:=W5 (X2 _ _) YF;cases hl:aM s.threads o s.threads.length with
 |nil=>
  rw[hl]at Y j;have O:cm s.threads o wake=-1:=j;rw[O,show fj s.threads o wake=s.threads by unfold fj;rw[O,if_neg YG]]at G
  repeat' (first|refine sy ?_|refine bI rp rfl rfl (D _) rfl ?_|((with_reducible refine aU 171 ?_);(refine gq Y rp ?_;rintro _ _ ⟨rfl,rfl⟩))|refine s2 ?_ ?_|intro)
  exact G _ (yh hol (λp hp=>by simp only[WX,WM];simp[hp])) (Fz.sls mm rfl YF rfl) (Fz.sls mm rfl YF rfl)
 |cons u l=>
  rw[hl]at Y j M S;have hz:decide (((u::l).length:Int) > 0)=true:=decide_eq_true (by simp only[WO];omega);have hrow:(((u::l):List Nat).map tQ)[(0:Nat)]? =some (tQ u):=rfl;have hmap:((u::l).map tQ)=(((u::l).map λi:Nat=>(i:Int)).map ah):=by rw[List.map_map];rfl
  have B:=Kv ((u::l).map λi:Nat=>(i:Int)) wake (by simp at S ⊢;omega);rw[<-hmap]at B;have hany:((u::l).map λi:Nat=>(i:Int)).contains wake=(u::l).any λx=>decide ((x:Int)=wake):=by rw[Bool.eq_iff_iff];simp only[List.contains_iff_mem,Xi,XZ,decide_eq_true_eq]
  rw[hany]at B;simp only[aS]at j;have fin:∀(i:Nat),cm s.threads o wake=(i:Int)->∀L,(bd,(⟨1,s.done.map aD⟩:Blk))∈L->(bt,(⟨3,(gB s.threads i 4).map ThrD.enc⟩:Blk))∈L->(∀p∈ab ol 2 (s.locks.map LockD.enc),p∈L)->Q (.tup [.agg [ai ol s.locks.length,.YJ s.tx,.sl bd 0 s.done.length,.sl bt 0 s.threads.length],.YJ (i:Int),.bool true]) L:=λi hi L m1 m2 m3=>by rw[hi,show fj s.threads o wake=gB s.threads i 4 by unfold fj;rw[hi,if_pos YC];rfl]at G;exact G _ (yh hol m3) (Fz.sls m2 rfl YF (by simp[gB])) (Fz.sls m1 rfl YF rfl)
  clear G;cases ha:(u::l).any λx=>decide ((x:Int)=wake)with
  |false=>
   rw[ha]at B j;have O:cm s.threads o wake=(u:Int):=j;have Z:u<s.threads.length:=M u YF;have hx:=aq (f:=ThrD.enc) Z;have E:=zy s.threads u 4 Z
   repeat' (first|refine sy ?_|refine bI rp rfl rfl (D _) rfl ?_|((with_reducible refine aU 171 ?_);(refine gq Y rp ?_;rintro _ _ ⟨rfl,rfl⟩))|refine s2 ?_ ?_|intro)
   refine fin u O _ mm ?_ (λp hp=>by simp only[WX,WM];simp[hp]);rw[<-E];exact mm
  |true=>
   rw[ha]at B j;have O:cm s.threads o wake=wake:=j;obtain⟨u',hu1,hu2⟩:=XZ.1 ha;have hu3:=of_decide_eq_true hu2;have Z:u'<s.threads.length:=M u' hu1;have hx:=aq (f:=ThrD.enc) Z;have E:=zy s.threads u' 4 Z;subst hu3
   repeat' (first|refine sy ?_|refine bI rp rfl rfl (D _) rfl ?_|((with_reducible refine aU 171 ?_);(refine gq Y rp ?_;rintro _ _ ⟨rfl,rfl⟩))|refine s2 ?_ ?_|intro)
   refine fin u' O _ mm ?_ (λp hp=>by simp only[WX,WM];simp[hp]);rw[<-E];exact mm
theorem S7(E:mU w s t o wake bd bt ol 19 Q):LM w s t o wake b7 b12 bd bt ol 19 Q:=by
 unfold LM T4 LL;refine vw ?_;have B:∀O:Int,([ai ol s.locks.length,.YJ O,.sl bd 0 s.done.length,.sl bt 0 s.threads.length]:List AV).all AV.one=true:=λO=>qt
 have hw:=yg (ai ol s.locks.length) (.YJ s.tx) (.sl bd 0 s.done.length) bt s.threads o hT (B _);unfold mU bn at E;simp only[Int.reduceEq,Int.reduceNeg,if_true,if_false,or_self,or_true,true_or,or_false,false_or,reduceIte,reduceCtorEq]at E;have D:∀x∈aM s.threads o s.threads.length,x<s.threads.length:=λx S=>nP S
 have hwl:(aM s.threads o s.threads.length).length<=s.threads.length:=W5 (X2 _ _) YF;have u:=LN s.threads o;have fin:∀L,(bd,(⟨1,s.done.map aD⟩:Blk))∈L->(bt,(⟨3,(lK s.threads (aM s.threads o s.threads.length)).map ThrD.enc⟩:Blk))∈L->(∀p∈ab ol 2 (s.locks.map LockD.enc),p∈L)->Q (.tup [.agg [ai ol s.locks.length,.YJ s.tx,.sl bd 0 s.done.length,.sl bt 0 s.threads.length],.YJ ((aM s.threads o s.threads.length).length:Nat),.bool true]) L:=λL m1 m2 Z=>
  E _ (yh hol Z) (Fz.sls m2 (by rw[u];rfl) YF (by simp[DQ,cX])) (Fz.sls m1 rfl YF rfl)
 clear u E;generalize aM s.threads o s.threads.length=wl at *
 repeat' (first|refine sy ?_|refine bI rp rfl rfl (B _) rfl ?_|((with_reducible refine aU 171 ?_);(refine gq hw rp ?_;rintro _ _ ⟨rfl,rfl⟩))|refine s2 ?_ ?_|intro)
 refine j8 wl.length (λi=>([.ptr b7 0 0,.ptr b12 0 0,.lst (wl.map tQ),.YJ i],(bt,⟨3,(lK s.threads (wl.take i)).map ThrD.enc⟩)::(bd,⟨1,s.done.map aD⟩)::(b12,⟨4,[[.nils,.YJ 0,.nils,.nils]]⟩)::(b7,⟨4,[[ai ol s.locks.length,.YJ s.tx,.sl bd 0 s.done.length,.sl bt 0 s.threads.length]]⟩)::ab ol 2 (s.locks.map LockD.enc))) (λ_=>True) trivial rfl rfl ?_;intro i hi _;dsimp only;refine vw ?_;rcases Nat.lt_or_ge i wl.length with j|j
 .have hd:=a8 j;have S:=aq (f:=tQ) j;have Y:wl[i]<(lK s.threads (wl.take i)).length:=by rw[xm];exact D _ (WN j)
  have hu':wl[i]<s.threads.length:=D _ (WN j);have hy:=aq (f:=ThrD.enc) Y;have M:=zy _ wl[i] 4 Y;have G:lK s.threads (wl.take (i+1))=gB (lK s.threads (wl.take i)) wl[i] 4:=by rw[LE j,Jk]
  clear fin
  repeat' (first|refine sy ?_|refine s2 ?_ ?_|intro)
  refine⟨i+1,YC,YC,trivial,dX (by rw[ax j YC]) ?_⟩;rw[G,<-M]
 .have hd:=bq j;rw[W9 j]
  repeat' (first|refine sy ?_|refine bI rp rfl rfl (B _) rfl ?_|refine s2 ?_ ?_|intro)
  exact fin _ mm mm (λp hp=>by simp only[WX,WM];simp[hp])
end
theorem S8{α:Type}(bt bd b12 b7:α)(X:List α):((X++[bt,bd])++[b12,b7]).Perm (bt::bd::b12::b7::X):=by rw[WU];exact W1 (l₁:=X) (l₂:=[bt,bd,b12,b7])
section
variable (w:aK) (s:SyncD) (t k o wake:Int)
theorem VA(j:aI w s t k o=true)(bd bt:Nat)(ol:Option Nat):mU w s t o wake bd bt ol k (yF w s t k o wake):=by intro L D B u;refine⟨_,[],aE.all (Fz.tups (.cons (Fz.aggs (.cons D (.cons (.refl _) (.cons u (.cons B .nil))))) (.cons (.refl _) (.cons (.refl _) .nil)))),?_,rfl⟩;unfold ef;rw[if_pos j];rfl
theorem Od(E:GX w s)(Z:aI w s t k o=true)(b7 b12:Nat)(Q:R)(M:∀bd bt ol,mU w s t o wake bd bt ol k Q):
  W.callM Tryz.prog 168 [.agg s.enc] [(b12,⟨4,[[.nils,.YJ 0,.nils,.nils]]⟩),(b7,⟨4,[s.enc]⟩)] (oR Q (.YJ k) (.YJ t) (.YJ o) (.YJ wake) (.ptr b7 0 0) (.ptr b12 0 0) (.pptr [w.enc] 0 0)):=by
 have B:=Z;unfold aI at B;simp only[WZ]at B;obtain⟨⟨⟨Y,O⟩,hal⟩,hkd⟩:=B;have G:=fE.1 Y;have S:∀o,(aP s o).readers.length<2^40:=λo=>by
  unfold aP;rcases Fn o.toNat s.locks.length with h|h
  .rw[show s.locks.getD o.toNat default=s.locks[o.toNat] by simp[h]];exact E.rd _ (WN h)
  .rw[show s.locks.getD o.toNat default=default by simp[List.getD,ST h]];decide
 refine zu (HK s E.locks E.done E.threads E.rd) ?_;rintro v K ⟨ol,bd,bt,rfl,rfl,hol⟩;refine⟨LL s b7 b12 bd bt ol,S8 _ _ _ _ _,λj=>?_⟩;show LM w s t o wake b7 b12 bd bt ol k Q;have u:∀{p:Int},inB p w.locks.length=true->(∀D,(LL s b7 b12 bd bt (some D)).names.Nodup->mU w s t o wake bd bt (some D) k Q->LM w s t o wake b7 b12 bd bt (some D) k Q)->LM w s t o wake b7 b12 bd bt ol k Q:=λ{p} hp h=>by
  cases ol with
  |none=>rw[<-G.locks,hol rfl]at hp;obtain⟨p0,p1⟩:=aw.1 hp;simp at p1;omega
  |some D=>exact h D j (M _ _ _)
 by_cases h1:k=1\/k=2\/k=3\/k=4\/k=5\/k=12\/k=13\/k=14\/k=15\/k=20\/k=21\/k=22\/k=23
 .exact Vw w s t o wake b7 b12 bd bt ol Q G O hol j k hal h1 (M _ _ _)
 by_cases h2:k=6\/k=7\/k=10\/k=11\/k=8\/k=9
 .exact u (p:=o) (by rcases h2 with rfl|rfl|rfl|rfl|rfl|rfl<;>(simp[allowedS]at hal;exact hal.1)) λD j=>Vx w s t o wake b7 b12 bd bt D Q G O j k hal h2 (S o)
 by_cases h3:k=16\/k=17
 .have hc:inB o w.conds.length=true:=by rcases h3 with rfl|rfl<;>simpa[allowedS]using hal
  exact u (by rw[<-G.locks];exact DK G hc) λD j=>Vy w s t o wake b7 b12 bd bt D Q G O j k hal h3
 by_cases h4:k=18
 .subst h4;exact S6 w s t o wake b7 b12 bd bt ol Q hol E.threads (M _ _ _)
 by_cases h5:k=19
 .subst h5;exact S7 w s t o wake b7 b12 bd bt ol Q hol E.threads (M _ _ _)
 .rw[fZ YC]at hal;cases hal
theorem LO(B:GX w s):ao Tryz.prog 121 [.agg w.enc,.agg s.enc,.YJ t,.YJ k,.YJ o,.YJ wake] (Nm (ef w s t k o wake)):=by
 refine ac.fz (Bn _ _ _ _ _ _ _ _ ?_);show sI _ _ _ _ _ _ _ (yF w s t k o wake);refine vw ?_;have D:=yb w s t k o (by have:=B.conds;omega) B.rd;have fin:aI w s t k o=false->∀L,yF w s t k o wake (.tup [.agg [.nils,.YJ 0,.nils,.nils],.YJ 0,.bool false]) L:=λE L=>by refine⟨_,[],aE.all (Fz.tups (.cons (Fz.aggs (.cons .nils (.cons (.refl _) (.cons .nils (.cons .nils .nil))))) (.cons (.refl _) (.cons (.refl _) .nil)))),?_,rfl⟩;unfold ef;rw[E];rfl
 have u:=λj=>VA w s t k o wake j
 generalize yF w s t k o wake=Q at *;cases j:aI w s t k o with
 |false=>
  rw[j]at D;have fin:=fin j
  repeat' (first|refine sy ?_|refine s2 ?_ ?_|intro)
  exact fin _
 |true=>
  rw[j]at D;have G:=λb7 b12=>Od w s t k o wake B j b7 b12 Q (u j)
  clear fin
  repeat' (first|exact G _ _|refine sy ?_|refine s2 ?_ ?_|intro)
end
end
