/- part -/
import Derived.Test.YtfckbjehkbhkgaaGreatQwq
set_option linter.all false
set_option maxRecDepth 100000
set_option maxHeartbeats 0
namespace Go.Proofs.YtfckbjehkbhkgaaGreat.Am
section
theorem Gv(o:Option Nat)(n:Nat):(af o n).one=true:=by cases o<;>rfl
theorem qZ{ol:Option Nat}{n m k bd bt:Nat}{tx:Int}:([af ol n,.acU tx,.sl bd 0 m,.sl bt 0 k]:List AV).all AV.one=true:=by show((af ol n).one&&(true&&(true&&(true&&true))))=true;rw[Gv];rfl
theorem zF{ol:Option Nat}{j:List LockD}{L:SH}(B:ol=none->j=[])(u:∀p∈ab ol 2 (j.map LockD.enc),p∈L):Fz L (af ol j.length) (.lst (j.map LockD.enc)):=by
 cases ol with
 |none=>rw[B rfl];exact .emp
 |some b=>exact Fz.sls (u _ (aag.2 rfl)) rfl acR rfl
section
variable (w:aF) (s:SyncD) (t o wake:Int) (b7 b12 bd bt:Nat) (ol:Option Nat)
def Po:SH:=(bt,⟨3,s.threads.map ThrD.enc⟩)::(bd,⟨1,s.done.map au⟩)::(b12,⟨4,[[.nils,.acU 0,.nils,.nils]]⟩)::(b7,⟨4,[s.enc]⟩)::ab ol 2 (s.locks.map LockD.enc)
def Yr(s:SyncD)(bd bt:Nat)(ol:Option Nat):AV:=.agg [af ol s.locks.length,.acU s.tx,.sl bd 0 s.done.length,.sl bt 0 s.threads.length]
def nF(k:Int)(Q:R):Prop:=∀L:SH,Fz L (af ol s.locks.length) (.lst ((bF w s t k o wake).1.locks.map LockD.enc))->Fz L (.sl bt 0 s.threads.length) (.lst ((bF w s t k o wake).1.threads.map ThrD.enc))->Fz L (.sl bd 0 s.done.length) (.lst ((bF w s t k o wake).1.done.map au))->
 Q (.tup [.agg [af ol s.locks.length,.acU (bF w s t k o wake).1.tx,.sl bd 0 s.done.length,.sl bt 0 s.threads.length],.acU (bF w s t k o wake).2,.bool true]) L
def Pp(k:Int)(Q:R):Prop:=pp Q (.acU k) (.acU t) (.acU o) (.acU wake) (.ptr b7 0 0) (.ptr b12 0 0) (.pptr [w.enc] 0 0) (Yr s bd bt ol) (Po s b7 b12 bd bt ol)
variable (Q:R) (hf:Ar w s) (ht:inB t w.threads.length=true) (hol:ol=none->s.locks=[]) (hnd:(Po s b7 b12 bd bt ol).names.Nodup)
include hf ht hol hnd
theorem ZB(k:Int)(M:allowedS w k o=true)(Z:k=1\/k=2\/k=3\/k=4\/k=5\/k=12\/k=13\/k=14\/k=15\/k=20\/k=21\/k=22\/k=23)(D:nF w s t o wake bd bt ol k Q):Pp w s t o wake b7 b12 bd bt ol k Q:=by
 unfold Pp Yr Po;refine vw ?_;simp only[SH.names,Po,aai,abG,aaj,not_or]at hnd;obtain⟨⟨n1,n2,n3,n4⟩,⟨n5,n6,n7⟩,⟨n8,n9⟩,n10,_⟩:=hnd;have E:inB t s.threads.length=true:=by rw[hf.threads];exact ht
 have hy:=oJ E;obtain⟨t0,t1⟩:=ao.1 E;have u:k=20->inB o s.threads.length=true:=λh=>by subst h;rw[hf.threads];simpa[allowedS]using M
 have j:k=22->inB o s.done.length=true:=λh=>by subst h;rw[hf.done];simpa[allowedS]using M
 have B:∀N:Int,([af ol s.locks.length,.acU N,.sl bd 0 s.done.length,.sl bt 0 s.threads.length]:List AV).all AV.one=true:=λN=>qZ
 unfold nF bF at D;clear M;rcases Z with rfl|rfl|rfl|rfl|rfl|rfl|rfl|rfl|rfl|rfl|rfl|rfl|rfl
 all_goals simp only[Int.reduceEq,Int.reduceNeg,if_true,if_false,or_self,or_true,true_or,or_false,false_or,reduceIte,reduceCtorEq]at D
 case inr.inr.inr.inr.inr.inr.inr.inr.inr.inl=>
  have G:=u rfl;have Y:=oJ G;obtain⟨S,O⟩:=ao.1 G;clear hf ht u j
  repeat' (first|refine sy ?_|refine bD rp rfl rfl (B _) rfl ?_|refine s2 ?_ ?_|intro)
  exact D _ (zF hol (λp hp=>by simp only[aaj,aak];simp[hp])) (Fz.sls mm (nr rfl) acQ (by simp[dZ])) (Fz.sls mm rfl acQ rfl)
 case inr.inr.inr.inr.inr.inr.inr.inr.inr.inr.inr.inl=>
  have G:=j rfl;obtain⟨S,O⟩:=ao.1 G;have Y:(s.done.map au)[0+o.toNat]? =some (au (s.done.getD o.toNat default)):=by rw[abI];exact cq G
  clear hf ht u j
  repeat' (first|refine sy ?_|refine bD rp rfl rfl (B _) rfl ?_|refine s2 ?_ ?_|intro)
  refine D _ (zF hol (λp hp=>by simp only[aaj,aak];simp[hp])) (Fz.sls mm rfl acQ rfl) (Fz.sls mm ?_ acQ acQ);rw[abT,abI];rfl
 all_goals
  clear hf ht u j
  repeat' (first|refine sy ?_|refine bD rp rfl rfl (B _) rfl ?_|refine s2 ?_ ?_|intro)
  first
   |exact D _ (zF hol (λp hp=>by simp only[aaj,aak];simp[hp])) (Fz.sls mm (nr rfl) acQ (by simp[dZ])) (Fz.sls mm rfl acQ rfl)
   |exact D _ (zF hol (λp hp=>by simp only[aaj,aak];simp[hp])) (Fz.sls mm rfl acQ rfl) (Fz.sls mm rfl acQ rfl)
end
section
variable (w:aF) (s:SyncD) (t o wake:Int) (b7 b12 bd bt bl:Nat) (Q:R) (hf:Ar w s) (ht:inB t w.threads.length=true) (hnd:(Po s b7 b12 bd bt (some bl)).names.Nodup)
include hf ht hnd
theorem ZC(k:Int)(G:allowedS w k o=true)(O:k=6\/k=7\/k=10\/k=11\/k=8\/k=9)(u:(aQ s o).readers.length<2^40)(D:nF w s t o wake bd bt (some bl) k Q):Pp w s t o wake b7 b12 bd bt (some bl) k Q:=by
 unfold Pp Yr Po;refine vw ?_;simp only[SH.names,Po,ab,aai,abF,abG,aaj,not_or,abA,not_false_eq_true,and_true]at hnd;obtain⟨⟨n1,n2,n3,n4⟩,⟨n5,n6,n7⟩,⟨n8,n9⟩,n10,_⟩:=hnd;have j:inB t s.threads.length=true:=by rw[hf.threads];exact ht
 have hy:=oJ j;obtain⟨t0,Z⟩:=ao.1 j;have N:inB o s.locks.length=true:=by rw[hf.locks];rcases O with rfl|rfl|rfl|rfl|rfl|rfl<;>(simp[allowedS]at G;exact G.1)
 have hx:=wI N;obtain⟨o0,o1⟩:=ao.1 N;have B:∀M:Int,([af (some bl) s.locks.length,.acU M,.sl bd 0 s.done.length,.sl bt 0 s.threads.length]:List AV).all AV.one=true:=λM=>qZ
 have E:∀b,ac Tryz.prog 85 [.lst ((aQ s o).readers.map aa),.sl b 0 1] [(b,⟨1,[[.acU t]]⟩)] λv L=>v=.lst ((wH (aQ s o).readers t).map aa)/\L=[]:=λb=>ac.pre (args2:=[.lst ((aQ s o).readers.map aa),.lst ([t].map aa)]) (L2:=[]) (ax.drop (K:=[(b,⟨1,[[.acU t]]⟩)]) acQ rfl (fy.at_ (.cons (.refl _) (.cons (Fz.sls (l:=[t]) (f:=aa) (aag.2 rfl) rfl acR rfl) .nil))).2) (Gu _ [t] u acQ)
 have S:=Ks (aQ s o).readers t u;dsimp only[ab,af]at B ⊢;unfold nF bF at D;dsimp only[af]at D;clear G hf ht;rcases O with rfl|rfl|rfl|rfl|rfl|rfl
 all_goals
  simp only[Int.reduceEq,Int.reduceNeg,if_true,if_false,or_self,or_true,true_or,or_false,false_or,reduceIte,reduceCtorEq]at D
  repeat' (first|refine sy ?_|refine bD rp rfl rfl (B _) rfl ?_|((with_reducible refine cy 85 ?_);(refine ee (E _) rp (by(simp only[rm,rc,rz,W.free,co,↓reduceIte,Nat.reduceEqDiff,ai,dV,aco,abz,abA,not_false_eq_true,implies_true,and_true,true_and,and_self,abj,reduceCtorEq,forall_const,false_implies,aag,forall_eq,aby,abK,aaj,or_false,false_or,forall_eq_or_imp,not_or])<;>(repeat' constructor)<;>first|assumption|(exact Ne.symm acO)|(intro Y;subst Y;simp[SH.names]at *;done)) ?_;rintro _ _ ⟨rfl,rfl⟩))|refine s2 ?_ ?_|intro)
  exact D _ (Fz.sls mm (rS rfl) acQ (by simp[cY])) (Fz.sls mm rfl acQ rfl) (Fz.sls mm rfl acQ rfl)
theorem ZD(k:Int)(O:allowedS w k o=true)(N:k=16\/k=17)(D:nF w s t o wake bd bt (some bl) k Q):Pp w s t o wake b7 b12 bd bt (some bl) k Q:=by
 unfold Pp Yr Po;refine vw ?_;simp only[SH.names,Po,ab,aai,abF,abG,aaj,not_or,abA,not_false_eq_true,and_true]at hnd;obtain⟨⟨n1,n2,n3,n4⟩,⟨n5,n6,n7⟩,⟨n8,n9⟩,n10,_⟩:=hnd;have u:inB t s.threads.length=true:=by rw[hf.threads];exact ht
 have hy:=oJ u;obtain⟨t0,t1⟩:=ao.1 u;have E:inB o w.conds.length=true:=by rcases N with rfl|rfl<;>simpa[allowedS]using O
 have M:=Gf hf E;have hx:=wI M;obtain⟨Y,S⟩:=ao.1 M;have hcx:=cq (f:=cM.enc) E;obtain⟨c0,c1⟩:=ao.1 E;unfold jI at hx Y S;have B:∀G:Int,([af (some bl) s.locks.length,.acU G,.sl bd 0 s.done.length,.sl bt 0 s.threads.length]:List AV).all AV.one=true:=λG=>qZ
 have j:∀v,((s.threads.map ThrD.enc).set (0+t.toNat) ((a8 s t).enc.set 0 v))[0+t.toNat]? =some ((a8 s t).enc.set 0 v):=λv=>Rg hy
 have hy3:=j (.acU 3);have Z:=j (.acU 2);clear j;dsimp only[ab,af]at B ⊢;unfold nF bF jI at D;dsimp only[af]at D;clear O hf ht;rcases N with rfl|rfl
 all_goals
  simp only[Int.reduceEq,Int.reduceNeg,if_true,if_false,or_self,or_true,true_or,or_false,false_or,reduceIte,reduceCtorEq]at D
  repeat' (first|refine sy ?_|refine bD rp rfl rfl (B _) rfl ?_|refine s2 ?_ ?_|intro)
  refine D _ (Fz.sls mm (rS rfl) acQ (by simp[cY])) (Fz.sls mm ?_ acQ (by simp[dZ])) (Fz.sls mm rfl acQ rfl);rw[List.set_set];exact nr rfl
end
end
section
def lV(T:List ThrD)(l:List Nat):List ThrD:=l.foldl (λT i=>gj T i 4) T
theorem yC:∀(l:List Nat) (T:List ThrD),(lV T l).length=T.length
 |[],_=>rfl
 | i::l,T=>by have:=yC l (gj T i 4);unfold lV at this ⊢;rw[acg,this];simp[gj]
theorem Ky:∀(l:List Nat) (T:List ThrD) (j:Nat) (B:j<T.length),(lV T l)[j]? =some (if j∈l then {T[j]with status:=4} else T[j])
 |[],T,j,B=>by simp[lV,B]
 | i::l,T,j,B=>by
  have E:j<(gj T i 4).length:=by simp[gj,B]
  have:=Ky l (gj T i 4) j E;unfold lV at this ⊢;rw[acg,this];by_cases u:i=j
  .subst u;have:(gj T i 4)[i]={T[i]with status:=4}:=by simp[gj,B]
   rw[this];simp
  .have:(gj T i 4)[j]=T[j]:=by simp[gj,List.getElem_set_ne u]
   rw[this];have D:j≠i:=λe=>u e.symm
   simp[D]
theorem Pq(T:List ThrD)(c:Int):lV T (aJ T c T.length)=dt T c T.length:=by
 apply acp;intro j;rcases LE j T.length with u|u
 .rw[Ky _ _ _ u,eW _ _ _ _ u];have D:j∈aJ T c T.length↔bH T[j] c=true:=by
   have:eR T c j=bH T[j] c:=by simp[eR,u]
   simp[aJ,this,u]
  by_cases B:bH T[j] c=true
  .rw[if_pos (D.2 B)];simp[u,B]
  .rw[if_neg (λh=>B (D.1 h))];simp[B]
 .rw[aah (by rw[yC];exact u),aah (by rw[c9];exact u)]
theorem Mu(T:List ThrD)(l:List Nat)(i:Nat):lV T (l++[i])=gj (lV T l) i 4:=by unfold lV;rw[acL];rfl
section
variable (w:aF) (s:SyncD) (t o wake:Int) (b7 b12 bd bt:Nat) (ol:Option Nat) (Q:R) (hol:ol=none->s.locks=[]) (hT:s.threads.length<2^40)
include hol hT
theorem W4(G:nF w s t o wake bd bt ol 18 Q):Pp w s t o wake b7 b12 bd bt ol 18 Q:=by
 unfold Pp Yr Po;refine vw ?_;have D:∀tx:Int,([af ol s.locks.length,.acU tx,.sl bd 0 s.done.length,.sl bt 0 s.threads.length]:List AV).all AV.one=true:=λtx=>qZ
 have S:=zD (af ol s.locks.length) (.acU s.tx) (.sl bd 0 s.done.length) bt s.threads o hT (D _);unfold nF bF at G;simp only[Int.reduceEq,Int.reduceNeg,if_true,if_false,or_self,or_true,true_or,or_false,false_or,reduceIte,reduceCtorEq]at G;have j:da s.threads o wake=bB (aJ s.threads o s.threads.length) wake:=rfl;have M:∀x∈aJ s.threads o s.threads.length,x<s.threads.length:=λx hx=>uE hx
 have O:(aJ s.threads o s.threads.length).length<=s.threads.length:=abe (aci _ _) acQ;cases hl:aJ s.threads o s.threads.length with
 |nil=>
  rw[hl]at S j;have N:da s.threads o wake=-1:=j;rw[N,show fI s.threads o wake=s.threads by unfold fI;rw[N,if_neg acR]]at G
  repeat' (first|refine sy ?_|refine bD rp rfl rfl (D _) rfl ?_|((with_reducible refine aN 87 ?_);(refine cQ S rp ?_;rintro _ _ ⟨rfl,rfl⟩))|refine s2 ?_ ?_|intro)
  exact G _ (zF hol (λp hp=>by simp only[aaj,aak];simp[hp])) (Fz.sls mm rfl acQ rfl) (Fz.sls mm rfl acQ rfl)
 |cons u l=>
  rw[hl]at S j M O;have hz:decide (((u::l).length:Int) > 0)=true:=decide_eq_true (by simp only[abi];omega);have hrow:(((u::l):List Nat).map uK)[(0:Nat)]? =some (uK u):=rfl;have Z:((u::l).map uK)=(((u::l).map λi:Nat=>(i:Int)).map aa):=by rw[List.map_map];rfl
  have B:=wG ((u::l).map λi:Nat=>(i:Int)) wake (by simp at O ⊢;omega);rw[<-Z]at B;have hany:((u::l).map λi:Nat=>(i:Int)).contains wake=(u::l).any λx=>decide ((x:Int)=wake):=by rw[Bool.eq_iff_iff];simp only[List.contains_iff_mem,abP,acw,decide_eq_true_eq]
  rw[hany]at B;simp only[bB]at j;have fin:∀(i:Nat),da s.threads o wake=(i:Int)->∀L,(bd,(⟨1,s.done.map au⟩:Blk))∈L->(bt,(⟨3,(gj s.threads i 4).map ThrD.enc⟩:Blk))∈L->(∀p∈ab ol 2 (s.locks.map LockD.enc),p∈L)->Q (.tup [.agg [af ol s.locks.length,.acU s.tx,.sl bd 0 s.done.length,.sl bt 0 s.threads.length],.acU (i:Int),.bool true]) L:=λi hi L m1 m2 m3=>by rw[hi,show fI s.threads o wake=gj s.threads i 4 by unfold fI;rw[hi,if_pos acN];rfl]at G;exact G _ (zF hol m3) (Fz.sls m2 rfl acQ (by simp[gj])) (Fz.sls m1 rfl acQ rfl)
  clear G;cases ha:(u::l).any λx=>decide ((x:Int)=wake)with
  |false=>
   rw[ha]at B j;have N:da s.threads o wake=(u:Int):=j;have Y:u<s.threads.length:=M u acQ;have hx:=aj (f:=ThrD.enc) Y;have E:=A3 s.threads u 4 Y
   repeat' (first|refine sy ?_|refine bD rp rfl rfl (D _) rfl ?_|((with_reducible refine aN 87 ?_);(refine cQ S rp ?_;rintro _ _ ⟨rfl,rfl⟩))|refine s2 ?_ ?_|intro)
   refine fin u N _ mm ?_ (λp hp=>by simp only[aaj,aak];simp[hp]);rw[<-E];exact mm
  |true=>
   rw[ha]at B j;have N:da s.threads o wake=wake:=j;obtain⟨u',hu1,hu2⟩:=acw.1 ha;have hu3:=of_decide_eq_true hu2;have Y:u'<s.threads.length:=M u' hu1;have hx:=aj (f:=ThrD.enc) Y;have E:=A3 s.threads u' 4 Y;subst hu3
   repeat' (first|refine sy ?_|refine bD rp rfl rfl (D _) rfl ?_|((with_reducible refine aN 87 ?_);(refine cQ S rp ?_;rintro _ _ ⟨rfl,rfl⟩))|refine s2 ?_ ?_|intro)
   refine fin u' N _ mm ?_ (λp hp=>by simp only[aaj,aak];simp[hp]);rw[<-E];exact mm
theorem W5(E:nF w s t o wake bd bt ol 19 Q):Pp w s t o wake b7 b12 bd bt ol 19 Q:=by
 unfold Pp Yr Po;refine vw ?_;have B:∀N:Int,([af ol s.locks.length,.acU N,.sl bd 0 s.done.length,.sl bt 0 s.threads.length]:List AV).all AV.one=true:=λN=>qZ
 have hw:=zD (af ol s.locks.length) (.acU s.tx) (.sl bd 0 s.done.length) bt s.threads o hT (B _);unfold nF bF at E;simp only[Int.reduceEq,Int.reduceNeg,if_true,if_false,or_self,or_true,true_or,or_false,false_or,reduceIte,reduceCtorEq]at E;have D:∀x∈aJ s.threads o s.threads.length,x<s.threads.length:=λx O=>uE O
 have hwl:(aJ s.threads o s.threads.length).length<=s.threads.length:=abe (aci _ _) acQ;have u:=Pq s.threads o;have fin:∀L,(bd,(⟨1,s.done.map au⟩:Blk))∈L->(bt,(⟨3,(lV s.threads (aJ s.threads o s.threads.length)).map ThrD.enc⟩:Blk))∈L->(∀p∈ab ol 2 (s.locks.map LockD.enc),p∈L)->Q (.tup [.agg [af ol s.locks.length,.acU s.tx,.sl bd 0 s.done.length,.sl bt 0 s.threads.length],.acU ((aJ s.threads o s.threads.length).length:Nat),.bool true]) L:=λL m1 Z Y=>
  E _ (zF hol Y) (Fz.sls Z (by rw[u];rfl) acQ (by simp[Gk,c9])) (Fz.sls m1 rfl acQ rfl)
 clear u E;generalize aJ s.threads o s.threads.length=wl at *
 repeat' (first|refine sy ?_|refine bD rp rfl rfl (B _) rfl ?_|((with_reducible refine aN 87 ?_);(refine cQ hw rp ?_;rintro _ _ ⟨rfl,rfl⟩))|refine s2 ?_ ?_|intro)
 refine qi wl.length (λi=>([.ptr b7 0 0,.ptr b12 0 0,.lst (wl.map uK),.acU i],(bt,⟨3,(lV s.threads (wl.take i)).map ThrD.enc⟩)::(bd,⟨1,s.done.map au⟩)::(b12,⟨4,[[.nils,.acU 0,.nils,.nils]]⟩)::(b7,⟨4,[[af ol s.locks.length,.acU s.tx,.sl bd 0 s.done.length,.sl bt 0 s.threads.length]]⟩)::ab ol 2 (s.locks.map LockD.enc))) (λ_=>True) trivial rfl rfl ?_;intro i hi _;dsimp only;refine vw ?_;rcases Nat.lt_or_ge i wl.length with j|j
 .have hd:=aS j;have O:=aj (f:=uK) j;have S:wl[i]<(lV s.threads (wl.take i)).length:=by rw[yC];exact D _ (LT j)
  have hu':wl[i]<s.threads.length:=D _ (LT j);have hy:=aj (f:=ThrD.enc) S;have M:=A3 _ wl[i] 4 S;have G:lV s.threads (wl.take (i+1))=gj (lV s.threads (wl.take i)) wl[i] 4:=by rw[Fn j,Mu]
  clear fin
  repeat' (first|refine sy ?_|refine s2 ?_ ?_|intro)
  refine⟨i+1,acN,acN,trivial,fR (by rw[av j acN]) ?_⟩;rw[G,<-M]
 .have hd:=aW j;rw[aaT j]
  repeat' (first|refine sy ?_|refine bD rp rfl rfl (B _) rfl ?_|refine s2 ?_ ?_|intro)
  exact fin _ mm mm (λp hp=>by simp only[aaj,aak];simp[hp])
end
theorem W6{α:Type}(bt bd b12 b7:α)(X:List α):((X++[bt,bd])++[b12,b7]).Perm (bt::bd::b12::b7::X):=by rw[abr];exact aar (l₁:=X) (l₂:=[bt,bd,b12,b7])
section
variable (w:aF) (s:SyncD) (t k o wake:Int)
theorem ZE(j:aC w s t k o=true)(bd bt:Nat)(ol:Option Nat):nF w s t o wake bd bt ol k (At w s t k o wake):=by intro L D B u;refine⟨_,[],ax.all (Fz.tups (.cons (Fz.aggs (.cons D (.cons (.refl _) (.cons u (.cons B .nil))))) (.cons (.refl _) (.cons (.refl _) .nil)))),?_,rfl⟩;unfold dx;rw[if_pos j];rfl
theorem RN(E:CJ w s)(Y:aC w s t k o=true)(b7 b12:Nat)(Q:R)(M:∀bd bt ol,nF w s t o wake bd bt ol k Q):
  W.callM Tryz.prog 43 [.agg s.enc] [(b12,⟨4,[[.nils,.acU 0,.nils,.nils]]⟩),(b7,⟨4,[s.enc]⟩)] (pp Q (.acU k) (.acU t) (.acU o) (.acU wake) (.ptr b7 0 0) (.ptr b12 0 0) (.pptr [w.enc] 0 0)):=by
 have B:=Y;unfold aC at B;simp only[aas]at B;obtain⟨⟨⟨S,N⟩,hal⟩,hkd⟩:=B;have G:=cH.1 S;have O:∀o,(aQ s o).readers.length<2^40:=λo=>by
  unfold aQ;rcases LE o.toNat s.locks.length with h|h
  .rw[show s.locks.getD o.toNat default=s.locks[o.toNat] by simp[h]];exact E.rd _ (LT h)
  .rw[show s.locks.getD o.toNat default=default by simp[List.getD,aah h]];decide
 refine vH (Kt s E.locks E.done E.threads E.rd) ?_;rintro v K ⟨ol,bd,bt,rfl,rfl,hol⟩;refine⟨Po s b7 b12 bd bt ol,W6 _ _ _ _ _,λj=>?_⟩;show Pp w s t o wake b7 b12 bd bt ol k Q;have u:∀{p:Int},inB p w.locks.length=true->(∀D,(Po s b7 b12 bd bt (some D)).names.Nodup->nF w s t o wake bd bt (some D) k Q->Pp w s t o wake b7 b12 bd bt (some D) k Q)->Pp w s t o wake b7 b12 bd bt ol k Q:=λ{p} hp h=>by
  cases ol with
  |none=>rw[<-G.locks,hol rfl]at hp;obtain⟨p0,p1⟩:=ao.1 hp;simp at p1;omega
  |some D=>exact h D j (M _ _ _)
 by_cases h1:k=1\/k=2\/k=3\/k=4\/k=5\/k=12\/k=13\/k=14\/k=15\/k=20\/k=21\/k=22\/k=23
 .exact ZB w s t o wake b7 b12 bd bt ol Q G N hol j k hal h1 (M _ _ _)
 by_cases h2:k=6\/k=7\/k=10\/k=11\/k=8\/k=9
 .exact u (p:=o) (by rcases h2 with rfl|rfl|rfl|rfl|rfl|rfl<;>(simp[allowedS]at hal;exact hal.1)) λD j=>ZC w s t o wake b7 b12 bd bt D Q G N j k hal h2 (O o)
 by_cases Z:k=16\/k=17
 .have hc:inB o w.conds.length=true:=by rcases Z with rfl|rfl<;>simpa[allowedS]using hal
  exact u (by rw[<-G.locks];exact Gf G hc) λD j=>ZD w s t o wake b7 b12 bd bt D Q G N j k hal Z
 by_cases h4:k=18
 .subst h4;exact W4 w s t o wake b7 b12 bd bt ol Q hol E.threads (M _ _ _)
 by_cases h5:k=19
 .subst h5;exact W5 w s t o wake b7 b12 bd bt ol Q hol E.threads (M _ _ _)
 .rw[fD acN]at hal;cases hal
theorem yD(B:CJ w s):aq Tryz.prog 54 [.agg w.enc,.agg s.enc,.acU t,.acU k,.acU o,.acU wake] (EV (dx w s t k o wake)):=by
 refine ac.fz (Cy _ _ _ _ _ _ _ _ ?_);show tF _ _ _ _ _ _ _ (At w s t k o wake);refine vw ?_;have D:=qI w s t k o (by have:=B.conds;omega) B.rd;have fin:aC w s t k o=false->∀L,At w s t k o wake (.tup [.agg [.nils,.acU 0,.nils,.nils],.acU 0,.bool false]) L:=λE L=>by refine⟨_,[],ax.all (Fz.tups (.cons (Fz.aggs (.cons .nils (.cons (.refl _) (.cons .nils (.cons .nils .nil))))) (.cons (.refl _) (.cons (.refl _) .nil)))),?_,rfl⟩;unfold dx;rw[E];rfl
 have u:=λj=>ZE w s t k o wake j
 generalize At w s t k o wake=Q at *;cases j:aC w s t k o with
 |false=>
  rw[j]at D;have fin:=fin j
  repeat' (first|refine sy ?_|refine s2 ?_ ?_|intro)
  exact fin _
 |true=>
  rw[j]at D;have G:=λb7 b12=>RN w s t k o wake B j b7 b12 Q (u j)
  clear fin
  repeat' (first|exact G _ _|refine sy ?_|refine s2 ?_ ?_|intro)
end
end
section
theorem KA{α β:Type}(f:α->β)(l:List α)(q k:Nat)(r:β)(u:k<l.length):((l.take (k+1)).map f).set q r=((l.take k).map f).set q r++[if k=q then r else f l[k]]:=by
 rw[Fn u,ST];have j:((l.take k).map f).length=k:=by simp;omega
 by_cases h:q<k
 .rw[List.set_append_left _ _ acN,if_neg acN];rfl
 .rw[List.set_append_right _ _ acN,j,List.set_eq_of_length_le (l:=(l.take k).map f) acN];by_cases e:k=q
  .subst e;simp
  .rw[if_neg e,List.set_eq_of_length_le acS];rfl
theorem KB{α:Type}(l:List α)(q:Nat)(r:α)(h:l.length<=q):l.set q r=l:=List.set_eq_of_length_le h
theorem ax.rowP{vs:List AV}{L A R K:SH}{b n:Nat}{rows rows':List (List AV)}(h:L.Perm (K++(A++(b,⟨n,rows⟩)::R)))(D:rows.length=rows'.length)(hr:∀(j:Nat) (r G:List AV),rows[j]? =some r->rows'[j]? =some G->fy K r G):ax vs L vs (A++(b,⟨n,rows'⟩)::R):=by
 refine⟨K,_,h,⟨rfl,λi a M h1 u=>by rw[h1]at u;cases u;exact .refl _⟩,acQ,λi p q h1 u=>?_⟩;have B:p=q->p.1=q.1/\p.2.size=q.2.size/\p.2.rows.length=q.2.rows.length/\∀(j:Nat) (r E:List AV),p.2.rows[j]? =some r->q.2.rows[j]? =some E->r.length=E.length/\∀(k:Nat) (a M:AV),r[k]? =some a->E[k]? =some M->Fz K a M:=λe=>by subst e;exact⟨rfl,rfl,rfl,λj r E Z S=>by rw[Z]at S;cases S;exact⟨rfl,λk a M Y O=>by rw[Y]at O;cases O;exact .refl _⟩⟩
 rcases LE i A.length with N|N
 .rw[aaW N]at h1 u;rw[h1]at u;cases u;exact B rfl
 .rw[aaL N]at h1 u;generalize i-A.length=k at h1 u
  match k with
  |0=>cases h1;cases u;exact⟨rfl,rfl,D,λj r G g1 g2=>(hr j r G g1 g2).at_⟩
  |k+1=>simp only[acj]at h1 u;rw[h1]at u;cases u;exact B rfl
theorem W7{α:Type}(u j b3 b2:α)(N T:List α):(u::j::(N++(b3::b2::T))).Perm ((j::N)++([b3,b2]++u::T)):=by
 refine(List.Perm.swap _ _ _).trans (List.Perm.cons _ ?_);refine List.perm_middle.symm.trans ?_ |>.trans (List.Perm.refl _)
 refine List.Perm.append_left N ?_;exact((List.Perm.swap _ _ _).trans ((List.Perm.swap _ _ _).cons _))
theorem Uq{α:Type}(j b3 b2:α)(N T:List α):(j::(N++(b3::b2::T))).Perm (b3::b2::j::(N++T)):=
 ((List.perm_middle.trans (List.perm_middle.cons _)).cons _).trans ((List.Perm.swap _ _ _).trans ((List.Perm.swap _ _ _).cons _))
def jS(s:eE)(bc bf:Nat)(x:AV):List AV:=[.lst (s.sync.locks.map LockD.enc),.acU s.sync.tx,.lst (s.sync.done.map au),.lst (s.sync.threads.map ThrD.enc),.sl bc 0 s.cells.length,.sl bf 0 s.futures.length,x]
theorem Gw(s:eE)(bc bf:Nat)(o:Option Nat)(n:Nat):(jS s bc bf (af o n)).all AV.one=true:=by show(true&&(true&&(true&&(true&&(true&&(true&&((af o n).one&&true)))))))=true;rw[Gv];rfl
def sO(s:bI)(o t:Option Nat):List AV:=[.acU s.pc,cU o s.regs.length,cU t s.taint.length,.acU s.ev]
def oU(s:bI)(o t:Option Nat):SH:=ab o 1 (s.regs.map aa)++ab t 1 (s.taint.map eX)
section
variable (s:eE) (q b2 b3 bc bf:Nat) (h1:s.threads.length<=2^30) (hr:∀e∈s.threads,e.regs.length<2^40/\e.taint.length<=2^30/\∀r∈e.taint,r.length<=2^30) (Q:R)
include h1 hr
theorem RQ(E L0:SH)(hL0:L0.Perm ((b3,⟨7,[jS s bc bf .nils]⟩)::(b2,⟨7,[ca]⟩)::E))
  (u:∀(G o t:Option Nat) (z:List AV),(G=none->s.threads=[])->(o=none->q<s.threads.length->(s.threads.getD q bI.zero).regs=[])->(t=none->q<s.threads.length->(s.threads.getD q bI.zero).taint=[])->Q (.agg (jS s bc bf (af G s.threads.length))) ((b3,⟨7,[jS s bc bf (af G s.threads.length)]⟩)::((b2,⟨7,[z]⟩)::(ab G 4 ((s.threads.map bI.enc).set q (sO (s.threads.getD q bI.zero) o t))++((if q<s.threads.length then oU (s.threads.getD q bI.zero) o t else [])++E))))) :
  W.loop (tH Q) [.pptr [s.enc] 0 0,.ptr b2 0 0,.ptr b3 0 0,.acU (0:Nat)] L0:=by
 generalize hth:s.threads.getD q bI.zero=th at *;refine aL s.threads.length (λk (p:Option Nat×Option Nat×Option Nat)=>([.pptr [s.enc] 0 0,.ptr b2 0 0,.ptr b3 0 0,.acU k],(b3,⟨7,[jS s bc bf (af p.1 k)]⟩)::((b2,⟨7,[ca]⟩)::(ab p.1 4 (((s.threads.take k).map bI.enc).set q (sO th p.2.1 p.2.2))++((if q<k then oU th p.2.1 p.2.2 else [])++E)))))
  (λk p=>(p.1=none->k=0)/\(p.2.1=none->q<k->th.regs=[])/\(p.2.2=none->q<k->th.taint=[])) (none,none,none) ⟨λ_=>rfl,λ_ h=>by omega,λ_ h=>by omega⟩ (ax.box (K:=[]) hL0 (by unfold jS;exact .cons (.refl _) (.cons (.refl _) (.cons (.refl _) (.cons (.refl _) (.cons (.refl _) (.cons (.refl _) (.cons .nile .nil)))))))) ?_
 rintro k ⟨G,o,t⟩ hk ⟨i1,i2,i3⟩;dsimp only at i1 i2 i3 ⊢;refine vw ?_;rcases Nat.lt_or_ge k s.threads.length with D|D
 .have hd:=aS D;have hx:=aj (f:=bI.enc) D;obtain⟨r1,r2,r3⟩:=hr _ (LT D);have hcp:=Kz s.threads[k] r1 acN r3;generalize hT:(if q<k then oU th o t else [])++E=T;have hlen:(((s.threads.take k).map bI.enc).set q (sO th o t)).length=k:=by simp;omega
  have h0:G=none->((s.threads.take k).map bI.enc).set q (sO th o t)=[]:=λe=>by rw[i1 e];rfl
  have hss:=KA bI.enc s.threads q k (sO th o t) D;generalize hX:((s.threads.take k).map bI.enc).set q (sO th o t)=X at *;unfold jS ca;rw[show s.enc=[.lst (s.sync.locks.map LockD.enc),.acU s.sync.tx,.lst (s.sync.done.map au),.lst (s.sync.threads.map ThrD.enc),.lst (s.cells.map aa),.lst (s.futures.map aa),.lst (s.threads.map bI.enc)]from rfl];clear u hr
  repeat' (first|refine sy ?_|intro)
  refine HO hcp (by simp[rm,rz,W.free,ai]) ?_;rintro v K ⟨S,N,rfl,rfl,ho',Z⟩
  skip
  have fin:∀(Y nt:Nat) (B:Blk),∃(j:Nat) (p:Option Nat×Option Nat×Option Nat),k<j/\j<=s.threads.length/\((p.1=none->j=0)/\(p.2.1=none->q<j->th.regs=[])/\(p.2.2=none->q<j->th.taint=[]))/\ax [.pptr [[.lst (s.sync.locks.map LockD.enc),.acU s.sync.tx,.lst (s.sync.done.map au),.lst (s.sync.threads.map ThrD.enc),.lst (s.cells.map aa),.lst (s.futures.map aa),.lst (s.threads.map bI.enc)]] 0 0,.ptr b2 0 0,.ptr b3 0 0,.acU (IntKind.i64.wrap ((k:Int)+1))]
    ((Y,⟨4,X++[sO s.threads[k] S N]⟩)::(nt,B)::(oU s.threads[k] S N++((b3,⟨7,[jS s bc bf (.sl Y 0 (k+1))]⟩)::(b2,⟨7,[ca]⟩)::T)))
    [.pptr [[.lst (s.sync.locks.map LockD.enc),.acU s.sync.tx,.lst (s.sync.done.map au),.lst (s.sync.threads.map ThrD.enc),.lst (s.cells.map aa),.lst (s.futures.map aa),.lst (s.threads.map bI.enc)]] 0 0,.ptr b2 0 0,.ptr b3 0 0,.acU j]
    ((b3,⟨7,[jS s bc bf (af p.1 j)]⟩)::((b2,⟨7,[ca]⟩)::(ab p.1 4 (((s.threads.take j).map bI.enc).set q (sO th p.2.1 p.2.2))++((if q<j then oU th p.2.1 p.2.2 else [])++E)))):=by
   intro Y nt B;rw[av D acN];by_cases hkq:k=q
   .subst hkq;have eth:th=s.threads[k]:=by rw[<-hth];simp[D]
    subst eth;refine⟨k+1,(some Y,S,N),acN,acN,⟨nofun,λe _=>ho' e,λe _=>Z e⟩,?_⟩;dsimp only;rw[KA bI.enc s.threads k k (sO s.threads[k] S N) D,KB _ _ _ acS,if_pos rfl,if_pos (Nat.lt_succ_self k)];rw[<-hX,KB _ _ _ acS,<-hT,if_neg (Nat.lt_irrefl k),List.nil_append];refine ax.forget (K:=[(nt,B)]) ((List.Perm.swap _ _ _).trans (List.Perm.cons _ ?_));exact Uq _ _ _ _ _
   .refine⟨k+1,(some Y,o,t),acN,acN,⟨nofun,λe h=>i2 e acN,λe h=>i3 e acN⟩,?_⟩;dsimp only;rw[hss,if_neg hkq,<-hT];have e1:(if q<k+1 then oU th o t else [])=(if q<k then oU th o t else []):=by
     by_cases hq:q<k
     .rw[if_pos hq,if_pos acN]
     .rw[if_neg hq,if_neg acN]
    rw[e1];refine ax.rowP (K:=(nt,B)::oU s.threads[k] S N) (A:=[(b3,_),(b2,_)]) (W7 _ _ _ _ _ _) acQ ?_;intro j r r' M O;rcases LE j X.length with hj|hj
    .rw[aaW hj]at M O;rw[M]at O;cases O;exact fy.refl _ _
    .rw[aaL hj]at M O;rcases hm:j-X.length with _|m
     .rw[hm]at M O;cases M;cases O;refine .cons (.refl _) (.cons ?_ (.cons ?_ (.cons (.refl _) .nil)))
      .exact nu rfl ho' λb e=>by subst e;simp[oU,ab]
      .exact nu rfl Z λb e=>by subst e;simp[oU,ab]
     .rw[hm]at M;simp at M
  rcases S with _|c'<;>rcases N with _|d'
  all_goals
   dsimp only[cU,ab,List.nil_append,List.cons_append]
   repeat' (first|refine sy ?_|refine aM rp rp hlen h0 acP acQ acS acS acP (λnb_ hnb_=>?_)|intro)
   exact fin _ _ _
 .have hd:=aW D;have hk0:k=s.threads.length:=by omega
  subst hk0;rw[aaT (Fd _)];have he:=λz=>u G o t z (λe=>abU.1 (i1 e)) i2 i3
  unfold jS ca at *;rw[show s.enc=[.lst (s.sync.locks.map LockD.enc),.acU s.sync.tx,.lst (s.sync.done.map au),.lst (s.sync.threads.map ThrD.enc),.lst (s.cells.map aa),.lst (s.futures.map aa),.lst (s.threads.map bI.enc)]from rfl];have hb:=Gw s bc bf G s.threads.length;unfold jS at hb;clear u hr
  repeat' (first|refine sy ?_|refine bD rp rfl rfl hb rfl ?_|intro)
  exact he _
end
theorem uL(s:SyncD)(h1:s.locks.length<2^40)(h2:s.done.length<=140737488351232)(B:s.threads.length<2^40)(j:∀l∈s.locks,l.readers.length<2^40):aq Tryz.prog 43 [.agg s.enc] (.agg s.enc):=by refine ac.fz ((Kt s h1 h2 B j).mono ?_);rintro v L ⟨D,G,E,rfl,rfl,u⟩;exact⟨.agg s.enc,[],ax.all (Fz.aggs (.cons (zF u λp hp=>by simp[hp]) (.cons (.refl _) (.cons (Fz.sls (size:=1) acQ rfl acR rfl) (.cons (Fz.sls (size:=3) acQ rfl acR rfl) .nil))))),rfl,rfl⟩
structure W8(s:eE)(q:Nat)(v:AV)(L:SH):Prop where
 ex:∃(bc bf:Nat) (ot o t:Option Nat),v=.agg (jS s bc bf (af ot s.threads.length))/\
  L=ab ot 4 ((s.threads.map bI.enc).set q (sO (s.threads.getD q bI.zero) o t))++((if q<s.threads.length then oU (s.threads.getD q bI.zero) o t else [])++[(bf,⟨1,s.futures.map aa⟩),(bc,⟨1,s.cells.map aa⟩)])/\
  (ot=none->s.threads=[])/\(o=none->q<s.threads.length->(s.threads.getD q bI.zero).regs=[])/\(t=none->q<s.threads.length->(s.threads.getD q bI.zero).taint=[])
theorem RS(s:eE)(q:Nat)(h1:s.threads.length<=2^30)(hc:s.cells.length<2^40)(hf:s.futures.length<2^40)(hr:∀e∈s.threads,e.regs.length<2^40/\e.taint.length<=2^30/\∀r∈e.taint,r.length<=2^30)
  (Z:s.sync.locks.length<2^40) (Y:s.sync.done.length<=140737488351232) (S:s.sync.threads.length<2^40) (O:∀l∈s.sync.locks,l.readers.length<2^40):ac Tryz.prog 151 [.agg s.enc] [] (W8 s q):=by
 have h8:=uL s.sync Z Y S O;refine ac.fz (EY _ _ _ ?_);refine vw ?_;generalize B:(λ(v:AV) (L:SH)=>∃j D,ax [v] L [j] D/\W8 s q j D)=Q;have N:∀(b2 b3 bc bf:Nat) (L:SH),CF L ((b3,⟨7,[jS s bc bf .nils]⟩)::(b2,⟨7,[ca]⟩)::[(bf,⟨1,s.futures.map aa⟩),(bc,⟨1,s.cells.map aa⟩)]) []->W.loop (tH Q) [.pptr [s.enc] 0 0,.ptr b2 0 0,.ptr b3 0 0,.acU (0:Nat)] L:=by intro b2 b3 bc bf L M;refine RQ s q b2 b3 bc bf h1 hr Q [(bf,⟨1,s.futures.map aa⟩),(bc,⟨1,s.cells.map aa⟩)] L (by simpa using M.perm) ?_;intro E o t z a1 a2 a3;subst B;exact⟨_,_,ax.forget (K:=[(b3,_),(b2,_)]) (.refl _),⟨bc,bf,E,o,t,rfl,rfl,a1,a2,a3⟩⟩
 clear B hr;unfold eE.enc SyncD.enc jS ca at *
 repeat' (first|refine sy ?_|refine dJ rp (λ_=>rfl) acP acS acS (λ_=>rfl) (λG u=>?_)|intro)
 rw[abI,abI];exact N _ _ _ _ _ rp
end
section
theorem Mv(s:SyncD):s.enc=[.lst (s.locks.map LockD.enc),.acU s.tx,.lst (s.done.map au),.lst (s.threads.map ThrD.enc)]:=rfl
def Dg(v:Int):eu:=⟨v,true⟩
def wY(s:SyncD)(x y f k:AV):List AV:=[.lst (s.locks.map LockD.enc),.acU s.tx,.lst (s.done.map au),.lst (s.threads.map ThrD.enc),x,y,.nils,f,k]
def cP:List AV:=[.nils,.acU 0,.nils,.nils,.nils,.nils,.nils,.nils,.nils]
def RU(w:aG):AV:=.lst ((List.replicate w.ev.length false).map au)
def RV(w:aG):AV:=.lst ((List.replicate w.ev.length (0:Int)).map aa)
section
variable (w:aG) (b2 b3:Nat) (Q:R) (hq:∀v L,Fz L v (.agg (bN w).enc)->Q v L)
include hq
theorem Ur(h5:w.init.futures.length<2^40)(Y:AV)(K L:SH)(u:Fz K Y (.lst ((w.init.cells.map Dg).map eu.enc)))(O:L.Perm (K++[(b3,⟨9,[wY w.init.sync Y .nils (RU w) (RV w)]⟩),(b2,⟨9,[cP]⟩)])):
  W.loop (B9 Q) [.pptr [w.enc] 0 0,.ptr b2 0 0,.ptr b3 0 0,.acU (0:Nat)] L:=by
 refine aL w.init.futures.length (λk (o:Option Nat)=>([.pptr [w.enc] 0 0,.ptr b2 0 0,.ptr b3 0 0,.acU k],(b3,⟨9,[wY w.init.sync (.lst ((w.init.cells.map Dg).map eu.enc)) (af o k) (RU w) (RV w)]⟩)::(b2,⟨9,[cP]⟩)::ab o 2 (((w.init.futures.take k).map Dg).map eu.enc))) (λk o=>o=none->k=0) none (λ_=>rfl) (ax.box O (by unfold wY;exact .cons (.refl _) (.cons (.refl _) (.cons (.refl _) (.cons (.refl _) (.cons u (.cons .nile (.cons (.refl _) (.cons (.refl _) (.cons (.refl _) .nil)))))))))) ?_;intro k o hk Z;dsimp only;refine vw ?_;have E:(((w.init.futures.take k).map Dg).map eu.enc).length=k:=by simp;omega
 have S:o=none->((w.init.futures.take k).map Dg).map eu.enc=[]:=λe=>by rw[Z e];rfl
 rcases LE k w.init.futures.length with B|B
 .have hd:=aS B;have M:=aj (f:=aa) B;have N:w.init.futures.take (k+1)=w.init.futures.take k++[w.init.futures[k]]:=Fn B;generalize hT:w.init.futures[k]=ck at *;rw[show aa ck=[.acU ck]from rfl]at M;clear hq O u;generalize RU w=fx at *;generalize RV w=wk at *;generalize(w.init.cells.map Dg).map eu.enc=gce at *;unfold wY cP;rw[bj]at *
  repeat' (first|refine sx ?_|refine aM rp rp E S acP acQ acS acS acP (λj D=>?_)|refine sb λj D=>?_|refine s2 ?_ ?_|intro)
  exact⟨k+1,some j,acN,acN,nofun,ax.pickE (R:=[(b3,_),(b2,_),(j,_)]) rp (by rw[av B acN]) (by rw[N];simp[ab,af,eu.enc,Dg,aR])⟩
 .have hd:=aW B;obtain rfl:k=w.init.futures.length:=by omega
  rw[aaT (Fd _)]at *;have G:∀L,(∀q∈ab o 2 ((w.init.futures.map Dg).map eu.enc),q∈L)->Q (.agg (wY w.init.sync (.lst ((w.init.cells.map Dg).map eu.enc)) (af o w.init.futures.length) (RU w) (RV w))) L:=λL hm=>by
   refine hq _ _ (Fz.aggs (m:=(bN w).enc) ?_);rw[cG];unfold wY;refine .cons (.refl _) (.cons (.refl _) (.cons (.refl _) (.cons (.refl _) (.cons (.refl _) (.cons ?_ (.cons .nils (.cons (.refl _) (.cons (.refl _) .nil))))))));cases o with
   |none=>show Fz L .emp (.lst ((w.init.futures.map Dg).map eu.enc));rw[S rfl];exact .emp
   |some b=>exact Fz.sls (l:=w.init.futures.map Dg) (hm _ (.head _)) rfl acR acQ
  clear hq O u;unfold RU RV at G;unfold RU RV;generalize(List.replicate w.ev.length false).map au=fx at *;generalize(List.replicate w.ev.length (0:Int)).map aa=wk at *;generalize(w.init.cells.map Dg).map eu.enc=gce at *;unfold wY at G;unfold wY cP;rw[bj]at *;cases o
  all_goals
   dsimp only[af,ab]at *
   repeat' (first|refine sy ?_|refine s2 ?_ ?_|intro)
   exact G _ acQ
theorem Us(h4:w.init.cells.length<2^40)(h5:w.init.futures.length<2^40)(Z Y:AV)(K L:SH)(B:Fz K Z (RU w))(u:Fz K Y (RV w))(O:L.Perm (K++[(b3,⟨9,[wY w.init.sync .nils .nils Z Y]⟩),(b2,⟨9,[cP]⟩)])):
  W.loop (Ca Q) [.pptr [w.enc] 0 0,.ptr b2 0 0,.ptr b3 0 0,.acU (0:Nat)] L:=by
 refine aL w.init.cells.length (λk (o:Option Nat)=>([.pptr [w.enc] 0 0,.ptr b2 0 0,.ptr b3 0 0,.acU k],(b3,⟨9,[wY w.init.sync (af o k) .nils (RU w) (RV w)]⟩)::(b2,⟨9,[cP]⟩)::ab o 2 (((w.init.cells.take k).map Dg).map eu.enc))) (λk o=>o=none->k=0) none (λ_=>rfl) (ax.box O (by unfold wY;exact .cons (.refl _) (.cons (.refl _) (.cons (.refl _) (.cons (.refl _) (.cons .nile (.cons (.refl _) (.cons (.refl _) (.cons B (.cons u .nil)))))))))) ?_;intro k o hk ho;dsimp only;refine vw ?_;have G:(((w.init.cells.take k).map Dg).map eu.enc).length=k:=by simp;omega
 have S:o=none->((w.init.cells.take k).map Dg).map eu.enc=[]:=λe=>by rw[ho e];rfl
 rcases LE k w.init.cells.length with D|D
 .have hd:=aS D;have M:=aj (f:=aa) D;have N:w.init.cells.take (k+1)=w.init.cells.take k++[w.init.cells[k]]:=Fn D;generalize hT:w.init.cells[k]=ck at *;rw[show aa ck=[.acU ck]from rfl]at M;clear hq O B u;generalize RU w=fx at *;generalize RV w=wk at *;unfold wY cP;rw[bj]at *
  repeat' (first|refine sx ?_|refine aM rp rp G S acP acQ acS acS acP (λj E=>?_)|refine sb λj E=>?_|refine s2 ?_ ?_|intro)
  exact⟨k+1,some j,acN,acN,nofun,ax.pickE (R:=[(b3,_),(b2,_),(j,_)]) rp (by rw[av D acN]) (by rw[N];simp[ab,af,eu.enc,Dg,aR])⟩
 .have hd:=aW D;obtain rfl:k=w.init.cells.length:=by omega
  rw[aaT (Fd _)]at *;have lp:=Ur w b2 b3 Q hq h5 (af o w.init.cells.length) (ab o 2 ((w.init.cells.map Dg).map eu.enc)) _ (by
   cases o with
   |none=>rw[S rfl];exact .emp
   |some b=>exact Fz.sls (l:=w.init.cells.map Dg) (.head _) rfl acR acQ) (aar (l₁:=[(b3,(⟨9,[wY w.init.sync (af o w.init.cells.length) .nils (RU w) (RV w)]⟩:Blk)),(b2,⟨9,[cP]⟩)]))
  clear hq O B u;rw[bj]at *
  repeat' (first|exact lp|refine sy ?_|refine s2 ?_ ?_|intro)
end
theorem Mw(w:aG)(W0:Av w)(Z:w.init.sync.locks.length<2^40)(h2:w.init.sync.done.length<=2^40)(Y:w.init.sync.threads.length<2^40)(N:∀l∈w.init.sync.locks,l.readers.length<2^40)(h4:w.init.cells.length<2^40)(S:w.init.futures.length<2^40):
  aq Tryz.prog 13 [.agg w.enc] (.agg (bN w).enc):=by
 have B:=uL w.init.sync Z acN Y N;refine OY λQ hq=>Cb _ _ _ ?_
 refine vw ?_;have hl:=W0.lw;have D:=λb2 b3 gf gw K L u j O=>Us w b2 b3 Q hq h4 S gf gw K L u j O
 clear hq;rw[Mv]at B;unfold wY cP at D;rw[bj]at *
 repeat' (first|refine sx ?_|refine sb λM E=>?_|refine s2 (λh=>?_) λh=>?_|fail)
 rename_i b2 _ bf _ G _ b3 _;refine D _ _ (.sl G 0 w.ev.length) (.sl b3 0 w.ev.length) [(b3,⟨1,List.replicate w.ev.length [.acU 0]⟩),(G,⟨1,List.replicate w.ev.length [.bool false]⟩)] _ ?_ ?_ ?_
 .unfold RU;exact Fz.sls (l:=List.replicate w.ev.length false) (.tail _ (.head _)) (by simp[au]) acR acQ
 .unfold RV;exact Fz.sls (l:=List.replicate w.ev.length (0:Int)) (.head _) (by simp[aa]) acR acQ
 .exact aar (l₁:=[_]) |>.trans (by simp;exact List.Perm.swap _ _ _)
end
def Dh(xs:List Int)(u:xs.length*8<=140737488355328):aq Tryz.prog 52 [.lst (xs.map aa)] (.lst (xs.map aa)):=by
 refine ac.fz ((rP xs u).mono ?_);rintro v L ⟨o,rfl,rfl,j⟩;refine⟨_,[],ax.all (v2:=.lst (xs.map aa)) ?_,rfl,rfl⟩;cases o with
 |none=>rw[j rfl];exact .emp
 |some b=>exact Fz.sls (.head _) rfl acR rfl
def KC(xs:List Bool)(u:xs.length<=140737488355328):aq Tryz.prog 51 [.lst (xs.map au)] (.lst (xs.map au)):=by
 refine ac.fz ((rQ xs u).mono ?_);rintro v L ⟨o,rfl,rfl,j⟩;refine⟨_,[],ax.all (v2:=.lst (xs.map au)) ?_,rfl,rfl⟩;cases o with
 |none=>rw[j rfl];exact .refl _
 |some b=>exact Fz.sls (.head _) rfl acR rfl
def RW(xs:List ThrD)(u:xs.length*24<=140737488355328):aq Tryz.prog 69 [.lst (xs.map ThrD.enc)] (.lst (xs.map ThrD.enc)):=by
 refine ac.fz ((yu xs u).mono ?_);rintro v L ⟨o,rfl,rfl,j⟩;refine⟨_,[],ax.all (v2:=.lst (xs.map ThrD.enc)) ?_,rfl,rfl⟩;cases o with
 |none=>rw[j rfl];exact .refl _
 |some b=>exact Fz.sls (.head _) rfl acR rfl
def Gx(l:List Int)(Z:l.length<2^40):aq Tryz.prog 42 [.lst (l.map aa)] (.lst ((l.map Dg).map eu.enc)):=by
 refine OY λQ G=>Ch _ _ _ ?_
 refine vw ?_;have O:∀b:Nat,W.loop (Cg Q) [.sl b 0 0,.lst (l.map aa),.acU l.length,.acU (0:Nat)] [(b,⟨2,[]⟩)]:=by
  intro b;refine aL l.length (λk (E:Nat)=>([.sl E 0 k,.lst (l.map aa),.acU l.length,.acU k],[(E,⟨2,((l.take k).map Dg).map eu.enc⟩)])) (λ_ _=>True) b trivial (ax.forget (K:=[]) (.refl _)) ?_;intro k E hk _;dsimp only;refine vw ?_;rcases Nat.lt_or_ge k l.length with D|D
  .have Y:=aS D;have M:=aj (f:=aa) D;have N:l.take (k+1)=l.take k++[l[k]]:=Fn D;generalize hT:l[k]=ck at *;rw[show aa ck=[.acU ck]from rfl]at M;clear G
   repeat' (first|refine sx ?_|refine fq rp rp acS rfl acS acS rfl (λB u=>?_)|refine sb λB u=>?_|refine s2 ?_ ?_|intro)
   refine⟨k+1,B,acN,acN,trivial,?_⟩;rw[av D acN,N,ST,ST];exact ax.forget (K:=[(_,_)]) (List.Perm.swap _ _ _)
  .have Y:=aW D;obtain rfl:k=l.length:=by omega
   rw[aaT (Fd _)];have S:=G (.sl E 0 l.length) [(E,⟨2,(l.map Dg).map eu.enc⟩)] (Fz.sls (.head _) rfl acR acQ);clear G
   repeat' (first|refine sy ?_|refine s2 ?_ ?_|intro)
   exact S
 clear G
 repeat' (first|exact O _|refine sy ?_|refine vF (i:=0) (j:=l.length) acN acN acN (λB u=>?_)|refine s2 ?_ ?_|intro)
def RX(s:SyncD)(h1:s.locks.length<2^40)(h2:s.done.length<=2^40)(h3:s.threads.length<2^40)(hr:∀l∈s.locks,l.readers.length<2^40):aq Tryz.prog 41 [.agg s.enc] (.agg s.enc):=by
 refine OY λQ M=>wj _ _ _ ?_
 refine vw ?_;have hb:=KC s.done acN;have ht:=RW s.threads acN;have Y:∀D B:Nat,W.loop (wh Q) [.ptr D 0 0,.ptr B 0 0,.lst (s.locks.map LockD.enc),.acU s.locks.length,.acU (0:Nat)] [(B,⟨4,[[.nils,.acU s.tx,.lst (s.done.map au),.lst (s.threads.map ThrD.enc)]]⟩),(D,⟨4,[[.nils,.acU 0,.nils,.nils]]⟩)]:=by
  intro D B;refine aL s.locks.length (λk (o:Option Nat)=>([.ptr D 0 0,.ptr B 0 0,.lst (s.locks.map LockD.enc),.acU s.locks.length,.acU k],(B,⟨4,[[af o k,.acU s.tx,.lst (s.done.map au),.lst (s.threads.map ThrD.enc)]]⟩)::(D,⟨4,[[.nils,.acU 0,.nils,.nils]]⟩)::ab o 2 ((s.locks.take k).map LockD.enc))) (λk o=>o=none->k=0) none (λ_=>rfl) (ax.box (K:=[]) (.refl _) (.cons .nile (.cons (.refl _) (.cons (.refl _) (.cons (.refl _) .nil))))) ?_;intro k o hk ho;dsimp only;refine vw ?_;have G:((s.locks.take k).map LockD.enc).length=k:=by simp;omega
  have S:o=none->(s.locks.take k).map LockD.enc=[]:=λe=>by rw[ho e];rfl
  rcases LE k s.locks.length with u|u
  .have hd:=aS u;have N:=aj (f:=LockD.enc) u;have O:s.locks.take (k+1)=s.locks.take k++[s.locks[k]]:=Fn u;have hci:=Dh s.locks[k].readers (by have:=hr _ (LT u);omega);generalize hT:s.locks[k]=ck at *;rw[show ck.enc=[.acU ck.owner,.lst (ck.readers.map aa)]from rfl]at N;clear M
   repeat' (first|refine sx ?_|refine aM rp rp G S acP acQ acS acS acP (λj E=>?_)|refine sb λj E=>?_|refine s2 ?_ ?_|intro)
   exact⟨k+1,some j,acN,acN,nofun,ax.pickE (R:=[(B,_),(D,_),(j,_)]) rp (by rw[av u acN]) (by rw[O];simp[ab,af,LockD.enc,aR])⟩
  .have hd:=aW u;obtain rfl:k=s.locks.length:=by omega
   rw[aaT (Fd _)]at *;have Z:∀L,(∀q∈ab o 2 (s.locks.map LockD.enc),q∈L)->Q (.agg [af o s.locks.length,.acU s.tx,.lst (s.done.map au),.lst (s.threads.map ThrD.enc)]) L:=λL hm=>by
    refine M _ _ (Fz.aggs (m:=s.enc) ?_);rw[Mv];refine .cons ?_ (.cons (.refl _) (.cons (.refl _) (.cons (.refl _) .nil)));cases o with
    |none=>show Fz L .emp (.lst (s.locks.map LockD.enc));rw[S rfl];exact .emp
    |some b=>exact Fz.sls (l:=s.locks) (hm _ (.head _)) rfl acR rfl
   clear M;cases o
   all_goals
    dsimp only[af,ab]at *
    repeat' (first|refine sy ?_|refine s2 ?_ ?_|intro)
    exact Z _ acQ
 clear M;rw[Mv]at *
 repeat' (first|refine sy ?_|refine s2 ?_ ?_|intro)
 exact Y _ _
