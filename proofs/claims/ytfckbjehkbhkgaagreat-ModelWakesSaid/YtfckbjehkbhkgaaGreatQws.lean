/- part -/
import Derived.Test.YtfckbjehkbhkgaaGreatQwk
import Derived.Test.YtfckbjehkbhkgaaGreatQwn
set_option linter.all false
set_option maxRecDepth 100000
set_option maxHeartbeats 0
namespace Go.Proofs.YtfckbjehkbhkgaaGreat.Am
section
theorem Gv(o:Option Nat)(n:Nat):(af o n).one=true:=by cases o<;>rfl
theorem qZ{ol:Option Nat}{n m k bd bt:Nat}{tx:Int}:([af ol n,.acU tx,.sl bd 0 m,.sl bt 0 k]:List AV).all AV.one=true:=by show((af ol n).one&&(true&&(true&&(true&&true))))=true;rw[Gv];rfl
theorem zF{ol:Option Nat}{j:List LockD}{L:SH}(B:ol=none->j=[])(u:∀p∈ab ol 2 (j.map LockD.enc),p∈L):Fz L (af ol j.length) (.lst (j.map LockD.enc)):=by
 cases ol with
 |none=>rw[B rfl];exact .emp
 |some b=>exact Fz.sls (u _ (aag.2 rfl)) rfl acR rfl
section
variable (w:aF) (s:SyncD) (t o wake:Int) (b7 b12 bd bt:Nat) (ol:Option Nat)
def Po:SH:=(bt,⟨3,s.threads.map ThrD.enc⟩)::(bd,⟨1,s.done.map au⟩)::(b12,⟨4,[[.nils,.acU 0,.nils,.nils]]⟩)::(b7,⟨4,[s.enc]⟩)::ab ol 2 (s.locks.map LockD.enc)
def Yr(s:SyncD)(bd bt:Nat)(ol:Option Nat):AV:=.agg [af ol s.locks.length,.acU s.tx,.sl bd 0 s.done.length,.sl bt 0 s.threads.length]
def nF(k:Int)(Q:R):Prop:=∀L:SH,Fz L (af ol s.locks.length) (.lst ((bF w s t k o wake).1.locks.map LockD.enc))->Fz L (.sl bt 0 s.threads.length) (.lst ((bF w s t k o wake).1.threads.map ThrD.enc))->Fz L (.sl bd 0 s.done.length) (.lst ((bF w s t k o wake).1.done.map au))->
 Q (.tup [.agg [af ol s.locks.length,.acU (bF w s t k o wake).1.tx,.sl bd 0 s.done.length,.sl bt 0 s.threads.length],.acU (bF w s t k o wake).2,.bool true]) L
def Pp(k:Int)(Q:R):Prop:=pp Q (.acU k) (.acU t) (.acU o) (.acU wake) (.ptr b7 0 0) (.ptr b12 0 0) (.pptr [w.enc] 0 0) (Yr s bd bt ol) (Po s b7 b12 bd bt ol)
variable (Q:R) (hf:Ar w s) (ht:inB t w.threads.length=true) (hol:ol=none->s.locks=[]) (hnd:(Po s b7 b12 bd bt ol).names.Nodup)
include hf ht hol hnd
theorem ZB(k:Int)(M:allowedS w k o=true)(Z:k=1\/k=2\/k=3\/k=4\/k=5\/k=12\/k=13\/k=14\/k=15\/k=20\/k=21\/k=22\/k=23)(D:nF w s t o wake bd bt ol k Q):Pp w s t o wake b7 b12 bd bt ol k Q:=by
 unfold Pp Yr Po;refine vw ?_;simp only[SH.names,Po,aai,abG,aaj,not_or]at hnd;obtain⟨⟨n1,n2,n3,n4⟩,⟨n5,n6,n7⟩,⟨n8,n9⟩,n10,_⟩:=hnd;have E:inB t s.threads.length=true:=by rw[hf.threads];exact ht
 have hy:=oJ E;obtain⟨t0,t1⟩:=ao.1 E;have u:k=20->inB o s.threads.length=true:=λh=>by subst h;rw[hf.threads];simpa[allowedS]using M
 have j:k=22->inB o s.done.length=true:=λh=>by subst h;rw[hf.done];simpa[allowedS]using M
 have B:∀N:Int,([af ol s.locks.length,.acU N,.sl bd 0 s.done.length,.sl bt 0 s.threads.length]:List AV).all AV.one=true:=λN=>qZ
 unfold nF bF at D;clear M;rcases Z with rfl|rfl|rfl|rfl|rfl|rfl|rfl|rfl|rfl|rfl|rfl|rfl|rfl
 all_goals simp only[Int.reduceEq,Int.reduceNeg,if_true,if_false,or_self,or_true,true_or,or_false,false_or,reduceIte,reduceCtorEq]at D
 case inr.inr.inr.inr.inr.inr.inr.inr.inr.inl=>
  have G:=u rfl;have Y:=oJ G;obtain⟨S,O⟩:=ao.1 G;clear hf ht u j
  repeat' (first|refine sy ?_|refine bD rp rfl rfl (B _) rfl ?_|refine s2 ?_ ?_|intro)
  exact D _ (zF hol (λp hp=>by simp only[aaj,aak];simp[hp])) (Fz.sls mm (nr rfl) acQ (by simp[dZ])) (Fz.sls mm rfl acQ rfl)
 case inr.inr.inr.inr.inr.inr.inr.inr.inr.inr.inr.inl=>
  have G:=j rfl;obtain⟨S,O⟩:=ao.1 G;have Y:(s.done.map au)[0+o.toNat]? =some (au (s.done.getD o.toNat default)):=by rw[abI];exact cq G
  clear hf ht u j
  repeat' (first|refine sy ?_|refine bD rp rfl rfl (B _) rfl ?_|refine s2 ?_ ?_|intro)
  refine D _ (zF hol (λp hp=>by simp only[aaj,aak];simp[hp])) (Fz.sls mm rfl acQ rfl) (Fz.sls mm ?_ acQ acQ);rw[abT,abI];rfl
 all_goals
  clear hf ht u j
  repeat' (first|refine sy ?_|refine bD rp rfl rfl (B _) rfl ?_|refine s2 ?_ ?_|intro)
  first
   |exact D _ (zF hol (λp hp=>by simp only[aaj,aak];simp[hp])) (Fz.sls mm (nr rfl) acQ (by simp[dZ])) (Fz.sls mm rfl acQ rfl)
   |exact D _ (zF hol (λp hp=>by simp only[aaj,aak];simp[hp])) (Fz.sls mm rfl acQ rfl) (Fz.sls mm rfl acQ rfl)
end
section
variable (w:aF) (s:SyncD) (t o wake:Int) (b7 b12 bd bt bl:Nat) (Q:R) (hf:Ar w s) (ht:inB t w.threads.length=true) (hnd:(Po s b7 b12 bd bt (some bl)).names.Nodup)
include hf ht hnd
theorem ZC(k:Int)(G:allowedS w k o=true)(O:k=6\/k=7\/k=10\/k=11\/k=8\/k=9)(u:(aQ s o).readers.length<2^40)(D:nF w s t o wake bd bt (some bl) k Q):Pp w s t o wake b7 b12 bd bt (some bl) k Q:=by
 unfold Pp Yr Po;refine vw ?_;simp only[SH.names,Po,ab,aai,abF,abG,aaj,not_or,abA,not_false_eq_true,and_true]at hnd;obtain⟨⟨n1,n2,n3,n4⟩,⟨n5,n6,n7⟩,⟨n8,n9⟩,n10,_⟩:=hnd;have j:inB t s.threads.length=true:=by rw[hf.threads];exact ht
 have hy:=oJ j;obtain⟨t0,Z⟩:=ao.1 j;have N:inB o s.locks.length=true:=by rw[hf.locks];rcases O with rfl|rfl|rfl|rfl|rfl|rfl<;>(simp[allowedS]at G;exact G.1)
 have hx:=wI N;obtain⟨o0,o1⟩:=ao.1 N;have B:∀M:Int,([af (some bl) s.locks.length,.acU M,.sl bd 0 s.done.length,.sl bt 0 s.threads.length]:List AV).all AV.one=true:=λM=>qZ
 have E:∀b,ac Tryz.prog 85 [.lst ((aQ s o).readers.map aa),.sl b 0 1] [(b,⟨1,[[.acU t]]⟩)] λv L=>v=.lst ((wH (aQ s o).readers t).map aa)/\L=[]:=λb=>ac.pre (args2:=[.lst ((aQ s o).readers.map aa),.lst ([t].map aa)]) (L2:=[]) (ax.drop (K:=[(b,⟨1,[[.acU t]]⟩)]) acQ rfl (fy.at_ (.cons (.refl _) (.cons (Fz.sls (l:=[t]) (f:=aa) (aag.2 rfl) rfl acR rfl) .nil))).2) (Gu _ [t] u acQ)
 have S:=Ks (aQ s o).readers t u;dsimp only[ab,af]at B ⊢;unfold nF bF at D;dsimp only[af]at D;clear G hf ht;rcases O with rfl|rfl|rfl|rfl|rfl|rfl
 all_goals
  simp only[Int.reduceEq,Int.reduceNeg,if_true,if_false,or_self,or_true,true_or,or_false,false_or,reduceIte,reduceCtorEq]at D
  repeat' (first|refine sy ?_|refine bD rp rfl rfl (B _) rfl ?_|((with_reducible refine cy 85 ?_);(refine ee (E _) rp (by(simp only[rm,rc,rz,W.free,co,↓reduceIte,Nat.reduceEqDiff,ai,dV,aco,abz,abA,not_false_eq_true,implies_true,and_true,true_and,and_self,abj,reduceCtorEq,forall_const,false_implies,aag,forall_eq,aby,abK,aaj,or_false,false_or,forall_eq_or_imp,not_or])<;>(repeat' constructor)<;>first|assumption|(exact Ne.symm acO)|(intro Y;subst Y;simp[SH.names]at *;done)) ?_;rintro _ _ ⟨rfl,rfl⟩))|refine s2 ?_ ?_|intro)
  exact D _ (Fz.sls mm (rS rfl) acQ (by simp[cY])) (Fz.sls mm rfl acQ rfl) (Fz.sls mm rfl acQ rfl)
theorem ZD(k:Int)(O:allowedS w k o=true)(N:k=16\/k=17)(D:nF w s t o wake bd bt (some bl) k Q):Pp w s t o wake b7 b12 bd bt (some bl) k Q:=by
 unfold Pp Yr Po;refine vw ?_;simp only[SH.names,Po,ab,aai,abF,abG,aaj,not_or,abA,not_false_eq_true,and_true]at hnd;obtain⟨⟨n1,n2,n3,n4⟩,⟨n5,n6,n7⟩,⟨n8,n9⟩,n10,_⟩:=hnd;have u:inB t s.threads.length=true:=by rw[hf.threads];exact ht
 have hy:=oJ u;obtain⟨t0,t1⟩:=ao.1 u;have E:inB o w.conds.length=true:=by rcases N with rfl|rfl<;>simpa[allowedS]using O
 have M:=Gf hf E;have hx:=wI M;obtain⟨Y,S⟩:=ao.1 M;have hcx:=cq (f:=cM.enc) E;obtain⟨c0,c1⟩:=ao.1 E;unfold jI at hx Y S;have B:∀G:Int,([af (some bl) s.locks.length,.acU G,.sl bd 0 s.done.length,.sl bt 0 s.threads.length]:List AV).all AV.one=true:=λG=>qZ
 have j:∀v,((s.threads.map ThrD.enc).set (0+t.toNat) ((a8 s t).enc.set 0 v))[0+t.toNat]? =some ((a8 s t).enc.set 0 v):=λv=>Rg hy
 have hy3:=j (.acU 3);have Z:=j (.acU 2);clear j;dsimp only[ab,af]at B ⊢;unfold nF bF jI at D;dsimp only[af]at D;clear O hf ht;rcases N with rfl|rfl
 all_goals
  simp only[Int.reduceEq,Int.reduceNeg,if_true,if_false,or_self,or_true,true_or,or_false,false_or,reduceIte,reduceCtorEq]at D
  repeat' (first|refine sy ?_|refine bD rp rfl rfl (B _) rfl ?_|refine s2 ?_ ?_|intro)
  refine D _ (Fz.sls mm (rS rfl) acQ (by simp[cY])) (Fz.sls mm ?_ acQ (by simp[dZ])) (Fz.sls mm rfl acQ rfl);rw[List.set_set];exact nr rfl
end
end
section
def lV(T:List ThrD)(l:List Nat):List ThrD:=l.foldl (λT i=>gj T i 4) T
theorem yC:∀(l:List Nat) (T:List ThrD),(lV T l).length=T.length
 |[],_=>rfl
 | i::l,T=>by have:=yC l (gj T i 4);unfold lV at this ⊢;rw[acg,this];simp[gj]
theorem Ky:∀(l:List Nat) (T:List ThrD) (j:Nat) (B:j<T.length),(lV T l)[j]? =some (if j∈l then {T[j]with status:=4} else T[j])
 |[],T,j,B=>by simp[lV,B]
 | i::l,T,j,B=>by
  have E:j<(gj T i 4).length:=by simp[gj,B]
  have:=Ky l (gj T i 4) j E;unfold lV at this ⊢;rw[acg,this];by_cases u:i=j
  .subst u;have:(gj T i 4)[i]={T[i]with status:=4}:=by simp[gj,B]
   rw[this];simp
  .have:(gj T i 4)[j]=T[j]:=by simp[gj,List.getElem_set_ne u]
   rw[this];have D:j≠i:=λe=>u e.symm
   simp[D]
theorem Pq(T:List ThrD)(c:Int):lV T (aJ T c T.length)=dt T c T.length:=by
 apply acp;intro j;rcases LE j T.length with u|u
 .rw[Ky _ _ _ u,eW _ _ _ _ u];have D:j∈aJ T c T.length↔bH T[j] c=true:=by
   have:eR T c j=bH T[j] c:=by simp[eR,u]
   simp[aJ,this,u]
  by_cases B:bH T[j] c=true
  .rw[if_pos (D.2 B)];simp[u,B]
  .rw[if_neg (λh=>B (D.1 h))];simp[B]
 .rw[aah (by rw[yC];exact u),aah (by rw[c9];exact u)]
theorem Mu(T:List ThrD)(l:List Nat)(i:Nat):lV T (l++[i])=gj (lV T l) i 4:=by unfold lV;rw[acL];rfl
section
variable (w:aF) (s:SyncD) (t o wake:Int) (b7 b12 bd bt:Nat) (ol:Option Nat) (Q:R) (hol:ol=none->s.locks=[]) (hT:s.threads.length<2^40)
include hol hT
theorem W4(G:nF w s t o wake bd bt ol 18 Q):Pp w s t o wake b7 b12 bd bt ol 18 Q:=by
 unfold Pp Yr Po;refine vw ?_;have D:∀tx:Int,([af ol s.locks.length,.acU tx,.sl bd 0 s.done.length,.sl bt 0 s.threads.length]:List AV).all AV.one=true:=λtx=>qZ
 have S:=zD (af ol s.locks.length) (.acU s.tx) (.sl bd 0 s.done.length) bt s.threads o hT (D _);unfold nF bF at G;simp only[Int.reduceEq,Int.reduceNeg,if_true,if_false,or_self,or_true,true_or,or_false,false_or,reduceIte,reduceCtorEq]at G;have j:da s.threads o wake=bB (aJ s.threads o s.threads.length) wake:=rfl;have M:∀x∈aJ s.threads o s.threads.length,x<s.threads.length:=λx hx=>uE hx
 have O:(aJ s.threads o s.threads.length).length<=s.threads.length:=abe (aci _ _) acQ;cases hl:aJ s.threads o s.threads.length with
 |nil=>
  rw[hl]at S j;have N:da s.threads o wake=-1:=j;rw[N,show fI s.threads o wake=s.threads by unfold fI;rw[N,if_neg acR]]at G
  repeat' (first|refine sy ?_|refine bD rp rfl rfl (D _) rfl ?_|((with_reducible refine aN 87 ?_);(refine cQ S rp ?_;rintro _ _ ⟨rfl,rfl⟩))|refine s2 ?_ ?_|intro)
  exact G _ (zF hol (λp hp=>by simp only[aaj,aak];simp[hp])) (Fz.sls mm rfl acQ rfl) (Fz.sls mm rfl acQ rfl)
 |cons u l=>
  rw[hl]at S j M O;have hz:decide (((u::l).length:Int) > 0)=true:=decide_eq_true (by simp only[abi];omega);have hrow:(((u::l):List Nat).map uK)[(0:Nat)]? =some (uK u):=rfl;have Z:((u::l).map uK)=(((u::l).map λi:Nat=>(i:Int)).map aa):=by rw[List.map_map];rfl
  have B:=wG ((u::l).map λi:Nat=>(i:Int)) wake (by simp at O ⊢;omega);rw[<-Z]at B;have hany:((u::l).map λi:Nat=>(i:Int)).contains wake=(u::l).any λx=>decide ((x:Int)=wake):=by rw[Bool.eq_iff_iff];simp only[List.contains_iff_mem,abP,acw,decide_eq_true_eq]
  rw[hany]at B;simp only[bB]at j;have fin:∀(i:Nat),da s.threads o wake=(i:Int)->∀L,(bd,(⟨1,s.done.map au⟩:Blk))∈L->(bt,(⟨3,(gj s.threads i 4).map ThrD.enc⟩:Blk))∈L->(∀p∈ab ol 2 (s.locks.map LockD.enc),p∈L)->Q (.tup [.agg [af ol s.locks.length,.acU s.tx,.sl bd 0 s.done.length,.sl bt 0 s.threads.length],.acU (i:Int),.bool true]) L:=λi hi L m1 m2 m3=>by rw[hi,show fI s.threads o wake=gj s.threads i 4 by unfold fI;rw[hi,if_pos acN];rfl]at G;exact G _ (zF hol m3) (Fz.sls m2 rfl acQ (by simp[gj])) (Fz.sls m1 rfl acQ rfl)
  clear G;cases ha:(u::l).any λx=>decide ((x:Int)=wake)with
  |false=>
   rw[ha]at B j;have N:da s.threads o wake=(u:Int):=j;have Y:u<s.threads.length:=M u acQ;have hx:=aj (f:=ThrD.enc) Y;have E:=A3 s.threads u 4 Y
   repeat' (first|refine sy ?_|refine bD rp rfl rfl (D _) rfl ?_|((with_reducible refine aN 87 ?_);(refine cQ S rp ?_;rintro _ _ ⟨rfl,rfl⟩))|refine s2 ?_ ?_|intro)
   refine fin u N _ mm ?_ (λp hp=>by simp only[aaj,aak];simp[hp]);rw[<-E];exact mm
  |true=>
   rw[ha]at B j;have N:da s.threads o wake=wake:=j;obtain⟨u',hu1,hu2⟩:=acw.1 ha;have hu3:=of_decide_eq_true hu2;have Y:u'<s.threads.length:=M u' hu1;have hx:=aj (f:=ThrD.enc) Y;have E:=A3 s.threads u' 4 Y;subst hu3
   repeat' (first|refine sy ?_|refine bD rp rfl rfl (D _) rfl ?_|((with_reducible refine aN 87 ?_);(refine cQ S rp ?_;rintro _ _ ⟨rfl,rfl⟩))|refine s2 ?_ ?_|intro)
   refine fin u' N _ mm ?_ (λp hp=>by simp only[aaj,aak];simp[hp]);rw[<-E];exact mm
theorem W5(E:nF w s t o wake bd bt ol 19 Q):Pp w s t o wake b7 b12 bd bt ol 19 Q:=by
 unfold Pp Yr Po;refine vw ?_;have B:∀N:Int,([af ol s.locks.length,.acU N,.sl bd 0 s.done.length,.sl bt 0 s.threads.length]:List AV).all AV.one=true:=λN=>qZ
 have hw:=zD (af ol s.locks.length) (.acU s.tx) (.sl bd 0 s.done.length) bt s.threads o hT (B _);unfold nF bF at E;simp only[Int.reduceEq,Int.reduceNeg,if_true,if_false,or_self,or_true,true_or,or_false,false_or,reduceIte,reduceCtorEq]at E;have D:∀x∈aJ s.threads o s.threads.length,x<s.threads.length:=λx O=>uE O
 have hwl:(aJ s.threads o s.threads.length).length<=s.threads.length:=abe (aci _ _) acQ;have u:=Pq s.threads o;have fin:∀L,(bd,(⟨1,s.done.map au⟩:Blk))∈L->(bt,(⟨3,(lV s.threads (aJ s.threads o s.threads.length)).map ThrD.enc⟩:Blk))∈L->(∀p∈ab ol 2 (s.locks.map LockD.enc),p∈L)->Q (.tup [.agg [af ol s.locks.length,.acU s.tx,.sl bd 0 s.done.length,.sl bt 0 s.threads.length],.acU ((aJ s.threads o s.threads.length).length:Nat),.bool true]) L:=λL m1 Z Y=>
  E _ (zF hol Y) (Fz.sls Z (by rw[u];rfl) acQ (by simp[Gk,c9])) (Fz.sls m1 rfl acQ rfl)
 clear u E;generalize aJ s.threads o s.threads.length=wl at *
 repeat' (first|refine sy ?_|refine bD rp rfl rfl (B _) rfl ?_|((with_reducible refine aN 87 ?_);(refine cQ hw rp ?_;rintro _ _ ⟨rfl,rfl⟩))|refine s2 ?_ ?_|intro)
 refine qi wl.length (λi=>([.ptr b7 0 0,.ptr b12 0 0,.lst (wl.map uK),.acU i],(bt,⟨3,(lV s.threads (wl.take i)).map ThrD.enc⟩)::(bd,⟨1,s.done.map au⟩)::(b12,⟨4,[[.nils,.acU 0,.nils,.nils]]⟩)::(b7,⟨4,[[af ol s.locks.length,.acU s.tx,.sl bd 0 s.done.length,.sl bt 0 s.threads.length]]⟩)::ab ol 2 (s.locks.map LockD.enc))) (λ_=>True) trivial rfl rfl ?_;intro i hi _;dsimp only;refine vw ?_;rcases Nat.lt_or_ge i wl.length with j|j
 .have hd:=aS j;have O:=aj (f:=uK) j;have S:wl[i]<(lV s.threads (wl.take i)).length:=by rw[yC];exact D _ (LT j)
  have hu':wl[i]<s.threads.length:=D _ (LT j);have hy:=aj (f:=ThrD.enc) S;have M:=A3 _ wl[i] 4 S;have G:lV s.threads (wl.take (i+1))=gj (lV s.threads (wl.take i)) wl[i] 4:=by rw[Fn j,Mu]
  clear fin
  repeat' (first|refine sy ?_|refine s2 ?_ ?_|intro)
  refine⟨i+1,acN,acN,trivial,fR (by rw[av j acN]) ?_⟩;rw[G,<-M]
 .have hd:=aW j;rw[aaT j]
  repeat' (first|refine sy ?_|refine bD rp rfl rfl (B _) rfl ?_|refine s2 ?_ ?_|intro)
  exact fin _ mm mm (λp hp=>by simp only[aaj,aak];simp[hp])
end
theorem W6{α:Type}(bt bd b12 b7:α)(X:List α):((X++[bt,bd])++[b12,b7]).Perm (bt::bd::b12::b7::X):=by rw[abr];exact aar (l₁:=X) (l₂:=[bt,bd,b12,b7])
section
variable (w:aF) (s:SyncD) (t k o wake:Int)
theorem ZE(j:aC w s t k o=true)(bd bt:Nat)(ol:Option Nat):nF w s t o wake bd bt ol k (At w s t k o wake):=by intro L D B u;refine⟨_,[],ax.all (Fz.tups (.cons (Fz.aggs (.cons D (.cons (.refl _) (.cons u (.cons B .nil))))) (.cons (.refl _) (.cons (.refl _) .nil)))),?_,rfl⟩;unfold dx;rw[if_pos j];rfl
theorem RN(E:CJ w s)(Y:aC w s t k o=true)(b7 b12:Nat)(Q:R)(M:∀bd bt ol,nF w s t o wake bd bt ol k Q):
  W.callM Tryz.prog 43 [.agg s.enc] [(b12,⟨4,[[.nils,.acU 0,.nils,.nils]]⟩),(b7,⟨4,[s.enc]⟩)] (pp Q (.acU k) (.acU t) (.acU o) (.acU wake) (.ptr b7 0 0) (.ptr b12 0 0) (.pptr [w.enc] 0 0)):=by
 have B:=Y;unfold aC at B;simp only[aas]at B;obtain⟨⟨⟨S,N⟩,hal⟩,hkd⟩:=B;have G:=cH.1 S;have O:∀o,(aQ s o).readers.length<2^40:=λo=>by
  unfold aQ;rcases LE o.toNat s.locks.length with h|h
  .rw[show s.locks.getD o.toNat default=s.locks[o.toNat] by simp[h]];exact E.rd _ (LT h)
  .rw[show s.locks.getD o.toNat default=default by simp[List.getD,aah h]];decide
 refine vH (Kt s E.locks E.done E.threads E.rd) ?_;rintro v K ⟨ol,bd,bt,rfl,rfl,hol⟩;refine⟨Po s b7 b12 bd bt ol,W6 _ _ _ _ _,λj=>?_⟩;show Pp w s t o wake b7 b12 bd bt ol k Q;have u:∀{p:Int},inB p w.locks.length=true->(∀D,(Po s b7 b12 bd bt (some D)).names.Nodup->nF w s t o wake bd bt (some D) k Q->Pp w s t o wake b7 b12 bd bt (some D) k Q)->Pp w s t o wake b7 b12 bd bt ol k Q:=λ{p} hp h=>by
  cases ol with
  |none=>rw[<-G.locks,hol rfl]at hp;obtain⟨p0,p1⟩:=ao.1 hp;simp at p1;omega
  |some D=>exact h D j (M _ _ _)
 by_cases h1:k=1\/k=2\/k=3\/k=4\/k=5\/k=12\/k=13\/k=14\/k=15\/k=20\/k=21\/k=22\/k=23
 .exact ZB w s t o wake b7 b12 bd bt ol Q G N hol j k hal h1 (M _ _ _)
 by_cases h2:k=6\/k=7\/k=10\/k=11\/k=8\/k=9
 .exact u (p:=o) (by rcases h2 with rfl|rfl|rfl|rfl|rfl|rfl<;>(simp[allowedS]at hal;exact hal.1)) λD j=>ZC w s t o wake b7 b12 bd bt D Q G N j k hal h2 (O o)
 by_cases Z:k=16\/k=17
 .have hc:inB o w.conds.length=true:=by rcases Z with rfl|rfl<;>simpa[allowedS]using hal
  exact u (by rw[<-G.locks];exact Gf G hc) λD j=>ZD w s t o wake b7 b12 bd bt D Q G N j k hal Z
 by_cases h4:k=18
 .subst h4;exact W4 w s t o wake b7 b12 bd bt ol Q hol E.threads (M _ _ _)
 by_cases h5:k=19
 .subst h5;exact W5 w s t o wake b7 b12 bd bt ol Q hol E.threads (M _ _ _)
 .rw[fD acN]at hal;cases hal
theorem yD(B:CJ w s):aq Tryz.prog 54 [.agg w.enc,.agg s.enc,.acU t,.acU k,.acU o,.acU wake] (EV (dx w s t k o wake)):=by
 refine ac.fz (Cy _ _ _ _ _ _ _ _ ?_);show tF _ _ _ _ _ _ _ (At w s t k o wake);refine vw ?_;have D:=qI w s t k o (by have:=B.conds;omega) B.rd;have fin:aC w s t k o=false->∀L,At w s t k o wake (.tup [.agg [.nils,.acU 0,.nils,.nils],.acU 0,.bool false]) L:=λE L=>by refine⟨_,[],ax.all (Fz.tups (.cons (Fz.aggs (.cons .nils (.cons (.refl _) (.cons .nils (.cons .nils .nil))))) (.cons (.refl _) (.cons (.refl _) .nil)))),?_,rfl⟩;unfold dx;rw[E];rfl
 have u:=λj=>ZE w s t k o wake j
 generalize At w s t k o wake=Q at *;cases j:aC w s t k o with
 |false=>
  rw[j]at D;have fin:=fin j
  repeat' (first|refine sy ?_|refine s2 ?_ ?_|intro)
  exact fin _
 |true=>
  rw[j]at D;have G:=λb7 b12=>RN w s t k o wake B j b7 b12 Q (u j)
  clear fin
  repeat' (first|exact G _ _|refine sy ?_|refine s2 ?_ ?_|intro)
end
end
