/- part -/
import Derived.Test.YtfckbjehkbhkgaaGreatQwz
set_option linter.all false
set_option maxRecDepth 100000
set_option maxHeartbeats 0
namespace Go.Proofs.YtfckbjehkbhkgaaGreat.Am
section
def az(l:List UInt8)(at_:Nat):Blk:=⟨2,[[.lst (l.map aY),.acU (at_:Int)]]⟩
theorem Oo(bt:Nat)(l:List UInt8)(a:Nat)(n:Int)(hl:l.length<2^63)(E:a<=l.length):
  ac Tryz.prog 92 [.ptr bt 0 0,.acU n] [(bt,az l a)] λu K=>∃r j:Nat,u=.acU (r:Int)/\((r:Int)<n\/r=0)/\K=[(bt,az l j)]/\j<=l.length:=by
 unfold az;refine lX _ _ _ _ ?_;refine vw ?_;generalize G:(λ(u:AV) (K:SH)=>∃r j:Nat,u=AV.acU (r:Int)/\((r:Int)<n\/r=0)/\K=[(bt,(⟨2,[[.lst (l.map aY),.acU (j:Int)]]⟩:Blk))]/\j<=l.length)=Q;have B:∀(r j:Nat),((r:Int)<n\/r=0)->j<=l.length->Q (.acU (r:Int)) [(bt,⟨2,[[.lst (l.map aY),.acU (j:Int)]]⟩)]:=λr j S O=>by subst G;exact⟨r,j,rfl,S,rfl,O⟩
 clear G;rcases LE a l.length with g|g
 .have d1:decide ((l.length:Int)<=(a:Int))=false:=by simp;omega
  have hx:=aj (f:=aY) g;have e1:IntKind.i64.wrap ((a:Int)+1)=((a+1:Nat):Int):=by rw[abg _ acN];omega
  have e2:IntKind.i64.wrap (((a+1:Nat):Int)-1)=(a:Int):=by rw[abg _ acN];omega
  by_cases D:n<1
  .have Z:decide (n<1)=true:=by simpa using D
   repeat' (first|refine sy ?_|refine s2 ?_ ?_|intro)
   exact B 0 a (.inr rfl) E
  .have Z:decide (n<1)=false:=by simpa using D
   have N:n≠0:=by omega
   repeat' (first|refine sy ?_|refine s2 ?_ ?_|intro)
   have hb:(l[a].toNat:Int)<256:=by have:=l[a].toNat_lt;omega
   have Y:IntKind.i64.wrap (l[a].toNat:Int)=(l[a].toNat:Int):=by rw[abg _ acN]
   rw[Y];have M:(l[a].toNat:Int).tmod n=(((l[a].toNat:Int).tmod n).toNat:Nat):=by have:=Int.tmod_nonneg n (Int.natCast_nonneg l[a].toNat);omega
   rw[M];exact B _ (a+1) (.inl (by rw[<-M];exact Int.tmod_lt_of_pos _ acN)) acN
 .have d1:decide ((l.length:Int)<=(a:Int))=true:=by simp;omega
  repeat' (first|refine sy ?_|refine s2 ?_ ?_|intro)
  exact B 0 a (.inr rfl) E
def Iy(n:Int):aB:=.mk 1 n [] []
def tU(s:bU):aB:=.mk 2 0 s []
theorem Iz(n:Int):aq Tryz.prog 131 [.acU n] (.agg (Iy n).row):=by
 refine ac.fz (KX _ _ _ ?_);refine vw ?_
 repeat' (first|refine sy ?_|refine s2 ?_ ?_|intro)
 exact⟨_,[],ax.all (Fz.aggs (.cons (.refl _) (.cons (.refl _) (.cons (.refl _) (.cons .nils .nil))))),rfl,rfl⟩
theorem xl(s:bU):aq Tryz.prog 189 [.str s] (.agg (tU s).row):=by
 refine ac.fz (Iv _ _ _ ?_);refine vw ?_
 repeat' (first|refine sy ?_|refine s2 ?_ ?_|intro)
 exact⟨_,[],ax.all (Fz.aggs (.cons (.refl _) (.cons (.refl _) (.cons (.refl _) (.cons .nils .nil))))),rfl,rfl⟩
def PJ(op:Int)(a b:aB):aB:=.mk op 0 [] [a,b]
theorem DF(op:Int)(a b:aB):aq Tryz.prog 188 [.acU op,.agg a.row,.agg b.row] (.agg (PJ op a b).row):=by
 refine ac.fz (DC _ _ _ _ _ ?_);refine vw ?_
 repeat' (first|refine sy ?_|refine s2 ?_ ?_|intro)
 exact⟨_,[],ax.all (Fz.aggs (.cons (.refl _) (.cons (.refl _) (.cons (.refl _) (.cons (Fz.sls (l:=[a,b]) (f:=aB.enc) (size:=4) (rows:=[a.row,b.row]) (.head _) (by simp[aB.enc_row]) acR rfl) .nil))))),rfl,rfl⟩
def k9:aB:=.mk 0 0 [] []
def dH(s:bU)(e:aB):ae:=.mk 1 0 s [] [] e [] []
theorem dM(s:bU)(e:aB):aq Tryz.prog 130 [.str s,.agg e.row] (.agg (dH s e).row):=by
 refine ac.fz (DD _ _ _ _ ?_);refine vw ?_
 repeat' (first|refine sy ?_|refine s2 ?_ ?_|intro)
 exact⟨_,[],ax.all (Fz.aggs (.cons (.refl _) (.cons (.refl _) (.cons (.refl _) (.cons (.refl _) (.cons .nils (.cons (.refl _) (.cons (.refl _) (.cons (.refl _) (.cons (.refl _) (.cons .nils (.cons .nils .nil)))))))))))),rfl,rfl⟩
def cj:List aZ:=[⟨1,0,[120],0,0,[]⟩,⟨1,0,[121],0,1,[]⟩,⟨2,0,[118],0,0,[]⟩,⟨1,0,[113],2,0,[]⟩,⟨3,0,[109],0,0,[]⟩,⟨3,0,[110],0,0,[]⟩,⟨4,0,[114],0,0,[]⟩,⟨5,0,[99],0,0,[109]⟩,⟨6,0,[102],0,0,[]⟩]
theorem xm:aq Tryz.prog 128 [] (.lst (cj.map aZ.enc)):=by
 refine ac.fz (FF _ _ ?_);refine vw ?_
 repeat' (first|refine sy ?_|refine s2 ?_ ?_|intro)
 exact⟨_,[],ax.all (Fz.sls (l:=cj) (f:=aZ.enc) (size:=6) (.head _) rfl acR rfl),rfl,rfl⟩
theorem wz:(∀j n,BP 0 j n=0)/\(∀j n,BP 1 j n=0)/\(∀j n,BP 2 j n=0)/\BP 3 [113] (0+1)=0/\(∀op,BP op [] (0+1+1)=z3 op)/\z0 1=0/\z0 2=0/\z0 3=0/\z0 6=0/\z0 13=0/\z3 6=0/\z3 13=0/\
  (∀n,zv 1 n=z0 n)/\(∀n,zv 2 n=z0 n)/\(∀n,zv 3 n=z0 n)/\(∀n,zv 14 n=z0 n)/\(∀n,zv 4 n=0)/\(∀n,zv 5 n=0)/\(∀n,zv 6 n=0)/\(∀n,zv 7 n=0)/\(∀n,zv 8 n=0)/\(∀n,zv 9 n=0)/\(∀n,zv 12 n=0)/\(∀n,zv 13 n=0)/\(∀n,zv 15 n=0)/\
  (∀j,zi j 0=0)/\zi [113] (0+1)=0/\(∀op n j l,aB.wt (.mk op n j l)=1+j.length+BP op j l.length+aB.wts l)/\aB.wts []=0/\(∀x l,aB.wts (x::l)=x.wt+z0 x.op+aB.wts l)/\
  (∀op line j arg D e u B,ae.wt (.mk op line j arg D e u B)=1+j.length+arg.length+aB.wts D+e.wt+zv op e.op+zi j D.length+ae.wts u+ae.wts B)/\ae.wts []=0/\(∀x l,ae.wts (x::l)=x.wt+ae.wts l)/\
  (∀a b c l,aB.op (.mk a b c l)=a)/\(∀n,Iy n=.mk 1 n [] [])/\(∀s,tU s=.mk 2 0 s [])/\(∀op a b,PJ op a b=.mk op 0 [] [a,b])/\k9=.mk 0 0 [] []/\(∀s e,dH s e=.mk 1 0 s [] [] e [] []):=by
 refine⟨?_,?_,?_,?_,?_,?_,?_,?_,?_,?_,?_,?_,?_,?_,?_,?_,?_,?_,?_,?_,?_,?_,?_,?_,?_,?_,?_,?_,?_,?_,?_,?_,?_,?_,?_,?_,?_,?_,?_⟩
 all_goals first
  |rfl
  |(intros;rfl)
  |(intros;simp[BP,z3,zi])
theorem Yt{P:Prop}(h:P:=by simp only[wz,abi,abq];omega):P:=h
theorem ZW{r:Nat}(h:(r:Int)<6\/r=0):z0 (([6,7,8,11,13,17]:List Int).getD r 0)=0/\z3 (([6,7,8,11,13,17]:List Int).getD r 0)=0:=by
 have h:r<6:=by omega
 match r,h with
 |0,_|1,_|2,_|3,_|4,_|5,_=>exact⟨rfl,rfl⟩
structure MkS where
 a:Nat
 thread:Int
 left:Int
 set:Bool
 tx:Bool
 atomic:Bool
 loop:Bool
 o:Option Nat
 ar:List bU
 k:Nat
def MkS.row(bt:Nat)(s:MkS):List AV:=[.ptr bt 0 0,.acU s.thread,.acU s.left,.bool s.set,.bool s.tx,.bool s.atomic,.bool s.loop,af s.o s.k]
theorem gv{l:List bU}{b r:Nat}{rows:List (List AV)}{L:SH}{K:AV->Prop}(h:K (.str (l.getD r [])))(B:(b,(⟨1,rows⟩:Blk))∈L)(u:rows=l.map ay)(j:r<l.length):W.load false 1 (.ptr b r 0) L K:=by subst u;refine dR B (aj j) acP ?_;simpa[List.getD,j]using h
theorem DG{l:List Int}{b r:Nat}{rows:List (List AV)}{L:SH}{K:AV->Prop}(h:K (.acU (l.getD r 0)))(B:(b,(⟨1,rows⟩:Blk))∈L)(u:rows=l.map aa)(j:r<l.length):W.load false 1 (.ptr b r 0) L K:=by subst u;refine dR B (aj j) acP ?_;simpa[List.getD,j]using h
theorem ij{bt:Nat}{t:List UInt8}{a:Nat}{n:Int}{L u:SH}{KL:R}(ht:t.length<2^63)(E:a<=t.length)(D:dF bt (az t a) L u)(B:∀r j:Nat,((r:Int)<n\/r=0)->j<=t.length->KL (.acU (r:Int)) ((bt,az t j)::u)):W.callM Tryz.prog 92 [.ptr bt 0 0,.acU n] L KL:=
 cQ (Oo bt t a n ht E) D (by rintro _ _ ⟨r,j,rfl,M,rfl,G⟩;exact B r j M G)
theorem Bc{bt:Nat}{t:List UInt8}{a i:Nat}{n:Int}{us:List W.WR}{L u:SH}{B:AV->SH->List Nat->Prop}(ht:t.length<2^63)(M:a<=t.length)(G:dF bt (az t a) L u)(D:∀r j:Nat,((r:Int)<n\/r=0)->j<=t.length->B (.acU (r:Int)) ((bt,az t j)::u) [bt])(E:∀y∈us,W.free y ⟨i,[],[bt],[],true,[]⟩:=by(simp only[rm,rc,rz,W.free,co,↓reduceIte,Nat.reduceEqDiff,ai,dV,aco,abz,abA,not_false_eq_true,implies_true,and_true,true_and,and_self,abj,reduceCtorEq,forall_const,false_implies,aag,forall_eq,aby,abK,aaj,or_false,false_or,forall_eq_or_imp,not_or])<;>(repeat' constructor)<;>first|assumption|(exact Ne.symm acO)|(intro S;subst S;simp[SH.names]at *;done)):W.dcallM Tryz.prog us i 92 [.ptr bt 0 0,.acU n] L B:=
 ee (Oo bt t a n ht M) G E (by rintro _ _ ⟨r,j,rfl,O,rfl,N⟩;exact D r j O N)
def nQ(bt:Nat)(v1 v2 v3 v4 v5 v6 v7:AV):Blk:=⟨8,[[.ptr bt 0 0,v1,v2,v3,v4,v5,v6,v7]]⟩
def K3(d:Nat):Prop:=∀(bm bt:Nat) (t:List UInt8) (a:Nat) (v1 v2 v3 v4 v5 v6 v7:AV),t.length<2^63->a<=t.length->
  ac Tryz.prog 187 [.ptr bm 0 0,.acU (d:Int)] [(bm,nQ bt v1 v2 v3 v4 v5 v6 v7),(bt,az t a)] λu K=>∃(x:aB) (a':Nat),u=.agg x.row/\x.wt+z0 x.op<=4^(d+1)/\a'<=t.length/\K=[(bm,nQ bt v1 v2 v3 v4 v5 v6 v7),(bt,az t a')]
section
variable {bm bt:Nat} {t:List UInt8} {a d:Nat} {dd:Int} {v1 v2 v3 v4 v5 v6 v7:AV} {L L1 L2:SH}
theorem dN{KL:R}(G:K3 d)(u:dd=(d:Int))(ht:t.length<2^63)(E:a<=t.length)(B:dF bm (nQ bt v1 v2 v3 v4 v5 v6 v7) L L1)(h2:dF bt (az t a) L1 L2)(D:∀(x:aB) (j:Nat),x.wt+z0 x.op<=4^(d+1)->j<=t.length->KL (.agg x.row) ((bm,nQ bt v1 v2 v3 v4 v5 v6 v7)::(bt,az t j)::L2)):
  W.callM Tryz.prog 187 [.ptr bm 0 0,.acU dd] L KL:=by
 subst u;exact JC (G bm bt t a v1 v2 v3 v4 v5 v6 v7 ht E) B h2 (by rintro _ _ ⟨x,j,rfl,B,h2,rfl⟩;exact D x j B h2)
theorem IA{us:List W.WR}{i:Nat}{D:AV->SH->List Nat->Prop}(N:K3 d)(u:dd=(d:Int))(ht:t.length<2^63)(M:a<=t.length)(B:dF bm (nQ bt v1 v2 v3 v4 v5 v6 v7) L L1)(h2:dF bt (az t a) L1 L2)(E:∀(x:aB) (j:Nat),x.wt+z0 x.op<=4^(d+1)->j<=t.length->D (.agg x.row) ((bm,nQ bt v1 v2 v3 v4 v5 v6 v7)::(bt,az t j)::L2) [bm,bt])
  (G:∀y∈us,W.free y ⟨i,[],[bm,bt],[],true,[]⟩:=by(simp only[rm,rc,rz,W.free,co,↓reduceIte,Nat.reduceEqDiff,ai,dV,aco,abz,abA,not_false_eq_true,implies_true,and_true,true_and,and_self,abj,reduceCtorEq,forall_const,false_implies,aag,forall_eq,aby,abK,aaj,or_false,false_or,forall_eq_or_imp,not_or])<;>(repeat' constructor)<;>first|assumption|(exact Ne.symm acO)|(intro O;subst O;simp[SH.names]at *;done)):W.dcallM Tryz.prog us i 187 [.ptr bm 0 0,.acU dd] L D:=by
 subst u;exact OV (N bm bt t a v1 v2 v3 v4 v5 v6 v7 ht M) B h2 G (by rintro _ _ ⟨x,j,rfl,B,h2,rfl⟩;exact E x j B h2)
end
theorem Sr(r:Nat):(([[97],[98],[120],[121],[118],[120],[121]]:List bU).getD r []).length<=1:=by
 rcases LE r 7 with h|h
 .match r,h with
  |0,_|1,_|2,_|3,_|4,_|5,_|6,_=>exact Fd _
 .rw[List.getD,aah (by simpa using h)];exact abt _
theorem Oq:K3 0:=by
  intro bm bt t a v1 v2 v3 v4 v5 v6 v7 G ha;refine ac.fz (kW _ _ _ _ ?_);refine vw ?_;generalize D:(λ(v:AV) (L:SH)=>∃j L2,ax [v] L [j] L2/\∃(x:aB) (u:Nat),j=AV.agg x.row/\x.wt+z0 x.op<=4^(0+1)/\u<=t.length/\L2=[(bm,nQ bt v1 v2 v3 v4 v5 v6 v7),(bt,az t u)])=Q;have B:∀(v:AV) (x:aB) (u:Nat) (L L1 L2:SH),dF bm (nQ bt v1 v2 v3 v4 v5 v6 v7) L L1->dF bt (az t u) L1 L2->Fz L2 v (.agg x.row)->x.wt+z0 x.op<=4->u<=t.length->Q v L:=λv x u L L1 L2 h1 Z Y S O=>by subst D;exact⟨_,_,ax.keep2 h1 Z Y,x,u,rfl,S,O,rfl⟩
  clear D;unfold nQ
  repeat' (first|refine sy ?_|((with_reducible refine aN 92 ?_);(refine ij G acO rp (λE a_ M N=>?_)))|(refine pf 131 ?_;refine pm (Iz _) ?_)|(refine pf 189 ?_;refine pm (xl _) ?_)|refine gv (l:=[[97],[98],[120],[121],[118],[120],[121]]) ?_ mm rfl acS|refine cN ?_ acN|refine s2 ?_ ?_|intro)
  all_goals first
   |exact B _ (Iy _) _ _ _ _ rp rp (.refl _) Yt acO
   |exact B _ (tU _) _ _ _ _ rp rp (.refl _) (by have:=Sr E;exact Yt) acO
   |(exfalso;simp at *;omega)
theorem cW:∀d:Nat,d<1000->K3 d:=by
 intro d
 induction d with
 |zero=>exact λ_=>Oq
 |succ d O=>
  intro N bm bt t a v1 v2 v3 v4 v5 v6 v7 G ha;have O:=O acN;have Y:K3 0:=Oq;have d0:decide (((d+1:Nat):Int)=0)=false:=by simp;omega
  have e1:IntKind.i64.wrap (((d+1:Nat):Int)-1)=(d:Int):=by rw[abg _ acN];omega
  have hp:1<=4^d:=Nat.one_le_pow _ _ acR;have hp1:4^(d+1)=4*4^d:=by rw[Nat.pow_succ,Nat.mul_comm]
  have hp2:4^(d+1+1)=16*4^d:=by rw[Nat.pow_succ,Nat.pow_succ];omega
  refine ac.fz (kW _ _ _ _ ?_);refine vw ?_;generalize hQ:(λ(v:AV) (L:SH)=>∃j L2,ax [v] L [j] L2/\∃(x:aB) (B:Nat),j=AV.agg x.row/\x.wt+z0 x.op<=4^(d+1+1)/\B<=t.length/\L2=[(bm,nQ bt v1 v2 v3 v4 v5 v6 v7),(bt,az t B)])=Q;have M:∀(v:AV) (x:aB) (B:Nat) (L L1 L2:SH),dF bm (nQ bt v1 v2 v3 v4 v5 v6 v7) L L1->dF bt (az t B) L1 L2->Fz L2 v (.agg x.row)->x.wt+z0 x.op<=16*4^d->B<=t.length->Q v L:=λv x B L L1 L2 h1 h2 h3 h4 h5=>by subst hQ;exact⟨_,_,ax.keep2 h1 h2 h3,x,B,rfl,acN,h5,rfl⟩
  clear hQ;unfold nQ
  repeat' (first|refine sy ?_|((with_reducible refine aN 92 ?_);(refine ij G acO rp (λr_ Z D u=>?_)))|(refine pf 131 ?_;refine pm (Iz _) ?_)|(refine pf 189 ?_;refine pm (xl _) ?_)|(refine pf 188 ?_;refine pm (DF _ _ _) ?_)|refine gv (l:=[[97],[98],[120],[121],[118],[120],[121]]) ?_ mm rfl acS|refine DG (l:=[6,7,8,11,13,17]) ?_ mm rfl acS|refine cN ?_ acN|((with_reducible refine cy 92 ?_);refine Bc G acO rp (λr_ Z D u=>?_))|((with_reducible refine aN 187 ?_);(refine dN Y acP G acO rp rp (λE Z S u=>?_)))|((with_reducible refine cy 187 ?_);refine IA O acP G acO rp rp (λE Z S u=>?_))|refine s2 ?_ ?_|intro)
  all_goals first
   |exact M _ (Iy _) _ _ _ _ rp rp (.refl _) Yt acO
   |exact M _ (tU _) _ _ _ _ rp rp (.refl _) (by have:=Sr r_;exact Yt) acO
   |exact M _ (.mk 3 0 [113] [E]) _ _ _ _ rp rp (Fz.aggs (.cons (.refl _) (.cons (.refl _) (.cons (.refl _) (.cons (Fz.sls (l:=[E]) (f:=aB.enc) (size:=4) (rows:=[E.row]) (.head _) (by simp[aB.enc_row]) acR rfl) .nil))))) Yt acO
   |exact M _ (PJ _ _ _) _ _ _ _ rp rp (.refl _) (by have:=ZW D;exact Yt) acO
end
def K6(bt:Nat)(l:List UInt8)(a:Nat)(n:Int)(hl:l.length<2^63)(E:a<=l.length):
  ac Tryz.prog 92 [.ptr bt 0 0,.acU n] [(bt,az l a)] λu K=>∃r j:Nat,u=.acU (r:Int)/\((r:Int)<n\/r=0)/\K=[(bt,az l j)]/\j<=l.length/\a<=j/\(1<=n->a<l.length->a<j):=by
 unfold az;refine lX _ _ _ _ ?_;refine vw ?_;generalize G:(λ(u:AV) (K:SH)=>∃r j:Nat,u=AV.acU (r:Int)/\((r:Int)<n\/r=0)/\K=[(bt,(⟨2,[[.lst (l.map aY),.acU (j:Int)]]⟩:Blk))]/\j<=l.length/\a<=j/\(1<=n->a<l.length->a<j))=Q;have B:∀(r j:Nat),((r:Int)<n\/r=0)->j<=l.length->a<=j->(1<=n->a<l.length->a<j)->Q (.acU (r:Int)) [(bt,⟨2,[[.lst (l.map aY),.acU (j:Int)]]⟩)]:=λr j Z Y S O=>by subst G;exact⟨r,j,rfl,Z,rfl,Y,S,O⟩
 clear G;rcases LE a l.length with g|g
 .have d1:decide ((l.length:Int)<=(a:Int))=false:=by simp;omega
  have hx:=aj (f:=aY) g;have e1:IntKind.i64.wrap ((a:Int)+1)=((a+1:Nat):Int):=by rw[abg _ acN];omega
  have e2:IntKind.i64.wrap (((a+1:Nat):Int)-1)=(a:Int):=by rw[abg _ acN];omega
  by_cases D:n<1
  .have d2:decide (n<1)=true:=by simpa using D
   repeat' (first|refine sy ?_|refine s2 ?_ ?_|intro)
   exact B 0 a (.inr rfl) E (Fd _) (λh=>by omega)
  .have d2:decide (n<1)=false:=by simpa using D
   have N:n≠0:=by omega
   repeat' (first|refine sy ?_|refine s2 ?_ ?_|intro)
   have hb:(l[a].toNat:Int)<256:=by have:=l[a].toNat_lt;omega
   have e3:IntKind.i64.wrap (l[a].toNat:Int)=(l[a].toNat:Int):=by rw[abg _ acN]
   rw[e3];have M:(l[a].toNat:Int).tmod n=(((l[a].toNat:Int).tmod n).toNat:Nat):=by have:=Int.tmod_nonneg n (Int.natCast_nonneg l[a].toNat);omega
   rw[M];exact B _ (a+1) (.inl (by rw[<-M];exact Int.tmod_lt_of_pos _ acN)) acN acN (λ_ _=>by omega)
 .have d1:decide ((l.length:Int)<=(a:Int))=true:=by simp;omega
  repeat' (first|refine sy ?_|refine s2 ?_ ?_|intro)
  exact B 0 a (.inr rfl) E (Fd _) (λ_ h=>absurd h acN)
def jM{bt:Nat}{t:List UInt8}{a:Nat}{n:Int}{L u:SH}{KL:R}(ht:t.length<2^63)(E:a<=t.length)(D:dF bt (az t a) L u)(B:∀r j:Nat,((r:Int)<n\/r=0)->j<=t.length->a<=j->(1<=n->a<t.length->a<j)->KL (.acU (r:Int)) ((bt,az t j)::u)):W.callM Tryz.prog 92 [.ptr bt 0 0,.acU n] L KL:=
 cQ (K6 bt t a n ht E) D (by rintro _ _ ⟨r,j,rfl,O,rfl,N,M,G⟩;exact B r j O N M G)
def rZ{bt:Nat}{t:List UInt8}{a i:Nat}{n:Int}{us:List W.WR}{L u:SH}{B:AV->SH->List Nat->Prop}(ht:t.length<2^63)(M:a<=t.length)(G:dF bt (az t a) L u)(D:∀r j:Nat,((r:Int)<n\/r=0)->j<=t.length->a<=j->(1<=n->a<t.length->a<j)->B (.acU (r:Int)) ((bt,az t j)::u) [bt])(E:∀y∈us,W.free y ⟨i,[],[bt],[],true,[]⟩:=by(simp only[rm,rc,rz,W.free,co,↓reduceIte,Nat.reduceEqDiff,ai,dV,aco,abz,abA,not_false_eq_true,implies_true,and_true,true_and,and_self,abj,reduceCtorEq,forall_const,false_implies,aag,forall_eq,aby,abK,aaj,or_false,false_or,forall_eq_or_imp,not_or])<;>(repeat' constructor)<;>first|assumption|(exact Ne.symm acO)|(intro Z;subst Z;simp[SH.names]at *;done)):W.dcallM Tryz.prog us i 92 [.ptr bt 0 0,.acU n] L B:=
 ee (K6 bt t a n ht M) G E (by rintro _ _ ⟨r,j,rfl,Y,rfl,S,O,N⟩;exact D r j Y S O N)
def PM{n r:Nat}(j:n<100)(h:(r:Int)<IntKind.i64.wrap ((n:Int)+2)\/r=0):decide (IntKind.i64.wrap ((r:Int)-2)<0)=true\/(decide (IntKind.i64.wrap ((r:Int)-2)<0)=false/\0<=IntKind.i64.wrap ((r:Int)-2)/\IntKind.i64.wrap ((r:Int)-2)<n):=by
 rw[show IntKind.i64.wrap ((n:Int)+2)=(n:Int)+2 from abg _ acN]at h;rw[show IntKind.i64.wrap ((r:Int)-2)=(r:Int)-2 from abg _ acN];rcases LE r 2 with z|z
 .exact .inl (decide_eq_true acN)
 .exact .inr ⟨decide_eq_false acN,acN,acN⟩
def Su(bt:Nat)(t:List UInt8)(a:Nat)(E:Nat)(cs:List Int)(y1 y3 y4 y5 Z m1 m3 m4 m5 m6:Nat)(tx:Int)(ht:t.length<2^63)(ha:a<=t.length)(M:cs.length<100):
  ac Tryz.prog 93 [.ptr bt 0 0,.agg [.sl y1 0 m1,.acU tx,.sl y3 0 m3,.sl y4 0 m4,.sl y5 0 m5,.sl Z 0 m6,.sl E 0 cs.length]] [(bt,az t a),(E,⟨1,cs.map aa⟩)] λu K=>∃(v:Int) (j:Nat),u=.acU v/\(v=-1\/(0<=v/\v<cs.length))/\j<=t.length/\a<=j/\K=[(bt,az t j),(E,⟨1,cs.map aa⟩)]:=by
 refine ac.fz (DK _ _ _ _ ?_);refine vw ?_;generalize S:(λ(v:AV) (L:SH)=>∃N Y,ax [v] L [N] Y/\∃(x:Int) (j:Nat),N=AV.acU x/\(x=-1\/(0<=x/\x<cs.length))/\j<=t.length/\a<=j/\Y=[(bt,az t j),(E,(⟨1,cs.map aa⟩:Blk))])=Q;have O:∀(x:Int) (j:Nat) (L:SH),cO L [(bt,az t j),(E,⟨1,cs.map aa⟩)]->(x=-1\/(0<=x/\x<cs.length))->j<=t.length->a<=j->Q (.acU x) L:=λx j L hL h1 h2 h3=>by subst S;exact⟨_,_,ax.pickE hL rfl rfl,x,j,rfl,h1,h2,h3,rfl⟩
 clear S;have M:=λr=>PM (r:=r) M
 repeat' (first|refine aw B acN rp rfl ?_|refine sy ?_|((with_reducible refine aN 92 ?_);(refine jM ht ha rp (λr_ a_ G h1_ h2_ h3_=>?_);rcases M _ G with d_|⟨d_,B,D⟩))|refine dR rp (jn (ao.2 ⟨B,D⟩)) rfl ?_|refine s2 ?_ ?_|intro)
 all_goals first
  |(refine O _ _ _ ?_ (.inl rfl) acO acO;exact rp)
  |(refine O _ _ _ ?_ (.inr ⟨B,D⟩) acO acO;exact rp)
def PN(bt:Nat)(t:List UInt8)(a:Nat)(k th:Int)(ht:t.length<2^63)(M:a<=t.length):
  ac Tryz.prog 113 [.ptr bt 0 0,.acU k,.acU th] [(bt,az t a)] λu K=>∃(v:Int) (j:Nat),u=.acU v/\(k=3\/k=4->0<=v/\v<5)/\j<=t.length/\a<=j/\K=[(bt,az t j)]:=by
 refine ac.fz (AK _ _ _ _ _ ?_);refine vw ?_;generalize Z:(λ(v:AV) (L:SH)=>∃Y L2,ax [v] L [Y] L2/\∃(x:Int) (j:Nat),Y=AV.acU x/\(k=3\/k=4->0<=x/\x<5)/\j<=t.length/\a<=j/\L2=[(bt,az t j)])=Q;have G:∀(x:Int) (j:Nat) (L:SH),cO L [(bt,az t j)]->(k=3\/k=4->0<=x/\x<5)->j<=t.length->a<=j->Q (.acU x) L:=λx j L hL h1 h2 h3=>by subst Z;exact⟨_,_,ax.pickE hL rfl rfl,x,j,rfl,h1,h2,h3,rfl⟩
 clear Z;by_cases B:k=3\/k=4
 .have E:decide (k=3)=true\/(decide (k=3)=false/\decide (k=4)=true):=by
   rcases B with h|h
   .exact .inl (decide_eq_true h)
   .exact .inr ⟨decide_eq_false acN,decide_eq_true h⟩
  have h8:∀r:Nat,((r:Int)<8\/r=0)->0<=([0,0,0,1,1,2,3,4]:List Int).getD r 0/\([0,0,0,1,1,2,3,4]:List Int).getD r 0<5:=λr h=>by
   have h:r<8:=by omega
   match r,h with
   |0,_|1,_|2,_|3,_|4,_|5,_|6,_|7,_=>decide
  rcases E with E|⟨E,d1⟩
  all_goals
   repeat' (first|refine sy ?_|((with_reducible refine aN 92 ?_);(refine jM ht M rp (λr_ a_ D S O N=>?_)))|refine DG (l:=[0,0,0,1,1,2,3,4]) ?_ mm rfl acS|refine cN ?_ acN|refine s2 ?_ ?_|intro)
   all_goals (refine G _ _ _ ?_ (λ_=>h8 _ D) acO acO;exact rp)
 .have E:decide (k=3)=false:=decide_eq_false λh=>B (.inl h)
  have d1:decide (k=4)=false:=decide_eq_false λh=>B (.inr h)
  repeat' (first|refine sy ?_|((with_reducible refine aN 92 ?_);(refine jM ht M rp (λr_ a_ D S O N=>?_)))|refine s2 ?_ ?_|intro)
  all_goals first
   |(refine G _ _ _ ?_ (λh=>absurd h B) acO acO;exact rp)
   |(refine G _ a _ ?_ (λh=>absurd h B) M (Fd _);exact rp)
def ax.keepR{v v2:AV}{L K R:SH}(j:L.Perm (K++R))(h:Fz K v v2):ax [v] L [v2] R:=ax.drop j rfl (fy.at_ (.cons h .nil)).2
def Ov{o:Option Nat}{l:List Int}(j:o=none->l=[]):Fz (ab o 1 (l.map aa)) (af o l.length) (.lst (l.map aa)):=by
 cases o with
 |none=>rw[j rfl];exact .emp
 |some b=>exact Fz.sls (.head _) rfl acR rfl
def gO.pure(s:gO):bv (.agg s.enc):=.aggs (by
 rw[dL];exact aA (.lmap λx _=>by unfold LockD.enc;exact aA (.int _ _) (aA (.lmap λy _=>by unfold aa;exact pv) dS)) (aA (.int _ _) (aA (.lmap λx _=>by unfold au;exact pv) (aA (.lmap λx _=>by unfold ThrD.enc;exact pv) (aA (.lmap λx _=>by unfold aa;exact pv) (aA (.lmap λx _=>by unfold aa;exact pv) (aA (.lmap λx _=>by unfold aa;exact pv) dS)))))))
def PO(l:List Int):bv (.lst (l.map aa)):=.lmap λx _=>by unfold aa;exact pv
def MT(s:gO)(h4:s.sync.threads.length<2^30):∃l:List Int,aq Tryz.prog 143 [.agg s.enc] (.lst (l.map aa))/\l.length<=s.sync.threads.length:=by
 suffices h:ac Tryz.prog 143 [.agg s.enc] [] λv L=>∃l:List Int,v=.lst (l.map aa)/\L=[]/\l.length<=s.sync.threads.length by obtain⟨v,K,⟨l,rfl,_,hl⟩,hp⟩:=h.pure (aA s.pure dS) (λu K ⟨l,h,_⟩=>by rw[h];exact PO l);exact⟨l,hp,hl⟩
 refine ac.fz (yV _ _ _ ?_);refine vw ?_;generalize hQ:(λ(v:AV) (L:SH)=>∃S L2,ax [v] L [S] L2/\∃l:List Int,S=.lst (l.map aa)/\L2=[]/\l.length<=s.sync.threads.length)=Q;have M:∀(o:Option Nat) (l:List Int),(o=none->l=[])->l.length<=s.sync.threads.length->Q (af o l.length) (ab o 1 (l.map aa)):=λo l B h1=>by subst hQ;exact⟨_,[],ax.all (Ov B),l,rfl,rfl,h1⟩
 clear hQ;have lp:W.loop (yU Q) [.nils,.lst (s.sync.threads.map ThrD.enc),.acU s.sync.threads.length,.acU 0] []:=by
  refine aL s.sync.threads.length (λk (p:Option Nat×List Int)=>([af p.1 p.2.length,.lst (s.sync.threads.map ThrD.enc),.acU s.sync.threads.length,.acU k],ab p.1 1 (p.2.map aa))) (λk p=>(p.1=none->p.2=[])/\p.2.length<=k) (none,[]) ⟨λ_=>rfl,Nat.le_refl _⟩ (ax.drop (K:=[]) (.refl _) rfl (fy.at_ (.cons .nile (.cons (.refl _) (.cons (.refl _) (.cons (.refl _) .nil))))).2) ?_;rintro k ⟨o,l⟩ hk ⟨B,N⟩;dsimp only at B N ⊢;refine vw ?_;have hX:(l.map aa).length=l.length:=by simp
  have O:o=none->l.map aa=[]:=λe=>by rw[B e];rfl
  rcases LE k s.sync.threads.length with D|D
  .have hd:=aS D;have hx:=aj (f:=ThrD.enc) D;generalize s.sync.threads[k]=t at *;obtain⟨E,Z,Y⟩:=t;rw[show ThrD.enc ⟨E,Z,Y⟩=[.acU E,.acU Z,.bool Y]from rfl]at hx;clear M;by_cases z:E=3
   .have d1:decide (E=3)=true:=decide_eq_true z
    repeat' (first|refine sx ?_|refine aM rp rp hX O acP acQ acS acS acP (λj G=>?_)|refine sb λj G=>?_|refine s2 ?_ ?_|intro)
    exact⟨k+1,(some j,l++[(k:Int)]),acN,acN,⟨nofun,acS⟩,by rw[av D acN];exact ax.pickE (R:=[(j,_)]) rp (by simp[af]) (by simp[ab,aa,aR])⟩
   .have d1:decide (E=3)=false:=decide_eq_false z
    repeat' (first|refine sy ?_|refine s2 ?_ ?_|intro)
    exact⟨k+1,(o,l),acN,acN,⟨B,by dsimp only;omega⟩,by rw[av D acN];exact .refl _ _⟩
  .have hd:=aW D;have hz:=M o l B acN;clear M
   repeat' (first|refine sy ?_|refine s2 ?_ ?_|intro)
   exact hz
 rw[dL]
 repeat' (first|refine sy ?_|refine s2 ?_ ?_|intro)
 exact lp
def UW(bt:Nat)(t:List UInt8)(a:Nat)(o:Option Nat)(l:List Int)(ht:t.length<2^63)(ha:a<=t.length)(h0:o=none->l=[])(hl:l.length<2^30):
  ac Tryz.prog 115 [.ptr bt 0 0,af o l.length] ((bt,az t a)::ab o 1 (l.map aa)) λu K=>∃(out:List Int) (B:Nat),u=.lst (out.map aa)/\out.length<=l.length/\B<=t.length/\a<=B/\K=(bt,az t B)::ab o 1 (l.map aa):=by
 refine ac.fz (FJ _ _ _ _ ?_);refine vw ?_;generalize hQ:(λ(v:AV) (L:SH)=>∃v2 L2,ax [v] L [v2] L2/\∃(out:List Int) (B:Nat),v2=.lst (out.map aa)/\out.length<=l.length/\B<=t.length/\a<=B/\L2=(bt,az t B)::ab o 1 (l.map aa))=Q;have hq:∀(E:Option Nat) (out:List Int) (B:Nat),(E=none->out=[])->out.length<=l.length->B<=t.length->a<=B->Q (af E out.length) ((bt,az t B)::(ab o 1 (l.map aa)++ab E 1 (out.map aa))):=λE out B h0 h1 h2 h3=>by subst hQ;exact⟨_,_,ax.keepR (aar (l₁:=(bt,az t B)::ab o 1 (l.map aa))) (Ov h0),out,B,rfl,h1,h2,h3,rfl⟩
 clear hQ;have lp:W.loop (FI Q) [.ptr bt 0 0,af o l.length,.nils,af o l.length,.acU l.length,.acU 0] ((bt,az t a)::ab o 1 (l.map aa)):=by
  refine aL l.length (λk (p:Option Nat×List Int×Nat)=>([.ptr bt 0 0,af o l.length,af p.1 p.2.1.length,af o l.length,.acU l.length,.acU k],(bt,az t p.2.2)::(ab o 1 (l.map aa)++ab p.1 1 (p.2.1.map aa)))) (λk p=>(p.1=none->p.2.1=[])/\p.2.1.length<=k/\p.2.2<=t.length/\a<=p.2.2) (none,[],a) ⟨λ_=>rfl,Nat.le_refl _,ha,Nat.le_refl _⟩ (ax.drop (K:=[]) (by dsimp only[ab,List.map_nil,List.append_nil];rw[List.append_nil];exact .refl _) rfl (fy.at_ (.cons (.refl _) (.cons (.refl _) (.cons .nile (.cons (.refl _) (.cons (.refl _) (.cons (.refl _) .nil))))))).2) ?_;rintro k ⟨E,out,a2⟩ hk ⟨N,hlk,M,ha3⟩;dsimp only at N hlk M ha3 ⊢;refine vw ?_;have hX:(out.map aa).length=out.length:=by simp
  have h0':E=none->out.map aa=[]:=λe=>by rw[N e];rfl
  rcases LE k l.length with O|O
  .cases o with
   |none=>rw[h0 rfl]at O;simp at O
   |some b=>
   have hd:=aS O;have hx:(l.map aa)[k]? =some [.acU l[k]]:=aj (f:=aa) O;have e3:IntKind.i64.wrap ((k:Int)+3)=(k:Int)+3:=abg _ acN;generalize l[k]=x at *;clear hq;have fin1:∀(nb D:Nat) (L:SH),D<=t.length->a2<=D->cO L ((bt,az t D)::(b,⟨1,l.map aa⟩)::[(nb,⟨1,(out++[x]).map aa⟩)])->∃(j:Nat) (p:Option Nat×List Int×Nat),k<j/\j<=l.length/\((p.1=none->p.2.1=[])/\p.2.1.length<=j/\p.2.2<=t.length/\a<=p.2.2)/\ax [.ptr bt 0 0,.sl b 0 l.length,.sl nb 0 (out.length+1),.sl b 0 l.length,.acU l.length,.acU (IntKind.i64.wrap ((k:Int)+1))] L [.ptr bt 0 0,af (some b) l.length,af p.1 p.2.1.length,af (some b) l.length,.acU l.length,.acU j] ((bt,az t p.2.2)::(ab (some b) 1 (l.map aa)++ab p.1 1 (p.2.1.map aa))):=λnb D L q1 q2 hL=>
    ⟨k+1,(some nb,out++[x],D),acN,acN,⟨nofun,acS,q1,by dsimp only;omega⟩,by rw[av O acN];exact ax.pickE hL (by simp[af]) (by simp[ab])⟩
   have S:∀(D:Nat) (L:SH),D<=t.length->a2<=D->L=(bt,az t D)::(b,⟨1,l.map aa⟩)::ab E 1 (out.map aa)->∃(j:Nat) (p:Option Nat×List Int×Nat),k<j/\j<=l.length/\((p.1=none->p.2.1=[])/\p.2.1.length<=j/\p.2.2<=t.length/\a<=p.2.2)/\ax [.ptr bt 0 0,.sl b 0 l.length,af E out.length,.sl b 0 l.length,.acU l.length,.acU (IntKind.i64.wrap ((k:Int)+1))] L [.ptr bt 0 0,af (some b) l.length,af p.1 p.2.1.length,af (some b) l.length,.acU l.length,.acU j] ((bt,az t p.2.2)::(ab (some b) 1 (l.map aa)++ab p.1 1 (p.2.1.map aa))):=λD L q1 q2 hL=>
    ⟨k+1,(E,out,D),acN,acN,⟨N,by dsimp only;omega,q1,by dsimp only;omega⟩,by subst hL;rw[av O acN];exact .refl _ _⟩
   generalize hG:(λ(vs':List AV) (L':SH)=>∃(j:Nat) (p:Option Nat×List Int×Nat),k<j/\j<=l.length/\((p.1=none->p.2.1=[])/\p.2.1.length<=j/\p.2.2<=t.length/\a<=p.2.2)/\ax vs' L' [.ptr bt 0 0,af (some b) l.length,af p.1 p.2.1.length,af (some b) l.length,.acU l.length,.acU j] ((bt,az t p.2.2)::(ab (some b) 1 (l.map aa)++ab p.1 1 (p.2.1.map aa))))=G;dsimp only[af,ab,List.cons_append,List.nil_append]
   repeat' (first|refine sx ?_|((with_reducible refine aN 92 ?_);(refine jM ht M rp (λr_ a_ hr_ h1_ h2_ h3_=>?_)))|refine aM rp rp hX h0' acP acQ acS acS acP (λY Z=>?_)|refine sb λY Z=>?_|refine s2 ?_ ?_|intro)
   all_goals subst hG
   all_goals first
    |(refine fin1 Y _ _ acO acO ?_;simp only[ST];exact rp)
    |exact S _ _ acO acO rfl
    |exact S _ _ M (Fd _) rfl
  .have hd:=aW O;have hz:=hq E out a2 N acN M ha3;clear hq
   repeat' (first|refine sy ?_|refine s2 ?_ ?_|intro)
   exact hz
 clear hq;cases o with
 |none=>
  obtain rfl:=h0 rfl;dsimp only[af,ab]at *
  repeat' (first|refine sy ?_|refine s2 ?_ ?_|intro)
  exact lp
 |some b=>
  dsimp only[af,ab]at *
  repeat' (first|refine sy ?_|refine s2 ?_ ?_|intro)
  exact lp
def pe:List Int:=[3,3,3,3,3,4,4,4,4,4,5,5,5,6,6,6,7,7,7,8,9,10,11,12,13,14,14,15,16,16,17,17,18,18,19,20,1,1,2,21,22,23,23]
def Sw:aq Tryz.prog 112 [] (.lst (pe.map aa)):=by
 refine ac.fz (DN _ _ ?_);refine vw ?_
 repeat' (first|refine sy ?_|refine s2 ?_ ?_|intro)
 exact⟨_,[],ax.all (Fz.sls (l:=pe) (f:=aa) (size:=1) (.head _) rfl acR rfl),rfl,rfl⟩
def Sx(bt:Nat)(t:List UInt8)(a:Nat)(s:gO)(k ob:Int)(ht:t.length<2^63)(E:a<=t.length)(h4:s.sync.threads.length<2^30)(hf:0<s.futures.length)(O:k=3->inB ob s.cells.length=true):
  ac Tryz.prog 114 [.ptr bt 0 0,.agg s.enc,.acU k,.acU ob] [(bt,az t a)] λu K=>∃(v:Int) (j:Nat),u=.acU v/\j<=t.length/\a<=j/\K=[(bt,az t j)]:=by
 obtain⟨wl,hw,hwl⟩:=MT s h4;refine ac.fz (DM _ _ _ _ _ _ ?_);refine vw ?_;generalize hQ:(λ(v:AV) (L:SH)=>∃v2 L2,ax [v] L [v2] L2/\∃(x:Int) (j:Nat),v2=AV.acU x/\j<=t.length/\a<=j/\L2=[(bt,az t j)])=Q;have D:∀(x:Int) (j:Nat) (L:SH),cO L [(bt,az t j)]->j<=t.length->a<=j->Q (.acU x) L:=λx j L hL h2 h3=>by subst hQ;exact⟨_,_,ax.pickE hL rfl rfl,x,j,rfl,h2,h3,rfl⟩
 clear hQ;have hx:(s.futures.map aa)[0]? =some [.acU s.futures[0]]:=aj (f:=aa) hf;generalize s.futures[0]=f0 at *;have M:∀r:Nat,r<wl.length->(wl.map aa)[r]? =some [.acU (wl.getD r 0)]:=λr h=>by rw[aj (f:=aa) h];simp[List.getD,h,aa]
 by_cases G:k=3
 .have d3:decide (k=3)=true:=decide_eq_true G;obtain⟨c0,c1⟩:=ao.1 (O G);have hy:=jn (O G);generalize oL s.cells ob=cv at *;rw[dL]at *
  repeat' (first|refine aw c0 c1 rp acO ?_|refine sy ?_|refine s2 ?_ ?_|intro)
  (refine D _ a _ ?_ E (Fd _);exact rp)
 .have d3:decide (k=3)=false:=decide_eq_false G;clear O;by_cases B:k=18
  .subst B;rw[dL]at *;rcases LE 0 wl.length with g|g
   .have d0:decide ((0:Int)<(wl.length:Int))=true:=decide_eq_true acN
    repeat' (first|refine sy ?_|((with_reducible refine aN 92 ?_);(refine jM ht E rp (λr_ a_ N Z Y S=>?_);have hwx_:=M r_ acN))|refine cN ?_ acN|refine s2 ?_ ?_|intro)
    all_goals (refine D _ _ _ ?_ acO acO;exact rp)
   .have d0:decide ((0:Int)<(wl.length:Int))=false:=decide_eq_false acN
    repeat' (first|refine sy ?_|refine s2 ?_ ?_|intro)
    (refine D _ a _ ?_ E (Fd _);exact rp)
  .have d18:decide (k=18)=false:=decide_eq_false B;rw[dL]at *
   repeat' (first|refine sy ?_|((with_reducible refine aN 92 ?_);(refine jM ht E rp (λr_ a_ N Z Y S=>?_)))|refine s2 ?_ ?_|intro)
   all_goals first
    |(refine D _ _ _ ?_ acO acO;exact rp)
    |(refine D _ a _ ?_ E (Fd _);exact rp)
def FN(ev:List bA)(i:Nat)(t d:Int):Prop:=∃(m:Nat) (hm:m<ev.length),m<i/\(ev[m]).thread=t/\((cg ev t m).length:Int)=d/\((ev[m]).kind=3\/(ev[m]).kind=23)
def K7{ev:List bA}{j:Nat}{t d:Int}(D:j<ev.length):FN ev (j+1) t d↔FN ev j t d\/((ev[j]).thread=t/\((cg ev t j).length:Int)=d/\((ev[j]).kind=3\/(ev[j]).kind=23)):=by
 constructor
 .rintro⟨m,B,E,u⟩;rcases LE m j with g|g
  .exact .inl ⟨m,B,g,u⟩
  .obtain rfl:m=j:=by omega
   exact .inr u
 .rintro(⟨m,B,E,u⟩|h)
  .exact⟨m,B,acN,u⟩
  .exact⟨j,D,acN,h⟩
def Sy{ev:List bA}{j:Nat}{t d:Int}(u:j<ev.length)(h:¬((ev[j]).thread=t/\((cg ev t j).length:Int)=d/\((ev[j]).kind=3\/(ev[j]).kind=23))):lu (FN ev (j+1) t d)=lu (FN ev j t d):=by rw[show FN ev (j+1) t d=FN ev j t d from propext ((K7 u).trans ⟨λx=>x.resolve_right h,.inl⟩)]
def UY{ev:List bA}{j:Nat}{t d:Int}(u:j<ev.length)(h:(ev[j]).thread=t/\((cg ev t j).length:Int)=d/\((ev[j]).kind=3\/(ev[j]).kind=23)):lu (FN ev (j+1) t d)=true:=iG ((K7 u).2 (.inr h))
def DR(ev:List bA)(i:Nat)(t:Int)(l:List Int)(hi:i<=ev.length)(he:ev.length<2^62)(hl:l.length<2^62):aq Tryz.prog 106 [.lst (ev.map bA.enc),.acU i,.acU t,.lst (l.map aa)] (.bool (lu (∀d∈l,FN ev i t d))):=by
 refine NQ AV.bool λQ hq=>Dt _ _ _ _ _ _ ?_
 refine vw ?_;refine cT l.length (λk=>∀m (Z:m<l.length),m<k->FN ev i t l[m]) (λk=>[.lst (ev.map bA.enc),.acU i,.acU t,.lst (l.map aa),.acU k]) hl (λm Z h=>absurd h acN) rfl (λk hk hd hii hG nx hn=>?_) (λk hk hd hG nx=>?_)
 all_goals refine vw ?_
 .have hx:=aj (f:=aa) hk;have E:lu (FN ev i t l[k])=false->∀L,Q (.bool false) L:=λh L=>hq _ L (gU λhall=>by
   rw[iG (hall _ (LT hk))]at h;cases h)
  have G:lu (FN ev i t l[k])=true->nx [.lst (ev.map bA.enc),.acU i,.acU t,.lst (l.map aa),.acU ((k+1:Nat):Int)] []:=λh=>hn λm Z hmk=>by
   rcases LE m k with g|g
   .exact hG m Z g
   .obtain rfl:m=k:=by omega
    exact iH.1 h
  clear hn hq hG;generalize l[k]=d at *;rw[show aa d=[.acU d]from rfl]at hx;have lp:W.loop (Ds Q nx) [.lst (ev.map bA.enc),.acU i,.acU t,.lst (l.map aa),.acU k,.acU (0:Nat),.bool false,.acU (0:Nat)] []:=by
   refine cT i (λ_=>True) (λj=>[.lst (ev.map bA.enc),.acU i,.acU t,.lst (l.map aa),.acU k,.acU ((cg ev t j).length:Nat),.bool (lu (FN ev j t d)),.acU j]) acN trivial (by rw[show lu (FN ev 0 t d)=false from gU λ⟨m,_,h,_⟩=>by omega];rfl) (λj hj hdj hjj _ nx2 B=>?_) (λj hj hdj _ nx2=>?_)
   all_goals refine vw ?_
   .have N:j<ev.length:=by omega
    have hxe:=aj (f:=bA.enc) N;have B:=B trivial;have Y:cg ev t (j+1)=if(ev[j]).thread=t then cg ev t j++[(j:Int)]else cg ev t j:=by rw[eD];simp[N]
    have hle:=ka ev t j;have u:=Sy (t:=t) (d:=d) N;have D:=UY (t:=t) (d:=d) N;rw[Y]at B;clear E G Y;rw[eH]at hxe;by_cases M:(ev[j]).thread=t
    .have d1:decide ((ev[j]).thread=t)=true:=decide_eq_true M;have d1':decide ((ev[j]).thread≠t)=false:=decide_eq_false λh=>h M
     rw[if_pos M,aal,ach]at B;have e1:IntKind.i64.wrap (((cg ev t j).length:Int)+1)=(((cg ev t j).length+1:Nat):Int):=by rw[abg _ acN];omega
     generalize(cg ev t j).length=n at *;cases O:lu (FN ev j t d)with
     |true=>
      have:lu (FN ev (j+1) t d)=true:=by
       by_cases h:(ev[j]).thread=t/\(n:Int)=d/\((ev[j]).kind=3\/(ev[j]).kind=23)
       .exact D h
       .rw[u h,O]
      rw[this]at B;clear u D
      repeat' (first|refine sy ?_|refine s2 ?_ ?_|intro)
      exact B
     |false=>
      by_cases S:(n:Int)=d
      .have d2:decide ((n:Int)=d)=true:=decide_eq_true S;by_cases p3:(ev[j]).kind=3
       .have d3:decide ((ev[j]).kind=3)=true:=decide_eq_true p3;rw[D ⟨M,S,.inl p3⟩]at B;clear u D
        repeat' (first|refine sy ?_|refine s2 ?_ ?_|intro)
        exact B
       .have d3:decide ((ev[j]).kind=3)=false:=decide_eq_false p3;by_cases p4:(ev[j]).kind=23
        .have d4:decide ((ev[j]).kind=23)=true:=decide_eq_true p4;rw[D ⟨M,S,.inr p4⟩]at B;clear u D
         repeat' (first|refine sy ?_|refine s2 ?_ ?_|intro)
         rw[d4];exact B
        .have d4:decide ((ev[j]).kind=23)=false:=decide_eq_false p4;rw[u λh=>by rcases h.2.2 with h|h;exact p3 h;exact p4 h,O]at B;clear u D
         repeat' (first|refine sy ?_|refine s2 ?_ ?_|intro)
         rw[d4];exact B
      .have d2:decide ((n:Int)=d)=false:=decide_eq_false S;rw[u λh=>S h.2.1,O]at B;clear u D
       repeat' (first|refine sy ?_|refine s2 ?_ ?_|intro)
       exact B
    .have d1:decide ((ev[j]).thread=t)=false:=decide_eq_false M;have d1':decide ((ev[j]).thread≠t)=true:=decide_eq_true M;rw[if_neg M,u λh=>M h.1]at B;clear u D
     repeat' (first|refine sy ?_|refine s2 ?_ ?_|intro)
     exact B
   .subst hj;cases O:lu (FN ev j t d)with
    |true=>
     have G:=G O;clear E
     repeat' (first|refine sy ?_|refine s2 ?_ ?_|intro)
     exact G
    |false=>
     have hz:=E O;clear G
     repeat' (first|refine sy ?_|refine s2 ?_ ?_|intro)
     exact hz _
  clear E G
  repeat' (first|refine sy ?_|refine s2 ?_ ?_|intro)
  exact lp
 .have hz:=λL=>hq true L (iG λd hd=>by
   obtain⟨m,Z,rfl⟩:=abC hd;exact hG m Z acN)
  clear hq hG
  repeat' (first|refine sy ?_|refine s2 ?_ ?_|intro)
  exact hz _
section
theorem X1(o:Option Nat)(l:List bU)(k:Nat)(R:SH)(x:bU)(Y:o=none->l=[])(N:k<=l.length)(hl:k<2^62):
  ac Tryz.prog 118 [af o k,.str x] (ab o 1 (l.map ay)++R) λu K=>∃r:Int,u=.acU r/\K=ab o 1 (l.map ay)++R:=by
 refine lM _ _ _ _ ?_;refine vw ?_;generalize S:ab o 1 (l.map ay)++R=L;generalize M:(λ(u:AV) (K:SH)=>∃r:Int,u=AV.acU r/\K=L)=Q;have B:∀r:Int,Q (.acU r) L:=λr=>by subst M;exact⟨r,rfl,rfl⟩
 clear M;subst S;cases o with
 |none=>
  have:=Y rfl;subst this;obtain rfl:k=0:=by simpa using N
  dsimp only[ab,af,List.nil_append]at *;refine cT 0 (λ_=>True) (λi=>[.emp,.str x,.acU i]) acN trivial rfl (λi E D O _ j G=>by omega) (λi E D _ j=>?_);refine vw ?_
  repeat' (first|refine sy ?_|refine s2 ?_ ?_|intro)
  exact B _
 |some Z=>
  dsimp only[ab,af,List.cons_append,List.nil_append]at *;refine cT k (λ_=>True) (λi=>[.sl Z 0 k,.str x,.acU i]) acN trivial rfl (λi E D O _ j G=>?_) (λi E D _ j=>?_)
  all_goals refine vw ?_
  .have hx:=aj (f:=ay) (l:=l) (i:=i) acN
   repeat' (first|refine sy ?_|refine s2 ?_ ?_|intro)
   all_goals first
    |exact B _
    |exact G trivial
  .repeat' (first|refine sy ?_|refine s2 ?_ ?_|intro)
   exact B _
def bV(bt:Nat)(th le:Int)(se tx at_ lo:Bool)(o:Option Nat)(k:Nat):Blk:=nQ bt (.acU th) (.acU le) (.bool se) (.bool tx) (.bool at_) (.bool lo) (af o k)
def Yu(f:FuncId)(args:List AV)(d:Nat)(good:AV->Prop):Prop:=∀(bm bt:Nat) (t:List UInt8) (a:Nat) (th le:Int) (se tx at_ lo:Bool) (o:Option Nat) (ar:List bU) (k:Nat),t.length<2^63->a<=t.length->(o=none->ar=[])->k<=ar.length->k+d<=900->
 ac Tryz.prog f (.ptr bm 0 0::args) ((bm,bV bt th le se tx at_ lo o k)::(bt,az t a)::ab o 1 (ar.map ay)) λu K=>∃(v:AV) (a':Nat) (th' le':Int) (se' tx' at' lo':Bool) (o':Option Nat) (ar':List bU),u=v/\good v/\a'<=t.length/\(o'=none->ar'=[])/\k<=ar'.length/\K=(bm,bV bt th' le' se' tx' at' lo' o' k)::(bt,az t a')::ab o' 1 (ar'.map ay)
theorem nY{j b2:Nat}{x1 x2:Blk}{o:Option Nat}{n:Nat}{rows:List (List AV)}{L L1 L2 L3:SH}(B:dF j x1 L L1)(h2:dF b2 x2 L1 L2)(u:eG o n rows L2 L3):L.Perm (((j,x1)::(b2,x2)::ab o n rows)++L3):=
 B.perm.trans ((h2.perm.trans ((u.perm).cons _)).cons _)
section
variable {f:FuncId} {args:List AV} {d:Nat} {good:AV->Prop} {bm bt:Nat} {t:List UInt8} {a:Nat} {th le:Int} {se tx at_ lo:Bool} {o:Option Nat} {ar:List bU} {k:Nat} {L L1 L2 L3:SH}
theorem OA{KL:R}(h:Yu f args d good)(h1:dF bm (bV bt th le se tx at_ lo o k) L L1)(h2:dF bt (az t a) L1 L2)(h3:eG o 1 (ar.map ay) L2 L3)(ht:t.length<2^63)(ha:a<=t.length)(ho:o=none->ar=[])(hk:k<=ar.length)(hd:k+d<=900)
  (hq:∀(v:AV) (O:Nat) (B G:Int) (D u M E:Bool) (N:Option Nat) (j:List bU),good v->O<=t.length->(N=none->j=[])->k<=j.length->KL v ((bm,bV bt B G D u M E N k)::(bt,az t O)::(ab N 1 (j.map ay)++L3))):W.callM Tryz.prog f (.ptr bm 0 0::args) L KL:=by
 refine Hm (h bm bt t a th le se tx at_ lo o ar k ht ha ho hk hd) (nY h1 h2 h3) ?_;rintro _ _ ⟨v,O,B,G,D,u,M,E,N,j,rfl,q1,Z,Y,S,rfl⟩;exact hq _ O B G D u M E N j q1 Z Y S
theorem S0{i:Nat}{us:List W.WR}{S:AV->SH->List Nat->Prop}(h:Yu f args d good)(h1:dF bm (bV bt th le se tx at_ lo o k) L L1)(h2:dF bt (az t a) L1 L2)(h3:eG o 1 (ar.map ay) L2 L3)(ht:t.length<2^63)(ha:a<=t.length)(ho:o=none->ar=[])(hk:k<=ar.length)(hd:k+d<=900)
  (hf:∀y∈us,W.free y ⟨i,[],SH.names ((bm,bV bt th le se tx at_ lo o k)::(bt,az t a)::ab o 1 (ar.map ay)),[],true,[]⟩)
  (hq:∀(v:AV) (O:Nat) (B G:Int) (D u M E:Bool) (N:Option Nat) (j:List bU) (ks:List Nat),good v->O<=t.length->(N=none->j=[])->k<=j.length->S v ((bm,bV bt B G D u M E N k)::(bt,az t O)::(ab N 1 (j.map ay)++L3)) ks):W.dcallM Tryz.prog us i f (.ptr bm 0 0::args) L S:=by
 refine⟨_,L3,nY h1 h2 h3,hf,(h bm bt t a th le se tx at_ lo o ar k ht ha ho hk hd).mono ?_⟩;rintro _ _ ⟨v,O,B,G,D,u,M,E,N,j,rfl,q1,q2,Z,Y,rfl⟩;exact hq _ O B G D u M E N j _ q1 q2 Z Y
theorem D6{v v2:AV}{x1 x2:Blk}{rows:List (List AV)}(D:dF bm x1 L L1)(h2:dF bt x2 L1 L2)(B:eG o 1 rows L2 L3)(u:Fz L3 v v2):ax [v] L [v2] ((bm,x1)::(bt,x2)::ab o 1 rows):=by
 refine .drop (K:=L3) ((nY D h2 B).trans aar) rfl λi a G j E=>?_
 match i with
 |0=>cases j;cases E;exact u
 |i+1=>simp at j
end
def dw(d:Nat):Nat:=100*10^d
def S1(d:Nat)(v:AV):Prop:=∃x:ae,v=.agg x.row/\x.wt<=dw d
def D7(n:Nat)(v:AV):Prop:=∃l:List ae,v=.lst (l.map ae.enc)/\ae.wts l<=n
def S2(d:Nat):Prop:=Yu 161 [.acU (d:Int)] d (S1 d)
def S3(d:Nat):Prop:=∀n:Nat,n<=10->Yu 129 [.acU (d:Int),.acU (n:Int)] d (D7 (n*dw d))
def X2(d:Nat):Prop:=∀s:bU,Yu 191 [.str s,.acU (d:Int)] (d+1) (D7 (2*dw d))
theorem D8(l:List ae)(x:ae):ae.wts (l++[x])=ae.wts l+x.wt:=by
 induction l with
 |nil=>simp[ae.wts]
 |cons y l j=>simp only[abX,ae.wts,j];omega
def eY(d:Nat):Prop:=∀n:Nat,n<=10->∀(bm bt:Nat) (t:List UInt8) (a:Nat) (th le:Int) (se tx at_ lo:Bool) (o:Option Nat) (ar:List bU) (k:Nat),t.length<2^63->a<=t.length->(o=none->ar=[])->k<=ar.length->k+d<=900->
 ac Tryz.prog 129 [.ptr bm 0 0,.acU (d:Int),.acU (n:Int)] ((bm,bV bt th le se tx at_ lo o k)::(bt,az t a)::ab o 1 (ar.map ay)) λu K=>∃(a':Nat) (th' le':Int) (se' tx' at' lo':Bool) (o':Option Nat) (ar':List bU) (l:List ae) (ol:Option Nat),u=af ol l.length/\(ol=none->l=[])/\ae.wts l<=n*dw d/\a'<=t.length/\(o'=none->ar'=[])/\k<=ar'.length/\K=(bm,bV bt th' le' se' tx' at' lo' o' k)::(bt,az t a')::(ab o' 1 (ar'.map ay)++ab ol 11 (l.map ae.enc))
theorem IK(d:Nat)(hS:S2 d):eY d:=by
  intro n hn bm bt t a th le se tx at_ lo o ar k ht ha ho hk hd;refine sS _ _ _ _ _ ?_;refine vw ?_;generalize hQ:(λ(u:AV) (K:SH)=>∃(a':Nat) (G O:Int) (M E S N:Bool) (Y:Option Nat) (j:List bU) (l:List ae) (B:Option Nat),u=af B l.length/\(B=none->l=[])/\ae.wts l<=n*dw d/\a'<=t.length/\(Y=none->j=[])/\k<=j.length/\K=(bm,bV bt G O M E S N Y k)::(bt,az t a')::(ab Y 1 (j.map ay)++ab B 11 (l.map ae.enc)))=Q;have hq:∀(l:List ae) (B:Option Nat) (a':Nat) (G O:Int) (M E S N:Bool) (Y:Option Nat) (j:List bU),(B=none->l=[])->ae.wts l<=n*dw d->a'<=t.length->(Y=none->j=[])->k<=j.length->Q (af B l.length) ((bm,bV bt G O M E S N Y k)::(bt,az t a')::(ab Y 1 (j.map ay)++ab B 11 (l.map ae.enc))):=λl B a' G O M E S N Y j h4 h5 h6 h7 h8=>by subst hQ;exact⟨a',G,O,M,E,S,N,Y,j,l,B,rfl,h4,h5,h6,h7,h8,rfl⟩
  clear hQ;refine aL (β:=Nat×Int×Int×Bool×Bool×Bool×Bool×Option Nat×List bU×Option Nat×List ae) n (λi ⟨a,th,le,se,tx,at_,lo,o,ar,B,xs⟩=>([.ptr bm 0 0,.acU d,.acU n,af B i,.acU i],(bm,bV bt th le se tx at_ lo o k)::(bt,az t a)::(ab o 1 (ar.map ay)++ab B 11 (xs.map ae.enc))))
    (λi ⟨a,th,le,se,tx,at_,lo,o,ar,B,xs⟩=>a<=t.length/\(o=none->ar=[])/\k<=ar.length/\(B=none->xs=[])/\xs.length=i/\ae.wts xs<=i*dw d) ⟨a,th,le,se,tx,at_,lo,o,ar,none,[]⟩ ⟨ha,ho,hk,λ_=>rfl,rfl,by simp[ae.wts]⟩ ?_ ?_
  · exact ax.vals (.cons (.refl _) (.cons (.refl _) (.cons (.refl _) (.cons .nile (.cons (.refl _) .nil))))) |> λh=>by simpa[af,ab]using h
  · rintro i ⟨a,th,le,se,tx,at_,lo,o,ar,B,xs⟩ hi ⟨ha,ho,hk,hol,hxl,hxw⟩
    dsimp only at ha ho hk hol hxl hxw ⊢;refine vw ?_;generalize hnx:(λ(vs':List AV) (L':SH)=>_)=nx;have hn:∀(a:Nat) (th le:Int) (se tx at_ lo:Bool) (o:Option Nat) (ar:List bU) (nb:Nat) (x:ae) (L':SH),i<n->cO L' ((bm,bV bt th le se tx at_ lo o k)::(bt,az t a)::(ab o 1 (ar.map ay)++ab (some nb) 11 ((xs++[x]).map ae.enc)))->a<=t.length->(o=none->ar=[])->k<=ar.length->x.wt<=dw d->nx [.ptr bm 0 0,.acU d,.acU n,.sl nb 0 (i+1),.acU ((i+1:Nat):Int)] L':=by intro a th le se tx at_ lo o ar nb x L' q0 q1 q2 q3 q4 q5;subst hnx;refine⟨i+1,⟨a,th,le,se,tx,at_,lo,o,ar,some nb,xs++[x]⟩,acN,acN,⟨q2,q3,q4,nofun,acS,?_⟩,ax.pick q1 rfl⟩;dsimp only;rw[D8,Nat.add_mul,Nat.one_mul];omega
    clear hnx;subst hxl;have D:∀(L:SH) (v:AV),L=(bm,bV bt th le se tx at_ lo o k)::(bt,az t a)::(ab o 1 (ar.map ay)++ab B 11 (xs.map ae.enc))->v=af B xs.length->Q v L:=by rintro _ _ rfl rfl;exact hq xs B a th le se tx at_ lo o ar hol (abe hxw (abl _ hi)) ha ho hk
    rcases LE xs.length n with g|g
    · have hd1:=aS g
      have hi1:=av g acN;unfold bV nQ at D ⊢
      repeat' (first|refine sx ?_|((with_reducible refine aN 161 ?_);(refine OA hS rp rp rp ht acO acO acO hd ?_;rintro _ a_ th_ le_ se_ tx_ at_ lo_ o_ ar_ ⟨x_,rfl,hx_⟩ ha_ ho_ hk_))|refine aM rp rp acQ (λe=>by first|simp[hol e]) acP acQ acS acS acP (λZ hnb_=>?_)|refine sb λZ hnb_=>?_|refine s2 ?_ ?_|intro)
      all_goals first
        |exact D _ _ rfl rfl
        | (have e_ : ab (some Z) 11 ((xs ++ [x_]).map ae.enc) = [(Z, ⟨11, xs.map ae.enc ++ [x_.row]⟩)] := by rw [ab, ST, aai, abF, ae.enc_row]
           refine hn a_ th_ le_ se_ tx_ at_ lo_ o_ ar_ Z x_ _ g ?_ ha_ ho_ hk_ hx_;rw[e_];exact .one (.there _ (.there _ (.here _))) (.one (.there _ (.there _ (.here _))) (.slot (.there _ (.there _ (.here _))) (.one (.here _) (.nil _)))))
    · have hd1:=aW g
      unfold bV nQ at D ⊢
      repeat' (first|refine sy ?_|refine s2 ?_ ?_|intro)
      exact D _ _ rfl rfl
theorem IL(d:Nat)(hS:eY d):S3 d:=by intro n hn bm bt t a th le se tx at_ lo o ar k Y ha Z hk hd;refine ac.fz ((hS n hn bm bt t a th le se tx at_ lo o ar k Y ha Z hk hd).mono ?_);rintro _ _ ⟨a',B,G,D,u,N,E,S,O,l,ol,rfl,M,j,h3,h4,h5,rfl⟩;exact⟨_,_,D6 (.here _) (.here _) (.here _) (Fz.slot (f:=ae.enc) (g:=ae.enc) rfl (λe=>by simp[M e]) acR (λ_ _=>rfl) λy _ q a a2 M j=>by rw[M]at j;cases j;exact .refl _),_,a',B,G,D,u,N,E,S,O,rfl,⟨l,rfl,j⟩,h3,h4,h5,rfl⟩
theorem Vf{r:Nat}(h:r<100):IntKind.i64.wrap (1+(r:Int))=((1+r:Nat):Int):=by rw[abg _ acN];omega
theorem D7.le{n m:Nat}{v:AV}(h:D7 n v)(u:n<=m):D7 m v:=by obtain⟨l,j,B⟩:=h;exact⟨l,j,acN⟩
theorem Vg(d:Nat)(hS:S3 d):X2 d:=by
 intro s bm bt t a th le se tx at_ lo o ar k ht ha ho hk hd;refine ac.fz (sR _ _ _ _ _ ?_);refine vw ?_;generalize hQ:(λ(v:AV) (L:SH)=>∃v2 L2,ax [v] L [v2] L2/\∃(v:AV) (O:Nat) (B G:Int) (D u M E:Bool) (N:Option Nat) (j:List bU),v2=v/\D7 (2*dw d) v/\O<=t.length/\(N=none->j=[])/\k<=j.length/\L2=(bm,bV bt B G D u M E N k)::(bt,az t O)::ab N 1 (j.map ay))=Q;have hq:∀(v:AV) (O:Nat) (B G:Int) (D u M E:Bool) (N:Option Nat) (j:List bU) (L:SH),D7 (2*dw d) v->cO L ((bm,bV bt B G D u M E N k)::(bt,az t O)::ab N 1 (j.map ay))->O<=t.length->(N=none->j=[])->k<=j.length->Q v L:=λv O B G D u M E N j L h1 h2 h6 h7 h8=>by subst hQ;exact⟨_,_,ax.pick h2 rfl,_,O,B,G,D,u,M,E,N,j,rfl,h1,h6,h7,h8,rfl⟩
 clear hQ;unfold bV nQ
 repeat' (first|refine kH (ur ?_ (Vf acN))|refine sx ?_|refine KH (r:=[.str s]) rp acP rp (by simpa using hk) (λe=>by simp[ho e]) acN acN acP (λS Y=>?_)|((with_reducible refine aN 92 ?_);(refine ij ht acO rp (λr_ a_ hr_ ha_=>?_)))|refine sb λS Y=>?_|refine s2 ?_ ?_|intro)
 have er:List.take k (ar.map ay)++[[.str s]]=(ar.take k++[s]).map ay:=by rw[ST,acD];rfl
 rw[er];refine OA (o:=some S) (ar:=ar.take k++[s]) (k:=k+1) (hS (1+r_) acN) rp rp (.here _) ht ha_ nofun (by simp[abV hk]) acN ?_;intro v a2 th2 le2 se2 Z at2 lo2 o2 ar2 hg ha2 ho2 hk2;rcases o2 with _|b2
 .exfalso;have:=ho2 rfl;subst this;simp at hk2
 unfold bV nQ;refine vw ?_;dsimp only[ab,af,List.cons_append,List.nil_append];have es:IntKind.i64.wrap (((k+1:Nat):Int)-1)=(k:Int):=by rw[IntWalk.i64_in _ acN];omega
 repeat' (first|refine sy ?_|refine yG ?_ (acC _) rp rfl|refine s2 ?_ ?_|intro)
 exact hq v a2 th2 le2 se2 Z at2 lo2 (some b2) ar2 _ (hg.le (abl _ acN)) (.one (.here _) (.one (.here _) (.one (.here _) (.nil _)))) ha2 nofun acN
end
def P9(b:UInt8):aD:=⟨(b.toNat:Int).tmod 4,((b.toNat:Int).tdiv 4).tmod 5-1⟩
def Yg(b:UInt8):IntKind.i64.wrap (((b.toNat:Int).tdiv 4).tmod 5-1)=((b.toNat:Int).tdiv 4).tmod 5-1:=by
 have h:(b.toNat:Int)<256:=by have:=b.toNat_lt;omega
 have j:((b.toNat:Int).tdiv 4).tmod 5=((b.toNat:Int) / 4) % 5:=by rw[Int.tdiv_eq_ediv_of_nonneg acN,Int.tmod_eq_emod_of_nonneg acN]
 rw[abg _ (by rw[j];omega)]
def Lt(t:List UInt8)(ht:t.length<2^20):aq Tryz.prog 66 [.lst (t.map aY)] (.lst ((t.map P9).map aD.enc)):=by
 refine OY λQ S=>AR _ _ _ ?_
 refine vw ?_;refine aL t.length (λk (o:Option Nat)=>([.lst (t.map aY),af o k,.acU k],ab o 2 (((t.take k).map P9).map aD.enc))) (λk o=>o=none->k=0) none (λ_=>rfl) (ax.drop (K:=[]) (.refl _) rfl (fy.at_ (.cons (.refl _) (.cons .nile (.cons (.refl _) .nil)))).2) ?_;intro k o hk Y;dsimp only;refine vw ?_;rcases Nat.lt_or_ge k t.length with u|u
 .have hd:=aS u;have hx:=aj (f:=aY) u;have M:t.take (k+1)=t.take k++[t[k]]:=Fn u;have N:o=none->((t.take k).map P9).map aD.enc=[]:=λe=>by rw[Y e];rfl
  have hl:((t.take k).map P9).length=k:=by simp;omega
  generalize t[k]=b at *;have hb:(b.toNat:Int)<256:=by have:=b.toNat_lt;omega
  have w1:IntKind.i64.wrap (b.toNat:Int)=(b.toNat:Int):=abg _ acN;have w2:=Yg b;have fin:∀(E:Nat) (L:SH),cO L (ab (some E) 2 (((t.take k).map P9).map aD.enc++[(P9 b).enc]))->∃(j:Nat) (G:Option Nat),k<j/\j<=t.length/\(G=none->j=0)/\ax [.lst (t.map aY),.sl E 0 (k+1),.acU (IntKind.i64.wrap ((k:Int)+1))] L [.lst (t.map aY),af G j,.acU j] (ab G 2 (((t.take j).map P9).map aD.enc)):=by intro E L hL;refine⟨k+1,some E,acN,acN,nofun,?_⟩;rw[av u acN];exact ax.pickE hL rfl (by rw[M];simp)
  rw[show(P9 b).enc=[.acU ((b.toNat:Int).tmod 4),.acU (((b.toNat:Int).tdiv 4).tmod 5-1)]from rfl]at fin;rw[show aY b=[.int .u8 (b.toNat:Int)]from rfl]at hx;clear S;generalize hX:((t.take k).map P9).map aD.enc=X at *;have hXl:X.length=k:=by rw[<-hX];simp;omega
  repeat' (first|refine sx ?_|refine aM rp rp acN N acP acQ acS acS acP (λB D=>?_)|refine sb λB D=>?_|refine s2 ?_ ?_|intro)
  have Z:IntKind.i64.wrap ((b.toNat:Int).tdiv 4)=(b.toNat:Int).tdiv 4:=by rw[Int.tdiv_eq_ediv_of_nonneg acN];exact abg _ acN
  simp only[w1,Z,w2];exact fin B _ rp
 .have hd:=aW u;have O:k=t.length:=by omega
  subst O;rw[aaT (Fd _)];have fin:∀L,(∀q∈ab o 2 ((t.map P9).map aD.enc),q∈L)->Q (af o t.length) L:=λL hm=>by
   refine S _ _ ?_;cases o with
   |none=>have:t=[]:=abU.1 (Y rfl);subst this;exact .emp
   |some b=>exact Fz.sls (hm _ (.head _)) rfl acR acQ
  repeat' (first|refine sy ?_|refine s2 ?_ ?_|intro)
  exact fin _ λq h=>h
section
open Go.ChangeShapes Go.WideShapes Go.ChangeAt Go.RowKit
def Qc(l:List Int):List UInt8:=l.map λx=>UInt8.ofNat x.toNat
theorem ma{x:Int}(h:(Lit.int .u8 x).wf=true):0<=x/\x<256:=by
 simp only[Lit.wf,aas,decide_eq_true_eq]at h;have u:IntKind.u8.min=0:=by decide
 have j:IntKind.u8.max=255:=by decide
 omega
theorem jo{l:List Int}(h:∀x∈l,0<=x/\x<256):(Qc l).map aY=l.map Qk:=by
 unfold Qc;rw[List.map_map];refine List.map_congr_left λx j=>?_
 have:=h x j;show [AV.int .u8 (((UInt8.ofNat x.toNat).toNat:Nat):Int)]=[AV.int .u8 x];rw[UInt8.toNat_ofNat_of_lt' (by show x.toNat<256;omega),abD this.1]
section
variable {H:Type} {enc:TypeId×Value->H} {w:World} {base:Nat} {spare:Nat->Bool} {held:Bool}
theorem mG:Opens H enc Tryz.prog w base spare held 22 (Wi (λl:List Int=>[.lst (l.map Qk)]) λl=>l.length<=maxLen/\∀x∈l,(Lit.int .u8 x).wf=true):=
 Ed (size:=1) Tryz.underlying22 (by kernel_rfl) acR (zj (by kernel_rfl))
end
end
section
open Go.ChangeShapes Go.WideShapes Go.ChangeAt Go.RowKit
structure jW where
 p:List Int
 u:List Int
 sc:List Int
 z:Int
 y:Int
def jW.enc(v:jW):List AV:=[.lst (v.p.map Qk),.lst (v.u.map Qk),.lst (v.sc.map Qk),.int .u8 v.z,.int .u8 v.y]
structure jW.Ok(v:jW):Prop where
 p:v.p.length<=maxLen/\∀x∈v.p,(Lit.int .u8 x).wf=true
 u:v.u.length<=maxLen/\∀x∈v.u,(Lit.int .u8 x).wf=true
 sc:v.sc.length<=maxLen/\∀x∈v.sc,(Lit.int .u8 x).wf=true
 z:(Lit.int .u8 v.z).wf=true
 y:(Lit.int .u8 v.y).wf=true
section
variable {H:Type} {enc:TypeId×Value->H} {w:World} {base:Nat} {spare:Nat->Bool} {held:Bool}
theorem mb:Opens H enc Tryz.prog w base spare held 24 (Wi jW.enc jW.Ok):=λB O x h=>by
 obtain⟨hl,j⟩:=Lv [22,22,22,5,5] Tryz.underlying24 h rfl (by kernel_rfl) (by kernel_rfl);obtain⟨c0,m0,y0,N,k0⟩:=j 0 _ rfl;obtain⟨d0,g0,r0⟩:=mG _ _ _ k0;obtain⟨c1,m1,y1,M,k1⟩:=j 1 _ rfl;obtain⟨d1,g1,r1⟩:=mG _ _ _ k1;obtain⟨c2,m2,y2,G,k2⟩:=j 2 _ rfl;obtain⟨d2,g2,Z⟩:=mG _ _ _ k2;obtain⟨c3,m3,y3,E,k3⟩:=j 3 _ rfl;obtain⟨d3,g3,Y⟩:=zj (k:=.u8) (by kernel_rfl) _ _ _ k3;obtain⟨c4,m4,y4,D,k4⟩:=j 4 _ rfl;obtain⟨d4,g4,S⟩:=zj (k:=.u8) (by kernel_rfl) _ _ _ k4;have u:O=[c0,c1,c2,c3,c4]:=by
  match O,hl with
  |[a0,a1,a2,a3,a4],_=>simp only[List.getElem?_cons_zero,acj,aaS]at N M G E D;rw[N,M,G,E,D]
 subst u;exact⟨⟨d0,d1,d2,d3,d4⟩,⟨g0,g1,g2,g3,g4⟩,(bL r0 (bL r1 (bL Z (bL Y (bL S hD)))))⟩
end
theorem jz{v:jW}(h:v.Ok):∃(p u B:List UInt8) (z y:Nat),v.enc=[.lst (p.map aY),.lst (u.map aY),.lst (B.map aY),.int .u8 (z:Int),.int .u8 (y:Int)]/\p.length<2^63/\z<256/\y<256:=by
 have G:maxLen<2^63:=by decide
 have D:=ma h.z;have E:=ma h.y;refine⟨Qc v.p,Qc v.u,Qc v.sc,v.z.toNat,v.y.toNat,?_,?_,acN,acN⟩
 .unfold jW.enc;rw[jo λx j=>ma (h.p.2 x j),jo λx j=>ma (h.u.2 x j),jo λx j=>ma (h.sc.2 x j),abD D.1,abD E.1]
 .have:=h.p.1;simp only[Qc,acl];omega
end
