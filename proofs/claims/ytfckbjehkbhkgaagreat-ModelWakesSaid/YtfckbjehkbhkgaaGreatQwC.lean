/- part -/
import Derived.Test.YtfckbjehkbhkgaaGreatQwB
set_option linter.all false
set_option maxRecDepth 100000
set_option maxHeartbeats 0
namespace Go.Proofs.YtfckbjehkbhkgaaGreat.Am
section
def az(l:List UInt8)(at_:Nat):Blk:=⟨2,[[.lst (l.map aY),.acU (at_:Int)]]⟩
theorem Oo(bt:Nat)(l:List UInt8)(a:Nat)(n:Int)(hl:l.length<2^63)(E:a<=l.length):
  ac Tryz.prog 92 [.ptr bt 0 0,.acU n] [(bt,az l a)] λu K=>∃r j:Nat,u=.acU (r:Int)/\((r:Int)<n\/r=0)/\K=[(bt,az l j)]/\j<=l.length:=by
 unfold az;refine lX _ _ _ _ ?_;refine vw ?_;generalize G:(λ(u:AV) (K:SH)=>∃r j:Nat,u=AV.acU (r:Int)/\((r:Int)<n\/r=0)/\K=[(bt,(⟨2,[[.lst (l.map aY),.acU (j:Int)]]⟩:Blk))]/\j<=l.length)=Q;have B:∀(r j:Nat),((r:Int)<n\/r=0)->j<=l.length->Q (.acU (r:Int)) [(bt,⟨2,[[.lst (l.map aY),.acU (j:Int)]]⟩)]:=λr j S O=>by subst G;exact⟨r,j,rfl,S,rfl,O⟩
 clear G;rcases LE a l.length with g|g
 .have d1:decide ((l.length:Int)<=(a:Int))=false:=by simp;omega
  have hx:=aj (f:=aY) g;have e1:IntKind.i64.wrap ((a:Int)+1)=((a+1:Nat):Int):=by rw[abg _ acN];omega
  have e2:IntKind.i64.wrap (((a+1:Nat):Int)-1)=(a:Int):=by rw[abg _ acN];omega
  by_cases D:n<1
  .have Z:decide (n<1)=true:=by simpa using D
   repeat' (first|refine sy ?_|refine s2 ?_ ?_|intro)
   exact B 0 a (.inr rfl) E
  .have Z:decide (n<1)=false:=by simpa using D
   have N:n≠0:=by omega
   repeat' (first|refine sy ?_|refine s2 ?_ ?_|intro)
   have hb:(l[a].toNat:Int)<256:=by have:=l[a].toNat_lt;omega
   have Y:IntKind.i64.wrap (l[a].toNat:Int)=(l[a].toNat:Int):=by rw[abg _ acN]
   rw[Y];have M:(l[a].toNat:Int).tmod n=(((l[a].toNat:Int).tmod n).toNat:Nat):=by have:=Int.tmod_nonneg n (Int.natCast_nonneg l[a].toNat);omega
   rw[M];exact B _ (a+1) (.inl (by rw[<-M];exact Int.tmod_lt_of_pos _ acN)) acN
 .have d1:decide ((l.length:Int)<=(a:Int))=true:=by simp;omega
  repeat' (first|refine sy ?_|refine s2 ?_ ?_|intro)
  exact B 0 a (.inr rfl) E
def Iy(n:Int):aB:=.mk 1 n [] []
def tU(s:bU):aB:=.mk 2 0 s []
theorem Iz(n:Int):aq Tryz.prog 131 [.acU n] (.agg (Iy n).row):=by
 refine ac.fz (KX _ _ _ ?_);refine vw ?_
 repeat' (first|refine sy ?_|refine s2 ?_ ?_|intro)
 exact⟨_,[],ax.all (Fz.aggs (.cons (.refl _) (.cons (.refl _) (.cons (.refl _) (.cons .nils .nil))))),rfl,rfl⟩
theorem xl(s:bU):aq Tryz.prog 189 [.str s] (.agg (tU s).row):=by
 refine ac.fz (Iv _ _ _ ?_);refine vw ?_
 repeat' (first|refine sy ?_|refine s2 ?_ ?_|intro)
 exact⟨_,[],ax.all (Fz.aggs (.cons (.refl _) (.cons (.refl _) (.cons (.refl _) (.cons .nils .nil))))),rfl,rfl⟩
def PJ(op:Int)(a b:aB):aB:=.mk op 0 [] [a,b]
theorem DF(op:Int)(a b:aB):aq Tryz.prog 188 [.acU op,.agg a.row,.agg b.row] (.agg (PJ op a b).row):=by
 refine ac.fz (DC _ _ _ _ _ ?_);refine vw ?_
 repeat' (first|refine sy ?_|refine s2 ?_ ?_|intro)
 exact⟨_,[],ax.all (Fz.aggs (.cons (.refl _) (.cons (.refl _) (.cons (.refl _) (.cons (Fz.sls (l:=[a,b]) (f:=aB.enc) (size:=4) (rows:=[a.row,b.row]) (.head _) (by simp[aB.enc_row]) acR rfl) .nil))))),rfl,rfl⟩
def k9:aB:=.mk 0 0 [] []
def dH(s:bU)(e:aB):ae:=.mk 1 0 s [] [] e [] []
theorem dM(s:bU)(e:aB):aq Tryz.prog 130 [.str s,.agg e.row] (.agg (dH s e).row):=by
 refine ac.fz (DD _ _ _ _ ?_);refine vw ?_
 repeat' (first|refine sy ?_|refine s2 ?_ ?_|intro)
 exact⟨_,[],ax.all (Fz.aggs (.cons (.refl _) (.cons (.refl _) (.cons (.refl _) (.cons (.refl _) (.cons .nils (.cons (.refl _) (.cons (.refl _) (.cons (.refl _) (.cons (.refl _) (.cons .nils (.cons .nils .nil)))))))))))),rfl,rfl⟩
def cj:List aZ:=[⟨1,0,[120],0,0,[]⟩,⟨1,0,[121],0,1,[]⟩,⟨2,0,[118],0,0,[]⟩,⟨1,0,[113],2,0,[]⟩,⟨3,0,[109],0,0,[]⟩,⟨3,0,[110],0,0,[]⟩,⟨4,0,[114],0,0,[]⟩,⟨5,0,[99],0,0,[109]⟩,⟨6,0,[102],0,0,[]⟩]
theorem xm:aq Tryz.prog 128 [] (.lst (cj.map aZ.enc)):=by
 refine ac.fz (FF _ _ ?_);refine vw ?_
 repeat' (first|refine sy ?_|refine s2 ?_ ?_|intro)
 exact⟨_,[],ax.all (Fz.sls (l:=cj) (f:=aZ.enc) (size:=6) (.head _) rfl acR rfl),rfl,rfl⟩
theorem wz:(∀j n,BP 0 j n=0)/\(∀j n,BP 1 j n=0)/\(∀j n,BP 2 j n=0)/\BP 3 [113] (0+1)=0/\(∀op,BP op [] (0+1+1)=z3 op)/\z0 1=0/\z0 2=0/\z0 3=0/\z0 6=0/\z0 13=0/\z3 6=0/\z3 13=0/\
  (∀n,zv 1 n=z0 n)/\(∀n,zv 2 n=z0 n)/\(∀n,zv 3 n=z0 n)/\(∀n,zv 14 n=z0 n)/\(∀n,zv 4 n=0)/\(∀n,zv 5 n=0)/\(∀n,zv 6 n=0)/\(∀n,zv 7 n=0)/\(∀n,zv 8 n=0)/\(∀n,zv 9 n=0)/\(∀n,zv 12 n=0)/\(∀n,zv 13 n=0)/\(∀n,zv 15 n=0)/\
  (∀j,zi j 0=0)/\zi [113] (0+1)=0/\(∀op n j l,aB.wt (.mk op n j l)=1+j.length+BP op j l.length+aB.wts l)/\aB.wts []=0/\(∀x l,aB.wts (x::l)=x.wt+z0 x.op+aB.wts l)/\
  (∀op line j arg D e u B,ae.wt (.mk op line j arg D e u B)=1+j.length+arg.length+aB.wts D+e.wt+zv op e.op+zi j D.length+ae.wts u+ae.wts B)/\ae.wts []=0/\(∀x l,ae.wts (x::l)=x.wt+ae.wts l)/\
  (∀a b c l,aB.op (.mk a b c l)=a)/\(∀n,Iy n=.mk 1 n [] [])/\(∀s,tU s=.mk 2 0 s [])/\(∀op a b,PJ op a b=.mk op 0 [] [a,b])/\k9=.mk 0 0 [] []/\(∀s e,dH s e=.mk 1 0 s [] [] e [] []):=by
 refine⟨?_,?_,?_,?_,?_,?_,?_,?_,?_,?_,?_,?_,?_,?_,?_,?_,?_,?_,?_,?_,?_,?_,?_,?_,?_,?_,?_,?_,?_,?_,?_,?_,?_,?_,?_,?_,?_,?_,?_⟩
 all_goals first
  |rfl
  |(intros;rfl)
  |(intros;simp[BP,z3,zi])
theorem Yt{P:Prop}(h:P:=by simp only[wz,abi,abq];omega):P:=h
theorem ZW{r:Nat}(h:(r:Int)<6\/r=0):z0 (([6,7,8,11,13,17]:List Int).getD r 0)=0/\z3 (([6,7,8,11,13,17]:List Int).getD r 0)=0:=by
 have h:r<6:=by omega
 match r,h with
 |0,_|1,_|2,_|3,_|4,_|5,_=>exact⟨rfl,rfl⟩
structure MkS where
 a:Nat
 thread:Int
 left:Int
 set:Bool
 tx:Bool
 atomic:Bool
 loop:Bool
 o:Option Nat
 ar:List bU
 k:Nat
def MkS.row(bt:Nat)(s:MkS):List AV:=[.ptr bt 0 0,.acU s.thread,.acU s.left,.bool s.set,.bool s.tx,.bool s.atomic,.bool s.loop,af s.o s.k]
theorem gv{l:List bU}{b r:Nat}{rows:List (List AV)}{L:SH}{K:AV->Prop}(h:K (.str (l.getD r [])))(B:(b,(⟨1,rows⟩:Blk))∈L)(u:rows=l.map ay)(j:r<l.length):W.load false 1 (.ptr b r 0) L K:=by subst u;refine dR B (aj j) acP ?_;simpa[List.getD,j]using h
theorem DG{l:List Int}{b r:Nat}{rows:List (List AV)}{L:SH}{K:AV->Prop}(h:K (.acU (l.getD r 0)))(B:(b,(⟨1,rows⟩:Blk))∈L)(u:rows=l.map aa)(j:r<l.length):W.load false 1 (.ptr b r 0) L K:=by subst u;refine dR B (aj j) acP ?_;simpa[List.getD,j]using h
theorem ij{bt:Nat}{t:List UInt8}{a:Nat}{n:Int}{L u:SH}{KL:R}(ht:t.length<2^63)(E:a<=t.length)(D:dF bt (az t a) L u)(B:∀r j:Nat,((r:Int)<n\/r=0)->j<=t.length->KL (.acU (r:Int)) ((bt,az t j)::u)):W.callM Tryz.prog 92 [.ptr bt 0 0,.acU n] L KL:=
 cQ (Oo bt t a n ht E) D (by rintro _ _ ⟨r,j,rfl,M,rfl,G⟩;exact B r j M G)
theorem Bc{bt:Nat}{t:List UInt8}{a i:Nat}{n:Int}{us:List W.WR}{L u:SH}{B:AV->SH->List Nat->Prop}(ht:t.length<2^63)(M:a<=t.length)(G:dF bt (az t a) L u)(D:∀r j:Nat,((r:Int)<n\/r=0)->j<=t.length->B (.acU (r:Int)) ((bt,az t j)::u) [bt])(E:∀y∈us,W.free y ⟨i,[],[bt],[],true,[]⟩:=by(simp only[rm,rc,rz,W.free,co,↓reduceIte,Nat.reduceEqDiff,ai,dV,aco,abz,abA,not_false_eq_true,implies_true,and_true,true_and,and_self,abj,reduceCtorEq,forall_const,false_implies,aag,forall_eq,aby,abK,aaj,or_false,false_or,forall_eq_or_imp,not_or])<;>(repeat' constructor)<;>first|assumption|(exact Ne.symm acO)|(intro S;subst S;simp[SH.names]at *;done)):W.dcallM Tryz.prog us i 92 [.ptr bt 0 0,.acU n] L B:=
 ee (Oo bt t a n ht M) G E (by rintro _ _ ⟨r,j,rfl,O,rfl,N⟩;exact D r j O N)
def nQ(bt:Nat)(v1 v2 v3 v4 v5 v6 v7:AV):Blk:=⟨8,[[.ptr bt 0 0,v1,v2,v3,v4,v5,v6,v7]]⟩
def K3(d:Nat):Prop:=∀(bm bt:Nat) (t:List UInt8) (a:Nat) (v1 v2 v3 v4 v5 v6 v7:AV),t.length<2^63->a<=t.length->
  ac Tryz.prog 187 [.ptr bm 0 0,.acU (d:Int)] [(bm,nQ bt v1 v2 v3 v4 v5 v6 v7),(bt,az t a)] λu K=>∃(x:aB) (a':Nat),u=.agg x.row/\x.wt+z0 x.op<=4^(d+1)/\a'<=t.length/\K=[(bm,nQ bt v1 v2 v3 v4 v5 v6 v7),(bt,az t a')]
section
variable {bm bt:Nat} {t:List UInt8} {a d:Nat} {dd:Int} {v1 v2 v3 v4 v5 v6 v7:AV} {L L1 L2:SH}
theorem dN{KL:R}(G:K3 d)(u:dd=(d:Int))(ht:t.length<2^63)(E:a<=t.length)(B:dF bm (nQ bt v1 v2 v3 v4 v5 v6 v7) L L1)(h2:dF bt (az t a) L1 L2)(D:∀(x:aB) (j:Nat),x.wt+z0 x.op<=4^(d+1)->j<=t.length->KL (.agg x.row) ((bm,nQ bt v1 v2 v3 v4 v5 v6 v7)::(bt,az t j)::L2)):
  W.callM Tryz.prog 187 [.ptr bm 0 0,.acU dd] L KL:=by
 subst u;exact JC (G bm bt t a v1 v2 v3 v4 v5 v6 v7 ht E) B h2 (by rintro _ _ ⟨x,j,rfl,B,h2,rfl⟩;exact D x j B h2)
theorem IA{us:List W.WR}{i:Nat}{D:AV->SH->List Nat->Prop}(N:K3 d)(u:dd=(d:Int))(ht:t.length<2^63)(M:a<=t.length)(B:dF bm (nQ bt v1 v2 v3 v4 v5 v6 v7) L L1)(h2:dF bt (az t a) L1 L2)(E:∀(x:aB) (j:Nat),x.wt+z0 x.op<=4^(d+1)->j<=t.length->D (.agg x.row) ((bm,nQ bt v1 v2 v3 v4 v5 v6 v7)::(bt,az t j)::L2) [bm,bt])
  (G:∀y∈us,W.free y ⟨i,[],[bm,bt],[],true,[]⟩:=by(simp only[rm,rc,rz,W.free,co,↓reduceIte,Nat.reduceEqDiff,ai,dV,aco,abz,abA,not_false_eq_true,implies_true,and_true,true_and,and_self,abj,reduceCtorEq,forall_const,false_implies,aag,forall_eq,aby,abK,aaj,or_false,false_or,forall_eq_or_imp,not_or])<;>(repeat' constructor)<;>first|assumption|(exact Ne.symm acO)|(intro O;subst O;simp[SH.names]at *;done)):W.dcallM Tryz.prog us i 187 [.ptr bm 0 0,.acU dd] L D:=by
 subst u;exact OV (N bm bt t a v1 v2 v3 v4 v5 v6 v7 ht M) B h2 G (by rintro _ _ ⟨x,j,rfl,B,h2,rfl⟩;exact E x j B h2)
end
theorem Sr(r:Nat):(([[97],[98],[120],[121],[118],[120],[121]]:List bU).getD r []).length<=1:=by
 rcases LE r 7 with h|h
 .match r,h with
  |0,_|1,_|2,_|3,_|4,_|5,_|6,_=>exact Fd _
 .rw[List.getD,aah (by simpa using h)];exact abt _
theorem Oq:K3 0:=by
  intro bm bt t a v1 v2 v3 v4 v5 v6 v7 G ha;refine ac.fz (kW _ _ _ _ ?_);refine vw ?_;generalize D:(λ(v:AV) (L:SH)=>∃j L2,ax [v] L [j] L2/\∃(x:aB) (u:Nat),j=AV.agg x.row/\x.wt+z0 x.op<=4^(0+1)/\u<=t.length/\L2=[(bm,nQ bt v1 v2 v3 v4 v5 v6 v7),(bt,az t u)])=Q;have B:∀(v:AV) (x:aB) (u:Nat) (L L1 L2:SH),dF bm (nQ bt v1 v2 v3 v4 v5 v6 v7) L L1->dF bt (az t u) L1 L2->Fz L2 v (.agg x.row)->x.wt+z0 x.op<=4->u<=t.length->Q v L:=λv x u L L1 L2 h1 Z Y S O=>by subst D;exact⟨_,_,ax.keep2 h1 Z Y,x,u,rfl,S,O,rfl⟩
  clear D;unfold nQ
  repeat' (first|refine sy ?_|((with_reducible refine aN 92 ?_);(refine ij G acO rp (λE a_ M N=>?_)))|(refine pf 131 ?_;refine pm (Iz _) ?_)|(refine pf 189 ?_;refine pm (xl _) ?_)|refine gv (l:=[[97],[98],[120],[121],[118],[120],[121]]) ?_ mm rfl acS|refine cN ?_ acN|refine s2 ?_ ?_|intro)
  all_goals first
   |exact B _ (Iy _) _ _ _ _ rp rp (.refl _) Yt acO
   |exact B _ (tU _) _ _ _ _ rp rp (.refl _) (by have:=Sr E;exact Yt) acO
   |(exfalso;simp at *;omega)
theorem cW:∀d:Nat,d<1000->K3 d:=by
 intro d
 induction d with
 |zero=>exact λ_=>Oq
 |succ d O=>
  intro N bm bt t a v1 v2 v3 v4 v5 v6 v7 G ha;have O:=O acN;have Y:K3 0:=Oq;have d0:decide (((d+1:Nat):Int)=0)=false:=by simp;omega
  have e1:IntKind.i64.wrap (((d+1:Nat):Int)-1)=(d:Int):=by rw[abg _ acN];omega
  have hp:1<=4^d:=Nat.one_le_pow _ _ acR;have hp1:4^(d+1)=4*4^d:=by rw[Nat.pow_succ,Nat.mul_comm]
  have hp2:4^(d+1+1)=16*4^d:=by rw[Nat.pow_succ,Nat.pow_succ];omega
  refine ac.fz (kW _ _ _ _ ?_);refine vw ?_;generalize hQ:(λ(v:AV) (L:SH)=>∃j L2,ax [v] L [j] L2/\∃(x:aB) (B:Nat),j=AV.agg x.row/\x.wt+z0 x.op<=4^(d+1+1)/\B<=t.length/\L2=[(bm,nQ bt v1 v2 v3 v4 v5 v6 v7),(bt,az t B)])=Q;have M:∀(v:AV) (x:aB) (B:Nat) (L L1 L2:SH),dF bm (nQ bt v1 v2 v3 v4 v5 v6 v7) L L1->dF bt (az t B) L1 L2->Fz L2 v (.agg x.row)->x.wt+z0 x.op<=16*4^d->B<=t.length->Q v L:=λv x B L L1 L2 h1 h2 h3 h4 h5=>by subst hQ;exact⟨_,_,ax.keep2 h1 h2 h3,x,B,rfl,acN,h5,rfl⟩
  clear hQ;unfold nQ
  repeat' (first|refine sy ?_|((with_reducible refine aN 92 ?_);(refine ij G acO rp (λr_ Z D u=>?_)))|(refine pf 131 ?_;refine pm (Iz _) ?_)|(refine pf 189 ?_;refine pm (xl _) ?_)|(refine pf 188 ?_;refine pm (DF _ _ _) ?_)|refine gv (l:=[[97],[98],[120],[121],[118],[120],[121]]) ?_ mm rfl acS|refine DG (l:=[6,7,8,11,13,17]) ?_ mm rfl acS|refine cN ?_ acN|((with_reducible refine cy 92 ?_);refine Bc G acO rp (λr_ Z D u=>?_))|((with_reducible refine aN 187 ?_);(refine dN Y acP G acO rp rp (λE Z S u=>?_)))|((with_reducible refine cy 187 ?_);refine IA O acP G acO rp rp (λE Z S u=>?_))|refine s2 ?_ ?_|intro)
  all_goals first
   |exact M _ (Iy _) _ _ _ _ rp rp (.refl _) Yt acO
   |exact M _ (tU _) _ _ _ _ rp rp (.refl _) (by have:=Sr r_;exact Yt) acO
   |exact M _ (.mk 3 0 [113] [E]) _ _ _ _ rp rp (Fz.aggs (.cons (.refl _) (.cons (.refl _) (.cons (.refl _) (.cons (Fz.sls (l:=[E]) (f:=aB.enc) (size:=4) (rows:=[E.row]) (.head _) (by simp[aB.enc_row]) acR rfl) .nil))))) Yt acO
   |exact M _ (PJ _ _ _) _ _ _ _ rp rp (.refl _) (by have:=ZW D;exact Yt) acO
end
def tV:RF:=nv (bQ Tryz.prog Tryz.f93 [] [(0,[3])])
abbrev FG(a b:AV)(L:SH)(Q:R):Prop:=Pc tV 20 Q 0 [] [a,b] L
def DK(u j:AV)(L:SH)(Q:R)(h:FG u j L Q):ac Tryz.prog 93 [u,j] L Q:=
 fv tV Tryz.func93 h
def eV:RF:=nv (bQ Tryz.prog Tryz.f60 [(27022,⟨[0,4,5,6,7,15,16],[9],false,[]⟩),(87,⟨[0,4,5,142,143],[],true,[]⟩),(87082,⟨[0,4,5],[],true,[]⟩),(78073,⟨[0,4,5],[],true,[]⟩),(42,⟨[0,4,5,63,64],[],true,[]⟩),(9,⟨[0,4,5,15,16],[],true,[]⟩)] [(0,[3])])
abbrev uT(Q:R):Vs->SH->Kn->Prop:=Lp eV 15 Q 87 []
abbrev jU(Q:R):Vs->SH->Kn->Prop:=Lp eV 18 Q 42 []
abbrev sU(Q:R):Vs->SH->Kn->Prop:=Lp eV 19 Q 9 []
abbrev xn(a b:AV)(L:SH)(Q:R):Prop:=Pc eV 20 Q 0 [] [a,b] L
def uU(u j:AV)(L:SH)(Q:R)(h:xn u j L Q):ac Tryz.prog 60 [u,j] L Q:=
 fv eV Tryz.func60 h
def rD:RF:=nv (bQ Tryz.prog Tryz.f113 [(69064,⟨[0,2,33],[],true,[]⟩),(60055,⟨[0,2,7,26],[],true,[]⟩),(39034,⟨[0,2,7,21],[],true,[]⟩),(24019,⟨[0,2,7,16],[],true,[]⟩),(15010,⟨[0,2,7,8],[],true,[]⟩)] [])
abbrev DL(a b c:AV)(L:SH)(Q:R):Prop:=Pc rD 20 Q 0 [] [a,b,c] L
def AK(B u j:AV)(L:SH)(Q:R)(h:DL B u j L Q):ac Tryz.prog 113 [B,u,j] L Q:=
 fv rD Tryz.func113 h
def jL:RF:=nv (bQ Tryz.prog Tryz.f143 [(9,⟨[3,8,9,10],[],true,[]⟩)] [(0,[1]),(4,[5])])
abbrev yU(Q:R):Vs->SH->Kn->Prop:=Lp jL 19 Q 9 []
abbrev AL(a:AV)(L:SH)(Q:R):Prop:=Pc jL 20 Q 0 [] [a] L
def yV(j:AV)(L:SH)(Q:R)(h:AL j L Q):ac Tryz.prog 143 [j] L Q:=
 fv jL Tryz.func143 h
def tW:RF:=nv (bQ Tryz.prog Tryz.f114 [(27022,⟨[0,5,10,24],[],true,[]⟩)] [(0,[5])])
abbrev FH(a b c d:AV)(L:SH)(Q:R):Prop:=Pc tW 20 Q 0 [] [a,b,c,d] L
def DM(D B u j:AV)(L:SH)(Q:R)(h:FH D B u j L Q):ac Tryz.prog 114 [D,B,u,j] L Q:=
 fv tW Tryz.func114 h
def o9:RF:=nv (bQ Tryz.prog Tryz.f115 [(9,⟨[0,1,5,8,9,10],[],true,[]⟩)] [])
abbrev FI(Q:R):Vs->SH->Kn->Prop:=Lp o9 19 Q 9 []
abbrev IC(a b:AV)(L:SH)(Q:R):Prop:=Pc o9 20 Q 0 [] [a,b] L
def FJ(u j:AV)(L:SH)(Q:R)(h:IC u j L Q):ac Tryz.prog 115 [u,j] L Q:=
 fv o9 Tryz.func115 h
def tX:RF:=nv (bQ Tryz.prog Tryz.f112 [] [])
abbrev FK(L:SH)(Q:R):Prop:=Pc tX 20 Q 0 [] [] L
def DN(L:SH)(Q:R)(h:FK L Q):ac Tryz.prog 112 [] L Q:=
 fv tX Tryz.func112 h
def tY:RF:=nv (bQ Tryz.prog Tryz.f94 [(33028,⟨[0,3,8,9,11],[],true,[]⟩),(21016,⟨[0,3,5,6,8,9,11],[],true,[]⟩)] [(0,[5,6])])
abbrev FL(a b c d:AV)(L:SH)(Q:R):Prop:=Pc tY 20 Q 0 [] [a,b,c,d] L
def DO(D B u j:AV)(L:SH)(Q:R)(h:FL D B u j L Q):ac Tryz.prog 94 [D,B,u,j] L Q:=
 fv tY Tryz.func94 h
def kg:RF:=nv (bQ Tryz.prog Tryz.f61 [(48043,⟨[0,3,6,7,11,12,14,15],[27],false,[]⟩),(27,⟨[0,3,6,7,11,12],[],true,[]⟩),(12,⟨[0,3,4,6,7,11,12,22,23],[],true,[]⟩)] [(0,[7]),(10,[14]),(11,[15])])
abbrev tZ(Q:R):Vs->SH->Kn->Prop:=Lp kg 18 Q 27 []
abbrev t6(Q:R):Vs->SH->Kn->Prop:=Lp kg 19 Q 12 []
abbrev ID(a b c d e:AV)(L:SH)(Q:R):Prop:=Pc kg 20 Q 0 [] [a,b,c,d,e] L
def FM(E D B u j:AV)(L:SH)(Q:R)(h:ID E D B u j L Q):ac Tryz.prog 61 [E,D,B,u,j] L Q:=
 fv kg Tryz.func61 h
def ld:RF:=nv (bQ Tryz.prog Tryz.f38 [(21,⟨[1,4,5,6,26,27,28],[],true,[]⟩),(12007,⟨[0,1,4],[],true,[]⟩)] [])
abbrev AM(Q:R):Vs->SH->Kn->Prop:=Lp ld 18 Q 21 []
abbrev DP(a b:AV)(L:SH)(Q:R):Prop:=Pc ld 20 Q 0 [] [a,b] L
def AN(u j:AV)(L:SH)(Q:R)(h:DP u j L Q):ac Tryz.prog 38 [u,j] L Q:=
 fv ld Tryz.func38 h
def K6(bt:Nat)(l:List UInt8)(a:Nat)(n:Int)(hl:l.length<2^63)(E:a<=l.length):
  ac Tryz.prog 92 [.ptr bt 0 0,.acU n] [(bt,az l a)] λu K=>∃r j:Nat,u=.acU (r:Int)/\((r:Int)<n\/r=0)/\K=[(bt,az l j)]/\j<=l.length/\a<=j/\(1<=n->a<l.length->a<j):=by
 unfold az;refine lX _ _ _ _ ?_;refine vw ?_;generalize G:(λ(u:AV) (K:SH)=>∃r j:Nat,u=AV.acU (r:Int)/\((r:Int)<n\/r=0)/\K=[(bt,(⟨2,[[.lst (l.map aY),.acU (j:Int)]]⟩:Blk))]/\j<=l.length/\a<=j/\(1<=n->a<l.length->a<j))=Q;have B:∀(r j:Nat),((r:Int)<n\/r=0)->j<=l.length->a<=j->(1<=n->a<l.length->a<j)->Q (.acU (r:Int)) [(bt,⟨2,[[.lst (l.map aY),.acU (j:Int)]]⟩)]:=λr j Z Y S O=>by subst G;exact⟨r,j,rfl,Z,rfl,Y,S,O⟩
 clear G;rcases LE a l.length with g|g
 .have d1:decide ((l.length:Int)<=(a:Int))=false:=by simp;omega
  have hx:=aj (f:=aY) g;have e1:IntKind.i64.wrap ((a:Int)+1)=((a+1:Nat):Int):=by rw[abg _ acN];omega
  have e2:IntKind.i64.wrap (((a+1:Nat):Int)-1)=(a:Int):=by rw[abg _ acN];omega
  by_cases D:n<1
  .have d2:decide (n<1)=true:=by simpa using D
   repeat' (first|refine sy ?_|refine s2 ?_ ?_|intro)
   exact B 0 a (.inr rfl) E (Fd _) (λh=>by omega)
  .have d2:decide (n<1)=false:=by simpa using D
   have N:n≠0:=by omega
   repeat' (first|refine sy ?_|refine s2 ?_ ?_|intro)
   have hb:(l[a].toNat:Int)<256:=by have:=l[a].toNat_lt;omega
   have e3:IntKind.i64.wrap (l[a].toNat:Int)=(l[a].toNat:Int):=by rw[abg _ acN]
   rw[e3];have M:(l[a].toNat:Int).tmod n=(((l[a].toNat:Int).tmod n).toNat:Nat):=by have:=Int.tmod_nonneg n (Int.natCast_nonneg l[a].toNat);omega
   rw[M];exact B _ (a+1) (.inl (by rw[<-M];exact Int.tmod_lt_of_pos _ acN)) acN acN (λ_ _=>by omega)
 .have d1:decide ((l.length:Int)<=(a:Int))=true:=by simp;omega
  repeat' (first|refine sy ?_|refine s2 ?_ ?_|intro)
  exact B 0 a (.inr rfl) E (Fd _) (λ_ h=>absurd h acN)
def jM{bt:Nat}{t:List UInt8}{a:Nat}{n:Int}{L u:SH}{KL:R}(ht:t.length<2^63)(E:a<=t.length)(D:dF bt (az t a) L u)(B:∀r j:Nat,((r:Int)<n\/r=0)->j<=t.length->a<=j->(1<=n->a<t.length->a<j)->KL (.acU (r:Int)) ((bt,az t j)::u)):W.callM Tryz.prog 92 [.ptr bt 0 0,.acU n] L KL:=
 cQ (K6 bt t a n ht E) D (by rintro _ _ ⟨r,j,rfl,O,rfl,N,M,G⟩;exact B r j O N M G)
def rZ{bt:Nat}{t:List UInt8}{a i:Nat}{n:Int}{us:List W.WR}{L u:SH}{B:AV->SH->List Nat->Prop}(ht:t.length<2^63)(M:a<=t.length)(G:dF bt (az t a) L u)(D:∀r j:Nat,((r:Int)<n\/r=0)->j<=t.length->a<=j->(1<=n->a<t.length->a<j)->B (.acU (r:Int)) ((bt,az t j)::u) [bt])(E:∀y∈us,W.free y ⟨i,[],[bt],[],true,[]⟩:=by(simp only[rm,rc,rz,W.free,co,↓reduceIte,Nat.reduceEqDiff,ai,dV,aco,abz,abA,not_false_eq_true,implies_true,and_true,true_and,and_self,abj,reduceCtorEq,forall_const,false_implies,aag,forall_eq,aby,abK,aaj,or_false,false_or,forall_eq_or_imp,not_or])<;>(repeat' constructor)<;>first|assumption|(exact Ne.symm acO)|(intro Z;subst Z;simp[SH.names]at *;done)):W.dcallM Tryz.prog us i 92 [.ptr bt 0 0,.acU n] L B:=
 ee (K6 bt t a n ht M) G E (by rintro _ _ ⟨r,j,rfl,Y,rfl,S,O,N⟩;exact D r j Y S O N)
def PM{n r:Nat}(j:n<100)(h:(r:Int)<IntKind.i64.wrap ((n:Int)+2)\/r=0):decide (IntKind.i64.wrap ((r:Int)-2)<0)=true\/(decide (IntKind.i64.wrap ((r:Int)-2)<0)=false/\0<=IntKind.i64.wrap ((r:Int)-2)/\IntKind.i64.wrap ((r:Int)-2)<n):=by
 rw[show IntKind.i64.wrap ((n:Int)+2)=(n:Int)+2 from abg _ acN]at h;rw[show IntKind.i64.wrap ((r:Int)-2)=(r:Int)-2 from abg _ acN];rcases LE r 2 with z|z
 .exact .inl (decide_eq_true acN)
 .exact .inr ⟨decide_eq_false acN,acN,acN⟩
def Su(bt:Nat)(t:List UInt8)(a:Nat)(E:Nat)(cs:List Int)(y1 y3 y4 y5 Z m1 m3 m4 m5 m6:Nat)(tx:Int)(ht:t.length<2^63)(ha:a<=t.length)(M:cs.length<100):
  ac Tryz.prog 93 [.ptr bt 0 0,.agg [.sl y1 0 m1,.acU tx,.sl y3 0 m3,.sl y4 0 m4,.sl y5 0 m5,.sl Z 0 m6,.sl E 0 cs.length]] [(bt,az t a),(E,⟨1,cs.map aa⟩)] λu K=>∃(v:Int) (j:Nat),u=.acU v/\(v=-1\/(0<=v/\v<cs.length))/\j<=t.length/\a<=j/\K=[(bt,az t j),(E,⟨1,cs.map aa⟩)]:=by
 refine ac.fz (DK _ _ _ _ ?_);refine vw ?_;generalize S:(λ(v:AV) (L:SH)=>∃N Y,ax [v] L [N] Y/\∃(x:Int) (j:Nat),N=AV.acU x/\(x=-1\/(0<=x/\x<cs.length))/\j<=t.length/\a<=j/\Y=[(bt,az t j),(E,(⟨1,cs.map aa⟩:Blk))])=Q;have O:∀(x:Int) (j:Nat) (L:SH),cO L [(bt,az t j),(E,⟨1,cs.map aa⟩)]->(x=-1\/(0<=x/\x<cs.length))->j<=t.length->a<=j->Q (.acU x) L:=λx j L hL h1 h2 h3=>by subst S;exact⟨_,_,ax.pickE hL rfl rfl,x,j,rfl,h1,h2,h3,rfl⟩
 clear S;have M:=λr=>PM (r:=r) M
 repeat' (first|refine aw B acN rp rfl ?_|refine sy ?_|((with_reducible refine aN 92 ?_);(refine jM ht ha rp (λr_ a_ G h1_ h2_ h3_=>?_);rcases M _ G with d_|⟨d_,B,D⟩))|refine dR rp (jn (ao.2 ⟨B,D⟩)) rfl ?_|refine s2 ?_ ?_|intro)
 all_goals first
  |(refine O _ _ _ ?_ (.inl rfl) acO acO;exact rp)
  |(refine O _ _ _ ?_ (.inr ⟨B,D⟩) acO acO;exact rp)
def PN(bt:Nat)(t:List UInt8)(a:Nat)(k th:Int)(ht:t.length<2^63)(M:a<=t.length):
  ac Tryz.prog 113 [.ptr bt 0 0,.acU k,.acU th] [(bt,az t a)] λu K=>∃(v:Int) (j:Nat),u=.acU v/\(k=3\/k=4->0<=v/\v<5)/\j<=t.length/\a<=j/\K=[(bt,az t j)]:=by
 refine ac.fz (AK _ _ _ _ _ ?_);refine vw ?_;generalize Z:(λ(v:AV) (L:SH)=>∃Y L2,ax [v] L [Y] L2/\∃(x:Int) (j:Nat),Y=AV.acU x/\(k=3\/k=4->0<=x/\x<5)/\j<=t.length/\a<=j/\L2=[(bt,az t j)])=Q;have G:∀(x:Int) (j:Nat) (L:SH),cO L [(bt,az t j)]->(k=3\/k=4->0<=x/\x<5)->j<=t.length->a<=j->Q (.acU x) L:=λx j L hL h1 h2 h3=>by subst Z;exact⟨_,_,ax.pickE hL rfl rfl,x,j,rfl,h1,h2,h3,rfl⟩
 clear Z;by_cases B:k=3\/k=4
 .have E:decide (k=3)=true\/(decide (k=3)=false/\decide (k=4)=true):=by
   rcases B with h|h
   .exact .inl (decide_eq_true h)
   .exact .inr ⟨decide_eq_false acN,decide_eq_true h⟩
  have h8:∀r:Nat,((r:Int)<8\/r=0)->0<=([0,0,0,1,1,2,3,4]:List Int).getD r 0/\([0,0,0,1,1,2,3,4]:List Int).getD r 0<5:=λr h=>by
   have h:r<8:=by omega
   match r,h with
   |0,_|1,_|2,_|3,_|4,_|5,_|6,_|7,_=>decide
  rcases E with E|⟨E,d1⟩
  all_goals
   repeat' (first|refine sy ?_|((with_reducible refine aN 92 ?_);(refine jM ht M rp (λr_ a_ D S O N=>?_)))|refine DG (l:=[0,0,0,1,1,2,3,4]) ?_ mm rfl acS|refine cN ?_ acN|refine s2 ?_ ?_|intro)
   all_goals (refine G _ _ _ ?_ (λ_=>h8 _ D) acO acO;exact rp)
 .have E:decide (k=3)=false:=decide_eq_false λh=>B (.inl h)
  have d1:decide (k=4)=false:=decide_eq_false λh=>B (.inr h)
  repeat' (first|refine sy ?_|((with_reducible refine aN 92 ?_);(refine jM ht M rp (λr_ a_ D S O N=>?_)))|refine s2 ?_ ?_|intro)
  all_goals first
   |(refine G _ _ _ ?_ (λh=>absurd h B) acO acO;exact rp)
   |(refine G _ a _ ?_ (λh=>absurd h B) M (Fd _);exact rp)
section
section
variable (c:bP) (b2 b3:Nat) (Q:R) (hq:∀v L,Fz L v (.agg (du c).enc)->Q v L)
def pg(sy_:SyncD)(x y z:AV):List AV:=[.lst (sy_.locks.map LockD.enc),.acU sy_.tx,.lst (sy_.done.map au),.lst (sy_.threads.map ThrD.enc),x,y,z]
include hq
theorem XR(h5:c.ts.length<=1000)(hr:∀t∈c.ts,0<=t.regs/\t.regs<=1000)(gc gf:AV)(K L:SH)(M:Fz K gc (.lst ((c.w.cells.map aU.init).map aa)))(G:Fz K gf (.lst ((List.replicate c.w.futures.length (0:Int)).map aa)))(hL:L.Perm (K++[(b3,⟨7,[pg (bM c.w) gc gf .nils]⟩),(b2,⟨7,[ca]⟩)])):
  W.loop (CU Q) [.pptr [c.enc] 0 0,.ptr b2 0 0,.ptr b3 0 0,.acU (0:Nat)] L:=by
 refine aL c.ts.length (λk (o:Option Nat)=>([.pptr [c.enc] 0 0,.ptr b2 0 0,.ptr b3 0 0,.acU k],(b3,⟨7,[pg (bM c.w) (.lst ((c.w.cells.map aU.init).map aa)) (.lst ((List.replicate c.w.futures.length (0:Int)).map aa)) (af o k)]⟩)::(b2,⟨7,[ca]⟩)::ab o 4 (((c.ts.take k).map EW).map bI.enc))) (λk o=>o=none->k=0) none (λ_=>rfl) (ax.box hL (by unfold pg;exact .cons (.refl _) (.cons (.refl _) (.cons (.refl _) (.cons (.refl _) (.cons M (.cons G (.cons .nile .nil)))))))) ?_;intro k o hk ho;dsimp only;refine vw ?_;have S:(((c.ts.take k).map EW).map bI.enc).length=k:=by simp;omega
 have h0:o=none->((c.ts.take k).map EW).map bI.enc=[]:=λe=>by rw[ho e];rfl
 have he:(du c).enc=pg (bM c.w) (.lst ((c.w.cells.map aU.init).map aa)) (.lst ((List.replicate c.w.futures.length (0:Int)).map aa)) (.lst ((c.ts.map EW).map bI.enc)):=by unfold du eE.enc pg;rfl
 have fin:k=c.ts.length->∀L,(∀q∈ab o 4 (((c.ts.take k).map EW).map bI.enc),q∈L)->Q (.agg (pg (bM c.w) (.lst ((c.w.cells.map aU.init).map aa)) (.lst ((List.replicate c.w.futures.length (0:Int)).map aa)) (af o k))) L:=λhk0 L O=>by
  subst hk0;rw[aaT (Fd _)]at O h0;refine hq _ _ ?_;rw[he];unfold pg;refine Fz.aggs (.cons (.refl _) (.cons (.refl _) (.cons (.refl _) (.cons (.refl _) (.cons (.refl _) (.cons (.refl _) (.cons ?_ .nil)))))));cases o with
  |none=>rw[h0 rfl];exact .emp
  |some b=>exact Fz.sls (O _ (.head _)) rfl acR acQ
 clear hq he;generalize bM c.w=sy_ at *;generalize(c.w.cells.map aU.init).map aa=gce at *;generalize(List.replicate c.w.futures.length (0:Int)).map aa=gfe at *;rw[show c.enc=[.lst (c.w.cells.map aU.enc),.lst (c.w.locks.map bZ.enc),.lst (c.w.conds.map cM.enc),.lst (c.w.futures.map ay),.lst (c.w.threads.map ay),.lst (c.w.sites.map cF.enc),.lst (c.ts.map i6.enc)]from rfl];unfold pg ca at *;rcases LE k c.ts.length with N|N
 .have hd:=aS N;have Y:=aj (f:=i6.enc) N;obtain⟨r1,r2⟩:=hr _ (LT N);have Z:c.ts.take (k+1)=c.ts.take k++[c.ts[k]]:=Fn N;generalize hT:c.ts[k]=tk at *;obtain⟨m,O⟩:∃m:Nat,tk.regs=(m:Int):=⟨tk.regs.toNat,acN⟩;have hke:tk.enc=[.acU (m:Int),.lst (tk.ins.map cb.enc)]:=by rw[<-O];rfl
  have e:EW tk=⟨0,List.replicate m 0,List.replicate m [],0⟩:=by unfold EW;rw[O];rfl
  rw[hke]at Y;clear fin hL M G
  repeat' (first|refine sx ?_|refine vF (i:=m) (j:=m) acN acN acN (λD E=>?_)|refine aM rp rp S h0 acP acQ acS acS acP (λD E=>?_)|refine sb λD E=>?_|fail)
  refine⟨k+1,some D,acN,acN,nofun,?_⟩;refine ax.rowA (A:=[(b3,_),(b2,_)]) (b:=D) (R:=[]) (rows':=((c.ts.take (k+1)).map EW).map bI.enc) rp ?_ ?_ (by rw[av N acN]<;>rfl)
  .simp;omega
  .intro j r r' B u;rw[Z,ST,ST]at u;rcases LE j (((c.ts.take k).map EW).map bI.enc).length with hj|hj
   .rw[aaW hj]at B u;rw[B]at u;cases u;exact fy.refl _ _
   .rw[aaL hj]at B u;rcases hmm:j-(((c.ts.take k).map EW).map bI.enc).length with _|mm
    .rw[hmm]at B u;cases B;cases u;rw[e];refine .cons (.refl _) (.cons ?_ (.cons ?_ (.cons (.refl _) .nil)))
     .exact Fz.sls (l:=List.replicate m 0) (f:=aa) mm (by simp[aa]) acR acQ
     .refine Fz.slm (l:=List.replicate m []) (f:=λ_=>[.nils]) (g:=eX) mm acQ acR acQ (λy _=>rfl) (λy hy q a a2 B u=>?_);obtain rfl:=(List.mem_replicate.1 hy).2
      match q with
      |0=>cases B;cases u;exact .nils
    .rw[hmm]at B;simp at B
 .have hd:=aW N;have fin:=fin acN;clear hL M G;cases o
  all_goals
   dsimp only[af,ab]at *
   repeat' (first|refine sy ?_|refine s2 ?_ ?_|intro)
   exact fin _ acQ
theorem XS(h3:c.w.futures.length<=100)(h5:c.ts.length<=1000)(Z:∀t∈c.ts,0<=t.regs/\t.regs<=1000)(O:AV)(K L:SH)(u:Fz K O (.lst ((c.w.cells.map aU.init).map aa)))(M:L.Perm (K++[(b3,⟨7,[pg (bM c.w) O .nils .nils]⟩),(b2,⟨7,[ca]⟩)])):
  W.loop (CV Q) [.pptr [c.enc] 0 0,.ptr b2 0 0,.ptr b3 0 0,.acU (0:Nat)] L:=by
 refine aL c.w.futures.length (λk (o:Option Nat)=>([.pptr [c.enc] 0 0,.ptr b2 0 0,.ptr b3 0 0,.acU k],(b3,⟨7,[pg (bM c.w) (.lst ((c.w.cells.map aU.init).map aa)) (af o k) .nils]⟩)::(b2,⟨7,[ca]⟩)::ab o 1 ((List.replicate k (0:Int)).map aa))) (λk o=>o=none->k=0) none (λ_=>rfl) (ax.box M (by unfold pg;exact .cons (.refl _) (.cons (.refl _) (.cons (.refl _) (.cons (.refl _) (.cons u (.cons .nile (.cons (.refl _) .nil)))))))) ?_;intro k o hk ho;dsimp only;refine vw ?_;have D:((List.replicate k (0:Int)).map aa).length=k:=by simp
 have N:o=none->(List.replicate k (0:Int)).map aa=[]:=λe=>by rw[ho e];rfl
 rcases LE k c.w.futures.length with E|E
 .have hd:=aS E;have Y:=rC k (0:Int);clear hq M u;generalize bM c.w=sy_ at *;generalize(c.w.cells.map aU.init).map aa=gce at *;rw[show c.enc=[.lst (c.w.cells.map aU.enc),.lst (c.w.locks.map bZ.enc),.lst (c.w.conds.map cM.enc),.lst (c.w.futures.map ay),.lst (c.w.threads.map ay),.lst (c.w.sites.map cF.enc),.lst (c.ts.map i6.enc)]from rfl]at *;unfold pg ca
  repeat' (first|refine sx ?_|refine aM rp rp D N acP acQ acS acS acP (λj B=>?_)|refine sb λj B=>?_|refine s2 ?_ ?_|intro)
  exact⟨k+1,some j,acN,acN,nofun,ax.pickE (R:=[(b3,_),(b2,_),(j,_)]) rp (by rw[av E acN]) (by rw[Y];simp[ab,af,aa,aR])⟩
 .have hd:=aW E;have G:k=c.w.futures.length:=by omega
  subst G;have S:=XR c b2 b3 Q hq h5 Z (.lst ((c.w.cells.map aU.init).map aa)) (af o c.w.futures.length) (ab o 1 ((List.replicate c.w.futures.length (0:Int)).map aa)) _ (.refl _) (by
   cases o with
   |none=>rw[N rfl];exact .emp
   |some b=>exact Fz.sls (l:=List.replicate c.w.futures.length (0:Int)) (.head _) rfl acR acQ) (aar (l₁:=[(b3,(⟨7,[pg (bM c.w) (.lst ((c.w.cells.map aU.init).map aa)) (af o c.w.futures.length) .nils]⟩:Blk)),(b2,⟨7,[ca]⟩)]))
  clear hq M u;rw[show c.enc=[.lst (c.w.cells.map aU.enc),.lst (c.w.locks.map bZ.enc),.lst (c.w.conds.map cM.enc),.lst (c.w.futures.map ay),.lst (c.w.threads.map ay),.lst (c.w.sites.map cF.enc),.lst (c.ts.map i6.enc)]from rfl]at *
  repeat' (first|exact S|refine sy ?_|refine s2 ?_ ?_|intro)
theorem XT(h1:c.w.cells.length<=100)(h3:c.w.futures.length<=100)(h5:c.ts.length<=1000)(Z:∀t∈c.ts,0<=t.regs/\t.regs<=1000)(L:SH)(O:L.Perm [(b3,⟨7,[pg (bM c.w) .nils .nils .nils]⟩),(b2,⟨7,[ca]⟩)]):
  W.loop (CW Q) [.pptr [c.enc] 0 0,.ptr b2 0 0,.ptr b3 0 0,.acU (0:Nat)] L:=by
 refine aL c.w.cells.length (λk (o:Option Nat)=>([.pptr [c.enc] 0 0,.ptr b2 0 0,.ptr b3 0 0,.acU k],(b3,⟨7,[pg (bM c.w) (af o k) .nils .nils]⟩)::(b2,⟨7,[ca]⟩)::ab o 1 (((c.w.cells.take k).map aU.init).map aa))) (λk o=>o=none->k=0) none (λ_=>rfl) (ax.box (K:=[]) O (by unfold pg;exact .cons (.refl _) (.cons (.refl _) (.cons (.refl _) (.cons (.refl _) (.cons .nile (.cons (.refl _) (.cons (.refl _) .nil)))))))) ?_;intro k o hk ho;dsimp only;refine vw ?_;have D:(((c.w.cells.take k).map aU.init).map aa).length=k:=by simp;omega
 have S:o=none->((c.w.cells.take k).map aU.init).map aa=[]:=λe=>by rw[ho e];rfl
 rcases LE k c.w.cells.length with u|u
 .have hd:=aS u;have E:=aj (f:=aU.enc) u;have G:c.w.cells.take (k+1)=c.w.cells.take k++[c.w.cells[k]]:=Fn u;generalize hT:c.w.cells[k]=ck at *;have N:ck.enc=[.str ck.name,.acU ck.index,.acU ck.size,.bool ck.vol,.acU ck.init]:=rfl;rw[N]at E;clear hq O;generalize bM c.w=sy_ at *;rw[show c.enc=[.lst (c.w.cells.map aU.enc),.lst (c.w.locks.map bZ.enc),.lst (c.w.conds.map cM.enc),.lst (c.w.futures.map ay),.lst (c.w.threads.map ay),.lst (c.w.sites.map cF.enc),.lst (c.ts.map i6.enc)]from rfl]at *;unfold pg ca
  repeat' (first|refine sx ?_|refine aM rp rp D S acP acQ acS acS acP (λj B=>?_)|refine sb λj B=>?_|refine s2 ?_ ?_|intro)
  exact⟨k+1,some j,acN,acN,nofun,ax.pickE (R:=[(b3,_),(b2,_),(j,_)]) rp (by rw[av u acN]) (by rw[G];simp[ab,af,aa,aR])⟩
 .have hd:=aW u;have M:k=c.w.cells.length:=by omega
  subst M;rw[aaT (Fd _)]at *;have Y:=XS c b2 b3 Q hq h3 h5 Z (af o c.w.cells.length) (ab o 1 ((c.w.cells.map aU.init).map aa)) _ (by
   cases o with
   |none=>rw[S rfl];exact .emp
   |some b=>exact Fz.sls (.head _) rfl acR acQ) (aar (l₁:=[(b3,(⟨7,[pg (bM c.w) (af o c.w.cells.length) .nils .nils]⟩:Blk)),(b2,⟨7,[ca]⟩)]))
  clear hq O;rw[show c.enc=[.lst (c.w.cells.map aU.enc),.lst (c.w.locks.map bZ.enc),.lst (c.w.conds.map cM.enc),.lst (c.w.futures.map ay),.lst (c.w.threads.map ay),.lst (c.w.sites.map cF.enc),.lst (c.ts.map i6.enc)]from rfl]at *
  repeat' (first|exact Y|refine sy ?_|refine s2 ?_ ?_|intro)
end
theorem PY(c:bP)(N:aq Tryz.prog 101 [.agg c.enc] (.bool true))(M:c.w.cells.length<=100)(h2:c.w.locks.length<=100)(B:c.w.futures.length<=100)(h4:c.w.threads.length<=100)(G:c.ts.length<=1000)(D:∀t∈c.ts,0<=t.regs/\t.regs<=1000):aq Tryz.prog 103 [.agg c.enc] (.agg (du c).enc):=by
 have j:=GJ c.w h2 B h4;refine OY λQ hq=>CX _ _ _ ?_
 refine vw ?_;have u:=λb2 b3 L E=>XT c b2 b3 Q hq M B G D L E
 clear hq;rw[show c.w.enc=[.lst (c.w.cells.map aU.enc),.lst (c.w.locks.map bZ.enc),.lst (c.w.conds.map cM.enc),.lst (c.w.futures.map ay),.lst (c.w.threads.map ay),.lst (c.w.sites.map cF.enc)]from rfl,show(bM c.w).enc=[.lst ((bM c.w).locks.map LockD.enc),.acU (bM c.w).tx,.lst ((bM c.w).done.map au),.lst ((bM c.w).threads.map ThrD.enc)]from rfl]at j;generalize bM c.w=sy_ at *;unfold pg ca at u;rw[show c.enc=[.lst (c.w.cells.map aU.enc),.lst (c.w.locks.map bZ.enc),.lst (c.w.conds.map cM.enc),.lst (c.w.futures.map ay),.lst (c.w.threads.map ay),.lst (c.w.sites.map cF.enc),.lst (c.ts.map i6.enc)]from rfl]at *
 repeat' (first|refine sy ?_|intro)
 exact u _ _ _ (.refl _)
end
section
open Go.ChangeShapes Go.WideShapes Go.ChangeAt Go.RowKit
def Qc(l:List Int):List UInt8:=l.map λx=>UInt8.ofNat x.toNat
theorem ma{x:Int}(h:(Lit.int .u8 x).wf=true):0<=x/\x<256:=by
 simp only[Lit.wf,aas,decide_eq_true_eq]at h;have u:IntKind.u8.min=0:=by decide
 have j:IntKind.u8.max=255:=by decide
 omega
theorem jo{l:List Int}(h:∀x∈l,0<=x/\x<256):(Qc l).map aY=l.map Qk:=by
 unfold Qc;rw[List.map_map];refine List.map_congr_left λx j=>?_
 have:=h x j;show [AV.int .u8 (((UInt8.ofNat x.toNat).toNat:Nat):Int)]=[AV.int .u8 x];rw[UInt8.toNat_ofNat_of_lt' (by show x.toNat<256;omega),abD this.1]
section
variable {H:Type} {enc:TypeId×Value->H} {w:World} {base:Nat} {spare:Nat->Bool} {held:Bool}
theorem mG:Opens H enc Tryz.prog w base spare held 22 (Wi (λl:List Int=>[.lst (l.map Qk)]) λl=>l.length<=maxLen/\∀x∈l,(Lit.int .u8 x).wf=true):=
 Ed (size:=1) Tryz.underlying22 (by kernel_rfl) acR (zj (by kernel_rfl))
end
end
section
open Go.ChangeShapes Go.WideShapes Go.ChangeAt Go.RowKit
structure jW where
 p:List Int
 u:List Int
 sc:List Int
 z:Int
 y:Int
def jW.enc(v:jW):List AV:=[.lst (v.p.map Qk),.lst (v.u.map Qk),.lst (v.sc.map Qk),.int .u8 v.z,.int .u8 v.y]
structure jW.Ok(v:jW):Prop where
 p:v.p.length<=maxLen/\∀x∈v.p,(Lit.int .u8 x).wf=true
 u:v.u.length<=maxLen/\∀x∈v.u,(Lit.int .u8 x).wf=true
 sc:v.sc.length<=maxLen/\∀x∈v.sc,(Lit.int .u8 x).wf=true
 z:(Lit.int .u8 v.z).wf=true
 y:(Lit.int .u8 v.y).wf=true
section
variable {H:Type} {enc:TypeId×Value->H} {w:World} {base:Nat} {spare:Nat->Bool} {held:Bool}
theorem mb:Opens H enc Tryz.prog w base spare held 24 (Wi jW.enc jW.Ok):=λB O x h=>by
 obtain⟨hl,j⟩:=Lv [22,22,22,5,5] Tryz.underlying24 h rfl (by kernel_rfl) (by kernel_rfl);obtain⟨c0,m0,y0,N,k0⟩:=j 0 _ rfl;obtain⟨d0,g0,r0⟩:=mG _ _ _ k0;obtain⟨c1,m1,y1,M,k1⟩:=j 1 _ rfl;obtain⟨d1,g1,r1⟩:=mG _ _ _ k1;obtain⟨c2,m2,y2,G,k2⟩:=j 2 _ rfl;obtain⟨d2,g2,Z⟩:=mG _ _ _ k2;obtain⟨c3,m3,y3,E,k3⟩:=j 3 _ rfl;obtain⟨d3,g3,Y⟩:=zj (k:=.u8) (by kernel_rfl) _ _ _ k3;obtain⟨c4,m4,y4,D,k4⟩:=j 4 _ rfl;obtain⟨d4,g4,S⟩:=zj (k:=.u8) (by kernel_rfl) _ _ _ k4;have u:O=[c0,c1,c2,c3,c4]:=by
  match O,hl with
  |[a0,a1,a2,a3,a4],_=>simp only[List.getElem?_cons_zero,acj,aaS]at N M G E D;rw[N,M,G,E,D]
 subst u;exact⟨⟨d0,d1,d2,d3,d4⟩,⟨g0,g1,g2,g3,g4⟩,(bL r0 (bL r1 (bL Z (bL Y (bL S hD)))))⟩
end
theorem jz{v:jW}(h:v.Ok):∃(p u B:List UInt8) (z y:Nat),v.enc=[.lst (p.map aY),.lst (u.map aY),.lst (B.map aY),.int .u8 (z:Int),.int .u8 (y:Int)]/\p.length<2^63/\z<256/\y<256:=by
 have G:maxLen<2^63:=by decide
 have D:=ma h.z;have E:=ma h.y;refine⟨Qc v.p,Qc v.u,Qc v.sc,v.z.toNat,v.y.toNat,?_,?_,acN,acN⟩
 .unfold jW.enc;rw[jo λx j=>ma (h.p.2 x j),jo λx j=>ma (h.u.2 x j),jo λx j=>ma (h.sc.2 x j),abD D.1,abD E.1]
 .have:=h.p.1;simp only[Qc,acl];omega
end
