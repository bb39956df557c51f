/- A part of the proof; the statement is proved in the last part. -/
import Derived.Test.YtbofdbhnbodbiaaGreatDoorQvI
set_option linter.all false
set_option maxRecDepth 100000
set_option maxHeartbeats 20000000
namespace Go.Proofs.YtbofdbhnbodbiaaGreatDoor.Am
section
def aY(l:List UInt8)(at_:Nat):Blk:=⟨2,[[.lst (l.map oJ),.Uf (at_:Int)]]⟩
theorem Hl(bt:Nat)(l:List UInt8)(a:Nat)(n:Int)(hl:l.length<2^40)(M:a<=l.length):
  ac Tryz.prog 56 [.ptr bt 0 0,.Uf n] [(bt,aY l a)] λu K=>∃r j:Nat,u=.Uf (r:Int)/\((r:Int)<n\/r=0)/\K=[(bt,aY l j)]/\j<=l.length:=by
 unfold aY;refine tq _ _ _ _ ?_;refine vw ?_;generalize N:(λ(u:AV) (K:SH)=>∃r j:Nat,u=AV.Uf (r:Int)/\((r:Int)<n\/r=0)/\K=[(bt,(⟨2,[[.lst (l.map oJ),.Uf (j:Int)]]⟩:Blk))]/\j<=l.length)=Q;have E:∀(r j:Nat),((r:Int)<n\/r=0)->j<=l.length->Q (.Uf (r:Int)) [(bt,⟨2,[[.lst (l.map oJ),.Uf (j:Int)]]⟩)]:=λr j Z Y=>by subst N;exact⟨r,j,rfl,Z,rfl,Y⟩
 clear N;rcases Fn a l.length with g|g
 .have d1:decide ((l.length:Int)<=(a:Int))=false:=by simp;omega
  have hx:=ao (f:=oJ) g;have e1:=ax g Ua;have e2:IntKind.i64.wrap (((a+1:Nat):Int)-1)=(a:Int):=by rw[Te _ Ua];omega
  by_cases G:n<1
  .have d2:decide (n<1)=true:=by simpa using G
   repeat' (first|refine st ?_|refine sb λD B=>?_|refine s2 (λh=>?_) λh=>?_|fail)
   exact E 0 a (.inr rfl) M
  .have d2:decide (n<1)=false:=by simpa using G
   have S:n≠0:=by omega
   repeat' (first|refine st ?_|refine sb λD B=>?_|refine s2 (λh=>?_) λh=>?_|fail)
   have hb:(l[a].toNat:Int)<256:=by have:=l[a].toNat_lt;omega
   have e3:IntKind.i64.wrap (l[a].toNat:Int)=(l[a].toNat:Int):=by rw[Te _ Ua]
   rw[e3];have O:(l[a].toNat:Int).tmod n=(((l[a].toNat:Int).tmod n).toNat:Nat):=by have:=Int.tmod_nonneg n (Int.natCast_nonneg l[a].toNat);omega
   rw[O];exact E _ (a+1) (.inl (by rw[<-O];exact Int.tmod_lt_of_pos _ Ua)) Ua
 .have d1:decide ((l.length:Int)<=(a:Int))=true:=by simp;omega
  repeat' (first|refine st ?_|refine sb λD B=>?_|refine s2 (λh=>?_) λh=>?_|fail)
  exact E 0 a (.inr rfl) M
def CX(n:Int):aw:=.mk 1 n [] []
def qC(s:bu):aw:=.mk 2 0 s []
theorem CY(n:Int):aq Tryz.prog 59 [.Uf n] (.agg (CX n).row):=by
 refine ac.fz (EZ _ _ _ ?_);refine vw ?_
 repeat' (first|refine st ?_|refine sb λu j=>?_|refine s2 (λh=>?_) λh=>?_|fail)
 exact⟨_,[],az.all (Fz.aggs (.cons (.refl _) (.cons (.refl _) (.cons (.refl _) (.cons .nils .nil))))),rfl,rfl⟩
theorem tz(s:bu):aq Tryz.prog 143 [.str s] (.agg (qC s).row):=by
 refine ac.fz (CU _ _ _ ?_);refine vw ?_
 repeat' (first|refine st ?_|refine sb λu j=>?_|refine s2 (λh=>?_) λh=>?_|fail)
 exact⟨_,[],az.all (Fz.aggs (.cons (.refl _) (.cons (.refl _) (.cons (.refl _) (.cons .nils .nil))))),rfl,rfl⟩
def IA(op:Int)(a b:aw):aw:=.mk op 0 [] [a,b]
theorem zB(op:Int)(a b:aw):aq Tryz.prog 142 [.Uf op,.agg a.row,.agg b.row] (.agg (IA op a b).row):=by
 refine ac.fz (zy _ _ _ _ _ ?_);refine vw ?_
 repeat' (first|refine st ?_|refine sb λu j=>?_|refine s2 (λh=>?_) λh=>?_|fail)
 exact⟨_,[],az.all (Fz.aggs (.cons (.refl _) (.cons (.refl _) (.cons (.refl _) (.cons (Fz.sls (l:=[a,b]) (f:=aw.enc) (size:=4) (rows:=[a.row,b.row]) (.head _) (by simp[aw.enc_row]) Ue rfl) .nil))))),rfl,rfl⟩
def jo:aw:=.mk 0 0 [] []
def cI(s:bu)(e:aw):aa:=.mk 1 0 s [] [] e [] []
theorem cK(s:bu)(e:aw):aq Tryz.prog 58 [.str s,.agg e.row] (.agg (cI s e).row):=by
 refine ac.fz (zz _ _ _ _ ?_);refine vw ?_
 repeat' (first|refine st ?_|refine sb λu j=>?_|refine s2 (λh=>?_) λh=>?_|fail)
 exact⟨_,[],az.all (Fz.aggs (.cons (.refl _) (.cons (.refl _) (.cons (.refl _) (.cons (.refl _) (.cons .nils (.cons (.refl _) (.cons (.refl _) (.cons (.refl _) (.cons (.refl _) (.cons .nils (.cons .nils .nil)))))))))))),rfl,rfl⟩
def bM:List aM:=[⟨1,0,[120],0,0,[]⟩,⟨1,0,[121],0,1,[]⟩,⟨2,0,[118],0,0,[]⟩,⟨1,0,[113],2,0,[]⟩,⟨3,0,[109],0,0,[]⟩,⟨3,0,[110],0,0,[]⟩,⟨4,0,[114],0,0,[]⟩,⟨5,0,[99],0,0,[109]⟩,⟨6,0,[102],0,0,[]⟩]
theorem tB:aq Tryz.prog 55 [] (.lst (bM.map aM.enc)):=by
 refine ac.fz (AQ _ _ ?_);refine vw ?_
 repeat' (first|refine st ?_|refine sb λu j=>?_|refine s2 (λh=>?_) λh=>?_|fail)
 exact⟨_,[],az.all (Fz.sls (l:=bM) (f:=aM.enc) (size:=6) (.head _) rfl Ue rfl),rfl,rfl⟩
theorem wz:(∀j n,yd 0 j n=0)/\(∀j n,yd 1 j n=0)/\(∀j n,yd 2 j n=0)/\yd 3 [113] (0+1)=0/\(∀op,yd op [] (0+1+1)=z3 op)/\z0 1=0/\z0 2=0/\z0 3=0/\z0 6=0/\z0 13=0/\z3 6=0/\z3 13=0/\
  (∀n,zv 1 n=z0 n)/\(∀n,zv 2 n=z0 n)/\(∀n,zv 3 n=z0 n)/\(∀n,zv 14 n=z0 n)/\(∀n,zv 4 n=0)/\(∀n,zv 5 n=0)/\(∀n,zv 6 n=0)/\(∀n,zv 7 n=0)/\(∀n,zv 8 n=0)/\(∀n,zv 9 n=0)/\(∀n,zv 12 n=0)/\(∀n,zv 13 n=0)/\(∀n,zv 15 n=0)/\
  (∀j,zi j 0=0)/\zi [113] (0+1)=0/\(∀op n j l,aw.wt (.mk op n j l)=1+j.length+yd op j l.length+aw.wts l)/\aw.wts []=0/\(∀x l,aw.wts (x::l)=x.wt+z0 x.op+aw.wts l)/\
  (∀op line j arg D e u B,aa.wt (.mk op line j arg D e u B)=1+j.length+arg.length+aw.wts D+e.wt+zv op e.op+zi j D.length+aa.wts u+aa.wts B)/\aa.wts []=0/\(∀x l,aa.wts (x::l)=x.wt+aa.wts l)/\
  (∀a b c l,aw.op (.mk a b c l)=a)/\(∀n,CX n=.mk 1 n [] [])/\(∀s,qC s=.mk 2 0 s [])/\(∀op a b,IA op a b=.mk op 0 [] [a,b])/\jo=.mk 0 0 [] []/\(∀s e,cI s e=.mk 1 0 s [] [] e [] []):=by
 refine⟨?_,?_,?_,?_,?_,?_,?_,?_,?_,?_,?_,?_,?_,?_,?_,?_,?_,?_,?_,?_,?_,?_,?_,?_,?_,?_,?_,?_,?_,?_,?_,?_,?_,?_,?_,?_,?_,?_,?_⟩
 all_goals first
  |rfl
  |(intros;rfl)
  |(intros;simp[yd,z3,zi])
theorem PA{P:Prop}(h:P:=by simp only[wz,SQ,S2];omega):P:=h
theorem Rm{r:Nat}(h:(r:Int)<6\/r=0):z0 (([6,7,8,11,13,17]:List Int).getD r 0)=0/\z3 (([6,7,8,11,13,17]:List Int).getD r 0)=0:=by
 have h:r<6:=by omega
 match r,h with
 |0,_|1,_|2,_|3,_|4,_|5,_=>exact⟨rfl,rfl⟩
structure Sq where
 a:Nat
 thread:Int
 left:Int
 set:Bool
 tx:Bool
 atomic:Bool
 loop:Bool
 o:Option Nat
 ar:List bu
 k:Nat
def Sq.row(bt:Nat)(s:Sq):List AV:=[.ptr bt 0 0,.Uf s.thread,.Uf s.left,.bool s.set,.bool s.tx,.bool s.atomic,.bool s.loop,aj s.o s.k]
theorem eW{l:List bu}{b r:Nat}{rows:List (List AV)}{L:SH}{K:AV->Prop}(h:K (.str (l.getD r [])))(B:(b,(⟨1,rows⟩:Blk))∈L)(u:rows=l.map au)(j:r<l.length):W.load false 1 (.ptr b r 0) L K:=by subst u;refine xO B (ao j) Uc ?_;simpa[List.getD,j]using h
theorem KZ{l:List Int}{b r:Nat}{rows:List (List AV)}{L:SH}{K:AV->Prop}(h:K (.Uf (l.getD r 0)))(B:(b,(⟨1,rows⟩:Blk))∈L)(u:rows=l.map ah)(j:r<l.length):W.load false 1 (.ptr b r 0) L K:=by subst u;refine xO B (ao j) Uc ?_;simpa[List.getD,j]using h
theorem fL{bt:Nat}{t:List UInt8}{a:Nat}{n:Int}{L u:SH}{KL:R}(ht:t.length<2^40)(E:a<=t.length)(D:eJ bt (aY t a) L u)(B:∀r j:Nat,((r:Int)<n\/r=0)->j<=t.length->KL (.Uf (r:Int)) ((bt,aY t j)::u)):W.callM Tryz.prog 56 [.ptr bt 0 0,.Uf n] L KL:=
 fE (Hl bt t a n ht E) D (by rintro _ _ ⟨r,j,rfl,M,rfl,G⟩;exact B r j M G)
theorem xi{bt:Nat}{t:List UInt8}{a i:Nat}{n:Int}{us:List W.WR}{L u:SH}{B:AV->SH->List Nat->Prop}(ht:t.length<2^40)(M:a<=t.length)(G:eJ bt (aY t a) L u)(D:∀r j:Nat,((r:Int)<n\/r=0)->j<=t.length->B (.Uf (r:Int)) ((bt,aY t j)::u) [bt])(E:∀y∈us,W.free y ⟨i,[],[bt],[],true,[]⟩:=by(simp only[rm,rc,rz,W.free,cF,↓reduceIte,Nat.reduceEqDiff,af,fk,T1,Tb,Th,not_false_eq_true,implies_true,and_true,true_and,and_self,SO,reduceCtorEq,forall_const,false_implies,Sz,forall_eq,Ta,Tu,SB,or_false,false_or,forall_eq_or_imp,not_or])<;>(repeat' constructor)<;>first|assumption|(exact Ne.symm Ub)|(intro S;subst S;simp[SH.names]at *;done)):W.dcallM Tryz.prog us i 56 [.ptr bt 0 0,.Uf n] L B:=
 r9 (Hl bt t a n ht M) G E (by rintro _ _ ⟨r,j,rfl,O,rfl,N⟩;exact D r j O N)
def lz(bt:Nat)(v1 v2 v3 v4 v5 v6 v7:AV):Blk:=⟨8,[[.ptr bt 0 0,v1,v2,v3,v4,v5,v6,v7]]⟩
def E2(d:Nat):Prop:=∀(bm bt:Nat) (t:List UInt8) (a:Nat) (v1 v2 v3 v4 v5 v6 v7:AV),t.length<2^40->a<=t.length->
  ac Tryz.prog 141 [.ptr bm 0 0,.Uf (d:Int)] [(bm,lz bt v1 v2 v3 v4 v5 v6 v7),(bt,aY t a)] λu K=>∃(x:aw) (a':Nat),u=.agg x.row/\x.wt+z0 x.op<=4^(d+1)/\a'<=t.length/\K=[(bm,lz bt v1 v2 v3 v4 v5 v6 v7),(bt,aY t a')]
section
variable {bm bt:Nat} {t:List UInt8} {a d:Nat} {dd:Int} {v1 v2 v3 v4 v5 v6 v7:AV} {L L1 L2:SH}
theorem cL{KL:R}(G:E2 d)(u:dd=(d:Int))(ht:t.length<2^40)(E:a<=t.length)(B:eJ bm (lz bt v1 v2 v3 v4 v5 v6 v7) L L1)(h2:eJ bt (aY t a) L1 L2)(D:∀(x:aw) (j:Nat),x.wt+z0 x.op<=4^(d+1)->j<=t.length->KL (.agg x.row) ((bm,lz bt v1 v2 v3 v4 v5 v6 v7)::(bt,aY t j)::L2)):
  W.callM Tryz.prog 141 [.ptr bm 0 0,.Uf dd] L KL:=by
 subst u;exact Jo (G bm bt t a v1 v2 v3 v4 v5 v6 v7 ht E) B h2 (by rintro _ _ ⟨x,j,rfl,B,h2,rfl⟩;exact D x j B h2)
theorem CZ{us:List W.WR}{i:Nat}{D:AV->SH->List Nat->Prop}(N:E2 d)(u:dd=(d:Int))(ht:t.length<2^40)(M:a<=t.length)(B:eJ bm (lz bt v1 v2 v3 v4 v5 v6 v7) L L1)(h2:eJ bt (aY t a) L1 L2)(E:∀(x:aw) (j:Nat),x.wt+z0 x.op<=4^(d+1)->j<=t.length->D (.agg x.row) ((bm,lz bt v1 v2 v3 v4 v5 v6 v7)::(bt,aY t j)::L2) [bm,bt])
  (G:∀y∈us,W.free y ⟨i,[],[bm,bt],[],true,[]⟩:=by(simp only[rm,rc,rz,W.free,cF,↓reduceIte,Nat.reduceEqDiff,af,fk,T1,Tb,Th,not_false_eq_true,implies_true,and_true,true_and,and_self,SO,reduceCtorEq,forall_const,false_implies,Sz,forall_eq,Ta,Tu,SB,or_false,false_or,forall_eq_or_imp,not_or])<;>(repeat' constructor)<;>first|assumption|(exact Ne.symm Ub)|(intro O;subst O;simp[SH.names]at *;done)):W.dcallM Tryz.prog us i 141 [.ptr bm 0 0,.Uf dd] L D:=by
 subst u;exact HN (N bm bt t a v1 v2 v3 v4 v5 v6 v7 ht M) B h2 G (by rintro _ _ ⟨x,j,rfl,B,h2,rfl⟩;exact E x j B h2)
end
theorem K0(r:Nat):(([[97],[98],[120],[121],[118],[120],[121]]:List bu).getD r []).length<=1:=by
 rcases Fn r 7 with h|h
 .match r,h with
  |0,_|1,_|2,_|3,_|4,_|5,_|6,_=>exact Fd _
 .rw[List.getD,LE (by simpa using h)];exact SL _
theorem Hm:E2 0:=by
  intro bm bt t a v1 v2 v3 v4 v5 v6 v7 N ha;refine ac.fz (jj _ _ _ _ ?_);refine vw ?_;generalize E:(λ(v:AV) (L:SH)=>∃j L2,az [v] L [j] L2/\∃(x:aw) (u:Nat),j=AV.agg x.row/\x.wt+z0 x.op<=4^(0+1)/\u<=t.length/\L2=[(bm,lz bt v1 v2 v3 v4 v5 v6 v7),(bt,aY t u)])=Q;have B:∀(v:AV) (x:aw) (u:Nat) (L L1 L2:SH),eJ bm (lz bt v1 v2 v3 v4 v5 v6 v7) L L1->eJ bt (aY t u) L1 L2->Fz L2 v (.agg x.row)->x.wt+z0 x.op<=4->u<=t.length->Q v L:=λv x u L L1 L2 h1 h2 h3 Z Y=>by subst E;exact⟨_,_,az.keep2 h1 h2 h3,x,u,rfl,Z,Y,rfl⟩
  clear E;unfold lz
  repeat' (first|refine st ?_|((with_reducible refine bb 56 ?_);(refine fL N Ub rp (λG a_ O S=>?_)))|(refine pf 59 ?_;refine pm (CY _) ?_)|(refine pf 143 ?_;refine pm (tz _) ?_)|refine eW (l:=[[97],[98],[120],[121],[118],[120],[121]]) ?_ mm rfl (by simp;omega)|refine dN ?_ Ua|refine sb λM D=>?_|refine s2 (λh=>?_) λh=>?_|fail)
  all_goals first
   |exact B _ (CX _) _ _ _ _ rp rp (.refl _) PA Ub
   |exact B _ (qC _) _ _ _ _ rp rp (.refl _) (by have:=K0 G;exact PA) Ub
   |(exfalso;simp at *;omega)
theorem cb:∀d:Nat,d<1000->E2 d:=by
 intro d
 induction d with
 |zero=>exact λ_=>Hm
 |succ d O=>
  intro N bm bt t a v1 v2 v3 v4 v5 v6 v7 G ha;have O:=O Ua;have Y:E2 0:=Hm;have d0:decide (((d+1:Nat):Int)=0)=false:=by simp;omega
  have e1:IntKind.i64.wrap (((d+1:Nat):Int)-1)=(d:Int):=by rw[Te _ Ua];omega
  have hp:1<=4^d:=Nat.one_le_pow _ _ Ue;have hp1:4^(d+1)=4*4^d:=by rw[Nat.pow_succ,Nat.mul_comm]
  have hp2:4^(d+1+1)=16*4^d:=by rw[Nat.pow_succ,Nat.pow_succ];omega
  refine ac.fz (jj _ _ _ _ ?_);refine vw ?_;generalize hQ:(λ(v:AV) (L:SH)=>∃j L2,az [v] L [j] L2/\∃(x:aw) (B:Nat),j=AV.agg x.row/\x.wt+z0 x.op<=4^(d+1+1)/\B<=t.length/\L2=[(bm,lz bt v1 v2 v3 v4 v5 v6 v7),(bt,aY t B)])=Q;have M:∀(v:AV) (x:aw) (B:Nat) (L L1 L2:SH),eJ bm (lz bt v1 v2 v3 v4 v5 v6 v7) L L1->eJ bt (aY t B) L1 L2->Fz L2 v (.agg x.row)->x.wt+z0 x.op<=16*4^d->B<=t.length->Q v L:=λv x B L L1 L2 h1 h2 h3 h4 h5=>by subst hQ;exact⟨_,_,az.keep2 h1 h2 h3,x,B,rfl,Ua,h5,rfl⟩
  clear hQ;unfold lz
  repeat' (first|refine st ?_|((with_reducible refine bb 56 ?_);(refine fL G Ub rp (λr_ Z D u=>?_)))|(refine pf 59 ?_;refine pm (CY _) ?_)|(refine pf 143 ?_;refine pm (tz _) ?_)|(refine pf 142 ?_;refine pm (zB _ _ _) ?_)|refine eW (l:=[[97],[98],[120],[121],[118],[120],[121]]) ?_ mm rfl (by simp;omega)|refine KZ (l:=[6,7,8,11,13,17]) ?_ mm rfl (by simp;omega)|refine dN ?_ Ua|((with_reducible refine eh 56 ?_);refine xi G Ub rp (λr_ Z D u=>?_))|((with_reducible refine bb 141 ?_);(refine cL Y Uc G Ub rp rp (λE Z S u=>?_)))|((with_reducible refine eh 141 ?_);refine CZ O Uc G Ub rp rp (λE Z S u=>?_))|refine sb λnb_ hnb_=>?_|refine s2 (λh=>?_) λh=>?_|fail)
  all_goals first
   |exact M _ (CX _) _ _ _ _ rp rp (.refl _) PA Ub
   |exact M _ (qC _) _ _ _ _ rp rp (.refl _) (by have:=K0 r_;exact PA) Ub
   |exact M _ (.mk 3 0 [113] [E]) _ _ _ _ rp rp (Fz.aggs (.cons (.refl _) (.cons (.refl _) (.cons (.refl _) (.cons (Fz.sls (l:=[E]) (f:=aw.enc) (size:=4) (rows:=[E.row]) (.head _) (by simp[aw.enc_row]) Ue rfl) .nil))))) PA Ub
   |exact M _ (IA _ _ _) _ _ _ _ rp rp (.refl _) (by have:=Rm D;exact PA) Ub
end
section
def BK(T:FuncId->List AV->Option AV)(call:FuncId->List AV->ae->Option (AV×ae))(g:FuncId)(args:List AV)(H:ae):Option (AV×ae):=match T g args with
 |some v=>some (v,H)
 |none=>call g args H
def dT(P:Program)(F:TypeId->Option (List TypeId))(T:FuncId->List AV->Option AV):Nat->Code->List AV->ae->Option (Ex×List AV×ae)
 |0,_,_,_=>none
 |f+1,c,τ,H=>
  match c with
  |.skip|.label _=>some (.normal,τ,H)
  | .region _ ops draw=>match dJ P F (BK T (mV P (dT P F T f))) ops draw τ H with
   |some (τ,H)=>some (.normal,τ,H)
   |none=>none
  | .seq a b=>match dT P F T f a τ H with
   |some (.normal,τ,H)=>dT P F T f b τ H
   |r=>r
  | .cond c a b=>match jr τ c with
   |.bool true=>dT P F T f a τ H
   |.bool false=>dT P F T f b τ H
   |_=>none
  | .block id b=>match dT P F T f b τ H with
   |some (.exit id',τ,H)=>if id'=id then some (.normal,τ,H)else some (.exit id',τ,H)
   |r=>r
  | .loop b=>match dT P F T f b τ H with
   |some (.normal,τ,H)=>dT P F T f (.loop b) τ H
   |r=>r
  |.exit id=>some (.exit id,τ,H)
  |.ret=>some (.ret,τ,H)
  |_=>none
def qD(P:Program)(T:FuncId->List AV->Option AV):Prop:=∀f args v,T f args=some v->gH P f args v
section
variable {P:Program} {F:TypeId->Option (List TypeId)} {T:FuncId->List AV->Option AV} {call:FuncId->List AV->ae->Option (AV×ae)}
theorem E3(G:qD P T)(E:ez P call):ez P (BK T call):=by
 refine⟨λf B H v M j=>?_,λf B H v M j=>?_,λf B H v M j=>?_⟩
 all_goals
  unfold BK at j;split at j
 .rename_i u D;cases j;exact(G _ _ _ D).1 _
 .exact E.ok _ _ _ _ _ j
 .cases j;exact Fd _
 .exact E.next _ _ _ _ _ j
 .rename_i u D;cases j;exact(G _ _ _ D).2
 .exact E.body _ _ _ _ _ j
theorem BL(h:∀f args H v H',Bd H->call f args H=some (v,H')->vc H H'):∀f args H v H',Bd H->BK T call f args H=some (v,H')->vc H H':=λf args H v H' u j=>by
 unfold BK at j;split at j
 .cases j;exact .refl _
 .exact h _ _ _ _ _ u j
theorem IB(f:Nat):∀(c:Code) (M:List AV) (H:ae) (e:Ex) (B:List AV) (H':ae),Bd H->dT P F T f c M H=some (e,B,H')->vc H H':=by
 induction f with
 |zero=>intro c M H e B H' _ h;cases h
 |succ f u=>
  intro c M H e B H' j h;cases c with
  |skip=>cases h;exact .refl _
  |label l=>cases h;exact .refl _
  |exit O=>cases h;exact .refl _
  |ret=>cases h;exact .refl _
  |region O ops S=>
   simp only[dT]at h;split at h
   .rename_i hr;cases h;exact Fu (λf Z H v H' N D=>BL (λ_ _ _ _ _ N hc=>xy u N hc) _ _ _ _ _ N D) j hr
   .cases h
  |seq x y=>
   simp only[dT]at h;split at h
   .rename_i E;have G:=u _ _ _ _ _ _ j E;exact G.trans (u _ _ _ _ _ _ (G.bd j) h)
   .exact u _ _ _ _ _ _ j h
  |cond x Y c2=>
   simp only[dT]at h;split at h
   .exact u _ _ _ _ _ _ j h
   .exact u _ _ _ _ _ _ j h
   .cases h
  |block O Y=>
   simp only[dT]at h;split at h
   .rename_i E;split at h
    .cases h;exact u _ _ _ _ _ _ j E
    .cases h;exact u _ _ _ _ _ _ j E
   .exact u _ _ _ _ _ _ j h
  |loop Y=>
   simp only[dT]at h;split at h
   .rename_i E;have G:=u _ _ _ _ _ _ j E;exact G.trans (u _ _ _ _ _ _ (G.bd j) h)
   .exact u _ _ _ _ _ _ j h
  |_=>simp[dT]at h
theorem C0(fit:Fit P F)(hT:qD P T)(hgood:∀(g:Nat) (fn:Func) (c:Code),P.funcs[g]? =some fn->fn.body=some c->jD c)(f:Nat):(∀(c:Code) (N:List AV) (H:ae) (e:Ex) (B:List AV) (H':ae),jD c->dT P F T f c N H=some (e,B,H')->cO P c N H e B H')/\
  (∀(c:Code) (N:List AV) (H:ae) (e:Ex) (B:List AV) (H':ae),jD c->dT P F T f (.loop c) N H=some (e,B,H')->j7 P f c N H e B H'):=by
 induction f with
 |zero=>exact⟨λc N H e B H' _ h=>(by cases h),λc N H e B H' _ h=>(by cases h)⟩
 |succ f ih0=>
  obtain⟨ih,ihl⟩:=ih0;have hs:=E3 hT (rQ (P:=P) hgood ih);have hch:∀g args H v H',Bd H->BK T (mV P (dT P F T f)) g args H=some (v,H')->vc H H':=BL (λ_ _ _ _ _ hb hc=>xy (IB f) hb hc);have hloop:∀(c:Code) (N:List AV) (H:ae) (e:Ex) (B:List AV) (H':ae),jD c->dT P F T (f+1) (.loop c) N H=some (e,B,H')->j7 P (f+1) c N H e B H':=by
   intro c1 N H e B H' dr h;simp only[dT]at h;split at h
   .rename_i Y H1 h1;obtain⟨O,S⟩:=ih c1 N H .normal Y H1 dr h1;obtain⟨n2,k2⟩:=ihl c1 Y H1 e B H' dr h;refine⟨SK O n2,λw M a G j Q E=>?_⟩;rw[rounds_succ];refine S w M a G j _ λa' w' D=>?_
    obtain⟨σ1,t1,r1,e1,m1⟩:=D;exact k2 w' σ1 a' r1 t1 Q λa2 w2 haf2=>E a2 w2 (haf2.trans e1 m1 O)
   .rename_i Z;obtain⟨O,S⟩:=ih c1 N H e B H' dr h;refine⟨O,λw M a G j Q E=>?_⟩;rw[rounds_succ];refine S w M a G j _ λa' w' D=>?_
    cases e with
    |normal=>exact absurd h (Z _ _)
    |exit id=>exact E _ _ D
    |ret=>exact E _ _ D
  refine⟨?_,hloop⟩;intro c N H e B H' dr h;cases c with
  |skip=>cases h;exact⟨Fd _,λw M a G j Q E=>wp_skip (E _ _ (.refl G j))⟩
  |label l=>cases h;exact⟨Fd _,λw M a G j Q E=>wp_label (E _ _ (.refl G j))⟩
  |exit id=>cases h;exact⟨Fd _,λw M a G j Q E=>wp_exit (E _ _ (.refl G j))⟩
  |ret=>cases h;exact⟨Fd _,λw M a G j Q E=>wp_ret (E _ _ (.refl G j))⟩
  |region id ops draw=>
   simp only[dT]at h;split at h
   .rename_i Y H1 hr;cases h;cases draw with
    |false=>exact fY fit hs hr
    |true=>obtain⟨h1,h2⟩:=xD fit hs hch (dr rfl).1 (dr rfl).2 hr;exact⟨h1,λw M a G j Q E=>h2 id w M a G j Q E⟩
   .cases h
  |seq x y=>
   simp only[dT]at h;split at h
   .rename_i Y H1 h1;obtain⟨O,S⟩:=ih x N H .normal Y H1 dr.1 h1;obtain⟨n2,k2⟩:=ih y Y H1 e B H' dr.2 h;refine⟨SK O n2,λw M a G j Q E=>wp_seq (S w M a G j _ λa' w' D=>?_)⟩;obtain⟨σ1,t1,r1,e1,m1⟩:=D;exact k2 w' σ1 a' r1 t1 Q λa2 w2 haf2=>E a2 w2 (haf2.trans e1 m1 O)
   .rename_i Z;obtain⟨O,S⟩:=ih x N H e B H' dr.1 h;refine⟨O,λw M a G j Q E=>wp_seq (S w M a G j _ λa' w' D=>?_)⟩;cases e with
    |normal=>exact absurd h (Z _ _)
    |exit id=>exact E _ _ D
    |ret=>exact E _ _ D
  |cond x c1 c2=>
   simp only[dT]at h;split at h
   .rename_i hb;obtain⟨O,S⟩:=ih c1 N H e B H' dr.1 h;refine⟨O,λw M a G j Q E=>wp_cond_true ?_ (S w M a G j Q E)⟩;have:=j.eval G.glob x;rw[hb]at this;generalize a.eval x=u at this;cases this;rfl
   .rename_i hb;obtain⟨O,S⟩:=ih c2 N H e B H' dr.2 h;refine⟨O,λw M a G j Q E=>wp_cond_false ?_ (S w M a G j Q E)⟩;have:=j.eval G.glob x;rw[hb]at this;generalize a.eval x=u at this;cases this;rfl
   .cases h
  |block id c1=>
   simp only[dT]at h;split at h
   .rename_i id' Y H1 h1;obtain⟨O,S⟩:=ih c1 N H _ Y H1 dr h1;split at h
    .rename_i hid;cases h;exact⟨O,λw M a G j Q E=>wp_block (S w M a G j _ λa' w' D=>by simp only[Dn,Exit.inBlock,hid,if_true];exact E _ _ D)⟩
    .rename_i hid;cases h;exact⟨O,λw M a G j Q E=>wp_block (S w M a G j _ λa' w' D=>by simp only[Dn,Exit.inBlock,hid,if_false];exact E _ _ D)⟩
   .rename_i Z;obtain⟨O,S⟩:=ih c1 N H e B H' dr h;refine⟨O,λw M a G j Q E=>wp_block (S w M a G j _ λa' w' D=>?_)⟩;cases e with
    |normal=>exact E _ _ D
    |exit id=>exact absurd h (Z _ _ _)
    |ret=>exact E _ _ D
  |loop c1=>obtain⟨O,S⟩:=hloop c1 N H e B H' dr h;exact⟨O,λw M a G j Q E=>wp_loop_rounds (f+1) (S w M a G j Q E)⟩
  |_=>simp[dT]at h
theorem E4(fit:Fit P F)(E:qD P T)(u:∀(g:Nat) (D:Func) (c:Code),P.funcs[g]? =some D->D.body=some c->jD c)(f:Nat)(c:Code)(B:List AV)(H:ae)(e:Ex)(j:List AV)(H':ae)(dr:jD c)(h:dT P F T f c B H=some (e,j,H')):cO P c B H e j H':=
 (C0 fit E u f).1 c B H e j H' dr h
end
theorem gH.of_pure{f:FuncId}{args:List AV}{v:AV}(h:aq Tryz.prog f args v)(S:bA v)(ha:∀(i:Nat) (a:AV),args[i]? =some a->bA a):gH Tryz.prog f args v:=by
 obtain⟨fn,c,Y,Z⟩:=h.1;refine .of_v Y Z S ha λw D E hW B=>?_
 obtain⟨u,H',L',h1,_,h3,_⟩:=h.2 ae.empty (λb _=>c8 b) ⟨.nil,λp h=>by simp at h⟩;subst h3;refine(h1 w D E hW B).mono λe w' ⟨G,j,O,N,k3,M,k5⟩=>⟨G,j,H',O,N,M⟩
end
def C1{α:Type}(f:α->α->Bool):List α->List α->Bool
 |[],[]=>true
 |a::l,b::m=>f a b&&C1 f l m
 |_,_=>false
def mf{α:Type}{f:α->α->Bool}(h:∀a b,f a b=true->a=b):∀{l m:List α},C1 f l m=true->l=m
 |[],[],_=>rfl
 | a::l,b::m,e=>by rw[C1,SN]at e;rw[h _ _ e.1,mf h e.2]
 |[],_::_,e=>by cases e
 |_::_,[],e=>by cases e
def Gh:Nat->AV->AV->Bool
 |0,_,_=>false
 | n+1,a,b=>match a,b with
  |.int k x,.int k' y=>decide (k=k')&&decide (x=y)
  |.bool x,.bool y=>x==y
  |.str x,.str y=>C1 (λ(p q:UInt8)=>decide (p=q)) x y
  |.nils,.nils=>true
  |.emp,.emp=>true
  |.nilp,.nilp=>true
  |.lst r,.lst s=>C1 (C1 (Gh n)) r s
  |.agg r,.agg s=>C1 (Gh n) r s
  |.tup r,.tup s=>C1 (Gh n) r s
  |_,_=>false
def Hq:∀{n:Nat} {a b:AV},Gh n a b=true->a=b:=by
 intro n
 induction n with
 |zero=>intro a b h;cases h
 |succ n j=>
  intro a b h;unfold Gh at h;split at h
  .simp only[SN,decide_eq_true_eq]at h;rw[h.1,h.2]
  .rw[beq_iff_eq]at h;rw[h]
  .rw[mf (λp q h=>of_decide_eq_true h) h]
  .rfl
  .rfl
  .rfl
  .rw[mf (λp q h=>mf (λa b h=>j h) h) h]
  .rw[mf (λa b h=>j h) h]
  .rw[mf (λa b h=>j h) h]
  .cases h
def zC:Nat->AV->Bool
 |0,_=>false
 | n+1,a=>match a with
  |.int ..|.bool _|.str _|.nils|.emp|.nilp=>true
  |.lst r=>r.all λl=>l.all (zC n)
  |.agg r=>r.all (zC n)
  |.tup r=>r.all (zC n)
  |_=>false
def E5:∀{n:Nat} {a:AV},zC n a=true->bA a:=by
 intro n
 induction n with
 |zero=>intro a h;cases h
 |succ n B=>
  intro a h;unfold zC at h;split at h
  .exact .int _ _
  .exact .bool _
  .exact .str _
  .exact .nils
  .exact .emp
  .exact .nilp
  .refine .lst _ λi r j a u D=>?_
   rw[SM]at h;have:=h _ (S8 u);rw[SM]at this;exact B (this _ (S8 D))
  .refine .agg _ λi a u=>?_
   rw[SM]at h;exact B (h _ (S8 u))
  .refine .tup _ λi a u=>?_
   rw[SM]at h;exact B (h _ (S8 u))
  .cases h
def IC(n:Nat):List (FuncId×List AV×AV)->(FuncId->List AV->Option AV)->FuncId->List AV->Option AV
 |[],T,f,args=>T f args
 |e::L,T,f,args=>if(Nat.beq f e.1&&C1 (Gh n) args e.2.1)=true then some e.2.2 else IC n L T f args
def xj{n:Nat}{T:FuncId->List AV->Option AV}(B:qD Tryz.prog T):∀{L:List (FuncId×List AV×AV)},(∀e∈L,gH Tryz.prog e.1 e.2.1 e.2.2)->qD Tryz.prog (IC n L T)
 |[],_=>B
 | e::L,h=>λf args v j=>by
  unfold IC at j;split at j
  .rename_i u;rw[SN]at u;cases j;have G:f=e.1:=Nat.eq_of_beq_eq_true u.1;have E:=mf (λa b h=>Hq h) u.2;rw[G,E];exact h e Ud
  .exact xj B (λe D=>h e (by simp[D])) f args v j
noncomputable def Nq (T:FuncId->List AV->Option AV) (n d:Nat) (f:FuncId) (args:List AV):Option AV:=match mV Tryz.prog (dT Tryz.prog Fl T n) f args ae.empty with
 |some (v,H)=>frz H d v
 |none=>none
def Sv(d:Nat)(v:AV):Option AV->Bool
 |some u=>Gh d u v
 |none=>false
def fR{f:FuncId}{n d:Nat}{args:List AV}{v:AV}{T:FuncId->List AV->Option AV}(hT:qD Tryz.prog T)(hp:(zC d v&&args.all (zC d))=true)(j:Sv d v (Nq T n d f args)=true):gH Tryz.prog f args v:=by
 rw[SN,SM]at hp;have Y:=(MS xN).2;have S:=rQ (P:=Tryz.prog) Y (λc τ H e G E dr hx=>E4 fit hT Y n c τ H e G E dr hx);unfold Nq at j;split at j
 .rename_i u E Z;have hz:frz E d u=some v:=by
   cases B:frz E d u with
   |none=>rw[B]at j;cases j
   |some x=>rw[B]at j;rw[Hq j]
  have hV:GE Tryz.prog f args v:=λw σ vs hW N=>(S.ok _ _ _ _ _ Z w σ vs hW N).mono λe w' ⟨O,M,he,k1,k2,k3,k4⟩=>
   ⟨O,M,ae.empty,he,rY k2 d u v O hz k1,k3.trans (eH.sub λb x D=>by rw[c8]at D;cases D)⟩
  obtain⟨fn,c,B,D⟩:=S.body _ _ _ _ _ Z;exact .of_v B D (E5 hp.1) (λi a h=>E5 (hp.2 a (S8 h))) hV
 .cases j
def aq.of_ok{f:FuncId}{args:List AV}{v:AV}(h:gH Tryz.prog f args v):aq Tryz.prog f args v:=
 ⟨h.2,λH j u=>⟨v,H,[],h.1 H,.refl j u,rfl,rfl⟩⟩
end Go.Proofs.YtbofdbhnbodbiaaGreatDoor.Am
