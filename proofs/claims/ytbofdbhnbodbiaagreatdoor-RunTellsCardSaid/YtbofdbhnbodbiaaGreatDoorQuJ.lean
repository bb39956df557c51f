/- A part of the proof; the statement is proved in the last part. -/
import Derived.Test.YtbofdbhnbodbiaaGreatDoorQuI
set_option linter.all false
set_option maxRecDepth 100000
set_option maxHeartbeats 20000000
namespace Go.Proofs.YtbofdbhnbodbiaaGreatDoor.Am
section
def aZ(l:List UInt8)(at_:Nat):Blk:=⟨2,[[.lst (l.map fL),.U1 (at_:Int)]]⟩
theorem HP(bt:Nat)(l:List UInt8)(a:Nat)(n:Int)(hl:l.length<2^40)(M:a<=l.length):
  ac Tryz.prog 56 [.ptr bt 0 0,.U1 n] [(bt,aZ l a)] λu K=>∃r j:Nat,u=.U1 (r:Int)/\((r:Int)<n\/r=0)/\K=[(bt,aZ l j)]/\j<=l.length:=by
 unfold aZ;refine tN _ _ _ _ ?_;refine vw ?_;generalize N:(λ(u:AV) (K:SH)=>∃r j:Nat,u=AV.U1 (r:Int)/\((r:Int)<n\/r=0)/\K=[(bt,(⟨2,[[.lst (l.map fL),.U1 (j:Int)]]⟩:Blk))]/\j<=l.length)=Q;have E:∀(r j:Nat),((r:Int)<n\/r=0)->j<=l.length->Q (.U1 (r:Int)) [(bt,⟨2,[[.lst (l.map fL),.U1 (j:Int)]]⟩)]:=λr j Z Y=>by subst N;exact⟨r,j,rfl,Z,rfl,Y⟩
 clear N;rcases Tf a l.length with g|g
 .have d1:decide ((l.length:Int)<=(a:Int))=false:=by simp;omega
  have hx:=am (f:=fL) g;have e1:=aw g UW;have e2:IntKind.i64.wrap (((a+1:Nat):Int)-1)=(a:Int):=by rw[TY _ UW];omega
  by_cases G:n<1
  .have d2:decide (n<1)=true:=by simpa using G
   repeat' (first|refine st ?_|refine sb λD B=>?_|refine s2 (λh=>?_) λh=>?_|fail)
   exact E 0 a (.inr rfl) M
  .have d2:decide (n<1)=false:=by simpa using G
   have S:n≠0:=by omega
   repeat' (first|refine st ?_|refine sb λD B=>?_|refine s2 (λh=>?_) λh=>?_|fail)
   have hb:(l[a].toNat:Int)<256:=by have:=l[a].toNat_lt;omega
   have e3:IntKind.i64.wrap (l[a].toNat:Int)=(l[a].toNat:Int):=by rw[TY _ UW]
   rw[e3];have O:(l[a].toNat:Int).tmod n=(((l[a].toNat:Int).tmod n).toNat:Nat):=by have:=Int.tmod_nonneg n (Int.natCast_nonneg l[a].toNat);omega
   rw[O];exact E _ (a+1) (.inl (by rw[<-O];exact Int.tmod_lt_of_pos _ UW)) UW
 .have d1:decide ((l.length:Int)<=(a:Int))=true:=by simp;omega
  repeat' (first|refine st ?_|refine sb λD B=>?_|refine s2 (λh=>?_) λh=>?_|fail)
  exact E 0 a (.inr rfl) M
def Dt(n:Int):ax:=.mk 1 n [] []
def qK(s:bv):ax:=.mk 2 0 s []
theorem Du(n:Int):aq Tryz.prog 59 [.U1 n] (.agg (Dt n).row):=by
 refine ac.fz (Fv _ _ _ ?_);refine vw ?_
 repeat' (first|refine st ?_|refine sb λu j=>?_|refine s2 (λh=>?_) λh=>?_|fail)
 exact⟨_,[],az.all (Fz.aggs (.cons (.refl _) (.cons (.refl _) (.cons (.refl _) (.cons .nils .nil))))),rfl,rfl⟩
theorem tR(s:bv):aq Tryz.prog 143 [.str s] (.agg (qK s).row):=by
 refine ac.fz (Dq _ _ _ ?_);refine vw ?_
 repeat' (first|refine st ?_|refine sb λu j=>?_|refine s2 (λh=>?_) λh=>?_|fail)
 exact⟨_,[],az.all (Fz.aggs (.cons (.refl _) (.cons (.refl _) (.cons (.refl _) (.cons .nils .nil))))),rfl,rfl⟩
def I9(op:Int)(a b:ax):ax:=.mk op 0 [] [a,b]
theorem zS(op:Int)(a b:ax):aq Tryz.prog 142 [.U1 op,.agg a.row,.agg b.row] (.agg (I9 op a b).row):=by
 refine ac.fz (zP _ _ _ _ _ ?_);refine vw ?_
 repeat' (first|refine st ?_|refine sb λu j=>?_|refine s2 (λh=>?_) λh=>?_|fail)
 exact⟨_,[],az.all (Fz.aggs (.cons (.refl _) (.cons (.refl _) (.cons (.refl _) (.cons (Fz.sls (l:=[a,b]) (f:=ax.enc) (size:=4) (rows:=[a.row,b.row]) (.head _) (by simp[ax.enc_row]) U0 rfl) .nil))))),rfl,rfl⟩
def jx:ax:=.mk 0 0 [] []
def cJ(s:bv)(e:ax):aa:=.mk 1 0 s [] [] e [] []
theorem cM(s:bv)(e:ax):aq Tryz.prog 58 [.str s,.agg e.row] (.agg (cJ s e).row):=by
 refine ac.fz (zQ _ _ _ _ ?_);refine vw ?_
 repeat' (first|refine st ?_|refine sb λu j=>?_|refine s2 (λh=>?_) λh=>?_|fail)
 exact⟨_,[],az.all (Fz.aggs (.cons (.refl _) (.cons (.refl _) (.cons (.refl _) (.cons (.refl _) (.cons .nils (.cons (.refl _) (.cons (.refl _) (.cons (.refl _) (.cons (.refl _) (.cons .nils (.cons .nils .nil)))))))))))),rfl,rfl⟩
def bM:List aN:=[⟨1,0,[120],0,0,[]⟩,⟨1,0,[121],0,1,[]⟩,⟨2,0,[118],0,0,[]⟩,⟨1,0,[113],2,0,[]⟩,⟨3,0,[109],0,0,[]⟩,⟨3,0,[110],0,0,[]⟩,⟨4,0,[114],0,0,[]⟩,⟨5,0,[99],0,0,[109]⟩,⟨6,0,[102],0,0,[]⟩]
theorem tS:aq Tryz.prog 55 [] (.lst (bM.map aN.enc)):=by
 refine ac.fz (Bh _ _ ?_);refine vw ?_
 repeat' (first|refine st ?_|refine sb λu j=>?_|refine s2 (λh=>?_) λh=>?_|fail)
 exact⟨_,[],az.all (Fz.sls (l:=bM) (f:=aN.enc) (size:=6) (.head _) rfl U0 rfl),rfl,rfl⟩
theorem wz:(∀j n,yz 0 j n=0)/\(∀j n,yz 1 j n=0)/\(∀j n,yz 2 j n=0)/\yz 3 [113] (0+1)=0/\(∀op,yz op [] (0+1+1)=z3 op)/\z0 1=0/\z0 2=0/\z0 3=0/\z0 6=0/\z0 13=0/\z3 6=0/\z3 13=0/\
  (∀n,zv 1 n=z0 n)/\(∀n,zv 2 n=z0 n)/\(∀n,zv 3 n=z0 n)/\(∀n,zv 14 n=z0 n)/\(∀n,zv 4 n=0)/\(∀n,zv 5 n=0)/\(∀n,zv 6 n=0)/\(∀n,zv 7 n=0)/\(∀n,zv 8 n=0)/\(∀n,zv 9 n=0)/\(∀n,zv 12 n=0)/\(∀n,zv 13 n=0)/\(∀n,zv 15 n=0)/\
  (∀j,zi j 0=0)/\zi [113] (0+1)=0/\(∀op n j l,ax.wt (.mk op n j l)=1+j.length+yz op j l.length+ax.wts l)/\ax.wts []=0/\(∀x l,ax.wts (x::l)=x.wt+z0 x.op+ax.wts l)/\
  (∀op line j arg D e u B,aa.wt (.mk op line j arg D e u B)=1+j.length+arg.length+ax.wts D+e.wt+zv op e.op+zi j D.length+aa.wts u+aa.wts B)/\aa.wts []=0/\(∀x l,aa.wts (x::l)=x.wt+aa.wts l)/\
  (∀a b c l,ax.op (.mk a b c l)=a)/\(∀n,Dt n=.mk 1 n [] [])/\(∀s,qK s=.mk 2 0 s [])/\(∀op a b,I9 op a b=.mk op 0 [] [a,b])/\jx=.mk 0 0 [] []/\(∀s e,cJ s e=.mk 1 0 s [] [] e [] []):=by
 refine⟨?_,?_,?_,?_,?_,?_,?_,?_,?_,?_,?_,?_,?_,?_,?_,?_,?_,?_,?_,?_,?_,?_,?_,?_,?_,?_,?_,?_,?_,?_,?_,?_,?_,?_,?_,?_,?_,?_,?_⟩
 all_goals first
  |rfl
  |(intros;rfl)
  |(intros;simp[yz,z3,zi])
theorem Qj{P:Prop}(h:P:=by simp only[wz,TC,TQ];omega):P:=h
theorem Sb{r:Nat}(h:(r:Int)<6\/r=0):z0 (([6,7,8,11,13,17]:List Int).getD r 0)=0/\z3 (([6,7,8,11,13,17]:List Int).getD r 0)=0:=by
 have h:r<6:=by omega
 match r,h with
 |0,_|1,_|2,_|3,_|4,_|5,_=>exact⟨rfl,rfl⟩
structure S8 where
 a:Nat
 thread:Int
 left:Int
 set:Bool
 tx:Bool
 atomic:Bool
 loop:Bool
 o:Option Nat
 ar:List bv
 k:Nat
def S8.row(bt:Nat)(s:S8):List AV:=[.ptr bt 0 0,.U1 s.thread,.U1 s.left,.bool s.set,.bool s.tx,.bool s.atomic,.bool s.loop,aj s.o s.k]
theorem fe{l:List bv}{b r:Nat}{rows:List (List AV)}{L:SH}{K:AV->Prop}(h:K (.str (l.getD r [])))(B:(b,(⟨1,rows⟩:Blk))∈L)(u:rows=l.map au)(j:r<l.length):W.load false 1 (.ptr b r 0) L K:=by subst u;refine yh B (am j) UY ?_;simpa[List.getD,j]using h
theorem LA{l:List Int}{b r:Nat}{rows:List (List AV)}{L:SH}{K:AV->Prop}(h:K (.U1 (l.getD r 0)))(B:(b,(⟨1,rows⟩:Blk))∈L)(u:rows=l.map ah)(j:r<l.length):W.load false 1 (.ptr b r 0) L K:=by subst u;refine yh B (am j) UY ?_;simpa[List.getD,j]using h
theorem fS{bt:Nat}{t:List UInt8}{a:Nat}{n:Int}{L u:SH}{KL:R}(ht:t.length<2^40)(E:a<=t.length)(D:eO bt (aZ t a) L u)(B:∀r j:Nat,((r:Int)<n\/r=0)->j<=t.length->KL (.U1 (r:Int)) ((bt,aZ t j)::u)):W.callM Tryz.prog 56 [.ptr bt 0 0,.U1 n] L KL:=
 fM (HP bt t a n ht E) D (by rintro _ _ ⟨r,j,rfl,M,rfl,G⟩;exact B r j M G)
theorem xD{bt:Nat}{t:List UInt8}{a i:Nat}{n:Int}{us:List W.WR}{L u:SH}{B:AV->SH->List Nat->Prop}(ht:t.length<2^40)(M:a<=t.length)(G:eO bt (aZ t a) L u)(D:∀r j:Nat,((r:Int)<n\/r=0)->j<=t.length->B (.U1 (r:Int)) ((bt,aZ t j)::u) [bt])(E:∀y∈us,W.free y ⟨i,[],[bt],[],true,[]⟩:=by(simp only[rm,rc,rz,W.free,cF,↓reduceIte,Nat.reduceEqDiff,af,fx,UN,T1,T6,not_false_eq_true,implies_true,and_true,true_and,and_self,Tz,reduceCtorEq,forall_const,false_implies,Tl,forall_eq,TZ,Ui,To,or_false,false_or,forall_eq_or_imp,not_or])<;>(repeat' constructor)<;>first|assumption|(exact Ne.symm UX)|(intro S;subst S;simp[SH.names]at *;done)):W.dcallM Tryz.prog us i 56 [.ptr bt 0 0,.U1 n] L B:=
 sD (HP bt t a n ht M) G E (by rintro _ _ ⟨r,j,rfl,O,rfl,N⟩;exact D r j O N)
def lK(bt:Nat)(v1 v2 v3 v4 v5 v6 v7:AV):Blk:=⟨8,[[.ptr bt 0 0,v1,v2,v3,v4,v5,v6,v7]]⟩
def Fy(d:Nat):Prop:=∀(bm bt:Nat) (t:List UInt8) (a:Nat) (v1 v2 v3 v4 v5 v6 v7:AV),t.length<2^40->a<=t.length->
  ac Tryz.prog 141 [.ptr bm 0 0,.U1 (d:Int)] [(bm,lK bt v1 v2 v3 v4 v5 v6 v7),(bt,aZ t a)] λu K=>∃(x:ax) (a':Nat),u=.agg x.row/\x.wt+z0 x.op<=4^(d+1)/\a'<=t.length/\K=[(bm,lK bt v1 v2 v3 v4 v5 v6 v7),(bt,aZ t a')]
section
variable {bm bt:Nat} {t:List UInt8} {a d:Nat} {dd:Int} {v1 v2 v3 v4 v5 v6 v7:AV} {L L1 L2:SH}
theorem cN{KL:R}(G:Fy d)(u:dd=(d:Int))(ht:t.length<2^40)(E:a<=t.length)(B:eO bm (lK bt v1 v2 v3 v4 v5 v6 v7) L L1)(h2:eO bt (aZ t a) L1 L2)(D:∀(x:ax) (j:Nat),x.wt+z0 x.op<=4^(d+1)->j<=t.length->KL (.agg x.row) ((bm,lK bt v1 v2 v3 v4 v5 v6 v7)::(bt,aZ t j)::L2)):
  W.callM Tryz.prog 141 [.ptr bm 0 0,.U1 dd] L KL:=by
 subst u;exact JW (G bm bt t a v1 v2 v3 v4 v5 v6 v7 ht E) B h2 (by rintro _ _ ⟨x,j,rfl,B,h2,rfl⟩;exact D x j B h2)
theorem Dv{us:List W.WR}{i:Nat}{D:AV->SH->List Nat->Prop}(N:Fy d)(u:dd=(d:Int))(ht:t.length<2^40)(M:a<=t.length)(B:eO bm (lK bt v1 v2 v3 v4 v5 v6 v7) L L1)(h2:eO bt (aZ t a) L1 L2)(E:∀(x:ax) (j:Nat),x.wt+z0 x.op<=4^(d+1)->j<=t.length->D (.agg x.row) ((bm,lK bt v1 v2 v3 v4 v5 v6 v7)::(bt,aZ t j)::L2) [bm,bt])
  (G:∀y∈us,W.free y ⟨i,[],[bm,bt],[],true,[]⟩:=by(simp only[rm,rc,rz,W.free,cF,↓reduceIte,Nat.reduceEqDiff,af,fx,UN,T1,T6,not_false_eq_true,implies_true,and_true,true_and,and_self,Tz,reduceCtorEq,forall_const,false_implies,Tl,forall_eq,TZ,Ui,To,or_false,false_or,forall_eq_or_imp,not_or])<;>(repeat' constructor)<;>first|assumption|(exact Ne.symm UX)|(intro O;subst O;simp[SH.names]at *;done)):W.dcallM Tryz.prog us i 141 [.ptr bm 0 0,.U1 dd] L D:=by
 subst u;exact Ih (N bm bt t a v1 v2 v3 v4 v5 v6 v7 ht M) B h2 G (by rintro _ _ ⟨x,j,rfl,B,h2,rfl⟩;exact E x j B h2)
end
theorem LB(r:Nat):(([[97],[98],[120],[121],[118],[120],[121]]:List bv).getD r []).length<=1:=by
 rcases Tf r 7 with h|h
 .match r,h with
  |0,_|1,_|2,_|3,_|4,_|5,_|6,_=>exact Te _
 .rw[List.getD,Tg (by simpa using h)];exact TG _
theorem HQ:Fy 0:=by
  intro bm bt t a v1 v2 v3 v4 v5 v6 v7 N ha;refine ac.fz (jt _ _ _ _ ?_);refine vw ?_;generalize E:(λ(v:AV) (L:SH)=>∃j L2,az [v] L [j] L2/\∃(x:ax) (u:Nat),j=AV.agg x.row/\x.wt+z0 x.op<=4^(0+1)/\u<=t.length/\L2=[(bm,lK bt v1 v2 v3 v4 v5 v6 v7),(bt,aZ t u)])=Q;have B:∀(v:AV) (x:ax) (u:Nat) (L L1 L2:SH),eO bm (lK bt v1 v2 v3 v4 v5 v6 v7) L L1->eO bt (aZ t u) L1 L2->Fz L2 v (.agg x.row)->x.wt+z0 x.op<=4->u<=t.length->Q v L:=λv x u L L1 L2 h1 h2 h3 Z Y=>by subst E;exact⟨_,_,az.keep2 h1 h2 h3,x,u,rfl,Z,Y,rfl⟩
  clear E;unfold lK
  repeat' (first|refine st ?_|((with_reducible refine bb 56 ?_);(refine fS N UX rp (λG a_ O S=>?_)))|(refine pf 59 ?_;refine pm (Du _) ?_)|(refine pf 143 ?_;refine pm (tR _) ?_)|refine fe (l:=[[97],[98],[120],[121],[118],[120],[121]]) ?_ mm rfl (by simp;omega)|refine dQ ?_ UW|refine sb λM D=>?_|refine s2 (λh=>?_) λh=>?_|fail)
  all_goals first
   |exact B _ (Dt _) _ _ _ _ rp rp (.refl _) Qj UX
   |exact B _ (qK _) _ _ _ _ rp rp (.refl _) (by have:=LB G;exact Qj) UX
   |(exfalso;simp at *;omega)
theorem ca:∀d:Nat,d<1000->Fy d:=by
 intro d
 induction d with
 |zero=>exact λ_=>HQ
 |succ d O=>
  intro N bm bt t a v1 v2 v3 v4 v5 v6 v7 G ha;have O:=O UW;have Y:Fy 0:=HQ;have d0:decide (((d+1:Nat):Int)=0)=false:=by simp;omega
  have e1:IntKind.i64.wrap (((d+1:Nat):Int)-1)=(d:Int):=by rw[TY _ UW];omega
  have hp:1<=4^d:=Nat.one_le_pow _ _ U0;have hp1:4^(d+1)=4*4^d:=by rw[Nat.pow_succ,Nat.mul_comm]
  have hp2:4^(d+1+1)=16*4^d:=by rw[Nat.pow_succ,Nat.pow_succ];omega
  refine ac.fz (jt _ _ _ _ ?_);refine vw ?_;generalize hQ:(λ(v:AV) (L:SH)=>∃j L2,az [v] L [j] L2/\∃(x:ax) (B:Nat),j=AV.agg x.row/\x.wt+z0 x.op<=4^(d+1+1)/\B<=t.length/\L2=[(bm,lK bt v1 v2 v3 v4 v5 v6 v7),(bt,aZ t B)])=Q;have M:∀(v:AV) (x:ax) (B:Nat) (L L1 L2:SH),eO bm (lK bt v1 v2 v3 v4 v5 v6 v7) L L1->eO bt (aZ t B) L1 L2->Fz L2 v (.agg x.row)->x.wt+z0 x.op<=16*4^d->B<=t.length->Q v L:=λv x B L L1 L2 h1 h2 h3 h4 h5=>by subst hQ;exact⟨_,_,az.keep2 h1 h2 h3,x,B,rfl,UW,h5,rfl⟩
  clear hQ;unfold lK
  repeat' (first|refine st ?_|((with_reducible refine bb 56 ?_);(refine fS G UX rp (λr_ Z D u=>?_)))|(refine pf 59 ?_;refine pm (Du _) ?_)|(refine pf 143 ?_;refine pm (tR _) ?_)|(refine pf 142 ?_;refine pm (zS _ _ _) ?_)|refine fe (l:=[[97],[98],[120],[121],[118],[120],[121]]) ?_ mm rfl (by simp;omega)|refine LA (l:=[6,7,8,11,13,17]) ?_ mm rfl (by simp;omega)|refine dQ ?_ UW|((with_reducible refine ew 56 ?_);refine xD G UX rp (λr_ Z D u=>?_))|((with_reducible refine bb 141 ?_);(refine cN Y UY G UX rp rp (λE Z S u=>?_)))|((with_reducible refine ew 141 ?_);refine Dv O UY G UX rp rp (λE Z S u=>?_))|refine sb λnb_ hnb_=>?_|refine s2 (λh=>?_) λh=>?_|fail)
  all_goals first
   |exact M _ (Dt _) _ _ _ _ rp rp (.refl _) Qj UX
   |exact M _ (qK _) _ _ _ _ rp rp (.refl _) (by have:=LB r_;exact Qj) UX
   |exact M _ (.mk 3 0 [113] [E]) _ _ _ _ rp rp (Fz.aggs (.cons (.refl _) (.cons (.refl _) (.cons (.refl _) (.cons (Fz.sls (l:=[E]) (f:=ax.enc) (size:=4) (rows:=[E.row]) (.head _) (by simp[ax.enc_row]) U0 rfl) .nil))))) Qj UX
   |exact M _ (I9 _ _ _) _ _ _ _ rp rp (.refl _) (by have:=Sb D;exact Qj) UX
end
def Ja(b:UInt8):cK:=⟨(b.toNat:Int).tmod 4,((b.toNat:Int).tdiv 4).tmod 5-1⟩
def PM(b:UInt8):IntKind.i64.wrap (((b.toNat:Int).tdiv 4).tmod 5-1)=((b.toNat:Int).tdiv 4).tmod 5-1:=by
 have h:(b.toNat:Int)<256:=by have:=b.toNat_lt;omega
 have j:((b.toNat:Int).tdiv 4).tmod 5=((b.toNat:Int) / 4) % 5:=by rw[Int.tdiv_eq_ediv_of_nonneg UW,Int.tmod_eq_emod_of_nonneg UW]
 rw[TY _ (by rw[j];omega)]
def FA(t:List UInt8)(ht:t.length<2^20):aq Tryz.prog 8 [.lst (t.map fL)] (.lst ((t.map Ja).map cK.enc)):=by
 refine ac.fz (xg _ _ _ ?_);refine vw ?_;generalize hQ:(λ(v:AV) (L:SH)=>∃S L2,az [v] L [S] L2/\S=AV.lst ((t.map Ja).map cK.enc)/\L2=[])=Q;have Y:∀v L,Fz L v (.lst ((t.map Ja).map cK.enc))->Q v L:=λv L h=>by subst hQ;exact⟨_,[],az.all h,rfl,rfl⟩
 clear hQ;refine bz t.length (λk (o:Option Nat)=>([.lst (t.map fL),aj o k,.U1 k],ab o 2 (((t.take k).map Ja).map cK.enc))) (λk o=>o=none->k=0) none (λ_=>rfl) (az.drop (K:=[]) (.refl _) rfl (eP.at_ (.cons (.refl _) (.cons .nile (.cons (.refl _) .nil)))).2) ?_;intro k o hk Z;dsimp only;refine vw ?_;rcases Nat.lt_or_ge k t.length with D|D
 .have hd:=aS D;have hx:=am (f:=fL) D;have M:t.take (k+1)=t.take k++[t[k]]:=Th D;have N:o=none->((t.take k).map Ja).map cK.enc=[]:=λe=>by rw[Z e];rfl
  have hl:((t.take k).map Ja).length=k:=by simp;omega
  generalize t[k]=b at *;have hb:(b.toNat:Int)<256:=by have:=b.toNat_lt;omega
  have w1:IntKind.i64.wrap (b.toNat:Int)=(b.toNat:Int):=TY _ UW;have w2:=PM b;have fin:∀(E:Nat) (L:SH),fE L (ab (some E) 2 (((t.take k).map Ja).map cK.enc++[(Ja b).enc]))->∃(j:Nat) (G:Option Nat),k<j/\j<=t.length/\(G=none->j=0)/\az [.lst (t.map fL),.sl E 0 (k+1),.U1 (IntKind.i64.wrap ((k:Int)+1))] L [.lst (t.map fL),aj G j,.U1 j] (ab G 2 (((t.take j).map Ja).map cK.enc)):=by intro E L hL;refine⟨k+1,some E,UW,UW,nofun,?_⟩;rw[aw D UW];exact az.pickE hL rfl (by rw[M];simp)
  rw[show(Ja b).enc=[.U1 ((b.toNat:Int).tmod 4),.U1 (((b.toNat:Int).tdiv 4).tmod 5-1)]from rfl]at fin;rw[show fL b=[.int .u8 (b.toNat:Int)]from rfl]at hx;clear Y;generalize hX:((t.take k).map Ja).map cK.enc=X at *;have hXl:X.length=k:=by rw[<-hX];simp;omega
  repeat' (first|refine st ?_|refine bA rp rp UW N UY UZ (by simp;omega) (by simp;omega) UY (λB u=>?_)|refine sb λB u=>?_|refine s2 (λh=>?_) λh=>?_|fail)
  have w3:IntKind.i64.wrap ((b.toNat:Int).tdiv 4)=(b.toNat:Int).tdiv 4:=by rw[Int.tdiv_eq_ediv_of_nonneg UW];exact TY _ UW
  simp only[w1,w3,w2];exact fin B _ rp
 .have hd:=aX D;have O:k=t.length:=by omega
  subst O;rw[TH (Te _)];have fin:∀L,(∀q∈ab o 2 ((t.map Ja).map cK.enc),q∈L)->Q (aj o t.length) L:=λL hm=>by
   refine Y _ _ ?_;cases o with
   |none=>have:t=[]:=T9.1 (Z rfl);subst this;exact .emp
   |some b=>exact Fz.sls (hm _ (.head _)) rfl U0 UZ
  repeat' (first|refine st ?_|refine sb λB u=>?_|refine s2 (λh=>?_) λh=>?_|fail)
  exact fin _ λq h=>h
section
def Ca(T:FuncId->List AV->Option AV)(call:FuncId->List AV->ae->Option (AV×ae))(g:FuncId)(args:List AV)(H:ae):Option (AV×ae):=match T g args with
 |some v=>some (v,H)
 |none=>call g args H
def dW(P:Program)(F:TypeId->Option (List TypeId))(T:FuncId->List AV->Option AV):Nat->Code->List AV->ae->Option (Ex×List AV×ae)
 |0,_,_,_=>none
 |f+1,c,τ,H=>
  match c with
  |.skip|.label _=>some (.normal,τ,H)
  | .region _ ops draw=>match dM P F (Ca T (nz P (dW P F T f))) ops draw τ H with
   |some (τ,H)=>some (.normal,τ,H)
   |none=>none
  | .seq a b=>match dW P F T f a τ H with
   |some (.normal,τ,H)=>dW P F T f b τ H
   |r=>r
  | .cond c a b=>match jA τ c with
   |.bool true=>dW P F T f a τ H
   |.bool false=>dW P F T f b τ H
   |_=>none
  | .block id b=>match dW P F T f b τ H with
   |some (.exit id',τ,H)=>if id'=id then some (.normal,τ,H)else some (.exit id',τ,H)
   |r=>r
  | .loop b=>match dW P F T f b τ H with
   |some (.normal,τ,H)=>dW P F T f (.loop b) τ H
   |r=>r
  |.exit id=>some (.exit id,τ,H)
  |.ret=>some (.ret,τ,H)
  |_=>none
def qL(P:Program)(T:FuncId->List AV->Option AV):Prop:=∀f args v,T f args=some v->gM P f args v
section
variable {P:Program} {F:TypeId->Option (List TypeId)} {T:FuncId->List AV->Option AV} {call:FuncId->List AV->ae->Option (AV×ae)}
theorem FB(G:qL P T)(E:eF P call):eF P (Ca T call):=by
 refine⟨λf B H v M j=>?_,λf B H v M j=>?_,λf B H v M j=>?_⟩
 all_goals
  unfold Ca at j;split at j
 .rename_i u D;cases j;exact(G _ _ _ D).1 _
 .exact E.ok _ _ _ _ _ j
 .cases j;exact Te _
 .exact E.next _ _ _ _ _ j
 .rename_i u D;cases j;exact(G _ _ _ D).2
 .exact E.body _ _ _ _ _ j
theorem Cb(h:∀f args H v H',Bd H->call f args H=some (v,H')->vG H H'):∀f args H v H',Bd H->Ca T call f args H=some (v,H')->vG H H':=λf args H v H' u j=>by
 unfold Ca at j;split at j
 .cases j;exact .refl _
 .exact h _ _ _ _ _ u j
theorem Jb(f:Nat):∀(c:Code) (M:List AV) (H:ae) (e:Ex) (B:List AV) (H':ae),Bd H->dW P F T f c M H=some (e,B,H')->vG H H':=by
 induction f with
 |zero=>intro c M H e B H' _ h;cases h
 |succ f u=>
  intro c M H e B H' j h;cases c with
  |skip=>cases h;exact .refl _
  |label l=>cases h;exact .refl _
  |exit O=>cases h;exact .refl _
  |ret=>cases h;exact .refl _
  |region O ops S=>
   simp only[dW]at h;split at h
   .rename_i hr;cases h;exact FV (λf Z H v H' N D=>Cb (λ_ _ _ _ _ N hc=>xR u N hc) _ _ _ _ _ N D) j hr
   .cases h
  |seq x y=>
   simp only[dW]at h;split at h
   .rename_i E;have G:=u _ _ _ _ _ _ j E;exact G.trans (u _ _ _ _ _ _ (G.bd j) h)
   .exact u _ _ _ _ _ _ j h
  |cond x Y c2=>
   simp only[dW]at h;split at h
   .exact u _ _ _ _ _ _ j h
   .exact u _ _ _ _ _ _ j h
   .cases h
  |block O Y=>
   simp only[dW]at h;split at h
   .rename_i E;split at h
    .cases h;exact u _ _ _ _ _ _ j E
    .cases h;exact u _ _ _ _ _ _ j E
   .exact u _ _ _ _ _ _ j h
  |loop Y=>
   simp only[dW]at h;split at h
   .rename_i E;have G:=u _ _ _ _ _ _ j E;exact G.trans (u _ _ _ _ _ _ (G.bd j) h)
   .exact u _ _ _ _ _ _ j h
  |_=>simp[dW]at h
theorem Dw(fit:Fit P F)(hT:qL P T)(hgood:∀(g:Nat) (fn:Func) (c:Code),P.funcs[g]? =some fn->fn.body=some c->jK c)(f:Nat):(∀(c:Code) (N:List AV) (H:ae) (e:Ex) (B:List AV) (H':ae),jK c->dW P F T f c N H=some (e,B,H')->cQ P c N H e B H')/\
  (∀(c:Code) (N:List AV) (H:ae) (e:Ex) (B:List AV) (H':ae),jK c->dW P F T f (.loop c) N H=some (e,B,H')->ko P f c N H e B H'):=by
 induction f with
 |zero=>exact⟨λc N H e B H' _ h=>(by cases h),λc N H e B H' _ h=>(by cases h)⟩
 |succ f ih0=>
  obtain⟨ih,ihl⟩:=ih0;have hs:=FB hT (sd (P:=P) hgood ih);have hch:∀g args H v H',Bd H->Ca T (nz P (dW P F T f)) g args H=some (v,H')->vG H H':=Cb (λ_ _ _ _ _ hb hc=>xR (Jb f) hb hc);have hloop:∀(c:Code) (N:List AV) (H:ae) (e:Ex) (B:List AV) (H':ae),jK c->dW P F T (f+1) (.loop c) N H=some (e,B,H')->ko P (f+1) c N H e B H':=by
   intro c1 N H e B H' dr h;simp only[dW]at h;split at h
   .rename_i Y H1 h1;obtain⟨O,S⟩:=ih c1 N H .normal Y H1 dr h1;obtain⟨n2,k2⟩:=ihl c1 Y H1 e B H' dr h;refine⟨Tx O n2,λw M a G j Q E=>?_⟩;rw[rounds_succ];refine S w M a G j _ λa' w' D=>?_
    obtain⟨σ1,t1,r1,e1,m1⟩:=D;exact k2 w' σ1 a' r1 t1 Q λa2 w2 haf2=>E a2 w2 (haf2.trans e1 m1 O)
   .rename_i Z;obtain⟨O,S⟩:=ih c1 N H e B H' dr h;refine⟨O,λw M a G j Q E=>?_⟩;rw[rounds_succ];refine S w M a G j _ λa' w' D=>?_
    cases e with
    |normal=>exact absurd h (Z _ _)
    |exit id=>exact E _ _ D
    |ret=>exact E _ _ D
  refine⟨?_,hloop⟩;intro c N H e B H' dr h;cases c with
  |skip=>cases h;exact⟨Te _,λw M a G j Q E=>wp_skip (E _ _ (.refl G j))⟩
  |label l=>cases h;exact⟨Te _,λw M a G j Q E=>wp_label (E _ _ (.refl G j))⟩
  |exit id=>cases h;exact⟨Te _,λw M a G j Q E=>wp_exit (E _ _ (.refl G j))⟩
  |ret=>cases h;exact⟨Te _,λw M a G j Q E=>wp_ret (E _ _ (.refl G j))⟩
  |region id ops draw=>
   simp only[dW]at h;split at h
   .rename_i Y H1 hr;cases h;cases draw with
    |false=>exact gj fit hs hr
    |true=>obtain⟨h1,h2⟩:=xW fit hs hch (dr rfl).1 (dr rfl).2 hr;exact⟨h1,λw M a G j Q E=>h2 id w M a G j Q E⟩
   .cases h
  |seq x y=>
   simp only[dW]at h;split at h
   .rename_i Y H1 h1;obtain⟨O,S⟩:=ih x N H .normal Y H1 dr.1 h1;obtain⟨n2,k2⟩:=ih y Y H1 e B H' dr.2 h;refine⟨Tx O n2,λw M a G j Q E=>wp_seq (S w M a G j _ λa' w' D=>?_)⟩;obtain⟨σ1,t1,r1,e1,m1⟩:=D;exact k2 w' σ1 a' r1 t1 Q λa2 w2 haf2=>E a2 w2 (haf2.trans e1 m1 O)
   .rename_i Z;obtain⟨O,S⟩:=ih x N H e B H' dr.1 h;refine⟨O,λw M a G j Q E=>wp_seq (S w M a G j _ λa' w' D=>?_)⟩;cases e with
    |normal=>exact absurd h (Z _ _)
    |exit id=>exact E _ _ D
    |ret=>exact E _ _ D
  |cond x c1 c2=>
   simp only[dW]at h;split at h
   .rename_i hb;obtain⟨O,S⟩:=ih c1 N H e B H' dr.1 h;refine⟨O,λw M a G j Q E=>wp_cond_true ?_ (S w M a G j Q E)⟩;have:=j.eval G.glob x;rw[hb]at this;generalize a.eval x=u at this;cases this;rfl
   .rename_i hb;obtain⟨O,S⟩:=ih c2 N H e B H' dr.2 h;refine⟨O,λw M a G j Q E=>wp_cond_false ?_ (S w M a G j Q E)⟩;have:=j.eval G.glob x;rw[hb]at this;generalize a.eval x=u at this;cases this;rfl
   .cases h
  |block id c1=>
   simp only[dW]at h;split at h
   .rename_i id' Y H1 h1;obtain⟨O,S⟩:=ih c1 N H _ Y H1 dr h1;split at h
    .rename_i hid;cases h;exact⟨O,λw M a G j Q E=>wp_block (S w M a G j _ λa' w' D=>by simp only[DT,Exit.inBlock,hid,if_true];exact E _ _ D)⟩
    .rename_i hid;cases h;exact⟨O,λw M a G j Q E=>wp_block (S w M a G j _ λa' w' D=>by simp only[DT,Exit.inBlock,hid,if_false];exact E _ _ D)⟩
   .rename_i Z;obtain⟨O,S⟩:=ih c1 N H e B H' dr h;refine⟨O,λw M a G j Q E=>wp_block (S w M a G j _ λa' w' D=>?_)⟩;cases e with
    |normal=>exact E _ _ D
    |exit id=>exact absurd h (Z _ _ _)
    |ret=>exact E _ _ D
  |loop c1=>obtain⟨O,S⟩:=hloop c1 N H e B H' dr h;exact⟨O,λw M a G j Q E=>wp_loop_rounds (f+1) (S w M a G j Q E)⟩
  |_=>simp[dW]at h
theorem FC(fit:Fit P F)(E:qL P T)(u:∀(g:Nat) (D:Func) (c:Code),P.funcs[g]? =some D->D.body=some c->jK c)(f:Nat)(c:Code)(B:List AV)(H:ae)(e:Ex)(j:List AV)(H':ae)(dr:jK c)(h:dW P F T f c B H=some (e,j,H')):cQ P c B H e j H':=
 (Dw fit E u f).1 c B H e j H' dr h
end
theorem gM.of_pure{f:FuncId}{args:List AV}{v:AV}(h:aq Tryz.prog f args v)(S:bD v)(ha:∀(i:Nat) (a:AV),args[i]? =some a->bD a):gM Tryz.prog f args v:=by
 obtain⟨fn,c,Y,Z⟩:=h.1;refine .of_v Y Z S ha λw D E hW B=>?_
 obtain⟨u,H',L',h1,_,h3,_⟩:=h.2 ae.empty (λb _=>db b) ⟨.nil,λp h=>by simp at h⟩;subst h3;refine(h1 w D E hW B).mono λe w' ⟨G,j,O,N,k3,M,k5⟩=>⟨G,j,H',O,N,M⟩
end
def Dx{α:Type}(f:α->α->Bool):List α->List α->Bool
 |[],[]=>true
 |a::l,b::m=>f a b&&Dx f l m
 |_,_=>false
def mv{α:Type}{f:α->α->Bool}(h:∀a b,f a b=true->a=b):∀{l m:List α},Dx f l m=true->l=m
 |[],[],_=>rfl
 | a::l,b::m,e=>by rw[Dx,Ty]at e;rw[h _ _ e.1,mv h e.2]
 |[],_::_,e=>by cases e
 |_::_,[],e=>by cases e
def GO:Nat->AV->AV->Bool
 |0,_,_=>false
 | n+1,a,b=>match a,b with
  |.int k x,.int k' y=>decide (k=k')&&decide (x=y)
  |.bool x,.bool y=>x==y
  |.str x,.str y=>Dx (λ(p q:UInt8)=>decide (p=q)) x y
  |.nils,.nils=>true
  |.emp,.emp=>true
  |.nilp,.nilp=>true
  |.lst r,.lst s=>Dx (Dx (GO n)) r s
  |.agg r,.agg s=>Dx (GO n) r s
  |.tup r,.tup s=>Dx (GO n) r s
  |_,_=>false
def HR:∀{n:Nat} {a b:AV},GO n a b=true->a=b:=by
 intro n
 induction n with
 |zero=>intro a b h;cases h
 |succ n j=>
  intro a b h;unfold GO at h;split at h
  .simp only[Ty,decide_eq_true_eq]at h;rw[h.1,h.2]
  .rw[beq_iff_eq]at h;rw[h]
  .rw[mv (λp q h=>of_decide_eq_true h) h]
  .rfl
  .rfl
  .rfl
  .rw[mv (λp q h=>mv (λa b h=>j h) h) h]
  .rw[mv (λa b h=>j h) h]
  .rw[mv (λa b h=>j h) h]
  .cases h
def zT:Nat->AV->Bool
 |0,_=>false
 | n+1,a=>match a with
  |.int ..|.bool _|.str _|.nils|.emp|.nilp=>true
  |.lst r=>r.all λl=>l.all (zT n)
  |.agg r=>r.all (zT n)
  |.tup r=>r.all (zT n)
  |_=>false
def FD:∀{n:Nat} {a:AV},zT n a=true->bD a:=by
 intro n
 induction n with
 |zero=>intro a h;cases h
 |succ n B=>
  intro a h;unfold zT at h;split at h
  .exact .int _ _
  .exact .bool _
  .exact .str _
  .exact .nils
  .exact .emp
  .exact .nilp
  .refine .lst _ λi r j a u D=>?_
   rw[Tv]at h;have:=h _ (T0 u);rw[Tv]at this;exact B (this _ (T0 D))
  .refine .agg _ λi a u=>?_
   rw[Tv]at h;exact B (h _ (T0 u))
  .refine .tup _ λi a u=>?_
   rw[Tv]at h;exact B (h _ (T0 u))
  .cases h
def Jc(n:Nat):List (FuncId×List AV×AV)->(FuncId->List AV->Option AV)->FuncId->List AV->Option AV
 |[],T,f,args=>T f args
 |e::L,T,f,args=>if(Nat.beq f e.1&&Dx (GO n) args e.2.1)=true then some e.2.2 else Jc n L T f args
def xE{n:Nat}{T:FuncId->List AV->Option AV}(B:qL Tryz.prog T):∀{L:List (FuncId×List AV×AV)},(∀e∈L,gM Tryz.prog e.1 e.2.1 e.2.2)->qL Tryz.prog (Jc n L T)
 |[],_=>B
 | e::L,h=>λf args v j=>by
  unfold Jc at j;split at j
  .rename_i u;rw[Ty]at u;cases j;have G:f=e.1:=Nat.eq_of_beq_eq_true u.1;have E:=mv (λa b h=>HR h) u.2;rw[G,E];exact h e UZ
  .exact xE B (λe D=>h e (by simp[D])) f args v j
noncomputable def N0 (T:FuncId->List AV->Option AV) (n d:Nat) (f:FuncId) (args:List AV):Option AV:=match nz Tryz.prog (dW Tryz.prog Fl T n) f args ae.empty with
 |some (v,H)=>frz H d v
 |none=>none
def Tc(d:Nat)(v:AV):Option AV->Bool
 |some u=>GO d u v
 |none=>false
def fZ{f:FuncId}{n d:Nat}{args:List AV}{v:AV}{T:FuncId->List AV->Option AV}(hT:qL Tryz.prog T)(hp:(zT d v&&args.all (zT d))=true)(j:Tc d v (N0 T n d f args)=true):gM Tryz.prog f args v:=by
 rw[Ty,Tv]at hp;have Y:=(Nv yg).2;have S:=sd (P:=Tryz.prog) Y (λc τ H e G E dr hx=>FC fit hT Y n c τ H e G E dr hx);unfold N0 at j;split at j
 .rename_i u E Z;have hz:frz E d u=some v:=by
   cases B:frz E d u with
   |none=>rw[B]at j;cases j
   |some x=>rw[B]at j;rw[HR j]
  have hV:G8 Tryz.prog f args v:=λw σ vs hW N=>(S.ok _ _ _ _ _ Z w σ vs hW N).mono λe w' ⟨O,M,he,k1,k2,k3,k4⟩=>
   ⟨O,M,ae.empty,he,su k2 d u v O hz k1,k3.trans (eM.sub λb x D=>by rw[db]at D;cases D)⟩
  obtain⟨fn,c,B,D⟩:=S.body _ _ _ _ _ Z;exact .of_v B D (FD hp.1) (λi a h=>FD (hp.2 a (T0 h))) hV
 .cases j
def aq.of_ok{f:FuncId}{args:List AV}{v:AV}(h:gM Tryz.prog f args v):aq Tryz.prog f args v:=
 ⟨h.2,λH j u=>⟨v,H,[],h.1 H,.refl j u,rfl,rfl⟩⟩
end Go.Proofs.YtbofdbhnbodbiaaGreatDoor.Am
