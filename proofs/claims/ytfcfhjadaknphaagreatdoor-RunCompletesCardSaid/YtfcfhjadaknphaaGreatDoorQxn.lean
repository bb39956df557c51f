/- part -/
import Derived.Test.YtfcfhjadaknphaaGreatDoorQxm
set_option linter.all false
set_option maxRecDepth 100000
set_option maxHeartbeats 0
namespace Go.Proofs.YtfcfhjadaknphaaGreatDoor.Am
section
def bE(l:List UInt8)(at_:Nat):Blk:=⟨2,[[.lst (l.map eJ),.YJ (at_:Int)]]⟩
theorem KA(bt:Nat)(l:List UInt8)(a:Nat)(n:Int)(hl:l.length<2^63)(E:a<=l.length):
  ac Tryz.prog 22 [.ptr bt 0 0,.YJ n] [(bt,bE l a)] λu K=>∃r j:Nat,u=.YJ (r:Int)/\((r:Int)<n\/r=0)/\K=[(bt,bE l j)]/\j<=l.length:=by
 unfold bE;refine vI _ _ _ _ ?_;refine vw ?_;generalize G:(λ(u:AV) (K:SH)=>∃r j:Nat,u=AV.YJ (r:Int)/\((r:Int)<n\/r=0)/\K=[(bt,(⟨2,[[.lst (l.map eJ),.YJ (j:Int)]]⟩:Blk))]/\j<=l.length)=Q;have B:∀(r j:Nat),((r:Int)<n\/r=0)->j<=l.length->Q (.YJ (r:Int)) [(bt,⟨2,[[.lst (l.map eJ),.YJ (j:Int)]]⟩)]:=λr j Y S=>by subst G;exact⟨r,j,rfl,Y,rfl,S⟩
 clear G;rcases Fn a l.length with g|g
 .have d1:decide ((l.length:Int)<=(a:Int))=false:=by simp;omega
  have hx:=aq (f:=eJ) g;have e1:IntKind.i64.wrap ((a:Int)+1)=((a+1:Nat):Int):=by rw[WY _ YC];omega
  have e2:IntKind.i64.wrap (((a+1:Nat):Int)-1)=(a:Int):=by rw[WY _ YC];omega
  by_cases D:n<1
  .have d2:decide (n<1)=true:=by simpa using D
   repeat' (first|refine sy ?_|refine s2 ?_ ?_|intro)
   exact B 0 a (.inr rfl) E
  .have d2:decide (n<1)=false:=by simpa using D
   have O:n≠0:=by omega
   repeat' (first|refine sy ?_|refine s2 ?_ ?_|intro)
   have hb:(l[a].toNat:Int)<256:=by have:=l[a].toNat_lt;omega
   have Z:IntKind.i64.wrap (l[a].toNat:Int)=(l[a].toNat:Int):=by rw[WY _ YC]
   rw[Z];have M:(l[a].toNat:Int).tmod n=(((l[a].toNat:Int).tmod n).toNat:Nat):=by have:=Int.tmod_nonneg n (Yq l[a].toNat);omega
   rw[M];exact B _ (a+1) (.inl (by rw[<-M];exact Int.tmod_lt_of_pos _ YC)) YC
 .have d1:decide ((l.length:Int)<=(a:Int))=true:=by simp;omega
  repeat' (first|refine sy ?_|refine s2 ?_ ?_|intro)
  exact B 0 a (.inr rfl) E
def xu(n:Int):ae:=.mk 1 n [] []
def sV(s:aO):ae:=.mk 2 0 s []
theorem FF(n:Int):ao Tryz.prog 26 [.YJ n] (.agg (xu n).row):=by
 refine ac.fz (HY _ _ _ ?_);refine vw ?_
 repeat' (first|refine sy ?_|refine s2 ?_ ?_|intro)
 exact⟨_,[],aE.all (Fz.aggs (.cons (.refl _) (.cons (.refl _) (.cons (.refl _) (.cons .nils .nil))))),rfl,rfl⟩
theorem vM(s:aO):ao Tryz.prog 88 [.str s] (.agg (sV s).row):=by
 refine ac.fz (FC _ _ _ ?_);refine vw ?_
 repeat' (first|refine sy ?_|refine s2 ?_ ?_|intro)
 exact⟨_,[],aE.all (Fz.aggs (.cons (.refl _) (.cons (.refl _) (.cons (.refl _) (.cons .nils .nil))))),rfl,rfl⟩
def LZ(op:Int)(a b:ae):ae:=.mk op 0 [] [a,b]
theorem BR(op:Int)(a b:ae):ao Tryz.prog 87 [.YJ op,.agg a.row,.agg b.row] (.agg (LZ op a b).row):=by
 refine ac.fz (BO _ _ _ _ _ ?_);refine vw ?_
 repeat' (first|refine sy ?_|refine s2 ?_ ?_|intro)
 exact⟨_,[],aE.all (Fz.aggs (.cons (.refl _) (.cons (.refl _) (.cons (.refl _) (.cons (Fz.sls (l:=[a,b]) (f:=ae.enc) (size:=4) (rows:=[a.row,b.row]) (.head _) (by simp[ae.enc_row]) YG rfl) .nil))))),rfl,rfl⟩
def kN:ae:=.mk 0 0 [] []
def cP(s:aO)(e:ae):aa:=.mk 1 0 s [] [] e [] []
theorem da(s:aO)(e:ae):ao Tryz.prog 25 [.str s,.agg e.row] (.agg (cP s e).row):=by
 refine ac.fz (BP _ _ _ _ ?_);refine vw ?_
 repeat' (first|refine sy ?_|refine s2 ?_ ?_|intro)
 exact⟨_,[],aE.all (Fz.aggs (.cons (.refl _) (.cons (.refl _) (.cons (.refl _) (.cons (.refl _) (.cons .nils (.cons (.refl _) (.cons (.refl _) (.cons (.refl _) (.cons (.refl _) (.cons .nils (.cons .nils .nil)))))))))))),rfl,rfl⟩
def bD:List aA:=[⟨1,0,[120],0,0,[]⟩,⟨1,0,[121],0,1,[]⟩,⟨2,0,[118],0,0,[]⟩,⟨1,0,[113],2,0,[]⟩,⟨3,0,[109],0,0,[]⟩,⟨3,0,[110],0,0,[]⟩,⟨4,0,[114],0,0,[]⟩,⟨5,0,[99],0,0,[109]⟩,⟨6,0,[102],0,0,[]⟩]
theorem vN:ao Tryz.prog 21 [] (.lst (bD.map aA.enc)):=by
 refine ac.fz (Dh _ _ ?_);refine vw ?_
 repeat' (first|refine sy ?_|refine s2 ?_ ?_|intro)
 exact⟨_,[],aE.all (Fz.sls (l:=bD) (f:=aA.enc) (size:=6) (.head _) rfl YG rfl),rfl,rfl⟩
theorem wz:(∀j n,EJ 0 j n=0)/\(∀j n,EJ 1 j n=0)/\(∀j n,EJ 2 j n=0)/\EJ 3 [113] (0+1)=0/\(∀op,EJ op [] (0+1+1)=z3 op)/\z0 1=0/\z0 2=0/\z0 3=0/\z0 6=0/\z0 13=0/\z3 6=0/\z3 13=0/\
  (∀n,zv 1 n=z0 n)/\(∀n,zv 2 n=z0 n)/\(∀n,zv 3 n=z0 n)/\(∀n,zv 14 n=z0 n)/\(∀n,zv 4 n=0)/\(∀n,zv 5 n=0)/\(∀n,zv 6 n=0)/\(∀n,zv 7 n=0)/\(∀n,zv 8 n=0)/\(∀n,zv 9 n=0)/\(∀n,zv 12 n=0)/\(∀n,zv 13 n=0)/\(∀n,zv 15 n=0)/\
  (∀j,zi j 0=0)/\zi [113] (0+1)=0/\(∀op n j l,ae.wt (.mk op n j l)=1+j.length+EJ op j l.length+ae.wts l)/\ae.wts []=0/\(∀x l,ae.wts (x::l)=x.wt+z0 x.op+ae.wts l)/\
  (∀op B j E G e u D,aa.wt (.mk op B j E G e u D)=1+j.length+E.length+ae.wts G+e.wt+zv op e.op+zi j G.length+aa.wts u+aa.wts D)/\aa.wts []=0/\(∀x l,aa.wts (x::l)=x.wt+aa.wts l)/\
  (∀a b c l,ae.op (.mk a b c l)=a)/\(∀n,xu n=.mk 1 n [] [])/\(∀s,sV s=.mk 2 0 s [])/\(∀op a b,LZ op a b=.mk op 0 [] [a,b])/\kN=.mk 0 0 [] []/\(∀s e,cP s e=.mk 1 0 s [] [] e [] []):=by
 refine⟨?_,?_,?_,?_,?_,?_,?_,?_,?_,?_,?_,?_,?_,?_,?_,?_,?_,?_,?_,?_,?_,?_,?_,?_,?_,?_,?_,?_,?_,?_,?_,?_,?_,?_,?_,?_,?_,?_,?_⟩
 all_goals first
  |rfl
  |(intros;rfl)
  |(intros;simp[EJ,z3,zi])
theorem T5{P:Prop}(h:P:=by simp only[wz,WO,WT];omega):P:=h
theorem VE{r:Nat}(h:(r:Int)<6\/r=0):z0 (([6,7,8,11,13,17]:List Int).getD r 0)=0/\z3 (([6,7,8,11,13,17]:List Int).getD r 0)=0:=by
 have h:r<6:=by omega
 match r,h with
 |0,_|1,_|2,_|3,_|4,_|5,_=>exact⟨rfl,rfl⟩
structure WF where
 a:Nat
 thread:Int
 left:Int
 set:Bool
 tx:Bool
 atomic:Bool
 loop:Bool
 o:Option Nat
 ar:List aO
 k:Nat
def WF.row(bt:Nat)(s:WF):List AV:=[.ptr bt 0 0,.YJ s.thread,.YJ s.left,.bool s.set,.bool s.tx,.bool s.atomic,.bool s.loop,ai s.o s.k]
theorem gg{l:List aO}{b r:Nat}{rows:List (List AV)}{L:SH}{K:AV->Prop}(h:K (.str (l.getD r [])))(B:(b,(⟨1,rows⟩:Blk))∈L)(u:rows=l.map av)(j:r<l.length):W.load false 1 (.ptr b r 0) L K:=by subst u;refine Ak B (aq j) YE ?_;simpa[List.getD,j]using h
theorem Ou{l:List Int}{b r:Nat}{rows:List (List AV)}{L:SH}{K:AV->Prop}(h:K (.YJ (l.getD r 0)))(B:(b,(⟨1,rows⟩:Blk))∈L)(u:rows=l.map ah)(j:r<l.length):W.load false 1 (.ptr b r 0) L K:=by subst u;refine Ak B (aq j) YE ?_;simpa[List.getD,j]using h
theorem g9{bt:Nat}{t:List UInt8}{a:Nat}{n:Int}{L u:SH}{KL:R}(ht:t.length<2^63)(E:a<=t.length)(D:fQ bt (bE t a) L u)(B:∀r j:Nat,((r:Int)<n\/r=0)->j<=t.length->KL (.YJ (r:Int)) ((bt,bE t j)::u)):W.callM Tryz.prog 22 [.ptr bt 0 0,.YJ n] L KL:=
 gq (KA bt t a n ht E) D (by rintro _ _ ⟨r,j,rfl,M,rfl,G⟩;exact B r j M G)
theorem zH{bt:Nat}{t:List UInt8}{a i:Nat}{n:Int}{us:List W.WR}{L u:SH}{B:AV->SH->List Nat->Prop}(ht:t.length<2^63)(M:a<=t.length)(G:fQ bt (bE t a) L u)(D:∀r j:Nat,((r:Int)<n\/r=0)->j<=t.length->B (.YJ (r:Int)) ((bt,bE t j)::u) [bt])(E:∀y∈us,W.free y ⟨i,[],[bt],[],true,[]⟩:=by(simp only[rm,rc,rz,W.free,c8,↓reduceIte,Nat.reduceEqDiff,am,gE,Yl,Xk,Xv,not_false_eq_true,implies_true,and_true,true_and,and_self,W7,reduceCtorEq,forall_const,false_implies,WP,forall_eq,Xr,XM,WX,or_false,false_or,forall_eq_or_imp,not_or])<;>(repeat' constructor)<;>first|assumption|(exact Ne.symm YD)|(intro Y;subst Y;simp[SH.names]at *;done)):W.dcallM Tryz.prog us i 22 [.ptr bt 0 0,.YJ n] L B:=
 uz (KA bt t a n ht M) G E (by rintro _ _ ⟨r,j,rfl,S,rfl,O⟩;exact D r j S O)
def mY(bt:Nat)(v1 v2 v3 v4 v5 v6 v7:AV):Blk:=⟨8,[[.ptr bt 0 0,v1,v2,v3,v4,v5,v6,v7]]⟩
def H4(d:Nat):Prop:=∀(bm bt:Nat) (t:List UInt8) (a:Nat) (v1 v2 v3 v4 v5 v6 v7:AV),t.length<2^63->a<=t.length->
  ac Tryz.prog 86 [.ptr bm 0 0,.YJ (d:Int)] [(bm,mY bt v1 v2 v3 v4 v5 v6 v7),(bt,bE t a)] λu K=>∃(x:ae) (a':Nat),u=.agg x.row/\x.wt+z0 x.op<=4^(d+1)/\a'<=t.length/\K=[(bm,mY bt v1 v2 v3 v4 v5 v6 v7),(bt,bE t a')]
section
variable {bm bt:Nat} {t:List UInt8} {a d:Nat} {dd:Int} {v1 v2 v3 v4 v5 v6 v7:AV} {L L1 L2:SH}
theorem db{KL:R}(G:H4 d)(u:dd=(d:Int))(ht:t.length<2^63)(E:a<=t.length)(B:fQ bm (mY bt v1 v2 v3 v4 v5 v6 v7) L L1)(h2:fQ bt (bE t a) L1 L2)(D:∀(x:ae) (j:Nat),x.wt+z0 x.op<=4^(d+1)->j<=t.length->KL (.agg x.row) ((bm,mY bt v1 v2 v3 v4 v5 v6 v7)::(bt,bE t j)::L2)):
  W.callM Tryz.prog 86 [.ptr bm 0 0,.YJ dd] L KL:=by
 subst u;exact MV (G bm bt t a v1 v2 v3 v4 v5 v6 v7 ht E) B h2 (by rintro _ _ ⟨x,j,rfl,B,h2,rfl⟩;exact D x j B h2)
theorem FG{us:List W.WR}{i:Nat}{D:AV->SH->List Nat->Prop}(O:H4 d)(u:dd=(d:Int))(ht:t.length<2^63)(M:a<=t.length)(B:fQ bm (mY bt v1 v2 v3 v4 v5 v6 v7) L L1)(h2:fQ bt (bE t a) L1 L2)(E:∀(x:ae) (j:Nat),x.wt+z0 x.op<=4^(d+1)->j<=t.length->D (.agg x.row) ((bm,mY bt v1 v2 v3 v4 v5 v6 v7)::(bt,bE t j)::L2) [bm,bt])
  (G:∀y∈us,W.free y ⟨i,[],[bm,bt],[],true,[]⟩:=by(simp only[rm,rc,rz,W.free,c8,↓reduceIte,Nat.reduceEqDiff,am,gE,Yl,Xk,Xv,not_false_eq_true,implies_true,and_true,true_and,and_self,W7,reduceCtorEq,forall_const,false_implies,WP,forall_eq,Xr,XM,WX,or_false,false_or,forall_eq_or_imp,not_or])<;>(repeat' constructor)<;>first|assumption|(exact Ne.symm YD)|(intro S;subst S;simp[SH.names]at *;done)):W.dcallM Tryz.prog us i 86 [.ptr bm 0 0,.YJ dd] L D:=by
 subst u;exact K8 (O bm bt t a v1 v2 v3 v4 v5 v6 v7 ht M) B h2 G (by rintro _ _ ⟨x,j,rfl,B,h2,rfl⟩;exact E x j B h2)
end
theorem Ov(r:Nat):(([[97],[98],[120],[121],[118],[120],[121]]:List aO).getD r []).length<=1:=by
 rcases Fn r 7 with h|h
 .match r,h with
  |0,_|1,_|2,_|3,_|4,_|5,_|6,_=>exact Fd _
 .rw[List.getD,ST (by simpa using h)];exact Xq _
theorem KB:H4 0:=by
  intro bm bt t a v1 v2 v3 v4 v5 v6 v7 G ha;refine ac.fz (kJ _ _ _ _ ?_);refine vw ?_;generalize D:(λ(v:AV) (L:SH)=>∃j L2,aE [v] L [j] L2/\∃(x:ae) (u:Nat),j=AV.agg x.row/\x.wt+z0 x.op<=4^(0+1)/\u<=t.length/\L2=[(bm,mY bt v1 v2 v3 v4 v5 v6 v7),(bt,bE t u)])=Q;have B:∀(v:AV) (x:ae) (u:Nat) (L L1 L2:SH),fQ bm (mY bt v1 v2 v3 v4 v5 v6 v7) L L1->fQ bt (bE t u) L1 L2->Fz L2 v (.agg x.row)->x.wt+z0 x.op<=4->u<=t.length->Q v L:=λv x u L L1 L2 h1 h2 Z Y S=>by subst D;exact⟨_,_,aE.keep2 h1 h2 Z,x,u,rfl,Y,S,rfl⟩
  clear D;unfold mY
  repeat' (first|refine sy ?_|((with_reducible refine aU 22 ?_);(refine g9 G YD rp (λE a_ M O=>?_)))|(refine pf 26 ?_;refine pm (FF _) ?_)|(refine pf 88 ?_;refine pm (vM _) ?_)|refine gg (l:=[[97],[98],[120],[121],[118],[120],[121]]) ?_ mm rfl YH|refine eQ ?_ YC|refine s2 ?_ ?_|intro)
  all_goals first
   |exact B _ (xu _) _ _ _ _ rp rp (.refl _) T5 YD
   |exact B _ (sV _) _ _ _ _ rp rp (.refl _) (by have:=Ov E;exact T5) YD
   |(exfalso;simp at *;omega)
theorem cM:∀d:Nat,d<1000->H4 d:=by
 intro d
 induction d with
 |zero=>exact λ_=>KB
 |succ d S=>
  intro O bm bt t a v1 v2 v3 v4 v5 v6 v7 G ha;have S:=S YC;have Z:H4 0:=KB;have d0:decide (((d+1:Nat):Int)=0)=false:=by simp;omega
  have e1:IntKind.i64.wrap (((d+1:Nat):Int)-1)=(d:Int):=by rw[WY _ YC];omega
  have hp:1<=4^d:=Nat.one_le_pow _ _ YG;have hp1:4^(d+1)=4*4^d:=by rw[Nat.pow_succ,Nat.mul_comm]
  have hp2:4^(d+1+1)=16*4^d:=by rw[Nat.pow_succ,Nat.pow_succ];omega
  refine ac.fz (kJ _ _ _ _ ?_);refine vw ?_;generalize hQ:(λ(v:AV) (L:SH)=>∃j L2,aE [v] L [j] L2/\∃(x:ae) (B:Nat),j=AV.agg x.row/\x.wt+z0 x.op<=4^(d+1+1)/\B<=t.length/\L2=[(bm,mY bt v1 v2 v3 v4 v5 v6 v7),(bt,bE t B)])=Q;have M:∀(v:AV) (x:ae) (B:Nat) (L L1 L2:SH),fQ bm (mY bt v1 v2 v3 v4 v5 v6 v7) L L1->fQ bt (bE t B) L1 L2->Fz L2 v (.agg x.row)->x.wt+z0 x.op<=16*4^d->B<=t.length->Q v L:=λv x B L L1 L2 h1 h2 h3 h4 h5=>by subst hQ;exact⟨_,_,aE.keep2 h1 h2 h3,x,B,rfl,YC,h5,rfl⟩
  clear hQ;unfold mY
  repeat' (first|refine sy ?_|((with_reducible refine aU 22 ?_);(refine g9 G YD rp (λr_ a_ D u=>?_)))|(refine pf 26 ?_;refine pm (FF _) ?_)|(refine pf 88 ?_;refine pm (vM _) ?_)|(refine pf 87 ?_;refine pm (BR _ _ _) ?_)|refine gg (l:=[[97],[98],[120],[121],[118],[120],[121]]) ?_ mm rfl YH|refine Ou (l:=[6,7,8,11,13,17]) ?_ mm rfl YH|refine eQ ?_ YC|((with_reducible refine dR 22 ?_);refine zH G YD rp (λr_ a_ D u=>?_))|((with_reducible refine aU 86 ?_);(refine db Z YE G YD rp rp (λE a_ Y u=>?_)))|((with_reducible refine dR 86 ?_);refine FG S YE G YD rp rp (λE a_ Y u=>?_))|refine s2 ?_ ?_|intro)
  all_goals first
   |exact M _ (xu _) _ _ _ _ rp rp (.refl _) T5 YD
   |exact M _ (sV _) _ _ _ _ rp rp (.refl _) (by have:=Ov r_;exact T5) YD
   |exact M _ (.mk 3 0 [113] [E]) _ _ _ _ rp rp (Fz.aggs (.cons (.refl _) (.cons (.refl _) (.cons (.refl _) (.cons (Fz.sls (l:=[E]) (f:=ae.enc) (size:=4) (rows:=[E.row]) (.head _) (by simp[ae.enc_row]) YG rfl) .nil))))) T5 YD
   |exact M _ (LZ _ _ _) _ _ _ _ rp rp (.refl _) (by have:=VE D;exact T5) YD
end
def Mm(b:UInt8):bW:=⟨(b.toNat:Int).tmod 4,((b.toNat:Int).tdiv 4).tmod 5-1⟩
def Ti(b:UInt8):IntKind.i64.wrap (((b.toNat:Int).tdiv 4).tmod 5-1)=((b.toNat:Int).tdiv 4).tmod 5-1:=by
 have h:(b.toNat:Int)<256:=by have:=b.toNat_lt;omega
 have j:((b.toNat:Int).tdiv 4).tmod 5=((b.toNat:Int) / 4) % 5:=by rw[Int.tdiv_eq_ediv_of_nonneg YC,Int.tmod_eq_emod_of_nonneg YC]
 rw[WY _ (by rw[j];omega)]
def ym(t:List UInt8)(ht:t.length<2^20):ao Tryz.prog 10 [.lst (t.map eJ)] (.lst ((t.map Mm).map bW.enc)):=by
 refine Rm λQ Y=>zd _ _ _ ?_
 refine vw ?_;refine bF t.length (λk (o:Option Nat)=>([.lst (t.map eJ),ai o k,.YJ k],ab o 2 (((t.take k).map Mm).map bW.enc))) (λk o=>o=none->k=0) none (λ_=>rfl) (aE.drop (K:=[]) (.refl _) rfl (fi.at_ (.cons (.refl _) (.cons .nile (.cons (.refl _) .nil)))).2) ?_;intro k o hk Z;dsimp only;refine vw ?_;rcases Nat.lt_or_ge k t.length with u|u
 .have hd:=a8 u;have hx:=aq (f:=eJ) u;have M:t.take (k+1)=t.take k++[t[k]]:=LE u;have O:o=none->((t.take k).map Mm).map bW.enc=[]:=λe=>by rw[Z e];rfl
  have hl:((t.take k).map Mm).length=k:=by simp;omega
  generalize t[k]=b at *;have hb:(b.toNat:Int)<256:=by have:=b.toNat_lt;omega
  have w1:IntKind.i64.wrap (b.toNat:Int)=(b.toNat:Int):=WY _ YC;have w2:=Ti b;have fin:∀(E:Nat) (L:SH),dD L (ab (some E) 2 (((t.take k).map Mm).map bW.enc++[(Mm b).enc]))->∃(j:Nat) (G:Option Nat),k<j/\j<=t.length/\(G=none->j=0)/\aE [.lst (t.map eJ),.sl E 0 (k+1),.YJ (IntKind.i64.wrap ((k:Int)+1))] L [.lst (t.map eJ),ai G j,.YJ j] (ab G 2 (((t.take j).map Mm).map bW.enc)):=by intro E L hL;refine⟨k+1,some E,YC,YC,nofun,?_⟩;rw[ax u YC];exact aE.pickE hL rfl (by rw[M];simp)
  rw[show(Mm b).enc=[.YJ ((b.toNat:Int).tmod 4),.YJ (((b.toNat:Int).tdiv 4).tmod 5-1)]from rfl]at fin;rw[show eJ b=[.int .u8 (b.toNat:Int)]from rfl]at hx;clear Y;generalize hX:((t.take k).map Mm).map bW.enc=X at *;have hXl:X.length=k:=by rw[<-hX];simp;omega
  repeat' (first|refine sx ?_|refine bG rp rp YC O YE YF YH YH YE (λB D=>?_)|refine sb λB D=>?_|refine s2 ?_ ?_|intro)
  have w3:IntKind.i64.wrap ((b.toNat:Int).tdiv 4)=(b.toNat:Int).tdiv 4:=by rw[Int.tdiv_eq_ediv_of_nonneg YC];exact WY _ YC
  simp only[w1,w3,w2];exact fin B _ rp
 .have hd:=bq u;have S:k=t.length:=by omega
  subst S;rw[W9 (Fd _)];have fin:∀L,(∀q∈ab o 2 ((t.map Mm).map bW.enc),q∈L)->Q (ai o t.length) L:=λL hm=>by
   refine Y _ _ ?_;cases o with
   |none=>have:t=[]:=XA.1 (Z rfl);subst this;exact .emp
   |some b=>exact Fz.sls (hm _ (.head _)) rfl YG YF
  repeat' (first|refine sy ?_|refine s2 ?_ ?_|intro)
  exact fin _ λq h=>h
def KC(t s:List UInt8):ao Tryz.prog 6 [.lst (t.map eJ),.lst (s.map eJ)] (.bool (decide (200<t.length)||decide (100<s.length))):=by
 refine Dd _ _ _ _ ?_;refine vw ?_;by_cases j:200<t.length
 .have D:decide ((t.length:Int) > 200)=true:=decide_eq_true YC
  repeat' (first|refine sy ?_|refine s2 ?_ ?_|intro)
  exact⟨by rw[decide_eq_true j];rfl,rfl⟩
 .have D:decide ((t.length:Int) > 200)=false:=decide_eq_false YC;by_cases B:100<s.length
  .have u:decide ((s.length:Int) > 100)=true:=decide_eq_true YC
   repeat' (first|refine sy ?_|refine s2 ?_ ?_|intro)
   exact⟨by rw[decide_eq_false j,decide_eq_true B];exact congrArg AV.bool u,rfl⟩
  .have u:decide ((s.length:Int) > 100)=false:=decide_eq_false YC
   repeat' (first|refine sy ?_|refine s2 ?_ ?_|intro)
   exact⟨by rw[decide_eq_false j,decide_eq_false B];exact congrArg AV.bool u,rfl⟩
def sW(c:aL)(B:fy c)(u:∀t∈c.ts,t.ins.length<2^40)(l:List bW):ao Tryz.prog 17 [.agg (fI.mk c.w (aR c l).1).enc,.agg (fI.mk c.w (aR c l).1).enc] (.bool true)/\ao Tryz.prog 18 [.agg (aR c l).2.enc,.agg (aR c l).2.enc] (.bool true):=by have H:=l7 B u l;have j:=B.world;refine⟨LK _ ?_ H.short (by have:=H.le;dsimp only;omega),Ob c _ H.le _ H.inv⟩;exact Oc c.w (by have:=j.c12;omega) (by have:=j.l4;omega) (by have:=j.d2;omega) (by have:=j.f2;omega) (by have:=j.t4;omega) (by have:=j.s60;omega)
def qA:RF:=nv (cg Tryz.prog Tryz.f98 [(6,⟨[0,1,5],[],true,[]⟩)] [])
abbrev BS(a b:AV)(L:SH)(Q:R):Prop:=Pc qA 20 Q 0 [] [a,b] L
def oZ(u j:AV)(L:SH)(Q:R)(h:BS u j L Q):ac Tryz.prog 98 [u,j] L Q:=
 fv qA Tryz.func98 h
def qB:RF:=nv (cg Tryz.prog Tryz.f113 [(6,⟨[1,2,5],[],true,[]⟩)] [(0,[2])])
abbrev BT(a b:AV)(L:SH)(Q:R):Prop:=Pc qB 20 Q 0 [] [a,b] L
def zl(u j:AV)(L:SH)(Q:R)(h:BT u j L Q):ac Tryz.prog 113 [u,j] L Q:=
 fv qB Tryz.func113 h
def sX:RF:=nv (cg Tryz.prog Tryz.f99 [(6,⟨[0,1,2,3,10],[],true,[]⟩)] [])
abbrev Di(a b c d:AV)(L:SH)(Q:R):Prop:=Pc sX 20 Q 0 [] [a,b,c,d] L
def BU(D B u j:AV)(L:SH)(Q:R)(h:Di D B u j L Q):ac Tryz.prog 99 [D,B,u,j] L Q:=
 fv sX Tryz.func99 h
def fG:RF:=nv (cg Tryz.prog Tryz.f51 [(42,⟨[1,2,3,6,7,8],[18],false,[]⟩),(60055,⟨[1,2,3,6,7,31,65],[18],false,[]⟩),(42037,⟨[1,2,3,6,7,31,39],[18],false,[]⟩),(2402,⟨[1,2,3,6],[18],false,[]⟩),(7502,⟨[1,2,3,9],[69],false,[]⟩),(69,⟨[1,2,3,9],[],true,[]⟩),(18,⟨[1,2,3,6],[],true,[]⟩)] [(0,[1]),(8,[7])])
abbrev BV(a:Kn):Vs->SH->Kn->Prop:=Lp fG 16 q0 42 [a]
abbrev BW(a:Kn)(b:SH)(c d e f:AV):Prop:=Pc fG 18 q0 2402 [a] [c,e,f,d] b
abbrev BX(a:Kn)(b:SH)(c d e f:AV):Prop:=Pc fG 17 q0 7502 [a] [d,f,c,e] b
abbrev BY(Q:R):Vs->SH->Kn->Prop:=Lp fG 18 Q 69 []
abbrev Dj(a:AV)(L:SH)(Q:R):Prop:=Pc fG 20 Q 0 [] [a] L
def BZ(j:AV)(L:SH)(Q:R)(h:Dj j L Q):ac Tryz.prog 51 [j] L Q:=
 fv fG Tryz.func51 h
def o4:RF:=nv (cg Tryz.prog Tryz.f53 [] [])
abbrev zm(a b:AV)(L:SH)(Q:R):Prop:=Pc o4 20 Q 0 [] [a,b] L
def xv(u j:AV)(L:SH)(Q:R)(h:zm u j L Q):ac Tryz.prog 53 [u,j] L Q:=
 fv o4 Tryz.func53 h
def lM:RF:=nv (cg Tryz.prog Tryz.f146 [] [(0,[4])])
abbrev vO(a b c:AV)(L:SH)(Q:R):Prop:=Pc lM 20 Q 0 [] [a,b,c] L
def df(B u j:AV)(L:SH)(Q:R)(h:vO B u j L Q):ac Tryz.prog 146 [B,u,j] L Q:=
 fv lM Tryz.func146 h
def kO:RF:=nv (cg Tryz.prog Tryz.f142 [] [(0,[3])])
abbrev tW(a b:AV)(L:SH)(Q:R):Prop:=Pc kO 20 Q 0 [] [a,b] L
def rT(u j:AV)(L:SH)(Q:R)(h:tW u j L Q):ac Tryz.prog 142 [u,j] L Q:=
 fv kO Tryz.func142 h
def jv:RF:=nv (cg Tryz.prog Tryz.f143 [] [(0,[3])])
abbrev dB(a b:AV)(L:SH)(Q:R):Prop:=Pc jv 20 Q 0 [] [a,b] L
def pp(u j:AV)(L:SH)(Q:R)(h:dB u j L Q):ac Tryz.prog 143 [u,j] L Q:=
 fv jv Tryz.func143 h
def kP:RF:=nv (cg Tryz.prog Tryz.f144 [] [(0,[6])])
abbrev tX(a b c d e:AV)(L:SH)(Q:R):Prop:=Pc kP 20 Q 0 [] [a,b,c,d,e] L
def rU(E D B u j:AV)(L:SH)(Q:R)(h:tX E D B u j L Q):ac Tryz.prog 144 [E,D,B,u,j] L Q:=
 fv kP Tryz.func144 h
def mZ:RF:=nv (cg Tryz.prog Tryz.f145 [(6,⟨[0,1,5],[],true,[]⟩)] [])
abbrev xw(a b:AV)(L:SH)(Q:R):Prop:=Pc mZ 20 Q 0 [] [a,b] L
def vP(u j:AV)(L:SH)(Q:R)(h:xw u j L Q):ac Tryz.prog 145 [u,j] L Q:=
 fv mZ Tryz.func145 h
def ng:RF:=nv (cg Tryz.prog Tryz.f100 [(30025,⟨[0,3,4,25,31],[],true,[]⟩)] [(0,[3])])
abbrev xx(a b:AV)(L:SH)(Q:R):Prop:=Pc ng 20 Q 0 [] [a,b] L
def aX(u j:AV)(L:SH)(Q:R)(h:xx u j L Q):ac Tryz.prog 100 [u,j] L Q:=
 fv ng Tryz.func100 h
def lN:RF:=nv (cg Tryz.prog Tryz.f52 [(3,⟨[0,1,4],[],true,[]⟩)] [])
abbrev vQ(a b:AV)(L:SH)(Q:R):Prop:=Pc lN 20 Q 0 [] [a,b] L
def tY(u j:AV)(L:SH)(Q:R)(h:vQ u j L Q):ac Tryz.prog 52 [u,j] L Q:=
 fv lN Tryz.func52 h
def ez:RF:=nv (cg Tryz.prog Tryz.f27 [(60,⟨[1,2,7,8,9,10,11,12,13,14],[48],false,[]⟩),(6902,⟨[1,2,7,8,9,11],[21],false,[]⟩),(48,⟨[1,2,7,8,9,10,11,12],[21],false,[]⟩),(2702,⟨[1,2,7,8,9],[21],false,[]⟩),(21,⟨[1,2,7,8,9],[],true,[]⟩)] [(0,[1])])
abbrev xy(a:Kn):Vs->SH->Kn->Prop:=Lp ez 16 q0 60 [a]
abbrev xz(a:Kn)(b:SH)(c d e f g h:AV):Prop:=Pc ez 16 q0 6902 [a] [f,g,c,h,e,d] b
abbrev xA(a:Kn):Vs->SH->Kn->Prop:=Lp ez 17 q0 48 [a]
abbrev xB(a:Kn)(b:SH)(c d e f g:AV):Prop:=Pc ez 18 q0 2702 [a] [d,g,c,f,e] b
abbrev zn(a:AV)(L:SH)(Q:R):Prop:=Pc ez 20 Q 0 [] [a] L
def xC(j:AV)(L:SH)(Q:R)(h:zn j L Q):ac Tryz.prog 27 [j] L Q:=
 fv ez Tryz.func27 h
def xD(l:List bv)(s:aO)(E:l.length<2^62):ao Tryz.prog 98 [.lst (l.map bv.enc),.str s] (.YJ (cu l s)):=by
 refine oZ _ _ _ _ ?_;refine vw ?_;refine cF l (λx=>decide (x.name=s)) (λi=>[.lst (l.map bv.enc),.str s,.YJ i]) E rfl (λi u G O j B D=>?_) (λi u G j B=>?_)
 all_goals refine vw ?_
 .have M:=aq (f:=bv.enc) u
  repeat' (first|refine sy ?_|refine s2 (λh=>?_) λh=>?_|intro)
  .exact⟨by rw[cu,jg u j h],rfl⟩
  .exact D h
 .repeat' (first|refine sy ?_|refine s2 ?_ ?_|intro)
  exact⟨by rw[cu,eU j],rfl⟩
def qS(w:aK)(s:aO)(E:w.cells.length<2^62):ao Tryz.prog 113 [.agg w.enc,.str s] (.YJ (eN w.cells s)):=by
 refine zl _ _ _ _ ?_;refine vw ?_;refine Ar ?_;refine cF w.cells (λx=>decide (x.name=s)) (λi=>[.str s,.pptr [w.enc] 0 0,.YJ i]) E rfl (λi u G O j B D=>?_) (λi u G j B=>?_)
 all_goals refine vw ?_
 .have M:=aq (f:=aH.enc) u
  repeat' (first|refine sy ?_|refine s2 (λh=>?_) λh=>?_|intro)
  .exact⟨by rw[eN,jg u j h],rfl⟩
  .exact D h
 .repeat' (first|refine sy ?_|refine s2 ?_ ?_|intro)
  exact⟨by rw[eN,eU j],rfl⟩
mutual
def xE(t:Nat):Nat->aa->List bM
 |n,.mk _ line _ _ _ _ body els=>⟨t,n,line⟩::(sitL t (n+1) body++sitL t (n+1+aa.cnts body) els)
def sitL(t:Nat):Nat->List aa->List bM
 |_,[]=>[]
 |n,x::l=>xE t n x++sitL t (n+1+x.cnt) l
end
def Qn(t n:Nat)(x:aa):xE t n x=⟨t,n,x.line⟩::(sitL t (n+1) x.body++sitL t (n+1+aa.cnts x.body) x.els):=by cases x;rw[xE];rfl
mutual
def H5(t:Nat):∀(n:Nat) (x:aa),(xE t n x).length=1+x.cnt
 |n,.mk a b c d e f body els=>by rw[xE];simp only[WO,LT,sitL_len t _ body,sitL_len t _ els,aa.cnt];omega
def sitL_len(t:Nat):∀(n:Nat) (l:List aa),(sitL t n l).length=aa.cnts l
 |n,[]=>rfl
 |n,x::l=>by rw[sitL];simp only[LT,H5 t _ x,sitL_len t _ l,aa.cnts]
end
def aa.cnts_append:∀l m:List aa,aa.cnts (l++m)=aa.cnts l+aa.cnts m
 |[],m=>by simp[aa.cnts]
 |x::l,m=>by simp only[XS,aa.cnts,aa.cnts_append l m];omega
def yn(t:Nat):∀(n:Nat) (l m:List aa),sitL t n (l++m)=sitL t n l++sitL t (n+aa.cnts l) m
 |n,[],m=>by simp[sitL,aa.cnts]
 | n,x::l,m=>by simp only[XS,sitL,yn t _ l m,aa.cnts,WU];rw[show n+1+x.cnt+aa.cnts l=n+(1+x.cnt+aa.cnts l) by omega]
mutual
def Qo(t:Nat):∀(n:Nat) (x:aa) (k:Nat) (h:k<(xE t n x).length),(xE t n x)[k].thread=t/\(xE t n x)[k].stmt=(n+k:Nat)
 | n,.mk a b c d e f body els,k,h=>by
  simp only[xE]at h ⊢;cases k with
  |zero=>exact⟨rfl,YF⟩
  |succ k=>
   simp only[XY];by_cases u:k<(sitL t (n+1) body).length
   .rw[List.getElem_append_left u];have:=sitL_at t (n+1) body k u;refine⟨this.1,this.2.trans ?_⟩;congr 1;omega
   .have j:k-(sitL t (n+1) body).length<(sitL t (n+1+aa.cnts body) els).length:=by simp only[WO,LT]at h;omega
    rw[List.getElem_append_right YC];have:=sitL_at t (n+1+aa.cnts body) els _ j;refine⟨this.1,this.2.trans ?_⟩;rw[sitL_len]at u ⊢;congr 1;omega
def sitL_at(t:Nat):∀(n:Nat) (l:List aa) (k:Nat) (h:k<(sitL t n l).length),(sitL t n l)[k].thread=t/\(sitL t n l)[k].stmt=(n+k:Nat)
 |n,[],k,h=>absurd h (XX _)
 | n,x::l,k,h=>by
  simp only[sitL]at h ⊢;by_cases u:k<(xE t n x).length
  .rw[List.getElem_append_left u];exact Qo t n x k u
  .have j:k-(xE t n x).length<(sitL t (n+1+x.cnt) l).length:=by simp only[LT]at h;omega
   rw[List.getElem_append_right YC];have:=sitL_at t (n+1+x.cnt) l _ j;refine⟨this.1,this.2.trans ?_⟩;rw[H5]at u ⊢;congr 1;omega
end
def aA.celW(d:aA):List aH:=(List.range (max d.size 1).toNat).map λk=>⟨d.name,(k:Nat),d.size,decide (d.kind=2),d.init⟩
def dh(w:aK)(d:aA):aK:=
 if d.kind=1\/d.kind=2 then {w with cells:=w.cells++d.celW} else
 if d.kind=3\/d.kind=4 then {w with locks:=w.locks++[⟨d.name,decide (d.kind=4)⟩]} else
 if d.kind=5 then {w with conds:=w.conds++[⟨d.name,cu w.locks d.on⟩]} else {w with futures:=w.futures++[d.name]}
def aK.zero:aK:=⟨[],[],[],[],[],[]⟩
def el(w:aK)(t:aj):aK:={w with threads:=w.threads++[t.name],sites:=w.sites++sitL w.threads.length 0 t.body}
def cC(p:aY):aK:=p.threads.foldl el (p.decls.foldl dh aK.zero)
def kQ{α β:Type}{f:β->α->β}{l:List α}{a:β}{i:Nat}(h:i<l.length):(l.take (i+1)).foldl f a=f ((l.take i).foldl f a) l[i]:=by rw[LE h,Yw];rfl
def VF(t:Nat)(l:List aa):Prop:=∀(o:Option Nat) (out:List bM) (n:Nat),(o=none->out=[])->out.length+aa.cnts l<2^30->n+aa.cnts l<2^30->
 ac Tryz.prog 99 [ai o out.length,.YJ t,.YJ n,.lst (l.map aa.enc)] (ab o 3 (out.map bM.enc)) λu K=>∃(v:AV) (o':Option Nat),u=v/\v=.tup [ai o' (out++sitL t n l).length,.YJ ((n+aa.cnts l:Nat):Int)]/\(o'=none->out++sitL t n l=[])/\K=ab o' 3 ((out++sitL t n l).map bM.enc)
def Jw{t n k:Nat}{l:List aa}{o:Option Nat}{out:List bM}{rows:List (List AV)}{L L2:SH}{KL:R}(h:VF t l)(h2:eZ o 3 rows L L2)(u:rows=out.map bM.enc)(G:k=out.length)(S:o=none->out=[])(E:out.length+aa.cnts l<2^30)(D:n+aa.cnts l<2^30)
  (B:∀j:Option Nat,(j=none->out++sitL t n l=[])->KL (.tup [ai j (out++sitL t n l).length,.YJ ((n+aa.cnts l:Nat):Int)]) (L2++ab j 3 ((out++sitL t n l).map bM.enc))):W.callM Tryz.prog 99 [ai o k,.YJ t,.YJ n,.lst (l.map aa.enc)] L KL:=by
 subst u G;refine qR (M:=L2) (h o out n S E D) h2.perm ?_;rintro _ _ ⟨v,j,rfl,rfl,O,rfl⟩;exact⟨_,W1,B j O⟩
def Ox(t:Nat):∀(k:Nat) (l:List aa),aa.wts l<=k->k<2^40->VF t l:=by
 intro k
 induction k using Nat.strongRecOn with
 |_ k Z=>
  intro l hl hk o out n h0 h1 h2;have hlen:=aa.wts_len l;refine ac.fz (BU _ _ _ _ _ _ ?_);refine vw ?_;generalize hQ:(λ(v:AV) (L:SH)=>∃v2 L2,aE [v] L [v2] L2/\∃(v:AV) (u:Option Nat),_)=Q;have fin:∀u:Option Nat,(u=none->out++sitL t n l=[])->Q (.tup [ai u (out++sitL t n l).length,.YJ ((n+aa.cnts l:Nat):Int)]) (ab u 3 ((out++sitL t n l).map bM.enc)):=λu h=>by subst hQ;exact⟨_,_,.refl _ _,_,u,rfl,rfl,h,rfl⟩
  clear hQ;refine bF l.length (λi u=>([ai u (out++sitL t n (l.take i)).length,.YJ t,.YJ ((n+aa.cnts (l.take i):Nat):Int),.lst (l.map aa.enc),.YJ i],ab u 3 ((out++sitL t n (l.take i)).map bM.enc))) (λi u=>u=none->out++sitL t n (l.take i)=[]) o (by simpa[sitL]using h0) (by simpa[sitL,aa.cnts]using aE.refl _ _) ?_;rintro i o1 hi hG;dsimp only;refine vw ?_;generalize G:(λ(vs':List AV) (M:SH)=>∃j u,i<j/\j<=l.length/\_)=nx;rcases Nat.lt_or_ge i l.length with D|D
  .have hd:=a8 D;have hi1:=ax D YC;have hx:=DI D;have hwi:=aa.wts_get l i D;have hwe:=(l[i]).wt_eq;have hce:=(l[i]).cnt_eq;have c1:=Z _ YC l[i].body (Fd _) YC;have c2:=Z _ YC l[i].els (Fd _) YC;have e1:l=l.take i++(l[i]::l.drop (i+1)):=by rw[List.getElem_cons_drop,List.take_append_drop]
   have e2:aa.cnts l=aa.cnts (l.take i)+(1+l[i].cnt+aa.cnts (l.drop (i+1))):=by
    conv=>lhs;rw[e1]
    rw[aa.cnts_append];rfl
   have e3:sitL t n (l.take (i+1))=sitL t n (l.take i)++xE t (n+aa.cnts (l.take i)) l[i]:=by rw[LE D,yn];simp[sitL]
   have e4:aa.cnts (l.take (i+1))=aa.cnts (l.take i)+(1+l[i].cnt):=by rw[LE D,aa.cnts_append];simp[aa.cnts]
   have hn:∀(u:Option Nat) (B:List bM) (m:Nat),B=out++sitL t n (l.take i)++xE t (n+aa.cnts (l.take i)) l[i]->m=n+aa.cnts (l.take i)+(1+l[i].cnt)->(u=none->B=[])->∀M:SH,dD M (ab u 3 (B.map bM.enc))->nx [ai u B.length,.YJ t,.YJ (m:Nat),.lst (l.map aa.enc),.YJ ((i+1:Nat):Int)] M:=by
    intro u B m S q2 q3 M q4;subst G;refine⟨i+1,u,YC,YC,?_,?_⟩
    .rw[e3,<-List.append_assoc,<-S];exact q3
    .rw[e3,<-List.append_assoc,<-S,e4,<-Nat.add_assoc,<-q2];exact .pick q4 rfl
   clear G;have hlo:(out++sitL t n (l.take i)).length=out.length+aa.cnts (l.take i):=by rw[LT,sitL_len]
   generalize out++sitL t n (l.take i)=OUT at *;generalize hN:n+aa.cnts (l.take i)=N at *;generalize l[i]=x at *;have a1:IntKind.i64.wrap ((N:Int)+1)=((N+1:Nat):Int):=by rw[WY _ YC];omega
   have O:o1=none->OUT.map bM.enc=[]:=λe=>by rw[hG e];rfl
   repeat' (first|refine sy ?_|refine bG rp rp YF (λe=>by first|simp[O e]) YE YF YH YH YE (λnb_ hnb_=>?_)|((with_reducible refine aU 99 ?_);(refine Jw c1 (o:=some _) (out:=OUT++[⟨t,N,x.line⟩]) rp (by rw[List.map_append];rfl) YF nofun YH YC (λY E=>?_);dsimp only[List.cons_append,List.nil_append]))|((with_reducible refine aU 99 ?_);(refine Jw c2 rp rfl rfl E (by simp[sitL_len];omega) YC (λY E=>?_);dsimp only[List.cons_append,List.nil_append]))|refine s2 ?_ ?_|intro)
   exact hn Y _ _ (by simp[Qn,WU]) YC E _ (.slotl rp)
  .have hd:=bq D;have:i=l.length:=by omega
   subst this;rw[XT]at *
   repeat' (first|refine sy ?_|refine s2 ?_ ?_|intro)
   exact fin _ hG
section
theorem Tl(o:Option Nat)(l:List aO)(k:Nat)(R:SH)(x:aO)(Z:o=none->l=[])(O:k<=l.length)(hl:k<2^62):
  ac Tryz.prog 96 [ai o k,.str x] (ab o 1 (l.map av)++R) λu K=>∃r:Int,u=.YJ r/\K=ab o 1 (l.map av)++R:=by
 refine p8 _ _ _ _ ?_;refine vw ?_;generalize Y:ab o 1 (l.map av)++R=L;generalize M:(λ(u:AV) (K:SH)=>∃r:Int,u=AV.YJ r/\K=L)=Q;have B:∀r:Int,Q (.YJ r) L:=λr=>by subst M;exact⟨r,rfl,rfl⟩
 clear M;subst Y;cases o with
 |none=>
  have:=Z rfl;subst this;obtain rfl:k=0:=by simpa using O
  dsimp only[ab,ai,List.nil_append]at *;refine cS 0 (λ_=>True) (λi=>[.emp,.str x,.YJ i]) YC trivial rfl (λi E D S _ j G=>by omega) (λi E D _ j=>?_);refine vw ?_
  repeat' (first|refine sy ?_|refine s2 ?_ ?_|intro)
  exact B _
 |some b1=>
  dsimp only[ab,ai,List.cons_append,List.nil_append]at *;refine cS k (λ_=>True) (λi=>[.sl b1 0 k,.str x,.YJ i]) YC trivial rfl (λi E D S _ j G=>?_) (λi E D _ j=>?_)
  all_goals refine vw ?_
  .have hx:=aq (f:=av) (l:=l) (i:=i) YC
   repeat' (first|refine sy ?_|refine s2 ?_ ?_|intro)
   all_goals first
    |exact B _
    |exact G trivial
  .repeat' (first|refine sy ?_|refine s2 ?_ ?_|intro)
   exact B _
def bY(bt:Nat)(th le:Int)(se tx at_ lo:Bool)(o:Option Nat)(k:Nat):Blk:=mY bt (.YJ th) (.YJ le) (.bool se) (.bool tx) (.bool at_) (.bool lo) (ai o k)
def T6(f:FuncId)(args:List AV)(d:Nat)(good:AV->Prop):Prop:=∀(bm bt:Nat) (t:List UInt8) (a:Nat) (th le:Int) (se tx at_ lo:Bool) (o:Option Nat) (ar:List aO) (k:Nat),t.length<2^63->a<=t.length->(o=none->ar=[])->k<=ar.length->k+d<=900->
 ac Tryz.prog f (.ptr bm 0 0::args) ((bm,bY bt th le se tx at_ lo o k)::(bt,bE t a)::ab o 1 (ar.map av)) λu K=>∃(v:AV) (a':Nat) (th' le':Int) (se' tx' at' lo':Bool) (o':Option Nat) (ar':List aO),u=v/\good v/\a'<=t.length/\(o'=none->ar'=[])/\k<=ar'.length/\K=(bm,bY bt th' le' se' tx' at' lo' o' k)::(bt,bE t a')::ab o' 1 (ar'.map av)
theorem np{j b2:Nat}{x1 x2:Blk}{o:Option Nat}{n:Nat}{rows:List (List AV)}{L L1 L2 L3:SH}(B:fQ j x1 L L1)(h2:fQ b2 x2 L1 L2)(u:eZ o n rows L2 L3):L.Perm (((j,x1)::(b2,x2)::ab o n rows)++L3):=
 B.perm.trans ((h2.perm.trans ((u.perm).cons _)).cons _)
section
variable {f:FuncId} {args:List AV} {d:Nat} {good:AV->Prop} {bm bt:Nat} {t:List UInt8} {a:Nat} {th le:Int} {se tx at_ lo:Bool} {o:Option Nat} {ar:List aO} {k:Nat} {L L1 L2 L3:SH}
theorem KD{KL:R}(h:T6 f args d good)(h1:fQ bm (bY bt th le se tx at_ lo o k) L L1)(h2:fQ bt (bE t a) L1 L2)(h3:eZ o 1 (ar.map av) L2 L3)(ht:t.length<2^63)(ha:a<=t.length)(ho:o=none->ar=[])(hk:k<=ar.length)(hd:k+d<=900)
  (hq:∀(v:AV) (S:Nat) (B G:Int) (D u M E:Bool) (O:Option Nat) (j:List aO),good v->S<=t.length->(O=none->j=[])->k<=j.length->KL v ((bm,bY bt B G D u M E O k)::(bt,bE t S)::(ab O 1 (j.map av)++L3))):W.callM Tryz.prog f (.ptr bm 0 0::args) L KL:=by
 refine EF (h bm bt t a th le se tx at_ lo o ar k ht ha ho hk hd) (np h1 h2 h3) ?_;rintro _ _ ⟨v,S,B,G,D,u,M,E,O,j,rfl,q1,q2,Z,Y,rfl⟩;exact hq _ S B G D u M E O j q1 q2 Z Y
theorem Oy{i:Nat}{us:List W.WR}{Y:AV->SH->List Nat->Prop}(h:T6 f args d good)(h1:fQ bm (bY bt th le se tx at_ lo o k) L L1)(h2:fQ bt (bE t a) L1 L2)(h3:eZ o 1 (ar.map av) L2 L3)(ht:t.length<2^63)(ha:a<=t.length)(ho:o=none->ar=[])(hk:k<=ar.length)(hd:k+d<=900)
  (hf:∀y∈us,W.free y ⟨i,[],SH.names ((bm,bY bt th le se tx at_ lo o k)::(bt,bE t a)::ab o 1 (ar.map av)),[],true,[]⟩)
  (hq:∀(v:AV) (S:Nat) (B G:Int) (D u M E:Bool) (O:Option Nat) (j:List aO) (ks:List Nat),good v->S<=t.length->(O=none->j=[])->k<=j.length->Y v ((bm,bY bt B G D u M E O k)::(bt,bE t S)::(ab O 1 (j.map av)++L3)) ks):W.dcallM Tryz.prog us i f (.ptr bm 0 0::args) L Y:=by
 refine⟨_,L3,np h1 h2 h3,hf,(h bm bt t a th le se tx at_ lo o ar k ht ha ho hk hd).mono ?_⟩;rintro _ _ ⟨v,S,B,G,D,u,M,E,O,j,rfl,q1,q2,q3,Z,rfl⟩;exact hq _ S B G D u M E O j _ q1 q2 q3 Z
theorem B1{v j:AV}{x1 x2:Blk}{rows:List (List AV)}(E:fQ bm x1 L L1)(h2:fQ bt x2 L1 L2)(D:eZ o 1 rows L2 L3)(B:Fz L3 v j):aE [v] L [j] ((bm,x1)::(bt,x2)::ab o 1 rows):=by
 refine .drop (K:=L3) ((np E h2 D).trans W1) rfl λi a M u G=>?_
 match i with
 |0=>cases u;cases G;exact B
 |i+1=>simp at u
end
def cV(d:Nat):Nat:=100*10^d
def Oz(d:Nat)(v:AV):Prop:=∃x:aa,v=.agg x.row/\x.wt<=cV d
def B2(n:Nat)(v:AV):Prop:=∃l:List aa,v=.lst (l.map aa.enc)/\aa.wts l<=n
def OA(d:Nat):Prop:=T6 45 [.YJ (d:Int)] d (Oz d)
def OB(d:Nat):Prop:=∀n:Nat,n<=10->T6 23 [.YJ (d:Int),.YJ (n:Int)] d (B2 (n*cV d))
def Tm(d:Nat):Prop:=∀s:aO,T6 90 [.str s,.YJ (d:Int)] (d+1) (B2 (2*cV d))
theorem B3(l:List aa)(x:aa):aa.wts (l++[x])=aa.wts l+x.wt:=by
 induction l with
 |nil=>simp[aa.wts]
 |cons y l j=>simp only[XS,aa.wts,j];omega
def eH(d:Nat):Prop:=∀n:Nat,n<=10->∀(bm bt:Nat) (t:List UInt8) (a:Nat) (th le:Int) (se tx at_ lo:Bool) (o:Option Nat) (ar:List aO) (k:Nat),t.length<2^63->a<=t.length->(o=none->ar=[])->k<=ar.length->k+d<=900->
 ac Tryz.prog 23 [.ptr bm 0 0,.YJ (d:Int),.YJ (n:Int)] ((bm,bY bt th le se tx at_ lo o k)::(bt,bE t a)::ab o 1 (ar.map av)) λu K=>∃(a':Nat) (th' le':Int) (se' tx' at' lo':Bool) (o':Option Nat) (ar':List aO) (l:List aa) (ol:Option Nat),u=ai ol l.length/\(ol=none->l=[])/\aa.wts l<=n*cV d/\a'<=t.length/\(o'=none->ar'=[])/\k<=ar'.length/\K=(bm,bY bt th' le' se' tx' at' lo' o' k)::(bt,bE t a')::(ab o' 1 (ar'.map av)++ab ol 11 (l.map aa.enc))
theorem FI(d:Nat)(hS:OA d):eH d:=by
  intro n hn bm bt t a th le se tx at_ lo o ar k ht ha ho hk hd;refine rR _ _ _ _ _ ?_;refine vw ?_;generalize hQ:(λ(u:AV) (K:SH)=>∃(a':Nat) (G S:Int) (M E Y O:Bool) (Z:Option Nat) (j:List aO) (l:List aa) (B:Option Nat),u=ai B l.length/\(B=none->l=[])/\aa.wts l<=n*cV d/\a'<=t.length/\(Z=none->j=[])/\k<=j.length/\K=(bm,bY bt G S M E Y O Z k)::(bt,bE t a')::(ab Z 1 (j.map av)++ab B 11 (l.map aa.enc)))=Q;have hq:∀(l:List aa) (B:Option Nat) (a':Nat) (G S:Int) (M E Y O:Bool) (Z:Option Nat) (j:List aO),(B=none->l=[])->aa.wts l<=n*cV d->a'<=t.length->(Z=none->j=[])->k<=j.length->Q (ai B l.length) ((bm,bY bt G S M E Y O Z k)::(bt,bE t a')::(ab Z 1 (j.map av)++ab B 11 (l.map aa.enc))):=λl B a' G S M E Y O Z j h4 h5 h6 h7 h8=>by subst hQ;exact⟨a',G,S,M,E,Y,O,Z,j,l,B,rfl,h4,h5,h6,h7,h8,rfl⟩
  clear hQ;refine bF (β:=Nat×Int×Int×Bool×Bool×Bool×Bool×Option Nat×List aO×Option Nat×List aa) n (λi ⟨a,th,le,se,tx,at_,lo,o,ar,B,xs⟩=>([.ptr bm 0 0,.YJ d,.YJ n,ai B i,.YJ i],(bm,bY bt th le se tx at_ lo o k)::(bt,bE t a)::(ab o 1 (ar.map av)++ab B 11 (xs.map aa.enc))))
    (λi ⟨a,th,le,se,tx,at_,lo,o,ar,B,xs⟩=>a<=t.length/\(o=none->ar=[])/\k<=ar.length/\(B=none->xs=[])/\xs.length=i/\aa.wts xs<=i*cV d) ⟨a,th,le,se,tx,at_,lo,o,ar,none,[]⟩ ⟨ha,ho,hk,λ_=>rfl,rfl,by simp[aa.wts]⟩ ?_ ?_
  · exact aE.vals (.cons (.refl _) (.cons (.refl _) (.cons (.refl _) (.cons .nile (.cons (.refl _) .nil))))) |> λh=>by simpa[ai,ab]using h
  · rintro i ⟨a,th,le,se,tx,at_,lo,o,ar,B,xs⟩ hi ⟨ha,ho,hk,hol,hxl,hxw⟩
    dsimp only at ha ho hk hol hxl hxw ⊢;refine vw ?_;generalize hnx:(λ(vs':List AV) (L':SH)=>_)=nx;have hn:∀(a:Nat) (th le:Int) (se tx at_ lo:Bool) (o:Option Nat) (ar:List aO) (nb:Nat) (x:aa) (L':SH),i<n->dD L' ((bm,bY bt th le se tx at_ lo o k)::(bt,bE t a)::(ab o 1 (ar.map av)++ab (some nb) 11 ((xs++[x]).map aa.enc)))->a<=t.length->(o=none->ar=[])->k<=ar.length->x.wt<=cV d->nx [.ptr bm 0 0,.YJ d,.YJ n,.sl nb 0 (i+1),.YJ ((i+1:Nat):Int)] L':=by intro a th le se tx at_ lo o ar nb x L' q0 q1 q2 q3 q4 q5;subst hnx;refine⟨i+1,⟨a,th,le,se,tx,at_,lo,o,ar,some nb,xs++[x]⟩,YC,YC,⟨q2,q3,q4,nofun,YH,?_⟩,aE.pick q1 rfl⟩;dsimp only;rw[B3,Nat.add_mul,Nat.one_mul];omega
    clear hnx;subst hxl;have D:∀(L:SH) (v:AV),L=(bm,bY bt th le se tx at_ lo o k)::(bt,bE t a)::(ab o 1 (ar.map av)++ab B 11 (xs.map aa.enc))->v=ai B xs.length->Q v L:=by rintro _ _ rfl rfl;exact hq xs B a th le se tx at_ lo o ar hol (W5 hxw (Xa _ hi)) ha ho hk
    rcases Fn xs.length n with g|g
    · have hd1:=a8 g
      have hi1:=ax g YC;unfold bY mY at D ⊢
      repeat' (first|refine sx ?_|((with_reducible refine aU 45 ?_);(refine KD hS rp rp rp ht YD YD YD hd ?_;rintro _ a_ th_ le_ se_ tx_ at_ lo_ o_ ar_ ⟨x_,rfl,hx_⟩ ha_ ho_ hk_))|refine bG rp rp YF (λe=>by first|simp[hol e]) YE YF YH YH YE (λnb_ hnb_=>?_)|refine sb λnb_ hnb_=>?_|refine s2 ?_ ?_|intro)
      all_goals first
        |exact D _ _ rfl rfl
        | (have e_ : ab (some nb_) 11 ((xs ++ [x_]).map aa.enc) = [(nb_, ⟨11, xs.map aa.enc ++ [x_.row]⟩)] := by rw [ab, WL, WS, Xp, aa.enc_row]
           refine hn a_ th_ le_ se_ tx_ at_ lo_ o_ ar_ nb_ x_ _ g ?_ ha_ ho_ hk_ hx_;rw[e_];exact .one (.there _ (.there _ (.here _))) (.one (.there _ (.there _ (.here _))) (.slot (.there _ (.there _ (.here _))) (.one (.here _) (.nil _)))))
    · have hd1:=bq g
      unfold bY mY at D ⊢
      repeat' (first|refine sy ?_|refine s2 ?_ ?_|intro)
      exact D _ _ rfl rfl
theorem FJ(d:Nat)(hS:eH d):OB d:=by intro n hn bm bt t a th le se tx at_ lo o ar k Z ha ho hk hd;refine ac.fz ((hS n hn bm bt t a th le se tx at_ lo o ar k Z ha ho hk hd).mono ?_);rintro _ _ ⟨a',B,G,D,u,O,E,Y,S,l,ol,rfl,M,j,h3,h4,h5,rfl⟩;exact⟨_,_,B1 (.here _) (.here _) (.here _) (Fz.slot (f:=aa.enc) (g:=aa.enc) rfl (λe=>by simp[M e]) YG (λ_ _=>rfl) λy _ q a a2 M j=>by rw[M]at j;cases j;exact .refl _),_,a',B,G,D,u,O,E,Y,S,rfl,⟨l,rfl,j⟩,h3,h4,h5,rfl⟩
theorem Qr{r:Nat}(h:r<100):IntKind.i64.wrap (1+(r:Int))=((1+r:Nat):Int):=by rw[WY _ YC];omega
theorem B2.le{n m:Nat}{v:AV}(h:B2 n v)(u:n<=m):B2 m v:=by obtain⟨l,j,B⟩:=h;exact⟨l,j,YC⟩
theorem Qs(d:Nat)(hS:OB d):Tm d:=by
 intro s bm bt t a th le se tx at_ lo o ar k ht ha ho hk hd;refine ac.fz (rQ _ _ _ _ _ ?_);refine vw ?_;generalize hQ:(λ(v:AV) (L:SH)=>∃v2 L2,aE [v] L [v2] L2/\∃(v:AV) (S:Nat) (B G:Int) (D u M E:Bool) (O:Option Nat) (j:List aO),v2=v/\B2 (2*cV d) v/\S<=t.length/\(O=none->j=[])/\k<=j.length/\L2=(bm,bY bt B G D u M E O k)::(bt,bE t S)::ab O 1 (j.map av))=Q;have hq:∀(v:AV) (S:Nat) (B G:Int) (D u M E:Bool) (O:Option Nat) (j:List aO) (L:SH),B2 (2*cV d) v->dD L ((bm,bY bt B G D u M E O k)::(bt,bE t S)::ab O 1 (j.map av))->S<=t.length->(O=none->j=[])->k<=j.length->Q v L:=λv S B G D u M E O j L h1 h2 h6 h7 h8=>by subst hQ;exact⟨_,_,aE.pick h2 rfl,_,S,B,G,D,u,M,E,O,j,rfl,h1,h6,h7,h8,rfl⟩
 clear hQ;unfold bY mY
 repeat' (first|refine ep (dw ?_ (Qr YC))|refine sx ?_|refine HX (r:=[.str s]) rp YE rp (by simpa using hk) (λe=>by simp[ho e]) YC YC YE (λY Z=>?_)|((with_reducible refine aU 22 ?_);(refine g9 ht YD rp (λr_ a_ hr_ ha_=>?_)))|refine sb λY Z=>?_|refine s2 ?_ ?_|intro)
 have er:List.take k (ar.map av)++[[.str s]]=(ar.take k++[s]).map av:=by rw[WL,List.map_take];rfl
 rw[er];refine KD (o:=some Y) (ar:=ar.take k++[s]) (k:=k+1) (hS (1+r_) YC) rp rp (.here _) ht ha_ nofun (by simp[XF hk]) YC ?_;intro v a2 th2 le2 se2 tx2 at2 lo2 o2 ar2 hg ha2 ho2 hk2;rcases o2 with _|b2
 .exfalso;have:=ho2 rfl;subst this;simp at hk2
 unfold bY mY;refine vw ?_;dsimp only[ab,ai,List.cons_append,List.nil_append];have es:IntKind.i64.wrap (((k+1:Nat):Int)-1)=(k:Int):=by rw[IntWalk.i64_in _ YC];omega
 repeat' (first|refine sy ?_|refine xn ?_ (Yi _) rp rfl|refine s2 ?_ ?_|intro)
 exact hq v a2 th2 le2 se2 tx2 at2 lo2 (some b2) ar2 _ (hg.le (Xa _ YC)) (.one (.here _) (.one (.here _) (.one (.here _) (.nil _)))) ha2 nofun YC
end
section
def dY(w:aK)(loc:List aO)(v:AV)(site next:Int):Blk:=⟨10,[[.lst (w.cells.map aH.enc),.lst (w.locks.map bv.enc),.lst (w.conds.map bO.enc),.lst (w.futures.map av),.lst (w.threads.map av),.lst (w.sites.map bM.enc),.lst (loc.map av),v,.YJ site,.YJ next]]⟩
def az.at_(i:az)(s:Int):az:={i with site:=s}
theorem Tz(bg:Nat)(w:aK)(loc:List aO)(o:Option Nat)(out:List az)(site next:Int)(i:az)(M:o=none->out=[])(O:out.length<2^30):
  ac Tryz.prog 53 [.ptr bg 0 0,.agg i.enc] ((bg,dY w loc (ai o out.length) site next)::ab o 6 (out.map az.enc)) λu K=>∃(v:AV) (b:Nat),u=v/\v=.tup []/\K=(bg,dY w loc (ai (some b) (out.length+1)) site next)::ab (some b) 6 ((out++[i.at_ site]).map az.enc):=by
 refine ac.fz (xv _ _ _ _ ?_);refine vw ?_;generalize E:(λ(v:AV) (L:SH)=>∃D L2,aE [v] L [D] L2/\∃(v:AV) (b:Nat),D=v/\v=AV.tup []/\L2=(bg,dY w loc (ai (some b) (out.length+1)) site next)::ab (some b) 6 ((out++[i.at_ site]).map az.enc))=Q;have G:∀(b:Nat) (L:SH),dD L ((bg,dY w loc (ai (some b) (out.length+1)) site next)::ab (some b) 6 (out.map az.enc++[(i.at_ site).enc]))->Q (.tup []) L:=λb L h=>by subst E;refine⟨_,_,aE.pickE h rfl (R2:=(bg,dY w loc (ai (some b) (out.length+1)) site next)::ab (some b) 6 ((out++[i.at_ site]).map az.enc)) (by rw[WL];rfl),_,b,rfl,rfl,rfl⟩
 clear E;unfold dY at *
 repeat' (first|refine sx ?_|refine bG rp rp YF (λe=>by first|simp[M e]) YE YF YH YH YE (λj B=>?_)|refine sb λj B=>?_|refine s2 ?_ ?_|intro)
 cases i;exact G j _ (.one (.there _ (.there _ (.there _ (.here _)))) (.one (.here _) (.nil _)))
section
variable {bg:Nat} {w:aK} {loc:List aO} {o:Option Nat} {out:List az} {site next:Int} {L L1 L2:SH}
theorem dJ{i:az}{KL:R}(B:fQ bg (dY w loc (ai o out.length) site next) L L1)(h2:eZ o 6 (out.map az.enc) L1 L2)(D:o=none->out=[])(u:out.length<2^30)
  (j:∀b:Nat,KL (.tup []) ((bg,dY w loc (ai (some b) (out++[i.at_ site]).length) site next)::(L2++ab (some b) 6 ((out++[i.at_ site]).map az.enc)))):W.callM Tryz.prog 53 [.ptr bg 0 0,.agg i.enc] L KL:=by
 refine qR (M:=L2) (Tz bg w loc o out site next i D u) (B.perm.trans (h2.perm.cons _)) ?_;rintro _ _ ⟨v,b,rfl,rfl,rfl⟩;refine⟨_,.cons _ W1,?_⟩;have:=j b;rw[LT]at this;exact this
end
end
section
open Go.ChangeShapes Go.WideShapes Go.ChangeAt Go.RowKit
def T7(n:Int):List AV:=[.int .u8 n]
def WG(l:List Int):List UInt8:=l.map λx=>UInt8.ofNat x.toNat
theorem KM{x:Int}(h:(Lit.int .u8 x).wf=true):0<=x/\x<256:=by
 simp only[Lit.wf,WZ,decide_eq_true_eq]at h;have u:IntKind.u8.min=0:=by decide
 have j:IntKind.u8.max=255:=by decide
 omega
theorem zL{l:List Int}(h:∀x∈l,0<=x/\x<256):(WG l).map eJ=l.map T7:=by
 unfold WG;rw[List.map_map];refine List.map_congr_left λx j=>?_
 have:=h x j;show [AV.int .u8 (((UInt8.ofNat x.toNat).toNat:Nat):Int)]=[AV.int .u8 x];rw[UInt8.toNat_ofNat_of_lt' (by show x.toNat<256;omega),Int.toNat_of_nonneg this.1]
section
variable {H:Type} {enc:TypeId×Value->H} {w:World} {base:Nat} {spare:Nat->Bool} {held:Bool}
theorem FS:Opens H enc Tryz.prog w base spare held 22 (V3 (λl:List Int=>[.lst (l.map T7)]) λl=>l.length<=maxLen/\∀x∈l,(Lit.int .u8 x).wf=true):=
 Pf (size:=1) Tryz.underlying22 (by kernel_rfl) YG (TW (by kernel_rfl))
end
end
