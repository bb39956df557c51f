/- part -/
import Derived.Test.YtfckbjehkbhkgaaGreatQwH
set_option linter.all false
set_option maxRecDepth 100000
set_option maxHeartbeats 0
namespace Go.Proofs.YtfckbjehkbhkgaaGreat.Am
def U2(bt:Nat)(t:List UInt8)(a m:Nat)(s:gO)(ht:t.length<2^63)(ha:a<=t.length)(Z:m<=16)(G:nS bK s 1):ac Tryz.prog 61 [.ptr bt 0 0,.agg s.enc,.agg bK.enc,.acU (m:Int),.bool true] [(bt,az t a)] λu K=>∃ev:List bA,u=.lst (ev.map bA.enc)/\ev.length<=m/\(∀e∈ev,wO e)/\K=[]:=by
 refine ac.fz (FM _ _ _ _ _ _ _ ?_);refine vw ?_;generalize E:(λ(v:AV) (L:SH)=>∃D M,ax [v] L [D] M/\∃ev:List bA,D=.lst (ev.map bA.enc)/\ev.length<=m/\(∀e∈ev,wO e)/\M=[])=Q;have O:∀j B L,L.Perm [(B,(⟨1,List.replicate 4 [.nils]⟩:Blk)),(bt,az t a),(j,⟨7,[s.enc]⟩)]->W.loop (t6 Q) [.ptr bt 0 0,.acU (m:Int),.bool true,.ptr j 0 0,.pptr [bK.enc] 0 0,.nils,.sl B 0 4,.acU 4,.acU 0] L:=λj B L hp=>
  UZ Q bt j B t a m s ht ha G.ct (λN a' H h1 h2=>by
   refine U1 Q bt j B m t ht Z (λp hp=>?_) ⟨none,[],s,N,a'⟩ ⟨λ_=>rfl,Nat.zero_le _,nofun,G,H,h1⟩ (ax.drop (K:=[]) (.refl _) rfl (fy.at_ (.cons (.refl _) (.cons (.refl _) (.cons (.refl _) (.cons (.refl _) (.cons .nile (.cons (.refl _) .nil))))))).2);subst E;refine⟨_,[],ax.all ?_,p.ev,rfl,hp.hl,hp.hE,rfl⟩;dsimp only[IV.st];cases Y:p.o with
   |none=>rw[hp.h0 Y];exact .emp
   |some b=>exact Fz.sls (.tail _ (.tail _ (.tail _ (.head _)))) rfl acR rfl) L hp
 clear E;have S:bK.threads.length=4:=rfl;simp only[dL,dO]at *
 repeat' (first|refine sy ?_|refine s2 ?_ ?_|intro)
 exact O _ _ _ (List.Perm.cons _ (List.Perm.swap _ _ _))
def K9{B:SH->Prop}{b k j n:Nat}{v:AV}{rows:List (List AV)}{R2:List AV}{L u:SH}(D:Bx b ⟨n,rows.set k R2⟩ ⟨n,(rows.set k R2).set k (R2.set j v)⟩ L u)(E:k<rows.length)(h2:v.cells? =some [v])(h4:v.one=true)(G:j<R2.length)(h:B u):W.store 1 (.ptr b k j) v L B:=qh D (List.getElem?_set_self E) h2 h4 G rfl h
def V7:List Int:=[0,1,0,0,0]
def XI(Q:R)(bt B u E S G Y O D:Nat)(t:List UInt8)(ht:t.length<2^63)(hne:u≠bt)(hne2:u≠D)(hne3:E≠bt)(hne4:G≠bt)(hne5:D≠bt)(hq:∀p:LB,p.Ok t->∀L,cO L (t8.hp ⟨bt,B,u,E,S,G,Y,O,D⟩ t p)->Q (.agg (t8.row ⟨bt,B,u,E,S,G,Y,O,D⟩ p.tx)) L)(a:Nat)(ha:a<=t.length)(L:SH)
  (hL:cO L [(E,⟨2,List.replicate 3 o8⟩),(B,⟨7,[dB]⟩),(u,⟨7,[t8.row ⟨bt,B,u,E,S,G,Y,O,D⟩ (-1)]⟩),(bt,az t a),(S,⟨1,[[.bool false]]⟩),(G,⟨3,(ly 4).map ThrD.enc⟩),(Y,⟨1,V7.map aa⟩),(O,⟨1,[[.acU 0]]⟩),(D,⟨1,List.replicate 4 [.acU 0]⟩)]) :
  W.loop (sU Q) [.ptr bt 0 0,.ptr B 0 0,.ptr u 0 0,.acU 4,.acU 0] L:=by
 refine aL 4 (λk (p:Nat×List ThrD×List Int)=>([.ptr bt 0 0,.ptr B 0 0,.ptr u 0 0,.acU 4,.acU k],[(E,⟨2,List.replicate 3 o8⟩),(B,⟨7,[dB]⟩),(u,⟨7,[t8.row ⟨bt,B,u,E,S,G,Y,O,D⟩ (-1)]⟩),(bt,az t p.1),(S,⟨1,[[.bool false]]⟩),(G,⟨3,p.2.1.map ThrD.enc⟩),(Y,⟨1,V7.map aa⟩),(O,⟨1,[[.acU 0]]⟩),(D,⟨1,p.2.2.map aa⟩)])) (λk p=>p.1<=t.length/\p.2.1.length=4/\p.2.2.length=4/\(∀x∈p.2.1,x.cond=0)/\∀x∈p.2.2,0<=x/\x<=3) (a,ly 4,[0,0,0,0]) ⟨ha,rfl,rfl,?_,?_⟩ (ax.pickE hL rfl rfl) ?_
 .intro x hx;have hx:x∈([⟨1,0,false⟩,⟨0,0,false⟩,⟨0,0,false⟩,⟨0,0,false⟩]:List ThrD):=hx;simp only[aaj,abA,or_false]at hx;rcases hx with rfl|rfl|rfl|rfl<;>rfl
 .intro x hx;simp only[aaj,abA,or_false,or_self]at hx;subst hx;exact⟨Int.le_refl _,acR⟩
 rintro k ⟨a2,Z,cn⟩ hk ⟨ha2,hth,hcn,hcd,hct⟩;dsimp only at ha2 hth hcn hcd hct ⊢;refine vw ?_;rcases Nat.lt_or_ge k 4 with g1|g1
 .have hd:decide ((k:Int)<4)=true:=decide_eq_true acN;have hx:=aj (f:=ThrD.enc) (show k<Z.length by omega);have hy:(cn.map aa)[k]? =some [.acU (cn[k]'acN)]:=aj (f:=aa) acN;have i1:IntKind.i64.wrap ((k:Int)+1)=((k+1:Nat):Int):=av g1 acN;clear hq hL;have cdS:∀(x:ThrD),x.cond=0->∀y∈Z.set k x,y.cond=0:=λx h y hy=>by
   rcases aca hy with g|rfl
   .exact hcd y g
   .exact h
  have N:∀(a4:Nat) (s:Int) (L:SH),a4<=t.length->cO L [(E,⟨2,List.replicate 3 o8⟩),(B,⟨7,[dB]⟩),(u,⟨7,[t8.row ⟨bt,B,u,E,S,G,Y,O,D⟩ (-1)]⟩),(bt,az t a4),(S,⟨1,[[.bool false]]⟩),(G,⟨3,(Z.map ThrD.enc).set k [.acU s,.acU 0,.bool false]⟩),(Y,⟨1,V7.map aa⟩),(O,⟨1,[[.acU 0]]⟩),(D,⟨1,cn.map aa⟩)]->
    ∃(j:Nat) (p:Nat×List ThrD×List Int),k<j/\j<=4/\(p.1<=t.length/\p.2.1.length=4/\p.2.2.length=4/\(∀x∈p.2.1,x.cond=0)/\∀x∈p.2.2,0<=x/\x<=3)/\ax [.ptr bt 0 0,.ptr B 0 0,.ptr u 0 0,.acU 4,.acU ((k+1:Nat):Int)] L [.ptr bt 0 0,.ptr B 0 0,.ptr u 0 0,.acU 4,.acU j] [(E,⟨2,List.replicate 3 o8⟩),(B,⟨7,[dB]⟩),(u,⟨7,[t8.row ⟨bt,B,u,E,S,G,Y,O,D⟩ (-1)]⟩),(bt,az t p.1),(S,⟨1,[[.bool false]]⟩),(G,⟨3,p.2.1.map ThrD.enc⟩),(Y,⟨1,V7.map aa⟩),(O,⟨1,[[.acU 0]]⟩),(D,⟨1,p.2.2.map aa⟩)]:=λa4 s L h1 hP=>
   ⟨k+1,(a4,Z.set k ⟨s,0,false⟩,cn),acN,acN,⟨h1,by simpa using hth,hcn,cdS _ rfl,hct⟩,ax.pickE hP rfl (by dsimp only;rw[List.map_set];rfl)⟩
  have fin2:∀(a4 r:Nat) (s:Int) (b:Bool) (L:SH),a4<=t.length->cO L [(E,⟨2,List.replicate 3 o8⟩),(B,⟨7,[dB]⟩),(u,⟨7,[t8.row ⟨bt,B,u,E,S,G,Y,O,D⟩ (-1)]⟩),(bt,az t a4),(S,⟨1,[[.bool false]]⟩),(G,⟨3,((Z.map ThrD.enc).set k [.acU s,.acU 0,.bool false]).set k [.acU s,.acU 0,.bool b]⟩),(Y,⟨1,V7.map aa⟩),(O,⟨1,[[.acU 0]]⟩),(D,⟨1,(cn.map aa).set k [.acU (IntKind.i64.wrap (1+(r:Int)))]⟩)]->((r:Int)<3\/r=0)->
    ∃(j:Nat) (p:Nat×List ThrD×List Int),k<j/\j<=4/\(p.1<=t.length/\p.2.1.length=4/\p.2.2.length=4/\(∀x∈p.2.1,x.cond=0)/\∀x∈p.2.2,0<=x/\x<=3)/\ax [.ptr bt 0 0,.ptr B 0 0,.ptr u 0 0,.acU 4,.acU ((k+1:Nat):Int)] L [.ptr bt 0 0,.ptr B 0 0,.ptr u 0 0,.acU 4,.acU j] [(E,⟨2,List.replicate 3 o8⟩),(B,⟨7,[dB]⟩),(u,⟨7,[t8.row ⟨bt,B,u,E,S,G,Y,O,D⟩ (-1)]⟩),(bt,az t p.1),(S,⟨1,[[.bool false]]⟩),(G,⟨3,p.2.1.map ThrD.enc⟩),(Y,⟨1,V7.map aa⟩),(O,⟨1,[[.acU 0]]⟩),(D,⟨1,p.2.2.map aa⟩)]:=λa4 r s b L h1 hP hr=>by
   have e:IntKind.i64.wrap (1+(r:Int))=1+(r:Int):=IntWalk.i64_in _ acN;rw[List.set_set]at hP;refine⟨k+1,(a4,Z.set k ⟨s,0,b⟩,cn.set k (IntKind.i64.wrap (1+(r:Int)))),acN,acN,⟨h1,by simpa using hth,by simpa using hcn,cdS _ rfl,λy hy=>?_⟩,ax.pickE hP rfl (by dsimp only;rw[List.map_set,List.map_set];rfl)⟩;rcases List.mem_or_eq_of_mem_set hy with g|rfl
   .exact hct y g
   .rw[e];omega
  generalize Z[k]'acN=x at *;generalize cn[k]'acN=c at *;obtain⟨x1,x2,x3⟩:=x;rw[show ThrD.enc ⟨x1,x2,x3⟩=[.acU x1,.acU x2,.bool x3]from rfl]at hx;unfold dB t8.row at *;dsimp only at *
  repeat' (first|refine sy ?_|((with_reducible refine aN 92 ?_);(refine jM ht acO rp (λr_ a_ hr_ M h2_ h3_=>?_)))|(with_reducible refine cy 92 ?_;refine rZ ht acO rp (λr_ a_ hr_ M h2_ h3_=>?_))|(refine DG (l:=[2,2,2,2,0,1,3,4,5]) ?_ mm rfl acS;generalize List.getD _ r_ 0=st_)|refine cN ?_ acN|refine K9 rp acS rfl rfl (by simp[aR]) ?_|refine s2 ?_ ?_|intro)
  .exact N a_ _ _ M acT
  .exact fin2 a_ _ _ _ _ M acT acO
  .exact N a_ _ _ M acT
  .exact N a_ _ _ M acT
  .exact fin2 a_ _ _ _ _ M acT acO
  .exact N a_ _ _ M acT
  .exact N a_ _ _ M acT
 .have hd:decide ((k:Int)<4)=false:=decide_eq_false acN;have lp:∀L,cO L [(E,⟨2,List.replicate 3 o8⟩),(B,⟨7,[dB]⟩),(u,⟨7,[t8.row ⟨bt,B,u,E,S,G,Y,O,D⟩ (-1)]⟩),(bt,az t a2),(S,⟨1,[[.bool false]]⟩),(G,⟨3,Z.map ThrD.enc⟩),(Y,⟨1,V7.map aa⟩),(O,⟨1,[[.acU 0]]⟩),(D,⟨1,cn.map aa⟩)]->W.loop (jU Q) [.ptr bt 0 0,.ptr B 0 0,.ptr u 0 0,.acU 3,.acU 0] L:=λL hP=>by
   refine XH Q ⟨bt,B,u,E,S,G,Y,O,D⟩ t ht hne hne2 hne3 hq ⟨a2,List.replicate 3 ⟨-1,[]⟩,-1,[false],Z,V7,[0],cn⟩ ⟨ha2,rfl,rfl,hth,rfl,rfl,hcn,hcd,hct,λl hl=>by rw[(List.mem_replicate.1 hl).2];exact abt _⟩ L ?_;obtain⟨K0,hp⟩:=hP.perm;refine ax.rowV (K:=K0) (rows:=List.replicate 3 o8) hp (fy.refl _ _) rfl ?_;intro j r r' q1 q2;have hj:j<3:=by have:=(abL.1 q1).1;simpa using this
   match j,hj with
   |0,_|1,_|2,_=>cases q1;cases q2;exact .cons (.refl _) (.cons .nils .nil)
  clear hq hL;unfold dB t8.row at *;dsimp only at *
  repeat' (first|(refine lp _ ?_;exact rp)|refine sy ?_|refine s2 ?_ ?_|intro)
def Z1{b:t8}{t:List UInt8}{p:LB}(H:p.Ok t){L:SH}(u:cO L (b.hp t p)):ax [.agg (b.row p.tx)] L [.agg (⟨⟨p.lk,p.tx,p.dn,p.th⟩,p.ce,p.fu,p.cn⟩:gO).enc] [(b.bt,az t p.a)]:=by
 obtain⟨j,hp⟩:=u.perm;refine ax.keepR (K:=j++[(b.bl,⟨2,p.lk.map LockD.enc⟩),(b.bs,⟨7,[b.row p.tx]⟩),(b.bd,⟨1,p.dn.map au⟩),(b.b4,⟨3,p.th.map ThrD.enc⟩),(b.bc,⟨1,p.ce.map aa⟩),(b.bf,⟨1,p.fu.map aa⟩),(b.bn,⟨1,p.cn.map aa⟩)]) (R:=[(b.bt,az t p.a)]) (hp.trans ?_) ?_
 .rw[abr];exact(((aar (l₁:=[(b.bt,az t p.a)]) (l₂:=[(b.bd,⟨1,p.dn.map au⟩),(b.b4,⟨3,p.th.map ThrD.enc⟩),(b.bc,⟨1,p.ce.map aa⟩),(b.bf,⟨1,p.fu.map aa⟩),(b.bn,⟨1,p.cn.map aa⟩)])).cons _).cons _).append_left j
 .refine Fz.aggs ?_;rw[dL];exact .cons (Fz.sls (aaY _ mm) rfl acR H.lk.symm) (.cons (.refl _) (.cons (Fz.sls (aaY _ mm) rfl acR H.dn.symm) (.cons (Fz.sls (aaY _ mm) rfl acR H.th.symm) (.cons (Fz.sls (aaY _ mm) rfl acR H.ce.symm) (.cons (Fz.sls (aaY _ mm) rfl acR H.fu.symm) (.cons (Fz.sls (aaY _ mm) rfl acR H.cn.symm) .nil))))))
def xq(bt:Nat)(t:List UInt8)(a:Nat)(ht:t.length<2^63)(ha:a<=t.length):ac Tryz.prog 60 [.ptr bt 0 0,.agg bK.enc] [(bt,az t a)] λu K=>∃(s:gO) (Y:Nat),u=.agg s.enc/\nS bK s 1/\(∀x∈s.sync.threads,x.cond=0)/\(∀x∈s.count,0<=x/\x<=3)/\Y<=t.length/\K=[(bt,az t Y)]:=by
 have Z:=K5 bK acR acR acR acR acR acR acR acR;refine ac.fz (uU _ _ _ _ ?_);refine vw ?_;generalize hQ:(λ(v:AV) (L:SH)=>∃v2 L2,ax [v] L [v2] L2/\∃(s:gO) (Y:Nat),v2=.agg s.enc/\nS bK s 1/\(∀x∈s.sync.threads,x.cond=0)/\(∀x∈s.count,0<=x/\x<=3)/\Y<=t.length/\L2=[(bt,az t Y)])=Q;have hq:∀B j E M O N G D:Nat,∀p:LB,p.Ok t->∀L,cO L (t8.hp ⟨bt,B,j,E,M,O,N,G,D⟩ t p)->Q (.agg (t8.row ⟨bt,B,j,E,M,O,N,G,D⟩ p.tx)) L:=λB j E M O N G D p H L hP=>by subst hQ;exact⟨_,_,Z1 H hP,_,p.a,rfl,⟨H.lk,H.dn,H.th,H.ce,H.fu,H.cn,H.rd⟩,H.cd,H.ct,H.ha,rfl⟩
 clear hQ;have lp:=λB j E M O N G D h1 h2 h3 h4 h5 L hL=>XI Q bt B j E M O N G D t ht h1 h2 h3 h4 h5 (hq B j E M O N G D) a ha L hL
 clear hq;rw[dO]at *
 repeat' (first|refine sy ?_|((with_reducible refine aN 63 ?_);(refine vH Z (λv_ K_ h_=>?_);obtain⟨bl_,bd_,b4_,bc_,bf_,bn_,rfl,rfl⟩:=h_;refine⟨_,.refl _,λS=>?_⟩;simp only[abX,abK]at S ⊢))|refine s2 ?_ ?_|intro)
 refine lp _ _ bl_ bd_ b4_ bc_ bf_ bn_ ?n1 ?n2 ?n3 ?n4 ?n5 _ ?hL
 case hL=>exact rp
 all_goals (intro e_;subst e_;simp[SH.names]at *;done)
def MX:dX Tryz.prog 59 [] (.agg bK.enc):=cB (n:=2000) (d:=50) (T:=λ_ _=>none) (λf j v h=>by cases h) (by kernel_rfl) (by kernel_rfl)
def La:aq Tryz.prog 59 [] (.agg bK.enc):=.of_ok MX
section
theorem Oz{b N u m E k:Nat}{kd:IntKind}{out:List cb}{v:AV}{L:SH}{g:Nat×Blk}{D:SH->Fp->Prop}(B:k<out.length)(Z:L=g::ab (some b) 6 (out.map cb.enc))(Y:N=out.length)(f:cb->cb)(S:∀i:cb,i.enc.set u v=(f i).enc)(O:u<6)(M:v.cells? =some [v])(h1:v.one=true)
  (G:∀(j:List cb) (r:Fp),j.length=out.length->D (g::ab (some b) 6 (j.map cb.enc)) r):di [] m 6 (af (some b) N) (.int kd (k:Int)) L λx r=>W.faddr u x λy=>ds [] E 1 y v L D:=by
 subst Y Z;refine WG (Hs (cN (uq (xL (Y6 (Hs ?_)))) B (.tail _ (.head _)) rfl));refine qh (x:=⟨6,out.map cb.enc⟩) (r:=out[k].enc) (x':=⟨6,(out.set k (f out[k])).map cb.enc⟩) (.there _ (.here _)) (aj B) M h1 (by rw[abI];exact O) ?_ (uq (G _ _ acQ));rw[abT,abI,S]
theorem ptB{b N m B k:Nat}{kd:IntKind}{n:Int}{out:List cb}{L:SH}{g:Nat×Blk}{u:SH->Fp->Prop}(M:L=g::ab (some b) 6 (out.map cb.enc))(G:N=out.length)(E:k<out.length)
  (D:∀(j:List cb) (r:Fp),j.length=out.length->u (g::ab (some b) 6 (j.map cb.enc)) r):di [] m 6 (af (some b) N) (.int kd (k:Int)) L λx r=>W.faddr 2 x λy=>ds [] B 1 y (.acU n) L u:=
 Oz E M G (λi=>{i with b:=n}) (λ_=>rfl) acR rfl rfl D
theorem ptA{b N m B k:Nat}{kd:IntKind}{n:Int}{out:List cb}{L:SH}{g:Nat×Blk}{u:SH->Fp->Prop}(M:L=g::ab (some b) 6 (out.map cb.enc))(G:N=out.length)(E:k<out.length)
  (D:∀(j:List cb) (r:Fp),j.length=out.length->u (g::ab (some b) 6 (j.map cb.enc)) r):di [] m 6 (af (some b) N) (.int kd (k:Int)) L λx r=>W.faddr 1 x λy=>ds [] B 1 y (.acU n) L u:=
 Oz E M G (λi=>{i with a:=n}) (λ_=>rfl) acR rfl rfl D
theorem XX(j:Nat)(w:aF)(loc:List bU)(v:AV)(site next:Int)(s:bU)(G:w.conds.length<2^62):
  ac Tryz.prog 185 [.ptr j 0 0,.str s] [(j,iM w loc v site next)] λu K=>∃n:Int,u=.acU n/\K=[(j,iM w loc v site next)]:=by
 refine xu _ _ _ _ ?_;refine vw ?_;refine nI w.conds.length (λi=>[.ptr j 0 0,.str s,.acU i]) G rfl (λi B M O D E=>?_) (λi B M D=>?_)
 all_goals refine vw ?_
 .have N:=aj (f:=cM.enc) B;unfold iM at *
  repeat' (first|refine sy ?_|refine s2 ?_ ?_|intro)
  all_goals first|exact⟨_,rfl,rfl⟩|exact E
 .unfold iM at *
  repeat' (first|refine sy ?_|refine s2 ?_ ?_|intro)
  exact⟨_,rfl,rfl⟩
section
variable {w:aF} {loc:List bU} (hw:WQ w) (hlo:loc.length<2^40)
include hw hlo
theorem SW(x:ae)(hx:x.wt<2^29)(h1:x.op=1):nX 182 [.agg x.row] w loc (aB.wts x.index+x.expr.wt+1):=by
 intro bg o out site next h0 hl
 have D:=x.wt_eq;rw[h1,show zv 1 x.expr.op=z0 x.expr.op from rfl]at D;have ve:=λd=>Be hw hlo _ x.expr d (Fd _) acN
 have M:=λ(i:Nat) (h:i<x.index.length) d=>Be hw hlo _ x.index[i] d (Fd _) (by have:=aB.wts_get0 x.index i h;omega);have Z:=aB.wts_get0 x.index;have B:=λ(i:Nat) (h:i<x.index.length)=>BO h;have ha:=KW loc x.name acN;have hc:=GS w x.name (by have:=hw.c;omega);refine ac.fz (sV _ _ _ _ ?_);refine vw ?_;generalize hQ:(λ(v:AV) (L:SH)=>∃v2 L2,ax [v] L [v2] L2/\∃(o':Option Nat) (out':List cb) (N S:Int),_)=Q;have fin:=zf hQ;clear hQ;unfold ae.row aB.row at *;by_cases p:x.index.length=0
 .have d1:decide ((0:Int)<(x.index.length:Int))=false:=decide_eq_false acN;clear M Z B
  repeat' (first|refine sy ?_|((with_reducible refine aN 186 ?_);(refine eF (ve _) rp rp om an om (λo_ j s_ n_ E u G=>?_)))|((with_reducible refine aN 126 ?_);(refine fh rp rp om an om (λb_ j u=>?_)))|((with_reducible refine cy 126 ?_);refine oX ?_;refine fh rp rp om an om (λb_ j u ks_=>?_))|refine s2 ?_ ?_|intro)
  all_goals exact fin _ _ _ _ _ _ (.one (.here _) (.slotl .last)) om an om om
 .have d1:decide ((0:Int)<(x.index.length:Int))=true:=decide_eq_true acN;have O:0<x.index.length:=by omega
  have v0:=M 0 O;have g0:=Z 0 O;have x0:=B 0 O;obtain⟨b,hb,Y⟩:=hw.q;have e3:x.name=[113]:=by
   by_cases g:x.name=[113]
   .exact g
   .unfold zi at D;rw[if_neg (by rintro(h|h);exact p h;exact g h)]at D;omega
  rw[e3,Y]at hc;rw[e3];have hxc:=aj (f:=aU.enc) hb;clear M Z B;generalize x.index[0]=a at *
  repeat' (first|refine sy ?_|((with_reducible refine aN 186 ?_);(refine eF (v0 _) rp rp om an om (λo_ j s_ n_ E u G=>?_)))|((with_reducible refine aN 186 ?_);(refine eF (ve _) rp rp om an om (λo_ j s_ n_ E u G=>?_)))|((with_reducible refine aN 126 ?_);(refine fh rp rp om an om (λb_ j u=>?_)))|refine s2 ?_ ?_|intro)
  exact fin _ _ _ _ _ _ (.one (.here _) (.slotl .last)) om an om om
theorem M4(x:ae){kb ke:Nat}(hx:x.wt<2^29)(h1:x.op=2\/x.op=3)(hB:nX 125 [.lst (x.body.map ae.enc)] w loc kb)(hE:nX 125 [.lst (x.els.map ae.enc)] w loc ke):nX 183 [.agg x.row] w loc (x.expr.wt+kb+ke+2):=by
 intro bg o out site next h0 hl
 have hwe:=x.wt_eq;have hz:zv x.op x.expr.op=z0 x.expr.op:=if_pos acN;have Y:=λd=>Be hw hlo _ x.expr d (Fd _) acN
 refine ac.fz (pU _ _ _ _ ?_);refine vw ?_;generalize hQ:(λ(v:AV) (L:SH)=>∃v2 L2,ax [v] L [v2] L2/\∃(o':Option Nat) (out':List cb) (Z next':Int),_)=Q;have fin:=zf hQ;clear hQ;unfold ae.row aB.row at *;clear hwe hz hx;generalize x.op=op at *;have h9:decide (op=3)=true\/decide (op=3)=false:=by cases decide (op=3)<;>simp
 have e9:decide ((x.els.length:Int)=0)=true\/decide ((x.els.length:Int)=0)=false:=by cases decide ((x.els.length:Int)=0)<;>simp
 clear h1;rcases h9 with h9|h9
 .repeat' (first|refine ptB acP om om (λj N D=>?_)|refine ptA acP om om (λj N D=>?_)|refine sy ?_|refine IJ ?_|((with_reducible refine cy 186 ?_);refine oX ?_;refine eF (Y _) rp rp om an om (λo_ j E G S u B O=>?_))|((with_reducible refine aN 126 ?_);(refine fh rp rp om an om (λM j u=>?_)))|((with_reducible refine aN 125 ?_);(refine rJ hB rp rp om om om (λM j E G u B=>?_)))|intro)
  exact fin _ _ _ _ _ _ (.one (.here _) (.slotl .last)) om an om om
 rcases e9 with e9|e9
 .repeat' (first|refine ptB acP om om (λj N D=>?_)|refine ptA acP om om (λj N D=>?_)|refine sy ?_|refine IJ ?_|((with_reducible refine cy 186 ?_);refine oX ?_;refine eF (Y _) rp rp om an om (λo_ j E G S u B O=>?_))|((with_reducible refine aN 126 ?_);(refine fh rp rp om an om (λM j u=>?_)))|((with_reducible refine aN 125 ?_);(refine rJ hB rp rp om om om (λM j E G u B=>?_)))|intro)
  exact fin _ _ _ _ _ _ (.one (.here _) (.slotl .last)) om an om om
 .repeat' (first|refine ptB acP om om (λj N D=>?_)|refine ptA acP om om (λj N D=>?_)|refine sy ?_|refine IJ ?_|((with_reducible refine cy 186 ?_);refine oX ?_;refine eF (Y _) rp rp om an om (λo_ j E G S u B O=>?_))|((with_reducible refine aN 126 ?_);(refine fh rp rp om an om (λM j u=>?_)))|((with_reducible refine aN 125 ?_);(refine rJ hB rp rp om om om (λM j E G u B=>?_)))|((with_reducible refine aN 125 ?_);(refine rJ hE rp rp om om om (λM j E G u B=>?_)))|intro)
  exact fin _ _ _ _ _ _ (.one (.here _) (.slotl .last)) om an om om
omit hw hlo in
theorem SX(x:ae){N:Nat}{f l ob:Int}(hB:nX 125 [.lst (x.body.map ae.enc)] w loc N):nX 184 [.agg x.row,.acU f,.acU l,.acU ob] w loc (N+2):=by
 intro bg o Y E M h0 hl
 refine ac.fz (sW _ _ _ _ _ _ _ ?_);refine vw ?_;generalize O:(λ(v:AV) (L:SH)=>∃S L2,ax [v] L [S] L2/\∃(o':Option Nat) (G:List cb) (u B:Int),_)=Q;have fin:=zf O;clear O;unfold ae.row at *
 repeat' (first|refine sy ?_|((with_reducible refine aN 126 ?_);(refine fh rp rp om an om (λb_ j D=>?_)))|((with_reducible refine aN 125 ?_);(refine rJ hB rp rp om om om (λb_ j s_ n_ D Z=>?_)))|intro)
 exact fin _ _ _ _ _ _ (.one (.here _) (.slotl .last)) om an om om
theorem XY(x:ae){kb ke:Nat}(hx:x.wt<2^29)(hB:nX 125 [.lst (x.body.map ae.enc)] w loc kb)(hE:nX 125 [.lst (x.els.map ae.enc)] w loc ke):nX 160 [.agg x.row] w loc (aB.wts x.index+x.expr.wt+kb+ke+2):=by
 intro bg o out E G h0 hl
 have O:=x.wt_eq;have c1:=P1 w.locks x.name (by have:=hw.l;omega);have c2:=KW w.threads x.name (by have:=hw.t;omega);have c3:=KW w.futures x.name (by have:=hw.f;omega);have c4:=KW w.futures x.arg (by have:=hw.f;omega);have c5:=KW loc x.name acN;have cc:=λ(v:AV) (E G:Int)=>XX bg w loc v E G x.name (by have:=hw.d;omega)
 have ve:=λ(h:x.op=14) d=>Be hw hlo _ x.expr d (Fd _) (by rw[h,show zv 14 x.expr.op=z0 x.expr.op from rfl]at O;omega);have va:=SW hw hlo x hx;have vb:=λh=>M4 hw hlo x hx h hB hE
 have vr:=λ(f l ob:Int)=>SX x (f:=f) (l:=l) (ob:=ob) hB;refine ac.fz (xx _ _ _ _ ?_);refine vw ?_;generalize hQ:(λ(v:AV) (L:SH)=>∃v2 L2,ax [v] L [v2] L2/\∃(o':Option Nat) (out':List cb) (Z next':Int),_)=Q;have fin:=zf hQ;clear hQ;clear hB hE O hx;obtain⟨op,line,name,arg,index,e,body,els⟩:=x;unfold ae.row aB.row at *;dsimp only[ae.op,ae.line,ae.name,ae.arg,ae.index,ae.expr,ae.body,ae.els]at *
 repeat' (first|refine sy ?_|((with_reducible refine aN 182 ?_);(refine eF (va (of_decide_eq_true acO)) rp rp om an om (λY j S M B u D=>?_)))|((with_reducible refine aN 183 ?_);(refine eF (vb (by first|exact .inl (of_decide_eq_true acO)|exact .inr (of_decide_eq_true acO))) rp rp om an om (λY j S M B u D=>?_)))|((with_reducible refine cy 184 ?_);refine oX ?_;refine eF (vr _ _ _) rp rp om an om (λY j S M B u D N=>?_))|((with_reducible refine aN 184 ?_);(refine eF (vr _ _ _) rp rp om an om (λY j S M B u D=>?_)))|((with_reducible refine aN 185 ?_);(refine cQ (cc _ _ _) rp ?_;rintro _ _ ⟨M,rfl,rfl⟩;dsimp only[List.cons_append,List.nil_append]))|((with_reducible refine cy 185 ?_);refine oX ?_;refine cQ (cc _ _ _) rp ?_;rintro _ _ ⟨M,rfl,rfl⟩ N;dsimp only[List.cons_append,List.nil_append])|((with_reducible refine aN 186 ?_);(refine eF (ve (of_decide_eq_true acO) _) rp rp om an om (λY j S M B u D=>?_)))|((with_reducible refine aN 126 ?_);(refine fh rp rp om an om (λb_ j u=>?_)))|((with_reducible refine cy 126 ?_);refine oX ?_;refine fh rp rp om an om (λb_ j u N=>?_))|refine s2 ?_ ?_|intro)
 all_goals exact fin _ _ _ _ _ _ (.one (.here _) (.slotl .last)) om an om om
end
end
section
theorem D5(o:Option Nat)(l:List bZ)(x:bU)(Z:o=none->l=[])(O:l.length<2^62):
  ac Tryz.prog 158 [af o l.length,.str x] (ab o 2 (l.map bZ.enc)) λu K=>u=.acU (iE l x)/\K=ab o 2 (l.map bZ.enc):=by
 refine pF _ _ _ _ ?_;refine vw ?_;generalize Y:ab o 2 (l.map bZ.enc)=L;generalize N:(λ(u:AV) (K:SH)=>u=AV.acU (iE l x)/\K=L)=Q;have E:∀r:Int,r=iE l x->Q (.acU r) L:=λr h=>by subst N h;exact⟨rfl,rfl⟩
 clear N;subst Y;cases o with
 |none=>
  have:=Z rfl;subst this;dsimp only[ab,af,List.length_nil]at *;refine cT 0 (λ_=>True) (λi=>[.emp,.str x,.acU i]) acN trivial rfl (λi B G S _ D M=>by omega) (λi B G _ D=>?_);refine vw ?_
  repeat' (first|refine sy ?_|refine s2 ?_ ?_|intro)
  exact E _ rfl
 |some b1=>
  dsimp only[ab,af]at *;refine eO l (λy=>decide (y.name=x)) (λi=>[.sl b1 0 l.length,.str x,.acU i]) O rfl (λi B G S j D M=>?_) (λi B G j D=>?_)
  all_goals refine vw ?_
  .have hx:=aj (f:=bZ.enc) B
   repeat' (first|refine sy ?_|refine s2 (λh=>?_) λh=>?_|intro)
   .exact E _ (by rw[iE,mR B j h])
   .exact M h
  .repeat' (first|refine sy ?_|refine s2 ?_ ?_|intro)
   exact E _ (by rw[iE,gz j])
def XZ:List AV:=[.nils,.nils,.nils,.nils,.nils,.nils]
def Eg(b2 b6:Nat)(oc ol od of ot os:Option Nat)(w:aF):SH:=
 (b6,⟨6,[[af oc w.cells.length,af ol w.locks.length,af od w.conds.length,af of w.futures.length,af ot w.threads.length,af os w.sites.length]]⟩)::(b2,⟨6,[XZ]⟩) ::
  (ab oc 5 (w.cells.map aU.enc)++(ab ol 2 (w.locks.map bZ.enc)++(ab od 2 (w.conds.map cM.enc)++(ab of 1 (w.futures.map ay)++(ab ot 1 (w.threads.map ay)++ab os 3 (w.sites.map cF.enc))))))
structure FR(b6:Nat)(oc ol od of ot os:Option Nat)(w:aF):Prop where
 c:oc=none->w.cells=[]
 l:ol=none->w.locks=[]
 d:od=none->w.conds=[]
 f:of=none->w.futures=[]
 t:ot=none->w.threads=[]
 s:os=none->w.sites=[]
 n:∀b,ol=some b->b6≠b
def Wa(K:SH->Prop)(b2 b6:Nat)(w:aF):Prop:=∀(oc ol od of ot os:Option Nat) (L':SH) (v0 v1 v2 v3 v4 v5:AV) (r0 r1 r2 r3 r4 r5:List (List AV)),FR b6 oc ol od of ot os w->
 cO L' ((b6,⟨6,[[v0,v1,v2,v3,v4,v5]]⟩)::(b2,⟨6,[XZ]⟩)::(ab oc 5 r0++(ab ol 2 r1++(ab od 2 r2++(ab of 1 r3++(ab ot 1 r4++ab os 3 r5))))))->
 [v0,v1,v2,v3,v4,v5]=[af oc w.cells.length,af ol w.locks.length,af od w.conds.length,af of w.futures.length,af ot w.threads.length,af os w.sites.length]->
 r0=w.cells.map aU.enc->r1=w.locks.map bZ.enc->r2=w.conds.map cM.enc->r3=w.futures.map ay->r4=w.threads.map ay->r5=w.sites.map cF.enc->K L'
theorem Wa.of{K:SH->Prop}{b2 b6:Nat}{w:aF}(h:∀(oc ol od of ot os:Option Nat) (j:SH),FR b6 oc ol od of ot os w->cO j (Eg b2 b6 oc ol od of ot os w)->K j):Wa K b2 b6 w:=by intro oc ol od of ot os j v0 v1 v2 v3 Z Y r0 r1 r2 r3 r4 r5 D B u S O N M G E;simp only[List.cons.injEq,and_true]at u;obtain⟨rfl,rfl,rfl,rfl,rfl,rfl⟩:=u;subst S O N M G E;exact h oc ol od of ot os j D B
section
variable {n18:Kn} {b2 b6 i:Nat} {oc ol od of ot os:Option Nat} {w:aF} {rows tl:List (List AV)}
theorem Wb{line size B:Int}{name G:bU}{u:Int}(hk:u=1\/u=2)(hs:size<=1000)(hi1:IntKind.i64.wrap ((i:Int)+1)=((i+1:Nat):Int))(D:FR b6 oc ol od of ot os w)(hlen:w.cells.length<2^30)
  (hn:Wa (n18 [.pptr [[.lst rows,.lst tl]] 0 0,.ptr b2 0 0,.ptr b6 0 0,.acU ((i+1:Nat):Int)]) b2 b6 {w with cells:=w.cells++aZ.celW ⟨u,line,name,size,B,G⟩}) :
  W.loop (DY n18) [.pptr [[.lst rows,.lst tl]] 0 0,.ptr b2 0 0,.ptr b6 0 0,.acU i,.pptr [[.acU u,.acU line,.str name,.acU size,.acU B,.str G]] 0 0,.acU 0] (Eg b2 b6 oc ol od of ot os w):=by
 generalize hN:(max size 1).toNat=N at *;have hN1:N<=1000:=by omega
 have hcl:aZ.celW ⟨u,line,name,size,B,G⟩=(List.range N).map λk=>⟨name,(k:Nat),size,decide (u=2),B⟩:=by unfold aZ.celW;rw[hN]
 rw[hcl]at hn;obtain⟨WK,E⟩:∃f:Nat->aF,f=λk=>{w with cells:=w.cells++(List.range k).map λk=>⟨name,(k:Nat),size,decide (u=2),B⟩}:=⟨_,rfl⟩
 refine aL (β:=Option Nat×Option Nat×Option Nat×Option Nat×Option Nat×Option Nat) N (λk q=>([.pptr [[.lst rows,.lst tl]] 0 0,.ptr b2 0 0,.ptr b6 0 0,.acU i,.pptr [[.acU u,.acU line,.str name,.acU size,.acU B,.str G]] 0 0,.acU k],Eg b2 b6 q.1 q.2.1 q.2.2.1 q.2.2.2.1 q.2.2.2.2.1 q.2.2.2.2.2 (WK k)))
  (λk q=>FR b6 q.1 q.2.1 q.2.2.1 q.2.2.2.1 q.2.2.2.2.1 q.2.2.2.2.2 (WK k)) (oc,ol,od,of,ot,os) (by subst E;show FR b6 oc ol od of ot os {w with cells:=w.cells++[]};rw[aby];exact D) (by subst E;show ax _ _ _ (Eg b2 b6 oc ol od of ot os {w with cells:=w.cells++[]});rw[aby];exact ax.refl _ _) ?_
 rintro k ⟨oc,ol,od,of,ot,os⟩ hk D;dsimp only at D ⊢;refine vw ?_;generalize O:(λ(vs':List AV) (L':SH)=>∃j o',k<j/\j<=N/\_)=nx;rcases Nat.lt_or_ge k N with Y|Y
 .have hd:=aS Y;have hk1:=av Y acN;have hrs:List.range (k+1)=List.range k++[k]:=List.range_succ;have hgo:Wa (nx [.pptr [[.lst rows,.lst tl]] 0 0,.ptr b2 0 0,.ptr b6 0 0,.acU i,.pptr [[.acU u,.acU line,.str name,.acU size,.acU B,.str G]] 0 0,.acU ((k+1:Nat):Int)]) b2 b6 {w with cells:=w.cells++(List.range k).map (λk=>(⟨name,(k:Nat),size,decide (u=2),B⟩:aU))++[⟨name,(k:Nat),size,decide (u=2),B⟩]}:=.of λoc2 ol2 od2 of2 Z os2 L' q1 q2=>by
   subst O;subst E;have e:(λk=>({w with cells:=w.cells++(List.range k).map λk=>(⟨name,(k:Nat),size,decide (u=2),B⟩:aU)}:aF)) (k+1)={w with cells:=w.cells++(List.range k).map (λk=>(⟨name,(k:Nat),size,decide (u=2),B⟩:aU))++[⟨name,(k:Nat),size,decide (u=2),B⟩]}:=by show({w with cells:=w.cells++(List.range (k+1)).map (λk=>(⟨name,(k:Nat),size,decide (u=2),B⟩:aU))}:aF)=_;rw[hrs,ST,<-List.append_assoc];rfl
   exact⟨k+1,(oc2,ol2,od2,of2,Z,os2),acN,acN,by rw[e];exact q1,by rw[e];exact ax.pick q2 rfl⟩
  clear O;have hCl:(w.cells++(List.range k).map (λk=>(⟨name,(k:Nat),size,decide (u=2),B⟩:aU))).length<2^31:=by simp;omega
  obtain⟨wc,wl,wd,wf,wt,ws⟩:=w;subst E;dsimp only at *;generalize wc++(List.range k).map (λk=>(⟨name,(k:Nat),size,decide (u=2),B⟩:aU))=C at *;have hC0:oc=none->C.map aU.enc=[]:=λe=>by have hc:=D.c e;dsimp only at hc;rw[hc];rfl
  unfold Eg
  repeat' (first|rw[hN]|refine sx ?_|refine aM rp rp acQ (λe=>by first|simp[hC0 e]) acP acQ acS acS acP (λM S=>?_)|refine R5 ?_|refine sb λM S=>?_|refine s2 ?_ ?_|intro)
  exact hgo (some M) ol od of ot os _ _ _ _ _ _ _ _ _ _ _ _ _ ⟨nofun,D.l,D.d,D.f,D.t,D.s,D.n⟩ rp (by simp[af]) (by rw[ST];rfl) rfl rfl rfl rfl rfl
 .have hd:=aW Y;have e:k=N:=by omega
  subst e;subst E;dsimp only at *;unfold Eg
  repeat' (first|rw[hN]|refine sy ?_|refine R5 ?_|refine s2 ?_ ?_|intro)
  exact hn oc ol od of ot os _ _ _ _ _ _ _ _ _ _ _ _ _ D rp rfl rfl rfl rfl rfl rfl rfl
theorem Vd{o:Option Nat}{l:List bZ}{x:bU}{i:Nat}{us:List W.WR}{L j:SH}{B:AV->SH->List Nat->Prop}(O:o=none->l=[])(D:l.length<2^62)(h2:eG o 2 (l.map bZ.enc) L j)(G:∀z∈us,W.free z ⟨i,[],(ab o 2 (l.map bZ.enc)).names,[],true,[]⟩)
  (E:B (.acU (iE l x)) (ab o 2 (l.map bZ.enc)++j) (ab o 2 (l.map bZ.enc)).names):W.dcallM Tryz.prog us i 158 [af o l.length,.str x] L B:=
 ⟨ab o 2 (l.map bZ.enc),j,h2.perm,G,(D5 o l x O D).mono λu K ⟨N,M⟩=>by subst N M;exact E⟩
theorem Ve{o:Option Nat}{b6 n i j k:Nat}{rows:List (List AV)}(h:∀b,o=some b->b6≠b):∀z∈[rm i rz,rm j ⟨ai (.ptr b6 0 n),[],[],[]⟩],W.free z ⟨k,[],(ab o 2 rows).names,[],true,[]⟩:=by
 intro z u;simp only[aaj,abA,or_false]at u;rcases u with rfl|rfl
 .exact⟨nofun,nofun,nofun,nofun,λ_=>rfl⟩
 .refine⟨nofun,?_,nofun,nofun,λ_=>rfl⟩;intro c B;have:c=b6:=by simpa[rm,ai]using B
  subst this;cases o with
  |none=>simp[ab,SH.names]
  |some b=>have:=h b rfl;simpa[ab,SH.names]using this
theorem X0{d:aZ}(hr:rows[i]? =some d.enc)(hk:1<=d.kind/\d.kind<=6)(hs:d.size<=1000)(hi1:IntKind.i64.wrap ((i:Int)+1)=((i+1:Nat):Int))(u:FR b6 oc ol od of ot os w)(h1:w.cells.length<2^30)(h2:w.locks.length<2^30)(h3:w.conds.length<2^30)(h4:w.futures.length<2^30)
  (O:Wa (n18 [.pptr [[.lst rows,.lst tl]] 0 0,.ptr b2 0 0,.ptr b6 0 0,.acU ((i+1:Nat):Int)]) b2 b6 (cR w d)) :
  DZ n18 (Eg b2 b6 oc ol od of ot os w) (.pptr [[.lst rows,.lst tl]] 0 0) (.acU i) (.ptr b2 0 0) (.ptr b6 0 0):=by
 obtain⟨M,B,j,size,D,S⟩:=d;have hr':rows[i]? =some [.acU M,.acU B,.str j,.acU size,.acU D,.str S]:=hr;clear hr;dsimp only at hk hs;have Z:ol=none->w.locks.map bZ.enc=[]:=λe=>by rw[u.l e];rfl
 have hd0:od=none->w.conds.map cM.enc=[]:=λe=>by rw[u.d e];rfl
 have hf0:of=none->w.futures.map ay=[]:=λe=>by rw[u.f e];rfl
 have hlk:=D5 ol w.locks S u.l acN;have hc:M=1\/M=2\/M=3\/M=4\/M=5\/M=6:=by omega
 refine vw ?_;rcases hc with rfl|rfl|rfl|rfl|rfl|rfl
 .have N:cR w ⟨1,B,j,size,D,S⟩={w with cells:=w.cells++aZ.celW ⟨1,B,j,size,D,S⟩}:=by unfold cR;rw[if_pos (.inl rfl)]
  rw[N]at O;have Y:=Wb (.inl rfl) hs hi1 u h1 O;unfold Eg at Y ⊢
  repeat' (first|exact Y|refine sy ?_|refine s2 ?_ ?_|intro)
 .have N:cR w ⟨2,B,j,size,D,S⟩={w with cells:=w.cells++aZ.celW ⟨2,B,j,size,D,S⟩}:=by unfold cR;rw[if_pos (.inr rfl)]
  rw[N]at O;have Y:=Wb (.inr rfl) hs hi1 u h1 O;unfold Eg at Y ⊢
  repeat' (first|exact Y|refine sy ?_|refine s2 ?_ ?_|intro)
 .have N:cR w ⟨3,B,j,size,D,S⟩={w with locks:=w.locks++[⟨j,decide ((3:Int)=4)⟩]}:=rfl;rw[N]at O;unfold Eg
  repeat' (first|refine sx ?_|refine aM rp rp acQ (λe=>by first|simp[Z e]) acP acQ acS acS acP (λG E=>?_)|refine sb λG E=>?_|refine s2 ?_ ?_|intro)
  exact O oc (some G) od of ot os _ _ _ _ _ _ _ _ _ _ _ _ _ ⟨u.c,nofun,u.d,u.f,u.t,u.s,λb e=>by cases e;rintro rfl;exact E (by simp[SH.names])⟩ rp (by simp[af]) rfl (by rw[ST];rfl) rfl rfl rfl rfl
 .have N:cR w ⟨4,B,j,size,D,S⟩={w with locks:=w.locks++[⟨j,decide ((4:Int)=4)⟩]}:=rfl;rw[N]at O;unfold Eg
  repeat' (first|refine sx ?_|refine aM rp rp acQ (λe=>by first|simp[Z e]) acP acQ acS acS acP (λG E=>?_)|refine sb λG E=>?_|refine s2 ?_ ?_|intro)
  exact O oc (some G) od of ot os _ _ _ _ _ _ _ _ _ _ _ _ _ ⟨u.c,nofun,u.d,u.f,u.t,u.s,λb e=>by cases e;rintro rfl;exact E (by simp[SH.names])⟩ rp (by simp[af]) rfl (by rw[ST];rfl) rfl rfl rfl rfl
 .have N:cR w ⟨5,B,j,size,D,S⟩={w with conds:=w.conds++[⟨j,iE w.locks S⟩]}:=rfl;rw[N]at O;unfold Eg;rcases ol with _|bl_
  all_goals
   repeat' (first|refine sy ?_|refine aM rp rp acQ (λe=>by first|simp[hd0 e]) acP acQ acS acS acP (λG E=>?_)|((with_reducible refine cy 158 ?_);refine Vd u.l acN rp (Ve u.n) ?_;dsimp only[A7,A8,List.nil_append,List.cons_append])|refine s2 ?_ ?_|intro)
  .exact O oc none (some G) of ot os _ _ _ _ _ _ _ _ _ _ _ _ _ ⟨u.c,u.l,nofun,u.f,u.t,u.s,u.n⟩ rp (by simp[af]) rfl rfl (by rw[ST];rfl) rfl rfl rfl
  .exact O oc (some bl_) (some G) of ot os _ _ _ _ _ _ _ _ _ _ _ _ _ ⟨u.c,u.l,nofun,u.f,u.t,u.s,u.n⟩ rp (by simp[af]) rfl rfl (by rw[ST];rfl) rfl rfl rfl
 .have N:cR w ⟨6,B,j,size,D,S⟩={w with futures:=w.futures++[j]}:=rfl;rw[N]at O;unfold Eg
  repeat' (first|refine sx ?_|refine aM rp rp acQ (λe=>by first|simp[hf0 e]) acP acQ acS acS acP (λG E=>?_)|refine sb λG E=>?_|refine s2 ?_ ?_|intro)
  exact O oc ol od (some G) ot os _ _ _ _ _ _ _ _ _ _ _ _ _ ⟨u.c,u.l,u.d,nofun,u.t,u.s,u.n⟩ rp (by simp[af]) rfl rfl rfl (by rw[ST];rfl) rfl rfl
end
end
