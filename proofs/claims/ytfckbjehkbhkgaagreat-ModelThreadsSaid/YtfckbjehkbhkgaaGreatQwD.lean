/- part -/
import Derived.Test.YtfckbjehkbhkgaaGreatQwC
set_option linter.all false
set_option maxRecDepth 100000
set_option maxHeartbeats 0
namespace Go.Proofs.YtfckbjehkbhkgaaGreat.Am
inductive xo (rs:zM):SH->Prop where
 |nil:xo rs (dU rs)
 |cons (p:Nat×Blk) {L:SH}:xo rs L->xo rs (p::L)
def xo.ex{rs:zM}{L:SH}(h:xo rs L):∃L2,L=L2++dU rs:=by
 induction h with
 |nil=>exact⟨[],rfl⟩
 |cons p _ j=>obtain⟨L2,rfl⟩:=j;exact⟨p::L2,rfl⟩
def IF{j u:Nat}{rs:zM}{L:SH}{K:AV->Prop}(B:u<rs.length)(D:(j,(⟨1,fO rs⟩:Blk))∈L)(h:K (af rs[u].1 rs[u].2.length)):W.load false 1 (.ptr j u 0) L K:=dR D (DQ B) rfl h
def PP{bt:Nat}{t:List UInt8}{a n u:Nat}{rs:zM}{L D:SH}{KL:R}(ht:t.length<2^63)(O:a<=t.length)(H:Sv n rs)(hn:n<1000)(E:u<rs.length)(N:dF bt (az t a) L D)(S:xo rs D)
  (G:∀(out:List Int) (j:Nat),out.length<=n->j<=t.length->a<=j->KL (.lst (out.map aa)) ((bt,az t j)::D)):W.callM Tryz.prog 115 [.ptr bt 0 0,af rs[u].1 rs[u].2.length] L KL:=by
 obtain⟨B,rfl⟩:=S.ex;obtain⟨g1,g2⟩:=H.2 _ (LT E);have hp:(B++dU rs).Perm (ab rs[u].1 1 (rs[u].2.map aa)++(B++dU (rs.eraseIdx u))):=((uV rs u E).append_left B).trans (act _ _ _);refine oW (K:=(bt,az t a)::ab rs[u].1 1 (rs[u].2.map aa)) (M:=B++dU (rs.eraseIdx u)) (UW bt t a _ _ ht O g1 acN) (N.perm.trans (hp.cons _)) ?_;rintro _ _ ⟨out,j,rfl,h1,Z,Y,rfl⟩;exact⟨_,(hp.symm.cons _),G out j acN Z Y⟩
def ax.keepT{v v2:AV}{j b2:Nat}{x1 x2:Blk}{L u L2:SH}{rs:zM}(E:dF j x1 L u)(h2:dF b2 x2 u L2)(D:xo rs L2)(B:∀K,Fz K v v2):ax [v] L [v2] ((j,x1)::(b2,x2)::dU rs):=by obtain⟨K,rfl⟩:=D.ex;refine ax.keepR (K:=K) ?_ (B K);exact(E.perm.trans (h2.perm.cons _)).trans ((act [(j,x1),(b2,x2)] K (dU rs)))
def ZZ{r:Nat}(h:r<43):(pe.map aa)[r]? =some [.acU (pe.getD r 0)]:=by have j:r<pe.length:=h;rw[aj (f:=aa) j];simp[List.getD,j,aa]
def Ow(n:Nat)(v:AV):Prop:=v=.nils\/∃d:List Int,v=.lst (d.map aa)/\d.length<=n
def Ow.get{n:Nat}{v:AV}(h:Ow n v):∃d:List Int,(∀K,Fz K v (.lst (d.map aa)))/\d.length<=n:=by
 rcases h with rfl|⟨d,rfl,h⟩
 .exact⟨[],λK=>.nils,abt _⟩
 .exact⟨d,λK=>.refl _,h⟩
def aba{r:Nat}(h:r<43):∃k:Int,(pe.map aa)[r]? =some [.acU k]/\(k=1\/k=2\/k=3\/k=4\/k=5\/k=22\/(decide (k=1)=false/\decide (k=2)=false/\decide (k=3)=false/\decide (k=4)=false/\decide (k=5)=false/\decide (k=22)=false)):=by
 refine⟨_,ZZ h,?_⟩;generalize pe.getD r 0=k;by_cases G:k=1
 .exact .inl G
 by_cases E:k=2
 .exact .inr (.inl E)
 by_cases D:k=3
 .exact .inr (.inr (.inl D))
 by_cases B:k=4
 .exact .inr (.inr (.inr (.inl B)))
 by_cases u:k=5
 .exact .inr (.inr (.inr (.inr (.inl u))))
 by_cases j:k=22
 .exact .inr (.inr (.inr (.inr (.inr (.inl j)))))
 exact .inr (.inr (.inr (.inr (.inr (.inr ⟨decide_eq_false G,decide_eq_false E,decide_eq_false D,decide_eq_false B,decide_eq_false u,decide_eq_false j⟩)))))
def SA{o:Int}(u:0<=o)(j:o<5):∃(n:bU) (i z:Int) (v:Bool) (t:Int),(bK.cells.map aU.enc)[o.toNat]? =some [.str n,.acU i,.acU z,.bool v,.acU t]:=by
 have h:o.toNat<bK.cells.length:=by show o.toNat<5;omega
 exact⟨_,_,_,_,_,aj (f:=aU.enc) h⟩
def zN{bt:Nat}{t:List UInt8}{a:Nat}{k th:Int}{L u:SH}{KL:R}(D:dF bt (az t a) L u)(ht:t.length<2^63)(E:a<=t.length)(B:∀(o:Int) (j:Nat),(k=3\/k=4->0<=o/\o<5)->j<=t.length->a<=j->KL (.acU o) ((bt,az t j)::u)):W.callM Tryz.prog 113 [.ptr bt 0 0,.acU k,.acU th] L KL:=
 cQ (PN bt t a k th ht E) D (by rintro _ _ ⟨o,j,rfl,N,M,G,rfl⟩;exact B o j N M G)
def xp{bt:Nat}{t:List UInt8}{a:Nat}{k th:Int}{L D:SH}{KL:R}(u:k=3\/k=4)(G:dF bt (az t a) L D)(ht:t.length<2^63)(M:a<=t.length)(E:∀(o:Int) (j:Nat),0<=o->o<5->(∃(n:bU) (i z:Int) (v:Bool) (t:Int),(bK.cells.map aU.enc)[o.toNat]? =some [.str n,.acU i,.acU z,.bool v,.acU t])->j<=t.length->a<=j->KL (.acU o) ((bt,az t j)::D)):W.callM Tryz.prog 113 [.ptr bt 0 0,.acU k,.acU th] L KL:=
 zN G ht M λo j B O N=>E o j (B u).1 (B u).2 (SA (B u).1 (B u).2) O N
def MV{bt:Nat}{t:List UInt8}{a:Nat}{s:gO}{k ob:Int}{L u:SH}{KL:R}(G:dF bt (az t a) L u)(ht:t.length<2^63)(M:a<=t.length)(h4:s.sync.threads.length<2^30)(E:0<s.futures.length)(D:k=3->inB ob s.cells.length=true)(B:∀(o:Int) (j:Nat),j<=t.length->a<=j->KL (.acU o) ((bt,az t j)::u)):
  W.callM Tryz.prog 114 [.ptr bt 0 0,.agg [.lst (s.sync.locks.map LockD.enc),.acU s.sync.tx,.lst (s.sync.done.map au),.lst (s.sync.threads.map ThrD.enc),.lst (s.cells.map aa),.lst (s.futures.map aa),.lst (s.count.map aa)],.acU k,.acU ob] L KL:=
 cQ (Sx bt t a s k ob ht M h4 E D) G (by rintro _ _ ⟨o,j,rfl,O,N,rfl⟩;exact B o j O N)
def SB(bt S:Nat)(t:List UInt8)(a n:Nat)(s:gO)(rs:zM)(ht:t.length<2^63)(ha:a<=t.length)(H:Sv n rs)(hn:n<1000)(h4:s.sync.threads.length<2^30)(hf:0<s.futures.length)(hc:s.cells.length=5):
  ac Tryz.prog 94 [.ptr bt 0 0,.agg s.enc,.agg bK.enc,.sl S 0 4] ((bt,az t a)::(S,⟨1,fO rs⟩)::dU rs) λu K=>∃(e:bA) (j:Nat),u=.agg e.enc/\(0<=e.thread/\e.thread<4)/\wO e/\j<=t.length/\a<=j/\(a<t.length->a<j)/\K=(bt,az t j)::(S,⟨1,fO rs⟩)::dU rs:=by
 refine ac.fz (DO _ _ _ _ _ _ ?_);refine vw ?_;generalize hQ:(λ(v:AV) (L:SH)=>∃v2 E,ax [v] L [v2] E/\∃(e:bA) (j:Nat),v2=.agg e.enc/\(0<=e.thread/\e.thread<4)/\wO e/\j<=t.length/\a<=j/\(a<t.length->a<j)/\E=(bt,az t j)::(S,⟨1,fO rs⟩)::dU rs)=Q;have hq:∀(e:bA) (j:Nat) (v:AV) (L G E:SH),dF bt (az t j) L G->dF S ⟨1,fO rs⟩ G E->xo rs E->(∀K,Fz K v (.agg e.enc))->(0<=e.thread/\e.thread<4)->wO e->j<=t.length->a<=j->(a<t.length->a<j)->Q v L:=λe j v L G E h1 h2 h3 h4 h5 h6 h7 h8 h9=>by subst hQ;exact⟨_,_,ax.keepT h1 h2 h3 h4,e,j,rfl,h5,h6,h7,h8,h9,rfl⟩
 clear hQ;have kl:pe.length=43:=rfl;have hl4:rs.length=4:=H.1;have hn':=hn;have hz:∀(O:Nat) (k o v st:Int) (dv fv:AV) (j:Nat) (L G E:SH),dF bt (az t j) L G->dF S ⟨1,fO rs⟩ G E->xo rs E->Ow n dv->Ow n fv->O<4->j<=t.length->a<=j->(a<t.length->a<j)->Q (.agg [.acU O,.acU k,.acU o,.acU v,.acU st,dv,fv]) L:=λO k o v st dv fv j L G E h1 h2 h3 h4 h5 h6 h9 h10 h11=>by obtain⟨d,h4,h7⟩:=h4.get;obtain⟨f,h5,h8⟩:=h5.get;exact hq ⟨O,k,o,v,st,d,f⟩ j _ L G E h1 h2 h3 (λK=>Fz.aggs (.cons (.refl _) (.cons (.refl _) (.cons (.refl _) (.cons (.refl _) (.cons (.refl _) (.cons (h4 K) (.cons (h5 K) .nil)))))))) ⟨by show(0:Int)<=(O:Int);omega,by show(O:Int)<4;omega⟩ ⟨by show d.length<=1073741824;omega,by show f.length<=1073741824;omega⟩ h9 h10 h11
 clear hq;rw[dL,dO]
 repeat' (first|refine sy ?_|(refine pf 112 ?_;refine pm (Sw) ?_)|((with_reducible refine aN 92 ?_);(refine jM ht ha rp (λru_ au_ hu_ ho1_ ho2_ ho3_=>?_)))|(with_reducible refine cy 92 ?_;refine rZ (n:=(pe.length:Int)) ht acO rp (λr_ Y hr_ D B h3_=>?_);obtain⟨k_,hk_,rfl|rfl|rfl|rfl|rfl|rfl|⟨d1_,d2_,d3_,d4_,d5_,d6_⟩⟩:=aba (r:=r_) acN)|(with_reducible refine cy 92 ?_;refine rZ ht acO rp (λr_ Y hr_ D B h3_=>?_))|((with_reducible refine aN 113 ?_);(refine xp (k:=3) (.inl rfl) rp ht acO (λo_ Y q0_ Z M D B=>?_);obtain⟨cn_,ci_,cz_,cv_,ct_,N⟩:=M))|((with_reducible refine aN 113 ?_);(refine xp (k:=4) (.inr rfl) rp ht acO (λo_ Y q0_ Z M D B=>?_);obtain⟨cn_,ci_,cz_,cv_,ct_,N⟩:=M))|((with_reducible refine aN 113 ?_);(refine zN rp ht acO (λo_ Y hob_ D B=>?_)))|((with_reducible refine aN 114 ?_);(refine MV (s:=s) rp ht acO h4 hf (by intro h_;first|exact(of_decide_eq_false d3_ h_).elim|(exfalso;revert h_;decide)|exact ao.2 ⟨q0_,by rw[hc];exact Z⟩) (λv_ Y D B=>?_)))|((with_reducible refine aN 115 ?_);(refine PP ht acO H hn acN rp rp (λout_ Y hs_ D B=>?_)))|refine cN ?_ acN|refine IF (rs:=rs) acN mm ?_|refine s2 ?_ ?_|intro)
 all_goals exact hz ru_ _ _ _ _ _ _ _ _ _ _ acT acT acT (by first|exact .inl rfl|exact .inr ⟨_,rfl,acO⟩) (by first|exact .inl rfl|exact .inr ⟨_,rfl,acO⟩) acN acO acN (by intro h_;have:=ho3_ acN h_;omega)
def yX:∀{rs:zM} {u:Nat} (h:u<rs.length),eG rs[u].1 1 (rs[u].2.map aa) (dU rs) (dU (rs.eraseIdx u))
 |[],u,h=>absurd h acQ
 |p::rs,0,h=>by rw[je];exact .here _
 | p::rs,u+1,h=>by rw[je,List.eraseIdx_cons_succ,je];exact .skip _ _ _ (yX (by simpa using h))
inductive t7 (E:SH):SH->Prop where
 |nil:t7 E E
 |cons (p:Nat×Blk) {L:SH}:t7 E L->t7 E (p::L)
def t7.ex{E L:SH}(h:t7 E L):∃K,L=K++E:=by
 induction h with
 |nil=>exact⟨[],rfl⟩
 |cons p _ j=>obtain⟨K,rfl⟩:=j;exact⟨p::K,rfl⟩
def ax.keepG{vs j:List AV}{B b2 u:Nat}{x1 x2 x3:Blk}{L G L2 D E M:SH}(Z:dF B x1 L G)(h2:dF b2 x2 G L2)(Y:dF u x3 L2 D)(O:t7 E D)(S:E.Perm M)(N:vs=j):ax vs L j ((B,x1)::(b2,x2)::(u,x3)::M):=by subst N;obtain⟨K,rfl⟩:=O.ex;refine ax.forget (K:=K) ?_;exact(Z.perm.trans ((h2.perm.trans (Y.perm.cons _)).cons _)).trans ((act [(B,x1),(b2,x2),(u,x3)] K E).trans ((S.append_left _).append_left K))
def ax.keepS{vs j:List AV}{E b2 D B u:Nat}{x1 x2 x3:Blk}{L N L2 M G:SH}{rs:zM}{l:List Int}(S:u<rs.length)(h1:dF E x1 L N)(h2:dF b2 x2 N L2)(Z:dF D x3 L2 M)(h4:dF B ⟨1,l.map aa⟩ M G)(Y:t7 (dU (rs.eraseIdx u)) G)(O:vs=j):ax vs L j ((E,x1)::(b2,x2)::(D,x3)::dU (rs.set u (some B,l))):=by subst O;obtain⟨K,rfl⟩:=Y.ex;refine ax.forget (K:=K) ?_;have hp:=(GK rs u S (some B,l)).symm;exact(h1.perm.trans ((h2.perm.trans ((Z.perm.trans (h4.perm.cons _)).cons _)).cons _)).trans ((act [(E,x1),(b2,x2),(D,x3),(B,⟨1,l.map aa⟩)] K (dU (rs.eraseIdx u))).trans ((((hp.cons _).cons _).cons _).append_left K))
def ax.keepS2{vs j:List AV}{E b2 D B u:Nat}{x1 x2 x3 y:Blk}{v:Int}{L N L2 M G:SH}{rs:zM}(Z:u<rs.length)(h1:dF E x1 L N)(h2:dF b2 x2 N L2)(h3:dF D x3 L2 M)(h4:dF B y M G)(hT:t7 (dU (rs.eraseIdx u)) G)(S:x1=⟨1,(fO rs).set u [.sl B 0 (rs[u].2.length+1)]⟩)(O:y=⟨1,rs[u].2.map aa++[[.acU v]]⟩)(Y:vs=j):
  ax vs L j ((E,⟨1,fO (rs.set u (some B,rs[u].2++[v]))⟩)::(b2,x2)::(D,x3)::dU (rs.set u (some B,rs[u].2++[v]))):=by
 have e1:(⟨1,fO (rs.set u (some B,rs[u].2++[v]))⟩:Blk)=x1:=by rw[S,<-GL];simp[af]
 have e2:(⟨1,(rs[u].2++[v]).map aa⟩:Blk)=y:=by rw[O];simp[aa]
 rw[e1];exact ax.keepS Z h1 h2 h3 (by rw[e2];exact h4) hT Y
def V6:zM:=[(none,[]),(none,[]),(none,[]),(none,[])]
def UZ(Q:R)(bt M N:Nat)(t:List UInt8)(a:Nat)(n:Int)(s:gO)(ht:t.length<2^63)(ha:a<=t.length)(hct:s.count.length=4)
  (Z:∀(rs:zM) (a':Nat),Sv 1 rs->a'<=t.length->a<=a'->W.loop (tZ Q) [.ptr bt 0 0,.acU n,.ptr M 0 0,.pptr [bK.enc] 0 0,.nils,.sl N 0 4] ((N,⟨1,fO rs⟩)::(bt,az t a')::(M,⟨7,[s.enc]⟩)::dU rs)) (L:SH) (hL:L.Perm [(N,⟨1,List.replicate 4 [.nils]⟩),(bt,az t a),(M,⟨7,[s.enc]⟩)]) :
  W.loop (t6 Q) [.ptr bt 0 0,.acU n,.bool true,.ptr M 0 0,.pptr [bK.enc] 0 0,.nils,.sl N 0 4,.acU 4,.acU 0] L:=by
 refine aL 4 (λk (p:zM×Nat)=>([.ptr bt 0 0,.acU n,.bool true,.ptr M 0 0,.pptr [bK.enc] 0 0,.nils,.sl N 0 4,.acU 4,.acU k],(N,⟨1,fO p.1⟩)::(bt,az t p.2)::(M,⟨7,[s.enc]⟩)::dU p.1)) (λk p=>Sv 1 p.1/\p.2<=t.length/\a<=p.2/\∀j (B:j<p.1.length),k<=j->(p.1[j]).2=[]) (V6,a) ⟨⟨rfl,?_⟩,ha,Fd _,?_⟩ ?_ ?_
 .intro p hp;simp only[V6,aaj,abA,or_false]at hp;rcases hp with rfl|rfl|rfl|rfl<;>exact⟨λ_=>rfl,abt _⟩
 .intro j B _;have B:j<4:=B
  match j,B with
  |0,_|1,_|2,_|3,_=>rfl
 .refine ax.rowV (K:=[]) hL (fy.refl _ _) rfl ?_;intro j r r' h1 h2;have B:j<4:=by have:=(abL.1 h1).1;simpa using this
  match j,B with
  |0,_|1,_|2,_|3,_=>cases h1;cases h2;exact .cons .nile .nil
 rintro k ⟨rs,a2⟩ hk ⟨H,D,E,u⟩;dsimp only at H D E u ⊢;refine vw ?_;have hl4:rs.length=4:=H.1;rcases Nat.lt_or_ge k 4 with g1|g1
 .have hd:decide ((k:Int)<4)=true:=decide_eq_true acN;have hx:(s.count.map aa)[k]? =some [.acU (s.count[k]'acN)]:=aj (f:=aa) acN;have G:k<rs.length:=by omega
  have hr:=DQ G;have hpe:=u k G (Fd _);obtain⟨hp0,hp1⟩:=H.2 _ (LT G);have hX:(rs[k].2.map aa).length=rs[k].2.length:=by simp
  have h0':rs[k].1=none->rs[k].2.map aa=[]:=λe=>by rw[hp0 e];rfl
  have i1:IntKind.i64.wrap ((k:Int)+1)=((k+1:Nat):Int):=av g1 acN;generalize s.count[k]'acN=c at *;clear Z hL;rw[dL,dO];unfold az;have Y:=yX G
  repeat' (first|refine cN ?_ acN|refine IF (rs:=rs) G mm ?_|refine sx ?_|((with_reducible refine aN 92 ?_);(refine jM ht D rp (λr_ a_ hr_ h1_ h2_ h3_=>?_)))|refine aM rp (by repeat' (first|exact Y|constructor)) hX h0' acP acQ acS acS acP (λO S=>?_)|refine sb λO S=>?_|refine s2 ?_ ?_|intro)
  .exact⟨k+1,(rs.set k (some O,rs[k].2++[1]),a_),acN,acN,⟨IE H k nofun (by rw[hpe];exact Nat.le_refl _),acO,by dsimp only;omega,fun j B h=>by
     have hj2:j<rs.length:=by simpa using B
     dsimp only;rw[List.getElem_set_ne acN];exact u j hj2 acN⟩,ax.keepS2 G acT acT acT acT acT rfl rfl rfl⟩
  .exact⟨k+1,(rs,a_),acN,acN,⟨H,acO,by dsimp only;omega,λj B h=>u j B acN⟩,ax.keepG acT acT acT acT (.refl _) rfl⟩
  .exact⟨k+1,(rs,a2),acN,acN,⟨H,D,E,λj B h=>u j B acN⟩,ax.keepG acT acT acT acT (.refl _) rfl⟩
 .have hd:decide ((k:Int)<4)=false:=decide_eq_false acN;have hz:=Z rs a2 H D E;clear Z hL;rw[dL,dO]at *
  repeat' (first|refine sy ?_|refine s2 ?_ ?_|intro)
  exact hz
def K9{B:SH->Prop}{b k j n:Nat}{v:AV}{rows:List (List AV)}{R2:List AV}{L u:SH}(D:Bx b ⟨n,rows.set k R2⟩ ⟨n,(rows.set k R2).set k (R2.set j v)⟩ L u)(E:k<rows.length)(h2:v.cells? =some [v])(h4:v.one=true)(G:j<R2.length)(h:B u):W.store 1 (.ptr b k j) v L B:=qh D (List.getElem?_set_self E) h2 h4 G rfl h
def V7:List Int:=[0,1,0,0,0]
def XI(Q:R)(bt B u E S G Y O D:Nat)(t:List UInt8)(ht:t.length<2^63)(hne:u≠bt)(hne2:u≠D)(hne3:E≠bt)(hne4:G≠bt)(hne5:D≠bt)(hq:∀p:LB,p.Ok t->∀L,cO L (t8.hp ⟨bt,B,u,E,S,G,Y,O,D⟩ t p)->Q (.agg (t8.row ⟨bt,B,u,E,S,G,Y,O,D⟩ p.tx)) L)(a:Nat)(ha:a<=t.length)(L:SH)
  (hL:cO L [(E,⟨2,List.replicate 3 o8⟩),(B,⟨7,[dB]⟩),(u,⟨7,[t8.row ⟨bt,B,u,E,S,G,Y,O,D⟩ (-1)]⟩),(bt,az t a),(S,⟨1,[[.bool false]]⟩),(G,⟨3,(ly 4).map ThrD.enc⟩),(Y,⟨1,V7.map aa⟩),(O,⟨1,[[.acU 0]]⟩),(D,⟨1,List.replicate 4 [.acU 0]⟩)]) :
  W.loop (sU Q) [.ptr bt 0 0,.ptr B 0 0,.ptr u 0 0,.acU 4,.acU 0] L:=by
 refine aL 4 (λk (p:Nat×List ThrD×List Int)=>([.ptr bt 0 0,.ptr B 0 0,.ptr u 0 0,.acU 4,.acU k],[(E,⟨2,List.replicate 3 o8⟩),(B,⟨7,[dB]⟩),(u,⟨7,[t8.row ⟨bt,B,u,E,S,G,Y,O,D⟩ (-1)]⟩),(bt,az t p.1),(S,⟨1,[[.bool false]]⟩),(G,⟨3,p.2.1.map ThrD.enc⟩),(Y,⟨1,V7.map aa⟩),(O,⟨1,[[.acU 0]]⟩),(D,⟨1,p.2.2.map aa⟩)])) (λk p=>p.1<=t.length/\p.2.1.length=4/\p.2.2.length=4/\(∀x∈p.2.1,x.cond=0)/\∀x∈p.2.2,0<=x/\x<=3) (a,ly 4,[0,0,0,0]) ⟨ha,rfl,rfl,?_,?_⟩ (ax.pickE hL rfl rfl) ?_
 .intro x hx;have hx:x∈([⟨1,0,false⟩,⟨0,0,false⟩,⟨0,0,false⟩,⟨0,0,false⟩]:List ThrD):=hx;simp only[aaj,abA,or_false]at hx;rcases hx with rfl|rfl|rfl|rfl<;>rfl
 .intro x hx;simp only[aaj,abA,or_false,or_self]at hx;subst hx;exact⟨Int.le_refl _,acR⟩
 rintro k ⟨a2,Z,cn⟩ hk ⟨ha2,hth,hcn,hcd,hct⟩;dsimp only at ha2 hth hcn hcd hct ⊢;refine vw ?_;rcases Nat.lt_or_ge k 4 with g1|g1
 .have hd:decide ((k:Int)<4)=true:=decide_eq_true acN;have hx:=aj (f:=ThrD.enc) (show k<Z.length by omega);have hy:(cn.map aa)[k]? =some [.acU (cn[k]'acN)]:=aj (f:=aa) acN;have i1:IntKind.i64.wrap ((k:Int)+1)=((k+1:Nat):Int):=av g1 acN;clear hq hL;have cdS:∀(x:ThrD),x.cond=0->∀y∈Z.set k x,y.cond=0:=λx h y hy=>by
   rcases aca hy with g|rfl
   .exact hcd y g
   .exact h
  have N:∀(a4:Nat) (s:Int) (L:SH),a4<=t.length->cO L [(E,⟨2,List.replicate 3 o8⟩),(B,⟨7,[dB]⟩),(u,⟨7,[t8.row ⟨bt,B,u,E,S,G,Y,O,D⟩ (-1)]⟩),(bt,az t a4),(S,⟨1,[[.bool false]]⟩),(G,⟨3,(Z.map ThrD.enc).set k [.acU s,.acU 0,.bool false]⟩),(Y,⟨1,V7.map aa⟩),(O,⟨1,[[.acU 0]]⟩),(D,⟨1,cn.map aa⟩)]->
    ∃(j:Nat) (p:Nat×List ThrD×List Int),k<j/\j<=4/\(p.1<=t.length/\p.2.1.length=4/\p.2.2.length=4/\(∀x∈p.2.1,x.cond=0)/\∀x∈p.2.2,0<=x/\x<=3)/\ax [.ptr bt 0 0,.ptr B 0 0,.ptr u 0 0,.acU 4,.acU ((k+1:Nat):Int)] L [.ptr bt 0 0,.ptr B 0 0,.ptr u 0 0,.acU 4,.acU j] [(E,⟨2,List.replicate 3 o8⟩),(B,⟨7,[dB]⟩),(u,⟨7,[t8.row ⟨bt,B,u,E,S,G,Y,O,D⟩ (-1)]⟩),(bt,az t p.1),(S,⟨1,[[.bool false]]⟩),(G,⟨3,p.2.1.map ThrD.enc⟩),(Y,⟨1,V7.map aa⟩),(O,⟨1,[[.acU 0]]⟩),(D,⟨1,p.2.2.map aa⟩)]:=λa4 s L h1 hP=>
   ⟨k+1,(a4,Z.set k ⟨s,0,false⟩,cn),acN,acN,⟨h1,by simpa using hth,hcn,cdS _ rfl,hct⟩,ax.pickE hP rfl (by dsimp only;rw[List.map_set];rfl)⟩
  have fin2:∀(a4 r:Nat) (s:Int) (b:Bool) (L:SH),a4<=t.length->cO L [(E,⟨2,List.replicate 3 o8⟩),(B,⟨7,[dB]⟩),(u,⟨7,[t8.row ⟨bt,B,u,E,S,G,Y,O,D⟩ (-1)]⟩),(bt,az t a4),(S,⟨1,[[.bool false]]⟩),(G,⟨3,((Z.map ThrD.enc).set k [.acU s,.acU 0,.bool false]).set k [.acU s,.acU 0,.bool b]⟩),(Y,⟨1,V7.map aa⟩),(O,⟨1,[[.acU 0]]⟩),(D,⟨1,(cn.map aa).set k [.acU (IntKind.i64.wrap (1+(r:Int)))]⟩)]->((r:Int)<3\/r=0)->
    ∃(j:Nat) (p:Nat×List ThrD×List Int),k<j/\j<=4/\(p.1<=t.length/\p.2.1.length=4/\p.2.2.length=4/\(∀x∈p.2.1,x.cond=0)/\∀x∈p.2.2,0<=x/\x<=3)/\ax [.ptr bt 0 0,.ptr B 0 0,.ptr u 0 0,.acU 4,.acU ((k+1:Nat):Int)] L [.ptr bt 0 0,.ptr B 0 0,.ptr u 0 0,.acU 4,.acU j] [(E,⟨2,List.replicate 3 o8⟩),(B,⟨7,[dB]⟩),(u,⟨7,[t8.row ⟨bt,B,u,E,S,G,Y,O,D⟩ (-1)]⟩),(bt,az t p.1),(S,⟨1,[[.bool false]]⟩),(G,⟨3,p.2.1.map ThrD.enc⟩),(Y,⟨1,V7.map aa⟩),(O,⟨1,[[.acU 0]]⟩),(D,⟨1,p.2.2.map aa⟩)]:=λa4 r s b L h1 hP hr=>by
   have e:IntKind.i64.wrap (1+(r:Int))=1+(r:Int):=IntWalk.i64_in _ acN;rw[List.set_set]at hP;refine⟨k+1,(a4,Z.set k ⟨s,0,b⟩,cn.set k (IntKind.i64.wrap (1+(r:Int)))),acN,acN,⟨h1,by simpa using hth,by simpa using hcn,cdS _ rfl,λy hy=>?_⟩,ax.pickE hP rfl (by dsimp only;rw[List.map_set,List.map_set];rfl)⟩;rcases List.mem_or_eq_of_mem_set hy with g|rfl
   .exact hct y g
   .rw[e];omega
  generalize Z[k]'acN=x at *;generalize cn[k]'acN=c at *;obtain⟨x1,x2,x3⟩:=x;rw[show ThrD.enc ⟨x1,x2,x3⟩=[.acU x1,.acU x2,.bool x3]from rfl]at hx;unfold dB t8.row at *;dsimp only at *
  repeat' (first|refine sy ?_|((with_reducible refine aN 92 ?_);(refine jM ht acO rp (λr_ a_ hr_ M h2_ h3_=>?_)))|(with_reducible refine cy 92 ?_;refine rZ ht acO rp (λr_ a_ hr_ M h2_ h3_=>?_))|(refine DG (l:=[2,2,2,2,0,1,3,4,5]) ?_ mm rfl acS;generalize List.getD _ r_ 0=st_)|refine cN ?_ acN|refine K9 rp acS rfl rfl (by simp[aR]) ?_|refine s2 ?_ ?_|intro)
  .exact N a_ _ _ M acT
  .exact fin2 a_ _ _ _ _ M acT acO
  .exact N a_ _ _ M acT
  .exact N a_ _ _ M acT
  .exact fin2 a_ _ _ _ _ M acT acO
  .exact N a_ _ _ M acT
  .exact N a_ _ _ M acT
 .have hd:decide ((k:Int)<4)=false:=decide_eq_false acN;have lp:∀L,cO L [(E,⟨2,List.replicate 3 o8⟩),(B,⟨7,[dB]⟩),(u,⟨7,[t8.row ⟨bt,B,u,E,S,G,Y,O,D⟩ (-1)]⟩),(bt,az t a2),(S,⟨1,[[.bool false]]⟩),(G,⟨3,Z.map ThrD.enc⟩),(Y,⟨1,V7.map aa⟩),(O,⟨1,[[.acU 0]]⟩),(D,⟨1,cn.map aa⟩)]->W.loop (jU Q) [.ptr bt 0 0,.ptr B 0 0,.ptr u 0 0,.acU 3,.acU 0] L:=λL hP=>by
   refine XH Q ⟨bt,B,u,E,S,G,Y,O,D⟩ t ht hne hne2 hne3 hq ⟨a2,List.replicate 3 ⟨-1,[]⟩,-1,[false],Z,V7,[0],cn⟩ ⟨ha2,rfl,rfl,hth,rfl,rfl,hcn,hcd,hct,λl hl=>by rw[(List.mem_replicate.1 hl).2];exact abt _⟩ L ?_;obtain⟨K0,hp⟩:=hP.perm;refine ax.rowV (K:=K0) (rows:=List.replicate 3 o8) hp (fy.refl _ _) rfl ?_;intro j r r' q1 q2;have hj:j<3:=by have:=(abL.1 q1).1;simpa using this
   match j,hj with
   |0,_|1,_|2,_=>cases q1;cases q2;exact .cons (.refl _) (.cons .nils .nil)
  clear hq hL;unfold dB t8.row at *;dsimp only at *
  repeat' (first|(refine lp _ ?_;exact rp)|refine sy ?_|refine s2 ?_ ?_|intro)
def Z1{b:t8}{t:List UInt8}{p:LB}(H:p.Ok t){L:SH}(u:cO L (b.hp t p)):ax [.agg (b.row p.tx)] L [.agg (⟨⟨p.lk,p.tx,p.dn,p.th⟩,p.ce,p.fu,p.cn⟩:gO).enc] [(b.bt,az t p.a)]:=by
 obtain⟨j,hp⟩:=u.perm;refine ax.keepR (K:=j++[(b.bl,⟨2,p.lk.map LockD.enc⟩),(b.bs,⟨7,[b.row p.tx]⟩),(b.bd,⟨1,p.dn.map au⟩),(b.b4,⟨3,p.th.map ThrD.enc⟩),(b.bc,⟨1,p.ce.map aa⟩),(b.bf,⟨1,p.fu.map aa⟩),(b.bn,⟨1,p.cn.map aa⟩)]) (R:=[(b.bt,az t p.a)]) (hp.trans ?_) ?_
 .rw[abr];exact(((aar (l₁:=[(b.bt,az t p.a)]) (l₂:=[(b.bd,⟨1,p.dn.map au⟩),(b.b4,⟨3,p.th.map ThrD.enc⟩),(b.bc,⟨1,p.ce.map aa⟩),(b.bf,⟨1,p.fu.map aa⟩),(b.bn,⟨1,p.cn.map aa⟩)])).cons _).cons _).append_left j
 .refine Fz.aggs ?_;rw[dL];exact .cons (Fz.sls (aaY _ mm) rfl acR H.lk.symm) (.cons (.refl _) (.cons (Fz.sls (aaY _ mm) rfl acR H.dn.symm) (.cons (Fz.sls (aaY _ mm) rfl acR H.th.symm) (.cons (Fz.sls (aaY _ mm) rfl acR H.ce.symm) (.cons (Fz.sls (aaY _ mm) rfl acR H.fu.symm) (.cons (Fz.sls (aaY _ mm) rfl acR H.cn.symm) .nil))))))
def xq(bt:Nat)(t:List UInt8)(a:Nat)(ht:t.length<2^63)(ha:a<=t.length):ac Tryz.prog 60 [.ptr bt 0 0,.agg bK.enc] [(bt,az t a)] λu K=>∃(s:gO) (Y:Nat),u=.agg s.enc/\nS bK s 1/\(∀x∈s.sync.threads,x.cond=0)/\(∀x∈s.count,0<=x/\x<=3)/\Y<=t.length/\K=[(bt,az t Y)]:=by
 have Z:=K5 bK acR acR acR acR acR acR acR acR;refine ac.fz (uU _ _ _ _ ?_);refine vw ?_;generalize hQ:(λ(v:AV) (L:SH)=>∃v2 L2,ax [v] L [v2] L2/\∃(s:gO) (Y:Nat),v2=.agg s.enc/\nS bK s 1/\(∀x∈s.sync.threads,x.cond=0)/\(∀x∈s.count,0<=x/\x<=3)/\Y<=t.length/\L2=[(bt,az t Y)])=Q;have hq:∀B j E M O N G D:Nat,∀p:LB,p.Ok t->∀L,cO L (t8.hp ⟨bt,B,j,E,M,O,N,G,D⟩ t p)->Q (.agg (t8.row ⟨bt,B,j,E,M,O,N,G,D⟩ p.tx)) L:=λB j E M O N G D p H L hP=>by subst hQ;exact⟨_,_,Z1 H hP,_,p.a,rfl,⟨H.lk,H.dn,H.th,H.ce,H.fu,H.cn,H.rd⟩,H.cd,H.ct,H.ha,rfl⟩
 clear hQ;have lp:=λB j E M O N G D h1 h2 h3 h4 h5 L hL=>XI Q bt B j E M O N G D t ht h1 h2 h3 h4 h5 (hq B j E M O N G D) a ha L hL
 clear hq;rw[dO]at *
 repeat' (first|refine sy ?_|((with_reducible refine aN 63 ?_);(refine vH Z (λv_ K_ h_=>?_);obtain⟨bl_,bd_,b4_,bc_,bf_,bn_,rfl,rfl⟩:=h_;refine⟨_,.refl _,λS=>?_⟩;simp only[abX,abK]at S ⊢))|refine s2 ?_ ?_|intro)
 refine lp _ _ bl_ bd_ b4_ bc_ bf_ bn_ ?n1 ?n2 ?n3 ?n4 ?n5 _ ?hL
 case hL=>exact rp
 all_goals (intro e_;subst e_;simp[SH.names]at *;done)
def MX:dX Tryz.prog 59 [] (.agg bK.enc):=cB (n:=2000) (d:=50) (T:=λ_ _=>none) (λf j v h=>by cases h) (by kernel_rfl) (by kernel_rfl)
def La:aq Tryz.prog 59 [] (.agg bK.enc):=.of_ok MX
