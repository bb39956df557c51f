/- part -/
import Derived.Test.YtfckbjehkbhkgaaGreatQwF
set_option linter.all false
set_option maxRecDepth 100000
set_option maxHeartbeats 0
namespace Go.Proofs.YtfckbjehkbhkgaaGreat.Am
inductive xo (rs:zM):SH->Prop where
 |nil:xo rs (dU rs)
 |cons (p:Nat×Blk) {L:SH}:xo rs L->xo rs (p::L)
def xo.ex{rs:zM}{L:SH}(h:xo rs L):∃L2,L=L2++dU rs:=by
 induction h with
 |nil=>exact⟨[],rfl⟩
 |cons p _ j=>obtain⟨L2,rfl⟩:=j;exact⟨p::L2,rfl⟩
def IF{j u:Nat}{rs:zM}{L:SH}{K:AV->Prop}(B:u<rs.length)(D:(j,(⟨1,fO rs⟩:Blk))∈L)(h:K (af rs[u].1 rs[u].2.length)):W.load false 1 (.ptr j u 0) L K:=dR D (DQ B) rfl h
def PP{bt:Nat}{t:List UInt8}{a n u:Nat}{rs:zM}{L D:SH}{KL:R}(ht:t.length<2^63)(O:a<=t.length)(H:Sv n rs)(hn:n<1000)(E:u<rs.length)(N:dF bt (az t a) L D)(S:xo rs D)
  (G:∀(out:List Int) (j:Nat),out.length<=n->j<=t.length->a<=j->KL (.lst (out.map aa)) ((bt,az t j)::D)):W.callM Tryz.prog 115 [.ptr bt 0 0,af rs[u].1 rs[u].2.length] L KL:=by
 obtain⟨B,rfl⟩:=S.ex;obtain⟨g1,g2⟩:=H.2 _ (LT E);have hp:(B++dU rs).Perm (ab rs[u].1 1 (rs[u].2.map aa)++(B++dU (rs.eraseIdx u))):=((uV rs u E).append_left B).trans (act _ _ _);refine oW (K:=(bt,az t a)::ab rs[u].1 1 (rs[u].2.map aa)) (M:=B++dU (rs.eraseIdx u)) (UW bt t a _ _ ht O g1 acN) (N.perm.trans (hp.cons _)) ?_;rintro _ _ ⟨out,j,rfl,h1,Z,Y,rfl⟩;exact⟨_,(hp.symm.cons _),G out j acN Z Y⟩
def ax.keepT{v v2:AV}{j b2:Nat}{x1 x2:Blk}{L u L2:SH}{rs:zM}(E:dF j x1 L u)(h2:dF b2 x2 u L2)(D:xo rs L2)(B:∀K,Fz K v v2):ax [v] L [v2] ((j,x1)::(b2,x2)::dU rs):=by obtain⟨K,rfl⟩:=D.ex;refine ax.keepR (K:=K) ?_ (B K);exact(E.perm.trans (h2.perm.cons _)).trans ((act [(j,x1),(b2,x2)] K (dU rs)))
def ZZ{r:Nat}(h:r<43):(pe.map aa)[r]? =some [.acU (pe.getD r 0)]:=by have j:r<pe.length:=h;rw[aj (f:=aa) j];simp[List.getD,j,aa]
def Ow(n:Nat)(v:AV):Prop:=v=.nils\/∃d:List Int,v=.lst (d.map aa)/\d.length<=n
def Ow.get{n:Nat}{v:AV}(h:Ow n v):∃d:List Int,(∀K,Fz K v (.lst (d.map aa)))/\d.length<=n:=by
 rcases h with rfl|⟨d,rfl,h⟩
 .exact⟨[],λK=>.nils,abt _⟩
 .exact⟨d,λK=>.refl _,h⟩
def aba{r:Nat}(h:r<43):∃k:Int,(pe.map aa)[r]? =some [.acU k]/\(k=1\/k=2\/k=3\/k=4\/k=5\/k=22\/(decide (k=1)=false/\decide (k=2)=false/\decide (k=3)=false/\decide (k=4)=false/\decide (k=5)=false/\decide (k=22)=false)):=by
 refine⟨_,ZZ h,?_⟩;generalize pe.getD r 0=k;by_cases G:k=1
 .exact .inl G
 by_cases E:k=2
 .exact .inr (.inl E)
 by_cases D:k=3
 .exact .inr (.inr (.inl D))
 by_cases B:k=4
 .exact .inr (.inr (.inr (.inl B)))
 by_cases u:k=5
 .exact .inr (.inr (.inr (.inr (.inl u))))
 by_cases j:k=22
 .exact .inr (.inr (.inr (.inr (.inr (.inl j)))))
 exact .inr (.inr (.inr (.inr (.inr (.inr ⟨decide_eq_false G,decide_eq_false E,decide_eq_false D,decide_eq_false B,decide_eq_false u,decide_eq_false j⟩)))))
def SA{o:Int}(u:0<=o)(j:o<5):∃(n:bU) (i z:Int) (v:Bool) (t:Int),(bK.cells.map aU.enc)[o.toNat]? =some [.str n,.acU i,.acU z,.bool v,.acU t]:=by
 have h:o.toNat<bK.cells.length:=by show o.toNat<5;omega
 exact⟨_,_,_,_,_,aj (f:=aU.enc) h⟩
def zN{bt:Nat}{t:List UInt8}{a:Nat}{k th:Int}{L u:SH}{KL:R}(D:dF bt (az t a) L u)(ht:t.length<2^63)(E:a<=t.length)(B:∀(o:Int) (j:Nat),(k=3\/k=4->0<=o/\o<5)->j<=t.length->a<=j->KL (.acU o) ((bt,az t j)::u)):W.callM Tryz.prog 113 [.ptr bt 0 0,.acU k,.acU th] L KL:=
 cQ (PN bt t a k th ht E) D (by rintro _ _ ⟨o,j,rfl,N,M,G,rfl⟩;exact B o j N M G)
def xp{bt:Nat}{t:List UInt8}{a:Nat}{k th:Int}{L D:SH}{KL:R}(u:k=3\/k=4)(G:dF bt (az t a) L D)(ht:t.length<2^63)(M:a<=t.length)(E:∀(o:Int) (j:Nat),0<=o->o<5->(∃(n:bU) (i z:Int) (v:Bool) (t:Int),(bK.cells.map aU.enc)[o.toNat]? =some [.str n,.acU i,.acU z,.bool v,.acU t])->j<=t.length->a<=j->KL (.acU o) ((bt,az t j)::D)):W.callM Tryz.prog 113 [.ptr bt 0 0,.acU k,.acU th] L KL:=
 zN G ht M λo j B O N=>E o j (B u).1 (B u).2 (SA (B u).1 (B u).2) O N
def MV{bt:Nat}{t:List UInt8}{a:Nat}{s:gO}{k ob:Int}{L u:SH}{KL:R}(G:dF bt (az t a) L u)(ht:t.length<2^63)(M:a<=t.length)(h4:s.sync.threads.length<2^30)(E:0<s.futures.length)(D:k=3->inB ob s.cells.length=true)(B:∀(o:Int) (j:Nat),j<=t.length->a<=j->KL (.acU o) ((bt,az t j)::u)):
  W.callM Tryz.prog 114 [.ptr bt 0 0,.agg [.lst (s.sync.locks.map LockD.enc),.acU s.sync.tx,.lst (s.sync.done.map au),.lst (s.sync.threads.map ThrD.enc),.lst (s.cells.map aa),.lst (s.futures.map aa),.lst (s.count.map aa)],.acU k,.acU ob] L KL:=
 cQ (Sx bt t a s k ob ht M h4 E D) G (by rintro _ _ ⟨o,j,rfl,O,N,rfl⟩;exact B o j O N)
def SB(bt S:Nat)(t:List UInt8)(a n:Nat)(s:gO)(rs:zM)(ht:t.length<2^63)(ha:a<=t.length)(H:Sv n rs)(hn:n<1000)(h4:s.sync.threads.length<2^30)(hf:0<s.futures.length)(hc:s.cells.length=5):
  ac Tryz.prog 94 [.ptr bt 0 0,.agg s.enc,.agg bK.enc,.sl S 0 4] ((bt,az t a)::(S,⟨1,fO rs⟩)::dU rs) λu K=>∃(e:bA) (j:Nat),u=.agg e.enc/\(0<=e.thread/\e.thread<4)/\wO e/\j<=t.length/\a<=j/\(a<t.length->a<j)/\K=(bt,az t j)::(S,⟨1,fO rs⟩)::dU rs:=by
 refine ac.fz (DO _ _ _ _ _ _ ?_);refine vw ?_;generalize hQ:(λ(v:AV) (L:SH)=>∃v2 E,ax [v] L [v2] E/\∃(e:bA) (j:Nat),v2=.agg e.enc/\(0<=e.thread/\e.thread<4)/\wO e/\j<=t.length/\a<=j/\(a<t.length->a<j)/\E=(bt,az t j)::(S,⟨1,fO rs⟩)::dU rs)=Q;have hq:∀(e:bA) (j:Nat) (v:AV) (L G E:SH),dF bt (az t j) L G->dF S ⟨1,fO rs⟩ G E->xo rs E->(∀K,Fz K v (.agg e.enc))->(0<=e.thread/\e.thread<4)->wO e->j<=t.length->a<=j->(a<t.length->a<j)->Q v L:=λe j v L G E h1 h2 h3 h4 h5 h6 h7 h8 h9=>by subst hQ;exact⟨_,_,ax.keepT h1 h2 h3 h4,e,j,rfl,h5,h6,h7,h8,h9,rfl⟩
 clear hQ;have kl:pe.length=43:=rfl;have hl4:rs.length=4:=H.1;have hn':=hn;have hz:∀(O:Nat) (k o v st:Int) (dv fv:AV) (j:Nat) (L G E:SH),dF bt (az t j) L G->dF S ⟨1,fO rs⟩ G E->xo rs E->Ow n dv->Ow n fv->O<4->j<=t.length->a<=j->(a<t.length->a<j)->Q (.agg [.acU O,.acU k,.acU o,.acU v,.acU st,dv,fv]) L:=λO k o v st dv fv j L G E h1 h2 h3 h4 h5 h6 h9 h10 h11=>by obtain⟨d,h4,h7⟩:=h4.get;obtain⟨f,h5,h8⟩:=h5.get;exact hq ⟨O,k,o,v,st,d,f⟩ j _ L G E h1 h2 h3 (λK=>Fz.aggs (.cons (.refl _) (.cons (.refl _) (.cons (.refl _) (.cons (.refl _) (.cons (.refl _) (.cons (h4 K) (.cons (h5 K) .nil)))))))) ⟨by show(0:Int)<=(O:Int);omega,by show(O:Int)<4;omega⟩ ⟨by show d.length<=1073741824;omega,by show f.length<=1073741824;omega⟩ h9 h10 h11
 clear hq;rw[dL,dO]
 repeat' (first|refine sy ?_|(refine pf 112 ?_;refine pm (Sw) ?_)|((with_reducible refine aN 92 ?_);(refine jM ht ha rp (λru_ au_ hu_ ho1_ ho2_ ho3_=>?_)))|(with_reducible refine cy 92 ?_;refine rZ (n:=(pe.length:Int)) ht acO rp (λr_ Y hr_ D B h3_=>?_);obtain⟨k_,hk_,rfl|rfl|rfl|rfl|rfl|rfl|⟨d1_,d2_,d3_,d4_,d5_,d6_⟩⟩:=aba (r:=r_) acN)|(with_reducible refine cy 92 ?_;refine rZ ht acO rp (λr_ Y hr_ D B h3_=>?_))|((with_reducible refine aN 113 ?_);(refine xp (k:=3) (.inl rfl) rp ht acO (λo_ Y q0_ Z M D B=>?_);obtain⟨cn_,ci_,cz_,cv_,ct_,N⟩:=M))|((with_reducible refine aN 113 ?_);(refine xp (k:=4) (.inr rfl) rp ht acO (λo_ Y q0_ Z M D B=>?_);obtain⟨cn_,ci_,cz_,cv_,ct_,N⟩:=M))|((with_reducible refine aN 113 ?_);(refine zN rp ht acO (λo_ Y hob_ D B=>?_)))|((with_reducible refine aN 114 ?_);(refine MV (s:=s) rp ht acO h4 hf (by intro h_;first|exact(of_decide_eq_false d3_ h_).elim|(exfalso;revert h_;decide)|exact ao.2 ⟨q0_,by rw[hc];exact Z⟩) (λv_ Y D B=>?_)))|((with_reducible refine aN 115 ?_);(refine PP ht acO H hn acN rp rp (λout_ Y hs_ D B=>?_)))|refine cN ?_ acN|refine IF (rs:=rs) acN mm ?_|refine s2 ?_ ?_|intro)
 all_goals exact hz ru_ _ _ _ _ _ _ _ _ _ _ acT acT acT (by first|exact .inl rfl|exact .inr ⟨_,rfl,acO⟩) (by first|exact .inl rfl|exact .inr ⟨_,rfl,acO⟩) acN acO acN (by intro h_;have:=ho3_ acN h_;omega)
def yX:∀{rs:zM} {u:Nat} (h:u<rs.length),eG rs[u].1 1 (rs[u].2.map aa) (dU rs) (dU (rs.eraseIdx u))
 |[],u,h=>absurd h acQ
 |p::rs,0,h=>by rw[je];exact .here _
 | p::rs,u+1,h=>by rw[je,List.eraseIdx_cons_succ,je];exact .skip _ _ _ (yX (by simpa using h))
inductive t7 (E:SH):SH->Prop where
 |nil:t7 E E
 |cons (p:Nat×Blk) {L:SH}:t7 E L->t7 E (p::L)
def t7.ex{E L:SH}(h:t7 E L):∃K,L=K++E:=by
 induction h with
 |nil=>exact⟨[],rfl⟩
 |cons p _ j=>obtain⟨K,rfl⟩:=j;exact⟨p::K,rfl⟩
def ax.keepG{vs j:List AV}{B b2 u:Nat}{x1 x2 x3:Blk}{L G L2 D E M:SH}(Z:dF B x1 L G)(h2:dF b2 x2 G L2)(Y:dF u x3 L2 D)(O:t7 E D)(S:E.Perm M)(N:vs=j):ax vs L j ((B,x1)::(b2,x2)::(u,x3)::M):=by subst N;obtain⟨K,rfl⟩:=O.ex;refine ax.forget (K:=K) ?_;exact(Z.perm.trans ((h2.perm.trans (Y.perm.cons _)).cons _)).trans ((act [(B,x1),(b2,x2),(u,x3)] K E).trans ((S.append_left _).append_left K))
def ax.keepS{vs j:List AV}{E b2 D B u:Nat}{x1 x2 x3:Blk}{L N L2 M G:SH}{rs:zM}{l:List Int}(S:u<rs.length)(h1:dF E x1 L N)(h2:dF b2 x2 N L2)(Z:dF D x3 L2 M)(h4:dF B ⟨1,l.map aa⟩ M G)(Y:t7 (dU (rs.eraseIdx u)) G)(O:vs=j):ax vs L j ((E,x1)::(b2,x2)::(D,x3)::dU (rs.set u (some B,l))):=by subst O;obtain⟨K,rfl⟩:=Y.ex;refine ax.forget (K:=K) ?_;have hp:=(GK rs u S (some B,l)).symm;exact(h1.perm.trans ((h2.perm.trans ((Z.perm.trans (h4.perm.cons _)).cons _)).cons _)).trans ((act [(E,x1),(b2,x2),(D,x3),(B,⟨1,l.map aa⟩)] K (dU (rs.eraseIdx u))).trans ((((hp.cons _).cons _).cons _).append_left K))
def ax.keepS2{vs j:List AV}{E b2 D B u:Nat}{x1 x2 x3 y:Blk}{v:Int}{L N L2 M G:SH}{rs:zM}(Z:u<rs.length)(h1:dF E x1 L N)(h2:dF b2 x2 N L2)(h3:dF D x3 L2 M)(h4:dF B y M G)(hT:t7 (dU (rs.eraseIdx u)) G)(S:x1=⟨1,(fO rs).set u [.sl B 0 (rs[u].2.length+1)]⟩)(O:y=⟨1,rs[u].2.map aa++[[.acU v]]⟩)(Y:vs=j):
  ax vs L j ((E,⟨1,fO (rs.set u (some B,rs[u].2++[v]))⟩)::(b2,x2)::(D,x3)::dU (rs.set u (some B,rs[u].2++[v]))):=by
 have e1:(⟨1,fO (rs.set u (some B,rs[u].2++[v]))⟩:Blk)=x1:=by rw[S,<-GL];simp[af]
 have e2:(⟨1,(rs[u].2++[v]).map aa⟩:Blk)=y:=by rw[O];simp[aa]
 rw[e1];exact ax.keepS Z h1 h2 h3 (by rw[e2];exact h4) hT Y
def V6:zM:=[(none,[]),(none,[]),(none,[]),(none,[])]
def UZ(Q:R)(bt M N:Nat)(t:List UInt8)(a:Nat)(n:Int)(s:gO)(ht:t.length<2^63)(ha:a<=t.length)(hct:s.count.length=4)
  (Z:∀(rs:zM) (a':Nat),Sv 1 rs->a'<=t.length->a<=a'->W.loop (tZ Q) [.ptr bt 0 0,.acU n,.ptr M 0 0,.pptr [bK.enc] 0 0,.nils,.sl N 0 4] ((N,⟨1,fO rs⟩)::(bt,az t a')::(M,⟨7,[s.enc]⟩)::dU rs)) (L:SH) (hL:L.Perm [(N,⟨1,List.replicate 4 [.nils]⟩),(bt,az t a),(M,⟨7,[s.enc]⟩)]) :
  W.loop (t6 Q) [.ptr bt 0 0,.acU n,.bool true,.ptr M 0 0,.pptr [bK.enc] 0 0,.nils,.sl N 0 4,.acU 4,.acU 0] L:=by
 refine aL 4 (λk (p:zM×Nat)=>([.ptr bt 0 0,.acU n,.bool true,.ptr M 0 0,.pptr [bK.enc] 0 0,.nils,.sl N 0 4,.acU 4,.acU k],(N,⟨1,fO p.1⟩)::(bt,az t p.2)::(M,⟨7,[s.enc]⟩)::dU p.1)) (λk p=>Sv 1 p.1/\p.2<=t.length/\a<=p.2/\∀j (B:j<p.1.length),k<=j->(p.1[j]).2=[]) (V6,a) ⟨⟨rfl,?_⟩,ha,Fd _,?_⟩ ?_ ?_
 .intro p hp;simp only[V6,aaj,abA,or_false]at hp;rcases hp with rfl|rfl|rfl|rfl<;>exact⟨λ_=>rfl,abt _⟩
 .intro j B _;have B:j<4:=B
  match j,B with
  |0,_|1,_|2,_|3,_=>rfl
 .refine ax.rowV (K:=[]) hL (fy.refl _ _) rfl ?_;intro j r r' h1 h2;have B:j<4:=by have:=(abL.1 h1).1;simpa using this
  match j,B with
  |0,_|1,_|2,_|3,_=>cases h1;cases h2;exact .cons .nile .nil
 rintro k ⟨rs,a2⟩ hk ⟨H,D,E,u⟩;dsimp only at H D E u ⊢;refine vw ?_;have hl4:rs.length=4:=H.1;rcases Nat.lt_or_ge k 4 with g1|g1
 .have hd:decide ((k:Int)<4)=true:=decide_eq_true acN;have hx:(s.count.map aa)[k]? =some [.acU (s.count[k]'acN)]:=aj (f:=aa) acN;have G:k<rs.length:=by omega
  have hr:=DQ G;have hpe:=u k G (Fd _);obtain⟨hp0,hp1⟩:=H.2 _ (LT G);have hX:(rs[k].2.map aa).length=rs[k].2.length:=by simp
  have h0':rs[k].1=none->rs[k].2.map aa=[]:=λe=>by rw[hp0 e];rfl
  have i1:IntKind.i64.wrap ((k:Int)+1)=((k+1:Nat):Int):=av g1 acN;generalize s.count[k]'acN=c at *;clear Z hL;rw[dL,dO];unfold az;have Y:=yX G
  repeat' (first|refine cN ?_ acN|refine IF (rs:=rs) G mm ?_|refine sx ?_|((with_reducible refine aN 92 ?_);(refine jM ht D rp (λr_ a_ hr_ h1_ h2_ h3_=>?_)))|refine aM rp (by repeat' (first|exact Y|constructor)) hX h0' acP acQ acS acS acP (λO S=>?_)|refine sb λO S=>?_|refine s2 ?_ ?_|intro)
  .exact⟨k+1,(rs.set k (some O,rs[k].2++[1]),a_),acN,acN,⟨IE H k nofun (by rw[hpe];exact Nat.le_refl _),acO,by dsimp only;omega,fun j B h=>by
     have hj2:j<rs.length:=by simpa using B
     dsimp only;rw[List.getElem_set_ne acN];exact u j hj2 acN⟩,ax.keepS2 G acT acT acT acT acT rfl rfl rfl⟩
  .exact⟨k+1,(rs,a_),acN,acN,⟨H,acO,by dsimp only;omega,λj B h=>u j B acN⟩,ax.keepG acT acT acT acT (.refl _) rfl⟩
  .exact⟨k+1,(rs,a2),acN,acN,⟨H,D,E,λj B h=>u j B acN⟩,ax.keepG acT acT acT acT (.refl _) rfl⟩
 .have hd:decide ((k:Int)<4)=false:=decide_eq_false acN;have hz:=Z rs a2 H D E;clear Z hL;rw[dL,dO]at *
  repeat' (first|refine sy ?_|refine s2 ?_ ?_|intro)
  exact hz
def lf(w:aF)(ev:List bA)(k:Nat):gO:=cf w (bG w) (ev.take k)
def PS{w:aF}{ev:List bA}{k:Nat}(h:k<ev.length):lf w ev (k+1)=gW w (lf w ev k) ev[k]:=by unfold lf;rw[Fn h,i9]
def SJ{w:aF}{ev:List bA}(H:K4 w ev){k:Nat}(j:k<=ev.length):nS w (lf w ev k) k:=by have hp:=H.play;rw[show ev=ev.take k++ev.drop k from(acr k ev).symm,jd]at hp;have:=nT (ev.take k) (uX w) hp.1;rw[show 0+(ev.take k).length=k by simp;omega]at this;exact this
def SK{w:aF}{ev:List bA}(H:K4 w ev)(E:∀e∈ev,wO e){k:Nat}(j:k<ev.length):aq Tryz.prog 58 [.agg w.enc,.agg (lf w ev k).enc,.agg (ev[k]).enc] (.tup [.agg (lf w ev (k+1)).enc,.bool true]):=by
 have B:=SJ H (Nat.le_of_lt j);have u:=H.world;have G:=H.len;have D:=E _ (LT j);have:=nR w (lf w ev k) ev[k] (rE u acN B) (by have:=D.1;omega) (by have:=D.2;omega) (by rw[B.ce];have:=u.c12;omega) (by rw[B.fu];have:=u.f2;omega) (by rw[B.ct];have:=u.t4;omega);rw[show px w (lf w ev k) ev[k]=some (lf w ev (k+1)) by
  unfold px;rw[show H7 w (lf w ev k) ev[k]=true from oZ w ev (bG w) H.play k j,if_pos rfl,PS j]]at this
 exact this
def M1(w:aF)(ev:List bA)(H:K4 w ev)(hE:∀e∈ev,wO e)(n:Nat)(E:n<=ev.length):aq Tryz.prog 68 [.agg (⟨w,ev⟩:el).enc,.acU n] (.agg (lf w ev n).enc):=by
 have G:=H.world;have hl:=H.len;have Z:=o7 w (by have:=G.l4;omega) (by have:=G.f2;omega) (by have:=G.t4;omega) (by have:=G.c12;omega);refine L6 λQ D=>Cj _ _ _ _ ?_
 refine vw ?_;have O:∀B u:Nat,W.loop (Ci Q) [.acU n,.pptr [(⟨w,ev⟩:el).enc] 0 0,.ptr B 0 0,.ptr u 0 0,.acU (0:Nat)] [(u,⟨7,[(bG w).enc]⟩),(B,⟨7,[dB]⟩)]:=by
  intro B u;refine JT n (λ_=>True) (λk=>([.acU n,.pptr [(⟨w,ev⟩:el).enc] 0 0,.ptr B 0 0,.ptr u 0 0,.acU k],[(u,⟨7,[(lf w ev k).enc]⟩),(B,⟨7,[dB]⟩)])) acN trivial rfl rfl (λk M hd hkk _ N E=>?_) (λk M hd _ N=>?_)
  all_goals refine vw ?_
  .have Y:=aj (f:=bA.enc) (show k<ev.length by omega);have j:=SK H hE (show k<ev.length by omega);have E:=E trivial;generalize ev[k]'acN=e at *;rw[eH]at Y j;clear D;generalize lf w ev (k+1)=s2 at *;generalize lf w ev k=s1 at *;unfold dB at *;rw[dO]at j;rw[uW,dL,dL]at *
   repeat' (first|refine sy ?_|refine s2 ?_ ?_|intro)
   exact E _ _ (ax.pickE rp rfl rfl)
  .subst M;generalize lf w ev k=s1 at *;have S:=D;clear D;rw[dL]at *
   repeat' (first|refine sy ?_|refine s2 ?_ ?_|intro)
   exact S _
 clear D;rw[dO,uW]at *
 repeat' (first|refine sy ?_|refine s2 ?_ ?_|intro)
 exact O _ _
def el.pure(w:aF)(ev:List bA):bv (.agg (⟨w,ev⟩:el).enc):=.aggs (by
 rw[uW];exact aA (.lmap λx _=>by unfold aU.enc;exact pv) (aA (.lmap λx _=>by unfold bZ.enc;exact pv) (aA (.lmap λx _=>by unfold cM.enc;exact pv) (aA (.lmap λx _=>gD x) (aA (.lmap λx _=>gD x) (aA (.lmap λx _=>by unfold cF.enc;exact pv) (aA (.lmap λx _=>by unfold bA.enc;exact aA (.int _ _) (aA (.int _ _) (aA (.int _ _) (aA (.int _ _) (aA (.int _ _) (aA (.lmap λx _=>by unfold aa;exact pv) (aA (.lmap λx _=>by unfold aa;exact pv) dS))))))) dS)))))))
def XJ(w:aF)(ev:List bA)(a n:Nat):(DJ w ev a n).enc=[.lst (w.cells.map aU.enc),.lst (w.locks.map bZ.enc),.lst (w.conds.map cM.enc),.lst (w.futures.map ay),.lst (w.threads.map ay),.lst (w.sites.map cF.enc),.acU a,.lst ((lf w ev a).sync.locks.map LockD.enc),.acU (lf w ev a).sync.tx,.lst ((lf w ev a).sync.done.map au),.lst ((lf w ev a).sync.threads.map ThrD.enc),.lst ((lf w ev a).cells.map aa),.lst ((lf w ev a).futures.map aa),.lst ((lf w ev a).count.map aa),.lst (((ev.drop a).take n).map bA.enc)]:=rfl
def M2(w:aF)(ev:List bA)(hE:∀e∈ev,wO e)(hl:ev.length<=400)(z:Nat)(z1:1<=z)(z2:z<=16):ac Tryz.prog 40 [.agg (⟨w,ev⟩:el).enc,.acU z] [] λv L=>∃(l:List aG) (e:Int),v=.tup [.lst (l.map aG.enc),.acU e]/\L=[]/\(∀x∈l,eT x)/\l.length<=400:=by
 obtain⟨v,K,⟨i,e,rfl,rfl,B⟩,hch⟩:=(MU w ev hE hl).pure (aA (el.pure _ _) dS) (λu K ⟨i,e,h1,_⟩=>by rw[h1];exact KG i e);refine ac.fz (Cl _ _ _ _ ?_);refine vw ?_;generalize hQ:(λ(v:AV) (L:SH)=>∃v2 L2,ax [v] L [v2] L2/\∃(l:List aG) (e:Int),v2=.tup [.lst (l.map aG.enc),.acU e]/\L2=[]/\(∀x∈l,eT x)/\l.length<=400)=Q;have E:∀(l:List aG) (e:Int) v L,Fz L v (.lst (l.map aG.enc))->(∀x∈l,eT x)->l.length<=400->Q (.tup [v,.acU e]) L:=λl e v L h h1 h2=>by subst hQ;exact⟨_,[],ax.all (.tups (.cons h (.cons (.refl _) .nil))),l,e,rfl,rfl,h1,h2⟩
 clear hQ;have d1:decide ((z:Int)<1)=false:=decide_eq_false acN;have d2:decide ((16:Int)<(z:Int))=false:=decide_eq_false acN;by_cases he:e=0
 .subst he;have H:=B rfl;have lp:W.loop (Ck Q) [.acU z,.pptr [(⟨w,ev⟩:el).enc] 0 0,.nils,.acU (0:Nat)] []:=by
   refine aL (ev.length+16) (λk (p:Option Nat×List aG)=>([.acU z,.pptr [(⟨w,ev⟩:el).enc] 0 0,af p.1 p.2.length,.acU k],ab p.1 15 (p.2.map aG.enc))) (λk p=>(p.1=none->p.2=[])/\(∀x∈p.2,eT x)/\p.2.length<=k/\p.2.length<=400) (none,[]) ⟨λ_=>rfl,nofun,Nat.le_refl _,acR⟩ (ax.drop (K:=[]) (.refl _) rfl (fy.at_ (.cons (.refl _) (.cons (.refl _) (.cons .nile (.cons (.refl _) .nil))))).2) ?_;rintro k ⟨o,l⟩ hk ⟨h0,Z,hlk,O⟩;dsimp only at h0 Z hlk O ⊢;refine vw ?_;have h0':o=none->l.map aG.enc=[]:=λe=>by rw[h0 e];rfl
   have hXl:(l.map aG.enc).length=l.length:=by simp
   rcases LE k ev.length with S|S
   .have hd:=aS S;have haf:=M1 w ev H hE k acN;have hw1:IntKind.i64.wrap ((k:Int)+(z:Int))=((k+z:Nat):Int):=by rw[abg _ acN];omega
    obtain⟨m,hm,hmk,hmn⟩:∃m:Nat,(if(ev.length:Int)<((k+z:Nat):Int)then(ev.length:Int)else((k+z:Nat):Int))=(m:Int)/\k<m/\m<=ev.length:=by
     split
     .exact⟨ev.length,rfl,S,Fd _⟩
     .exact⟨k+z,rfl,acN,acN⟩
    have D:=XC H (a:=k) (n:=m-k) S acN;have M:=XJ w ev k (m-k);have fin:∀(Y:Nat) (L:SH),cO L (ab (some Y) 15 (l.map aG.enc++[(DJ w ev k (m-k)).enc]))->∃(j:Nat) (p:Option Nat×List aG),k<j/\j<=ev.length+16/\((p.1=none->p.2=[])/\(∀x∈p.2,eT x)/\p.2.length<=j/\p.2.length<=400)/\ax [.acU z,.pptr [(⟨w,ev⟩:el).enc] 0 0,.sl Y 0 (l.length+1),.acU ((k+z:Nat):Int)] L [.acU z,.pptr [(⟨w,ev⟩:el).enc] 0 0,af p.1 p.2.length,.acU j] (ab p.1 15 (p.2.map aG.enc)):=by
     intro Y L hL;refine⟨k+z,(some Y,l++[DJ w ev k (m-k)]),acN,acN,⟨nofun,λx hx=>?_,acS,acS⟩,?_⟩
     .rcases aak.1 hx with h|h
      .exact Z x h
      .rw[aag.1 h];exact D
     .dsimp only;rw[List.length_append,List.length_singleton];exact ax.pickE hL rfl acQ
    rw[M]at fin;clear E D M Z h0;generalize hX:l.map aG.enc=X at *;generalize lf w ev k=s1 at *;have hsl:∀(K:AV->Prop) (L:SH),K (.lst (((ev.drop k).take (m-k)).map bA.enc))->W.slice 7 (.lst (ev.map bA.enc)) (some (.acU k)) (some (.acU m)) none L K:=λK L hK=>by
     refine ip (l:=k) (h:=m) (by simp[cE,gQ]) (by simp[cE,gQ]) acN acS (λr hr=>?_) (by rw[<-List.map_drop,<-List.map_take];exact hK);cases ev with
     |nil=>cases hr
     |cons x _=>cases hr;rfl
    rw[dL]at haf;rw[uW]at *
    repeat' (first|refine sx ?_|rw[NC,hm]|refine hsl _ _ ?_|refine aM rp rp hXl h0' acP acQ acS acS acP (λG N=>?_)|refine sb λG N=>?_|refine s2 ?_ ?_|intro)
    exact fin G _ rp
   .have hd:=aW S;have hz:∀L,(∀q∈ab o 15 (l.map aG.enc),q∈L)->Q (.tup [af o l.length,.acU 0]) L:=λL hm=>by
     refine E l 0 _ _ ?_ Z O;cases o with
     |none=>rw[h0 rfl];exact .emp
     |some b=>exact Fz.sls (hm _ (.head _)) rfl acR acQ
    clear E;rw[uW]at *
    repeat' (first|refine sy ?_|refine s2 ?_ ?_|intro)
    exact hz _ λq h=>h
  clear B E
  repeat' (first|refine sy ?_|refine s2 ?_ ?_|intro)
  exact lp
 .have d3:decide (e=0)=false:=decide_eq_false he;have d4:decide (e≠0)=true:=decide_eq_true he;have hz:∀(e:Int) L,Q (.tup [.nils,.acU e]) L:=λe L=>E [] e _ _ .nils nofun acR
  clear E B
  repeat' (first|refine sy ?_|refine s2 ?_ ?_|intro)
  exact hz _ _
