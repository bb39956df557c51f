/- part -/
import Derived.Test.YtfckbjehkbhkgaaGreatQwA
import Derived.Test.YtfckbjehkbhkgaaGreatQwB
set_option linter.all false
set_option maxRecDepth 100000
set_option maxHeartbeats 0
namespace Go.Proofs.YtfckbjehkbhkgaaGreat.Am
def uW(w:aF)(ev:List bA):(⟨w,ev⟩:el).enc=[.lst (w.cells.map aU.enc),.lst (w.locks.map bZ.enc),.lst (w.conds.map cM.enc),.lst (w.futures.map ay),.lst (w.threads.map ay),.lst (w.sites.map cF.enc),.lst (ev.map bA.enc)]:=rfl
structure nS(w:aF)(s:gO)(n:Nat):Prop where
 lk:s.sync.locks.length=w.locks.length
 dn:s.sync.done.length=w.futures.length
 th:s.sync.threads.length=w.threads.length
 ce:s.cells.length=w.cells.length
 fu:s.futures.length=w.futures.length
 ct:s.count.length=w.threads.length
 rd:∀l∈s.sync.locks,l.readers.length<=n
def uX(w:aF):nS w (bG w) 0:=⟨by simp[bG,bM],by simp[bG,bM],by simp[bG,bM],by simp[bG],by simp[bG],by simp[bG],(yS w).2⟩
def GM{w:aF}{s:gO}{n:Nat}{e:bA}(H:nS w s n)(B:H7 w s e=true):nS w (gW w s e) (n+1):=by
 have u:=(hM.1 B).en;have j:=rT (w:=w) (t:=e.thread) (k:=e.kind) (o:=e.obj) (wake:=if e.kind=18 then e.value else -1) H.rd;unfold gW;rw[(uH u).1];refine⟨by dsimp only;rw[j.lk];exact H.lk,by dsimp only;rw[j.dn];exact H.dn,by dsimp only;rw[j.th];exact H.th,?_,?_,by simp[H.ct],j.rd⟩
 .dsimp only;split<;>simp[H.ce]
 .dsimp only;split<;>simp[H.fu]
def nT{w:aF}:∀(l:List bA) {s:gO} {n:Nat},nS w s n->jQ w s l->nS w (cf w s l) (n+l.length)
 |[],s,n,H,_=>H
 | e::l,s,n,H,hp=>by have:=nT l (GM H hp.1) hp.2;rw[abi,show n+(l.length+1)=n+1+l.length by omega];exact this
def rE{w:aF}{s:gO}{n:Nat}(W:oK w)(u:n<=1000)(H:nS w s n):CJ w s.sync:=⟨by have:=W.d2;omega,by rw[H.lk];have:=W.l4;omega,by rw[H.dn];have:=W.f2;omega,by rw[H.th];have:=W.t4;omega,λl j=>by have:=H.rd l j;omega⟩
structure XG(w:aF)(ev:List bA)(k:Nat):Prop where
 play:jQ w (bG w) (ev.take k)
 rds:∀(j:Nat) (hj:j<ev.length),j<k->∀d,d∈ev[j].deps\/d∈ev[j].frm->FN ev j ev[j].thread d
def Sz{w:aF}{ev:List bA}{k:Nat}(D:k<ev.length)(H:XG w ev k)(B:H7 w (cf w (bG w) (ev.take k)) ev[k]=true)(M:∀d∈ev[k].deps,FN ev k ev[k].thread d)(h2:∀d∈ev[k].frm,FN ev k ev[k].thread d):XG w ev (k+1):=by
 refine⟨?_,λj G E d u=>?_⟩
 .rw[Fn D,jd];exact⟨H.play,B,trivial⟩
 .rcases LE j k with g|g
  .exact H.rds j G g d u
  .obtain rfl:j=k:=by omega
   rcases u with u|u
   .exact M d u
   .exact h2 d u
def MU(w:aF)(ev:List bA)(hE:∀e∈ev,wO e)(hl:ev.length<=400):ac Tryz.prog 67 [.agg (⟨w,ev⟩:el).enc] [] λv L=>∃i e:Int,v=.tup [.acU i,.acU e]/\L=[]/\(e=0->K4 w ev):=by
 have hv:=yB w;refine ac.fz (Dv _ _ _ ?_);refine vw ?_;generalize hQ:(λ(v:AV) (L:SH)=>∃v2 L2,ax [v] L [v2] L2/\∃i e:Int,v2=.tup [.acU i,.acU e]/\L2=[]/\(e=0->K4 w ev))=Q;have N:∀(i e:Int) L,(e=0->K4 w ev)->Q (.tup [.acU i,.acU e]) L:=λi e L h=>by subst hQ;exact⟨_,[],ax.all (.refl _),i,e,rfl,rfl,h⟩
 clear hQ;have d0:decide ((400:Int)<(ev.length:Int))=false:=decide_eq_false acN;by_cases E:oK w
 .rw[iG E]at hv;have hst:=o7 w (by have:=E.l4;omega) (by have:=E.f2;omega) (by have:=E.t4;omega) (by have:=E.c12;omega);rw[dO,uW]at *;have lp:∀Y:Nat,W.loop (Du Q) [.pptr [(⟨w,ev⟩:el).enc] 0 0,.ptr Y 0 0,.acU (0:Nat)] [(Y,⟨7,[(bG w).enc]⟩)]:=by
   intro Y;refine JT ev.length (XG w ev) (λk=>([.pptr [(⟨w,ev⟩:el).enc] 0 0,.ptr Y 0 0,.acU k],[(Y,⟨7,[(cf w (bG w) (ev.take k)).enc]⟩)])) acN ⟨trivial,λj _ h=>absurd h acN⟩ rfl rfl (λk O hd hkk hP nx G=>?_) (λk O hd hP nx=>?_)
   all_goals refine vw ?_
   .have hx:=aj (f:=bA.enc) O;have he:=hE _ (LT O);have hL:nS w (cf w (bG w) (ev.take k)) k:=by have:=nT (ev.take k) (uX w) hP.play;rw[show 0+(ev.take k).length=k by simp;omega]at this;exact this
    have u:=nR w (cf w (bG w) (ev.take k)) ev[k] (rE E acN hL) (by have:=he.1;omega) (by have:=he.2;omega) (by rw[hL.ce];have:=E.c12;omega) (by rw[hL.fu];have:=E.f2;omega) (by rw[hL.ct];have:=E.t4;omega);have r1:=DR ev k ev[k].thread ev[k].deps acN acN (by have:=he.1;omega);have r2:=DR ev k ev[k].thread ev[k].frm acN acN (by have:=he.2;omega);have D:∀(e:Int) (L:SH),e≠0->Q (.tup [.acU k,.acU e]) L:=λe L h=>N _ _ L λg=>absurd g h
    have B:=Sz O hP;have Z:cf w (bG w) (ev.take (k+1))=gW w (cf w (bG w) (ev.take k)) ev[k]:=by rw[Fn O,i9]
    rw[Z]at G;clear N Z;unfold px at u;cases ho:H7 w (cf w (bG w) (ev.take k)) ev[k]with
    |false=>
     rw[ho,if_neg acR]at u;clear G B r1 r2;generalize ev[k]=e at *;generalize cf w (bG w) (ev.take k)=s at *;rw[eH]at hx u;unfold yW gO.zero at u;dsimp only at u;rw[dO,uW,dL,dL]at *
     repeat' (first|refine sy ?_|refine s2 ?_ ?_|intro)
     exact D _ _ (show(_:Int)≠0 from by decide)
    |true=>
     rw[ho,if_pos rfl]at u;have B:=B ho;by_cases M:∀d∈ev[k].deps,FN ev k ev[k].thread d
     .rw[iG M]at r1;by_cases S:∀d∈ev[k].frm,FN ev k ev[k].thread d
      .rw[iG S]at r2;have G:=G (B M S);clear D B M S;generalize gW w (cf w (bG w) (ev.take k)) ev[k]=s2 at *;generalize ev[k]=e at *;generalize cf w (bG w) (ev.take k)=s at *;rw[eH]at hx u;unfold yW at u;dsimp only at u;rw[dO,uW,dL,dL]at *
       repeat' (first|refine sy ?_|refine s2 ?_ ?_|intro)
       refine G _ _ ?_;exact ax.pickE rp rfl rfl
      .rw[gU S]at r2;clear G B M S;generalize gW w (cf w (bG w) (ev.take k)) ev[k]=s2 at *;generalize ev[k]=e at *;generalize cf w (bG w) (ev.take k)=s at *;rw[eH]at hx u;unfold yW at u;dsimp only at u;rw[dO,uW,dL,dL]at *
       repeat' (first|refine sy ?_|refine s2 ?_ ?_|intro)
       exact D _ _ (show(_:Int)≠0 from by decide)
     .rw[gU M]at r1;clear G B M;generalize gW w (cf w (bG w) (ev.take k)) ev[k]=s2 at *;generalize ev[k]=e at *;generalize cf w (bG w) (ev.take k)=s at *;rw[eH]at hx u;unfold yW at u;dsimp only at u;rw[dO,uW,dL,dL]at *
      repeat' (first|refine sy ?_|refine s2 ?_ ?_|intro)
      exact D _ _ (show(_:Int)≠0 from by decide)
   .have hz:∀L,Q (.tup [.acU 0,.acU 0]) L:=λL=>N _ _ L λ_=>by have hp:=hP.play;rw[O,aaT (Fd _)]at hp;exact⟨E,hp,hl,λj hj d hd=>hP.rds j hj acN d hd⟩
    clear N;rw[uW]at *
    repeat' (first|refine sy ?_|refine s2 ?_ ?_|intro)
    exact hz _
  clear N
  repeat' (first|refine sy ?_|refine s2 ?_ ?_|intro)
  exact lp _
 .rw[gU E]at hv;have hz:=N 0 1;rw[dO,uW]at *
  repeat' (first|refine sy ?_|refine s2 ?_ ?_|intro)
  exact hz _ nofun
structure LB where
 a:Nat
 lk:List LockD
 tx:Int
 dn:List Bool
 th:List ThrD
 ce:List Int
 fu:List Int
 cn:List Int
structure LB.Ok(t:List UInt8)(p:LB):Prop where
 ha:p.a<=t.length
 lk:p.lk.length=3
 dn:p.dn.length=1
 th:p.th.length=4
 ce:p.ce.length=5
 fu:p.fu.length=1
 cn:p.cn.length=4
 cd:∀x∈p.th,x.cond=0
 ct:∀x∈p.cn,0<=x/\x<=3
 rd:∀l∈p.lk,l.readers.length<=1
structure t8 where
 bt:Nat
 br:Nat
 bs:Nat
 bl:Nat
 bd:Nat
 b4:Nat
 bc:Nat
 bf:Nat
 bn:Nat
def t8.row(b:t8)(tx:Int):List AV:=[.sl b.bl 0 3,.acU tx,.sl b.bd 0 1,.sl b.b4 0 4,.sl b.bc 0 5,.sl b.bf 0 1,.sl b.bn 0 4]
def t8.rest(b:t8)(t:List UInt8)(p:LB):SH:=[(b.bs,⟨7,[b.row p.tx]⟩),(b.bt,az t p.a),(b.bd,⟨1,p.dn.map au⟩),(b.b4,⟨3,p.th.map ThrD.enc⟩),(b.bc,⟨1,p.ce.map aa⟩),(b.bf,⟨1,p.fu.map aa⟩),(b.bn,⟨1,p.cn.map aa⟩)]
def t8.hp(b:t8)(t:List UInt8)(p:LB):SH:=(b.bl,⟨2,p.lk.map LockD.enc⟩)::b.rest t p
def t8.heap(b:t8)(t:List UInt8)(p:LB):SH:=(b.bl,⟨2,p.lk.map LockD.enc⟩)::(b.br,⟨7,[dB]⟩)::b.rest t p
def Z0(Q:R)(b:t8)(t:List UInt8)(ht:t.length<2^63)(hne:b.bs≠b.bt)(hq:∀p:LB,p.Ok t->∀L,cO L (b.hp t p)->Q (.agg (b.row p.tx)) L)(p0:LB)(h0:p0.Ok t)(L:SH)(hL:cO L (b.heap t p0)):
  W.loop (uT Q) [.ptr b.bt 0 0,.ptr b.br 0 0,.ptr b.bs 0 0,.acU 5,.acU 0] L:=by
 refine aL 5 (λk p=>([.ptr b.bt 0 0,.ptr b.br 0 0,.ptr b.bs 0 0,.acU 5,.acU k],b.heap t p)) (λk p=>p.Ok t) p0 h0 (ax.pickE hL rfl rfl) ?_;rintro k ⟨a,lk,tx,dn,th,B,fu,cn⟩ hk H;obtain⟨bt,E,D,M,O,Y,S,N,G⟩:=b;have ha:=H.ha;have hce:=H.ce;dsimp only[t8.heap,t8.hp,t8.rest,t8.row]at *;refine vw ?_;rcases Nat.lt_or_ge k 5 with g1|g1
 .have hd:decide ((k:Int)<5)=true:=decide_eq_true acN;have hx:(B.map aa)[k]? =some [.acU (B[k]'acN)]:=aj (f:=aa) acN;have fin:∀(Z:Nat) (v:Int) (L:SH),Z<=t.length->cO L [(M,⟨2,lk.map LockD.enc⟩),(E,⟨7,[dB]⟩),(D,⟨7,[[.sl M 0 3,.acU tx,.sl O 0 1,.sl Y 0 4,.sl S 0 5,.sl N 0 1,.sl G 0 4]]⟩),(bt,az t Z),(O,⟨1,dn.map au⟩),(Y,⟨3,th.map ThrD.enc⟩),(S,⟨1,(B.map aa).set k [.acU v]⟩),(N,⟨1,fu.map aa⟩),(G,⟨1,cn.map aa⟩)]->
    ∃(j:Nat) (p:LB),k<j/\j<=5/\p.Ok t/\ax [.ptr bt 0 0,.ptr E 0 0,.ptr D 0 0,.acU 5,.acU ((k+1:Nat):Int)] L [.ptr bt 0 0,.ptr E 0 0,.ptr D 0 0,.acU 5,.acU j] [(M,⟨2,p.lk.map LockD.enc⟩),(E,⟨7,[dB]⟩),(D,⟨7,[[.sl M 0 3,.acU p.tx,.sl O 0 1,.sl Y 0 4,.sl S 0 5,.sl N 0 1,.sl G 0 4]]⟩),(bt,az t p.a),(O,⟨1,p.dn.map au⟩),(Y,⟨3,p.th.map ThrD.enc⟩),(S,⟨1,p.ce.map aa⟩),(N,⟨1,p.fu.map aa⟩),(G,⟨1,p.cn.map aa⟩)]:=λZ v L h1 hP=>
   ⟨k+1,⟨Z,lk,tx,dn,th,B.set k v,fu,cn⟩,acN,acN,⟨h1,H.lk,H.dn,H.th,by simpa using hce,H.fu,H.cn,H.cd,H.ct,H.rd⟩,ax.pickE hP rfl (by rw[abT];rfl)⟩
  have i1:IntKind.i64.wrap ((k:Int)+1)=((k+1:Nat):Int):=av g1 acN;generalize B[k]'acN=c at *;clear hq hL;unfold dB at *
  repeat' (first|refine cN ?_ acN|refine sy ?_|((with_reducible refine aN 92 ?_);(refine jM ht ha rp (λr_ a_ hr_ u h2_ h3_=>?_)))|(with_reducible refine cy 92 ?_;refine rZ ht ha rp (λr_ a_ hr_ u h2_ h3_=>?_))|refine s2 ?_ ?_|intro)
  exact fin a_ r_ _ u acT
 .have hd:decide ((k:Int)<5)=false:=decide_eq_false acN;have hz:=λL=>hq _ H L
  clear hq hL;unfold dB at *
  repeat' (first|refine sy ?_|refine s2 ?_ ?_|intro)
  refine hz _ ?_;exact rp
def DT{bt u:Nat}{t:List UInt8}{a:Nat}{cs:List Int}{M G E D B Z Y S O N n:Nat}{tx:Int}{L L1 L2:SH}{KL:R}(h1:dF bt (az t a) L L1)(h2:dF u ⟨1,cs.map aa⟩ L1 L2)(ht:t.length<2^63)(ha:a<=t.length)(hc:cs.length=n)(hn:n<100)(hq:∀(v:Int) (j:Nat),(v=-1\/(0<=v/\v<n))->j<=t.length->a<=j->KL (.acU v) ((bt,az t j)::(u,⟨1,cs.map aa⟩)::L2)):
  W.callM Tryz.prog 93 [.ptr bt 0 0,.agg [.sl M 0 Z,.acU tx,.sl G 0 Y,.sl E 0 S,.sl D 0 O,.sl B 0 N,.sl u 0 n]] L KL:=by
 subst hc;exact JC (Su bt t a u cs M G E D B Z Y S O N tx ht ha hn) h1 h2 (by rintro _ _ ⟨v,j,rfl,g1,g2,g3,rfl⟩;exact hq v j g1 g2 g3)
def U3{th:List ThrD}{u:Int}(B:0<=u)(j:u<th.length):∃(x y:Int) (z:Bool),(th.map ThrD.enc)[u.toNat]? =some [.acU x,.acU y,.bool z]:=by
 have h:u.toNat<th.length:=by omega
 exact⟨_,_,_,aj (f:=ThrD.enc) h⟩
def K8{th:List ThrD}{n:Nat}{v:Int}(B:th.length=n)(h:v=-1\/(0<=v/\v<n)):v=-1\/(0<=v/\v<n/\∃(x y:Int) (z:Bool),(th.map ThrD.enc)[v.toNat]? =some [.acU x,.acU y,.bool z]):=by
 rcases h with h|⟨j,u⟩
 .exact .inl h
 .exact .inr ⟨j,u,U3 j acN⟩
def XH(Q:R)(b:t8)(t:List UInt8)(ht:t.length<2^63)(hne:b.bs≠b.bt)(hne2:b.bs≠b.bn)(hne3:b.bl≠b.bt)(hq:∀p:LB,p.Ok t->∀L,cO L (b.hp t p)->Q (.agg (b.row p.tx)) L)(p0:LB)(h0:p0.Ok t)(L:SH)(hL:ax [.ptr b.bt 0 0,.ptr b.br 0 0,.ptr b.bs 0 0,.acU 3,.acU 0] L [.ptr b.bt 0 0,.ptr b.br 0 0,.ptr b.bs 0 0,.acU 3,.acU 0] (b.heap t p0)):
  W.loop (jU Q) [.ptr b.bt 0 0,.ptr b.br 0 0,.ptr b.bs 0 0,.acU 3,.acU 0] L:=by
 refine aL 3 (λk p=>([.ptr b.bt 0 0,.ptr b.br 0 0,.ptr b.bs 0 0,.acU 3,.acU k],b.heap t p)) (λk p=>p.Ok t) p0 h0 hL ?_;rintro k ⟨a,lk,tx,dn,th,ce,fu,cn⟩ hk H;obtain⟨bt,O,N,Y,bd,b4,bc,Z,S⟩:=b;have ha:=H.ha;have hlk:=H.lk;have hth:=H.th;have hcn:=H.cn;have lp6:=λp h L hL=>Z0 Q ⟨bt,O,N,Y,bd,b4,bc,Z,S⟩ t ht hne hq p h L hL
 dsimp only[t8.heap,t8.hp,t8.rest,t8.row]at *;refine vw ?_;rcases Nat.lt_or_ge k 3 with g1|g1
 .have hd:decide ((k:Int)<3)=true:=decide_eq_true acN;have hx:=aj (f:=LockD.enc) (show k<lk.length by omega);have hrd:=H.rd _ (LT (show k<lk.length by omega));have i1:IntKind.i64.wrap ((k:Int)+1)=((k+1:Nat):Int):=av g1 acN;clear hq hL lp6;generalize lk[k]'acN=l at *;obtain⟨lo,lr⟩:=l;rw[show LockD.enc ⟨lo,lr⟩=[.acU lo,.lst (lr.map aa)]from rfl]at hx;have rdS:∀(x:LockD),x.readers.length<=1->∀l∈lk.set k x,l.readers.length<=1:=λx hx l hl=>by
   rcases aca hl with h|rfl
   .exact H.rd l h
   .exact hx
  have D:∀(M:Nat) (L:SH),M<=t.length->cO L [(Y,⟨2,lk.map LockD.enc⟩),(O,⟨7,[dB]⟩),(N,⟨7,[[.sl Y 0 3,.acU tx,.sl bd 0 1,.sl b4 0 4,.sl bc 0 5,.sl Z 0 1,.sl S 0 4]]⟩),(bt,az t M),(bd,⟨1,dn.map au⟩),(b4,⟨3,th.map ThrD.enc⟩),(bc,⟨1,ce.map aa⟩),(Z,⟨1,fu.map aa⟩),(S,⟨1,cn.map aa⟩)]->
    ∃(j:Nat) (p:LB),k<j/\j<=3/\p.Ok t/\ax [.ptr bt 0 0,.ptr O 0 0,.ptr N 0 0,.acU 3,.acU ((k+1:Nat):Int)] L [.ptr bt 0 0,.ptr O 0 0,.ptr N 0 0,.acU 3,.acU j] [(Y,⟨2,p.lk.map LockD.enc⟩),(O,⟨7,[dB]⟩),(N,⟨7,[[.sl Y 0 3,.acU p.tx,.sl bd 0 1,.sl b4 0 4,.sl bc 0 5,.sl Z 0 1,.sl S 0 4]]⟩),(bt,az t p.a),(bd,⟨1,p.dn.map au⟩),(b4,⟨3,p.th.map ThrD.enc⟩),(bc,⟨1,p.ce.map aa⟩),(Z,⟨1,p.fu.map aa⟩),(S,⟨1,p.cn.map aa⟩)]:=λM L h1 hP=>
   ⟨k+1,⟨M,lk,tx,dn,th,ce,fu,cn⟩,acN,acN,⟨h1,H.lk,H.dn,H.th,H.ce,H.fu,H.cn,H.cd,H.ct,H.rd⟩,ax.pickE hP rfl rfl⟩
  have G:∀(M:Nat) (v:Int) (L:SH),M<=t.length->cO L [(Y,⟨2,(lk.map LockD.enc).set k [.acU v,.lst (lr.map aa)]⟩),(O,⟨7,[dB]⟩),(N,⟨7,[[.sl Y 0 3,.acU tx,.sl bd 0 1,.sl b4 0 4,.sl bc 0 5,.sl Z 0 1,.sl S 0 4]]⟩),(bt,az t M),(bd,⟨1,dn.map au⟩),(b4,⟨3,th.map ThrD.enc⟩),(bc,⟨1,ce.map aa⟩),(Z,⟨1,fu.map aa⟩),(S,⟨1,cn.map aa⟩)]->
    ∃(j:Nat) (p:LB),k<j/\j<=3/\p.Ok t/\ax [.ptr bt 0 0,.ptr O 0 0,.ptr N 0 0,.acU 3,.acU ((k+1:Nat):Int)] L [.ptr bt 0 0,.ptr O 0 0,.ptr N 0 0,.acU 3,.acU j] [(Y,⟨2,p.lk.map LockD.enc⟩),(O,⟨7,[dB]⟩),(N,⟨7,[[.sl Y 0 3,.acU p.tx,.sl bd 0 1,.sl b4 0 4,.sl bc 0 5,.sl Z 0 1,.sl S 0 4]]⟩),(bt,az t p.a),(bd,⟨1,p.dn.map au⟩),(b4,⟨3,p.th.map ThrD.enc⟩),(bc,⟨1,p.ce.map aa⟩),(Z,⟨1,p.fu.map aa⟩),(S,⟨1,p.cn.map aa⟩)]:=λM v L h1 hP=>
   ⟨k+1,⟨M,lk.set k ⟨v,lr⟩,tx,dn,th,ce,fu,cn⟩,acN,acN,⟨h1,by simpa using hlk,H.dn,H.th,H.ce,H.fu,H.cn,H.cd,H.ct,rdS _ hrd⟩,ax.pickE hP rfl (by rw[abT];rfl)⟩
  have Au:∀(M:Nat) (v:Int) (nb:Nat) (L:SH),M<=t.length->cO L ((nb,⟨1,[[.acU v]]⟩)::(Y,⟨2,(lk.map LockD.enc).set k [.acU lo,.sl nb 0 1]⟩)::[(O,⟨7,[dB]⟩),(N,⟨7,[[.sl Y 0 3,.acU tx,.sl bd 0 1,.sl b4 0 4,.sl bc 0 5,.sl Z 0 1,.sl S 0 4]]⟩),(bt,az t M),(bd,⟨1,dn.map au⟩),(b4,⟨3,th.map ThrD.enc⟩),(bc,⟨1,ce.map aa⟩),(Z,⟨1,fu.map aa⟩),(S,⟨1,cn.map aa⟩)])->
    ∃(j:Nat) (p:LB),k<j/\j<=3/\p.Ok t/\ax [.ptr bt 0 0,.ptr O 0 0,.ptr N 0 0,.acU 3,.acU ((k+1:Nat):Int)] L [.ptr bt 0 0,.ptr O 0 0,.ptr N 0 0,.acU 3,.acU j] [(Y,⟨2,p.lk.map LockD.enc⟩),(O,⟨7,[dB]⟩),(N,⟨7,[[.sl Y 0 3,.acU p.tx,.sl bd 0 1,.sl b4 0 4,.sl bc 0 5,.sl Z 0 1,.sl S 0 4]]⟩),(bt,az t p.a),(bd,⟨1,p.dn.map au⟩),(b4,⟨3,p.th.map ThrD.enc⟩),(bc,⟨1,p.ce.map aa⟩),(Z,⟨1,p.fu.map aa⟩),(S,⟨1,p.cn.map aa⟩)]:=λM v nb L h1 hP=>by
   refine⟨k+1,⟨M,lk.set k ⟨lo,[v]⟩,tx,dn,th,ce,fu,cn⟩,acN,acN,⟨h1,by simpa using hlk,H.dn,H.th,H.ce,H.fu,H.cn,H.cd,H.ct,rdS _ (Fd _)⟩,?_⟩;obtain⟨K0,hp⟩:=hP.perm;refine ax.rowV (K:=K0++[(nb,⟨1,[[.acU v]]⟩)]) (rows:=(lk.map LockD.enc).set k [.acU lo,.sl nb 0 1]) (by rw[abr];exact hp) (fy.refl _ _) acQ ?_;intro j r r' q1 q2;rw[abT]at q2;rw[abs]at q1 q2;by_cases hjk:k=j
   .rw[if_pos hjk]at q1 q2;split at q1
    .rename_i hlt;rw[if_pos hlt]at q2;cases q1;cases q2;exact .cons (.refl _) (.cons (Fz.sls (l:=[v]) (f:=aa) (size:=1) (aaY _ (.head _)) rfl acR rfl) .nil)
    .cases q1
   .rw[if_neg hjk]at q1 q2;rw[q1]at q2;cases q2;exact fy.refl _ _
  unfold dB at *
  repeat' (first|refine aw u0_ acN rp rfl ?_|refine cN ?_ acN|refine sx ?_|((with_reducible refine aN 93 ?_);(refine DT rp rp ht ha hcn acN (λv_ E hv_ B hb2_=>?_);rcases K8 (th:=th) (n:=4) hth hv_ with rfl|⟨u0_,u1_,x_,y_,z_,hrow_⟩))|refine dR rp hrow_ rfl ?_|((with_reducible refine aN 92 ?_);(refine jM ht acO rp (λr_ a_ hr_ u h2_ h3_=>?_)))|(with_reducible refine cy 92 ?_;refine rZ ht acO rp (λr_ a_ hr_ u h2_ h3_=>?_))|refine sb λnb_ hnb_=>?_|refine s2 ?_ ?_|intro)
  .exact D E _ B acT
  .exact D E _ B acT
  .exact Au a_ v_ nb_ _ u acT
  .exact D a_ _ u acT
  .exact G a_ v_ _ u acT
  .exact D a_ _ u acT
  .exact G a_ v_ _ u acT
  .exact D E _ B acT
  .exact G E v_ _ B acT
  .exact D E _ B acT
  .exact G E v_ _ B acT
 .have hd:decide ((k:Int)<3)=false:=decide_eq_false acN;have hdn:=H.dn;have hfu:=H.fu;clear hq hL
  match dn,hdn with
  |[d0],_=>
  match fu,hfu with
  |[f0],_=>
  unfold dB at *
  repeat' (first|refine cN ?_ acN|refine sy ?_|((with_reducible refine aN 93 ?_);(refine DT rp rp ht acO hcn acN (λv_ E hv_ B hb2_=>?_)))|((with_reducible refine aN 92 ?_);(refine jM ht acO rp (λr_ a_ hr_ u h2_ h3_=>?_)))|(with_reducible refine cy 92 ?_;refine rZ ht acO rp (λr_ a_ hr_ u h2_ h3_=>?_))|refine s2 ?_ ?_|intro)
  .exact lp6 ⟨a_,lk,v_,[true],th,ce,[(r_:Int)],cn⟩ ⟨u,H.lk,rfl,H.th,H.ce,rfl,H.cn,H.cd,H.ct,H.rd⟩ _ acT
  .exact lp6 ⟨a_,lk,v_,[d0],th,ce,[f0],cn⟩ ⟨u,H.lk,rfl,H.th,H.ce,rfl,H.cn,H.cd,H.ct,H.rd⟩ _ acT
  .exact lp6 ⟨a_,lk,tx,[true],th,ce,[(r_:Int)],cn⟩ ⟨u,H.lk,rfl,H.th,H.ce,rfl,H.cn,H.cd,H.ct,H.rd⟩ _ acT
  .exact lp6 ⟨a_,lk,tx,[d0],th,ce,[f0],cn⟩ ⟨u,H.lk,rfl,H.th,H.ce,rfl,H.cn,H.cd,H.ct,H.rd⟩ _ acT
