/- part -/
import Derived.Test.YtfckbjehkbhkgaaGreatQwI
import Derived.Test.YtfckbjehkbhkgaaGreatQwK
set_option linter.all false
set_option maxRecDepth 100000
set_option maxHeartbeats 0
namespace Go.Proofs.YtfckbjehkbhkgaaGreat.Am
structure SE(w:aG):Prop where
 world:oK w.w
 fit:nB w.w w.init=true
 len:w.ev.length<=16
 cnt:∀n∈w.init.count,0<=n/\n<=400
 rd:∀l∈w.init.sync.locks,l.readers.length<=400
 cnd:∀t∈w.init.sync.threads,t.cond=0
 evs:∀e∈w.ev,wO e
 nc:0<w.w.conds.length
def IH{s:gO}{n:Int}(j:0<=n)(H:∀x∈s.count,0<=x/\x<=n)(t:Int):0<=aT s t/\aT s t<=n:=by
 unfold aT;rcases LE t.toNat s.count.length with g|g
 .simp only[List.getD,mt g,abS];exact H _ (LT g)
 .simp[List.getD,aah g,j]
def PQ{w:aF}{s:gO}{e:bA}{n:Int}(u:0<=n)(D:n<100000)(H:∀x∈s.count,0<=x/\x<=n):∀x∈(gW w s e).count,0<=x/\x<=n+1:=λx j=>by
 have B:=IH u H e.thread;rcases aca j with h|h
 .have:=H x h;omega
 .rw[h,H9 acN acN];omega
def GN{w:aF}:∀(l:List bA) {s:gO} {n:Int},0<=n->n+l.length<100000->(∀x∈s.count,0<=x/\x<=n)->∀x∈(cf w s l).count,0<=x/\x<=n+l.length
 |[],s,n,h0,h9,H=>by simpa[cf]using H
 | e::l,s,n,h0,h9,H=>by have:=GN l (w:=w) (s:=gW w s e) (n:=n+1) acN (by simp at h9;omega) (PQ h0 acN H);rw[abi,show n+((l.length+1:Nat):Int)=n+1+(l.length:Int) by omega];exact this
structure SF(w:aG)(k:Nat):Prop where
 play:jQ w.w w.init (w.ev.take k)
 rds:∀(j:Nat) (hj:j<w.ev.length),j<k->∀d,d∈w.ev[j].deps\/d∈w.ev[j].frm->SD w w.ev[j].thread d
def SG{w:aG}{k:Nat}(D:k<w.ev.length)(H:SF w k)(B:H7 w.w (cf w.w w.init (w.ev.take k)) w.ev[k]=true)(M:∀d∈w.ev[k].deps,SD w w.ev[k].thread d)(h2:∀d∈w.ev[k].frm,SD w w.ev[k].thread d):SF w (k+1):=by
 refine⟨?_,λj G E d u=>?_⟩
 .rw[Fn D,jd];exact⟨H.play,B,trivial⟩
 .rcases LE j k with g|g
  .exact H.rds j G g d u
  .obtain rfl:j=k:=by omega
   rcases u with u|u
   .exact M d u
   .exact h2 d u
def Ld{w:aG}(H:SE w):nS w.w w.init 400:=by have j:=dT.1 H.fit;have u:=cH.1 j.1;exact⟨u.locks,u.done,u.threads,j.2.1,j.2.2.1,j.2.2.2,H.rd⟩
def SI{w:aG}(H:SE w){k:Nat}(D:k<w.ev.length)(E:SF w k):aq Tryz.prog 58 [.agg w.w.enc,.agg (cf w.w w.init (w.ev.take k)).enc,.agg w.ev[k].enc] (yW (px w.w (cf w.w w.init (w.ev.take k)) w.ev[k])):=by have u:=nT (w.ev.take k) (Ld H) E.play;have G:=H.len;have j:=H.world;have B:=H.evs _ (LT D);exact nR w.w _ _ (rE j acS u) (by have:=B.1;omega) (by have:=B.2;omega) (by rw[u.ce];have:=j.c12;omega) (by rw[u.fu];have:=j.f2;omega) (by rw[u.ct];have:=j.t4;omega)
def PR{w:aG}(H:SE w){k:Nat}(N:k<w.ev.length)(Z:SF w k)(G:H7 w.w (cf w.w w.init (w.ev.take k)) w.ev[k]=true):
  Lb 99 [.agg w.enc,.acU w.ev[k].thread,.lst (w.ev[k].deps.map aa)] (∀d∈w.ev[k].deps,SD w w.ev[k].thread d)/\Lb 99 [.agg w.enc,.acU w.ev[k].thread,.lst (w.ev[k].frm.map aa)] (∀d∈w.ev[k].frm,SD w w.ev[k].thread d):=by
 have Y:=H.len;have D:=H.evs _ (LT N);have u:=hM.1 G;have j:=u.thr;rw[<-(dT.1 H.fit).2.2.2]at j;have E:=IH (s:=w.init) (n:=400) acN H.cnt w.ev[k].thread;have S:=IH (s:=cf w.w w.init (w.ev.take k)) (n:=400+(w.ev.take k).length) acN (GN (w.ev.take k) acN acS H.cnt) w.ev[k].thread;have M:(w.ev.take k).length<=16:=by simp;omega
 have B:∀l,qN l (aT (cf w.w w.init (w.ev.take k)) w.ev[k].thread)->∀d∈l,d<9223372036854775808:=λl h d O=>by obtain⟨i,hi,rfl⟩:=abC O;have:=(h i hi).2.1;omega
 exact⟨DU w _ _ acN j E.1 (B _ u.nd) (by have:=D.1;omega),DU w _ _ acN j E.1 (B _ u.nf) (by have:=D.2;omega)⟩
def MZ(w:aG)(H:SE w):Lb 62 [.agg w.enc] (eT w):=by
 have hv:=yB w.w;rw[iG H.world]at hv;have O:=Ld H;have Z:=H.world;have G:=KT w.w w.init (by have:=Z.d2;omega);rw[H.fit]at G;obtain⟨b1,k1,_⟩:=Lc w (by rw[O.ct];have:=Z.t4;omega);obtain⟨b2,k2,_⟩:=FO w (by rw[O.ct,O.th];omega) (by rw[O.th];have:=Z.t4;omega);obtain⟨b3,k3,_⟩:=IG w H.fit (by rw[O.ct];have:=Z.t4;omega) (by rw[O.lk];have:=Z.l4;omega) (by rw[O.th];have:=Z.t4;omega) H.rd H.cnd H.nc;refine SC ?_ (aA w.pure dS);refine ac.fz (Cu _ _ _ ?_);refine vw ?_;generalize hQ:(λ(v:AV) (L:SH)=>∃v2 L2,ax [v] L [v2] L2/\∃b:Bool,v2=.bool b/\L2=[]/\(b=true->eT w))=Q;have B:∀L,Q (.bool false) L:=λL=>by subst hQ;exact⟨_,[],ax.all (.refl _),false,rfl,rfl,nofun⟩
 have E:eT w->∀L,Q (.bool true) L:=λh L=>by subst hQ;exact⟨_,[],ax.all (.refl _),true,rfl,rfl,λ_=>h⟩
 clear hQ;have hl:=H.len;have d16:decide ((16:Int)<(w.ev.length:Int))=false:=decide_eq_false acN;have S:∀nb:Nat,W.loop (Cs Q) [.pptr [w.enc] 0 0,.ptr nb 0 0,.acU (0:Nat)] [(nb,⟨7,[w.init.enc]⟩)]:=by
  intro nb;refine JT w.ev.length (SF w) (λk=>([.pptr [w.enc] 0 0,.ptr nb 0 0,.acU k],[(nb,⟨7,[(cf w.w w.init (w.ev.take k)).enc]⟩)])) acN ⟨trivial,λj _ h=>absurd h acN⟩ rfl rfl (λk Y hd hkk N nx M=>?_) (λk Y hd N nx=>?_)
  all_goals refine vw ?_
  .have hx:=aj (f:=bA.enc) Y;have u:=SI H Y N;have hrd:=PR H Y N;have D:=SG Y N;have hsn:cf w.w w.init (w.ev.take (k+1))=gW w.w (cf w.w w.init (w.ev.take k)) w.ev[k]:=by rw[Fn Y,i9]
   rw[hsn]at M;clear E hsn k1 k2 k3 hv G;unfold px at u;cases ho:H7 w.w (cf w.w w.init (w.ev.take k)) w.ev[k]with
   |false=>
    rw[ho,if_neg acR]at u;clear M D hrd N;generalize w.ev[k]=e at *;generalize cf w.w w.init (w.ev.take k)=s at *;rw[eH]at hx u;unfold yW gO.zero at u;dsimp only at u;rw[dO,dL,dL]at u;rw[dL,bj]
    repeat' (first|refine sy ?_|refine s2 ?_ ?_|intro)
    exact B _
   |true=>
    rw[ho,if_pos rfl]at u;obtain⟨⟨c1,r1,i1⟩,⟨c2,r2,i2⟩⟩:=hrd ho;have D:=D ho;cases c1 with
    |false=>
     clear M D N;generalize gW w.w (cf w.w w.init (w.ev.take k)) w.ev[k]=s2 at *;generalize w.ev[k]=e at *;generalize cf w.w w.init (w.ev.take k)=s at *;rw[eH]at hx u;unfold yW at u;dsimp only at u;rw[dO,dL,dL]at u;rw[bj]at *;rw[dL]
     repeat' (first|refine sy ?_|refine s2 ?_ ?_|intro)
     exact B _
    |true=>
     cases c2 with
     |false=>
      clear M D N;generalize gW w.w (cf w.w w.init (w.ev.take k)) w.ev[k]=s2 at *;generalize w.ev[k]=e at *;generalize cf w.w w.init (w.ev.take k)=s at *;rw[eH]at hx u;unfold yW at u;dsimp only at u;rw[dO,dL,dL]at u;rw[bj]at *;rw[dL]
      repeat' (first|refine sy ?_|refine s2 ?_ ?_|intro)
      exact B _
     |true=>
      have M:=M (D (i1 rfl) (i2 rfl));clear D i1 i2 N;generalize gW w.w (cf w.w w.init (w.ev.take k)) w.ev[k]=s2 at *;generalize w.ev[k]=e at *;generalize cf w.w w.init (w.ev.take k)=s at *;rw[eH]at hx u;unfold yW at u;dsimp only at u;rw[dO,dL,dL]at u;rw[bj]at *;rw[dL]at *
      repeat' (first|refine sy ?_|refine s2 ?_ ?_|intro)
      exact M _ _ (ax.pickE rp rfl rfl)
  .have hz:=E ⟨H.world,H.fit,acN,H.cnt,H.rd,by
     have hp:=N.play;rw[Y,aaT (Fd _)]at hp;exact hp,H.evs,λj hj d hd=>N.rds j hj acN d hd⟩
   clear B E k1 k2 k3 hv G;generalize cf w.w w.init (w.ev.take k)=s at *;rw[bj,dL]
   repeat' (first|refine sy ?_|refine s2 ?_ ?_|intro)
   exact hz _
 have lp2:W.loop (Ct Q) [.pptr [w.enc] 0 0,.acU (0:Nat)] []:=by
  refine cT w.init.futures.length (λ_=>True) (λk=>[.pptr [w.enc] 0 0,.acU k]) (by rw[O.fu];have:=Z.f2;omega) trivial rfl (λk g1 hd Y _ nx M=>?_) (λk g1 hd _ nx=>?_)
  all_goals refine vw ?_
  .have hx:(w.init.futures.map aa)[k]? =some [.acU w.init.futures[k]]:=aj (f:=aa) g1;have g2:k<w.init.sync.done.length:=by rw[O.dn,<-O.fu];exact g1
   have hy:(w.init.sync.done.map au)[k]? =some [.bool w.init.sync.done[k]]:=aj (f:=au) g2;have M:=M trivial;generalize w.init.futures[k]=x at *;generalize w.init.sync.done[k]=y at *;clear S E k1 k2 k3 hv G;rw[bj]at *
   repeat' (first|refine sy ?_|refine s2 ?_ ?_|intro)
   all_goals first
    |exact B _
    |exact M
  .clear B E k1 k2 k3 hv G;rw[dL]at S;rw[bj]at *
   repeat' (first|exact S _|refine sy ?_|refine s2 ?_ ?_|intro)
 clear S E;rw[dO,dL]at G;rw[dO]at hv;rw[bj]at *
 repeat' (first|exact lp2|refine sy ?_|refine s2 ?_ ?_|intro)
 all_goals exact B _
def U4:eT ⟨bK,0,bG bK,[]⟩:=by
 have j:=uX bK;refine⟨yT,dT.2 ⟨cH.2 ⟨j.lk,j.dn,j.th,λc D=>?_⟩,j.ce,j.fu,j.ct⟩,acR,λn u=>?_,λl B=>by have:=j.rd l B;omega,trivial,nofun,nofun⟩
 .rw[aag.1 D];rfl
 .have:n=0:=List.eq_of_mem_replicate u;omega
def XK{s:gO}{ev:List bA}{st:Int}(j:nS bK s 1)(u:∀x∈s.sync.threads,x.cond=0)(B:∀x∈s.count,0<=x/\x<=3)(D:ev.length<=16)(E:∀e∈ev,wO e):SE ⟨bK,st,s,ev⟩:=
 ⟨yT,dT.2 ⟨cH.2 ⟨j.lk,j.dn,j.th,λc u=>by rw[aag.1 u];rfl⟩,j.ce,j.fu,j.ct⟩,D,λn h=>by have:=B n h;omega,λl h=>by have:=j.rd l h;omega,u,E,aaq 0⟩
def II:List AV:=[.nils,.nils,.nils,.nils,.nils,.nils,.acU 0,.nils,.acU 0,.nils,.nils,.nils,.nils,.nils,.nils]
def GO(st:Int)(s:gO)(e:AV):List AV:=[.lst (bK.cells.map aU.enc),.lst (bK.locks.map bZ.enc),.lst (bK.conds.map cM.enc),.lst (bK.futures.map ay),.lst (bK.threads.map ay),.lst (bK.sites.map cF.enc),.acU st,.lst (s.sync.locks.map LockD.enc),.acU s.sync.tx,.lst (s.sync.done.map au),.lst (s.sync.threads.map ThrD.enc),.lst (s.cells.map aa),.lst (s.futures.map aa),.lst (s.count.map aa),e]
def V8(Q:R)(M:∀(w:aG) v L,Fz L v (.agg w.enc)->eT w->Q v L)(m:Nat)(hm:m<=16)(bt E G:Nat)(t:List UInt8)(a:Nat)(s:gO)(ht:t.length<2^63)(ha:a<=t.length)(hL:nS bK s 1)(hc:∀x∈s.sync.threads,x.cond=0)(hn:∀x∈s.count,0<=x/\x<=3)(L:SH)(hP:cO L [(E,⟨15,[GO 0 s .nils]⟩),(bt,az t a),(G,⟨15,[II]⟩)]):
  W.loop (AM Q) [.acU (m:Int),.ptr G 0 0,.ptr bt 0 0,.ptr E 0 0,.lst (s.count.map aa),.acU s.count.length,.acU 0] L:=by
 have hst:=o7 bK acR acR acR acR;have hwd:=La;have Z:=U2 bt t a m s ht ha hm hL;have hct:s.count.length=4:=hL.ct;refine aL s.count.length (λk (j:Int)=>([.acU (m:Int),.ptr G 0 0,.ptr bt 0 0,.ptr E 0 0,.lst (s.count.map aa),.acU s.count.length,.acU k],[(E,⟨15,[GO j s .nils]⟩),(bt,az t a),(G,⟨15,[II]⟩)])) (λ_ _=>True) 0 trivial (ax.pickE hP rfl rfl) ?_;intro k j hk _;dsimp only;refine vw ?_;clear hP;rw[dO,dL]at *;rcases Nat.lt_or_ge k s.count.length with D|D
 .have hd:=aS D;have hx:(s.count.map aa)[k]? =some [.acU s.count[k]]:=aj (f:=aa) D;have i1:IntKind.i64.wrap ((k:Int)+1)=((k+1:Nat):Int):=av D acN;generalize s.count[k]=c at *;clear M;unfold GO II
  repeat' (first|refine sy ?_|refine s2 ?_ ?_|intro)
  exact⟨k+1,_,acN,acN,trivial,ax.pickE (R:=[(E,_),(bt,_),(G,_)]) rp rfl rfl⟩
 .have hd:=aW D;have hm1:(if(0:Int) > (m:Int)then(0:Int)else(m:Int))=(m:Int):=if_neg acN;have hm2:(if(16:Int)<(m:Int)then(16:Int)else(m:Int))=(m:Int):=if_neg acN;have Y:∀(ev:List bA) L,eT ⟨bK,j,s,ev⟩->Q (.agg (GO j s (.lst (ev.map bA.enc)))) L:=λev L h=>M _ _ L (.refl _) h
  have S:∀L,Q (.agg (GO 0 (bG bK) .nils)) L:=λL=>M ⟨bK,0,bG bK,[]⟩ _ L (Fz.aggs (.cons (.refl _) (.cons (.refl _) (.cons (.refl _) (.cons (.refl _) (.cons (.refl _) (.cons (.refl _) (.cons (.refl _) (.cons (.refl _) (.cons (.refl _) (.cons (.refl _) (.cons (.refl _) (.cons (.refl _) (.cons (.refl _) (.cons (.refl _) (.cons .nils .nil)))))))))))))))) U4
  clear M;unfold GO at *;unfold II;generalize bG bK=s0 at *
  repeat' (first|refine sy ?_|rw[Qx,hm1]|rw[NC,hm2]|((with_reducible refine aN 61 ?_);(refine cQ Z rp ?_;rintro _ _ ⟨ev_,rfl,B,u,rfl⟩;simp only[abK]))|((with_reducible refine aN 62 ?_);(obtain⟨b_,O,N⟩:=MZ ⟨bK,j,s,ev_⟩ (XK hL hc hn (abe B hm) u);refine jC O ?_;cases b_))|refine s2 ?_ ?_|intro)
  .exact S _
  .exact Y _ _ (N rfl)
def PT(t:List UInt8)(m:Nat)(Z:m<=16):ac Tryz.prog 38 [.lst (t.map aY),.acU (m:Int)] [] λv L=>∃w:aG,v=.agg w.enc/\L=[]/\eT w:=by
 have hst:=o7 bK acR acR acR acR;refine ac.fz (AN _ _ _ _ ?_);refine vw ?_;generalize hQ:(λ(v:AV) (L:SH)=>∃O L2,ax [v] L [O] L2/\∃w:aG,O=.agg w.enc/\L2=[]/\eT w)=Q;have Y:∀(w:aG) v L,Fz L v (.agg w.enc)->eT w->Q v L:=λw v L h1 h2=>by subst hQ;exact⟨_,[],ax.all h1,w,rfl,rfl,h2⟩
 clear hQ;have hwd:=La;rw[dO]at *;by_cases h400:400<t.length
 .have hd:decide ((400:Int)<(t.length:Int))=true:=decide_eq_true acN;have j:(t.take 400).length<2^63:=by simp;omega
  have M:∀(K:AV->Prop) (L:SH),K (.lst ((t.take 400).map aY))->W.slice 1 (.lst (t.map aY)) none (some (.acU 400)) none L K:=λK L hK=>by
   refine ip (l:=0) (h:=400) (by simp[cE,gQ]) (by simp[cE,gQ]) acN acS (λr S=>?_) (by simpa[<-List.map_take]using hK);cases t with
   |nil=>cases S
   |cons x _=>cases S;rfl
  repeat' (first|refine sy ?_|refine M _ _ ?_|((with_reducible refine aN 60 ?_);(refine cQ (xq _ (t.take 400) 0 j (abt _)) rp ?_;rintro _ _ ⟨G,N,rfl,E,B,u,D,rfl⟩;simp only[abX,abK,dL]))|refine aO rp acP acP acP acP (by simp[aR]) ?_|refine s2 ?_ ?_|intro)
  refine V8 Q Y m Z _ _ _ (t.take 400) N G j D E B u _ ?_;exact rp
 .have hd:decide ((400:Int)<(t.length:Int))=false:=decide_eq_false acN;have j:t.length<2^63:=by omega
  repeat' (first|refine sy ?_|((with_reducible refine aN 60 ?_);(refine cQ (xq _ t 0 j (abt _)) rp ?_;rintro _ _ ⟨G,N,rfl,E,B,u,D,rfl⟩;simp only[abX,abK,dL]))|refine aO rp acP acP acP acP (by simp[aR]) ?_|refine s2 ?_ ?_|intro)
  refine V8 Q Y m Z _ _ _ t N G j D E B u _ ?_;exact rp
