/- part -/
import Derived.Test.YtfckbjehkbhkgaaGreatQwG
set_option linter.all false
set_option maxRecDepth 100000
set_option maxHeartbeats 0
namespace Go.Proofs.YtfckbjehkbhkgaaGreat.Am
structure SE(w:aG):Prop where
 world:oK w.w
 fit:nB w.w w.init=true
 len:w.ev.length<=16
 cnt:∀n∈w.init.count,0<=n/\n<=400
 rd:∀l∈w.init.sync.locks,l.readers.length<=400
 cnd:∀t∈w.init.sync.threads,t.cond=0
 evs:∀e∈w.ev,wO e
 nc:0<w.w.conds.length
def IH{s:gO}{n:Int}(j:0<=n)(H:∀x∈s.count,0<=x/\x<=n)(t:Int):0<=aT s t/\aT s t<=n:=by
 unfold aT;rcases LE t.toNat s.count.length with g|g
 .simp only[List.getD,mt g,abS];exact H _ (LT g)
 .simp[List.getD,aah g,j]
def PQ{w:aF}{s:gO}{e:bA}{n:Int}(u:0<=n)(D:n<100000)(H:∀x∈s.count,0<=x/\x<=n):∀x∈(gW w s e).count,0<=x/\x<=n+1:=λx j=>by
 have B:=IH u H e.thread;rcases aca j with h|h
 .have:=H x h;omega
 .rw[h,H9 acN acN];omega
def GN{w:aF}:∀(l:List bA) {s:gO} {n:Int},0<=n->n+l.length<100000->(∀x∈s.count,0<=x/\x<=n)->∀x∈(cf w s l).count,0<=x/\x<=n+l.length
 |[],s,n,h0,h9,H=>by simpa[cf]using H
 | e::l,s,n,h0,h9,H=>by have:=GN l (w:=w) (s:=gW w s e) (n:=n+1) acN (by simp at h9;omega) (PQ h0 acN H);rw[abi,show n+((l.length+1:Nat):Int)=n+1+(l.length:Int) by omega];exact this
structure SF(w:aG)(k:Nat):Prop where
 play:jQ w.w w.init (w.ev.take k)
 rds:∀(j:Nat) (hj:j<w.ev.length),j<k->∀d,d∈w.ev[j].deps\/d∈w.ev[j].frm->SD w w.ev[j].thread d
def SG{w:aG}{k:Nat}(D:k<w.ev.length)(H:SF w k)(B:H7 w.w (cf w.w w.init (w.ev.take k)) w.ev[k]=true)(M:∀d∈w.ev[k].deps,SD w w.ev[k].thread d)(h2:∀d∈w.ev[k].frm,SD w w.ev[k].thread d):SF w (k+1):=by
 refine⟨?_,λj G E d u=>?_⟩
 .rw[Fn D,jd];exact⟨H.play,B,trivial⟩
 .rcases LE j k with g|g
  .exact H.rds j G g d u
  .obtain rfl:j=k:=by omega
   rcases u with u|u
   .exact M d u
   .exact h2 d u
def Ld{w:aG}(H:SE w):nS w.w w.init 400:=by have j:=dT.1 H.fit;have u:=cH.1 j.1;exact⟨u.locks,u.done,u.threads,j.2.1,j.2.2.1,j.2.2.2,H.rd⟩
def SI{w:aG}(H:SE w){k:Nat}(D:k<w.ev.length)(E:SF w k):aq Tryz.prog 58 [.agg w.w.enc,.agg (cf w.w w.init (w.ev.take k)).enc,.agg w.ev[k].enc] (yW (px w.w (cf w.w w.init (w.ev.take k)) w.ev[k])):=by have u:=nT (w.ev.take k) (Ld H) E.play;have G:=H.len;have j:=H.world;have B:=H.evs _ (LT D);exact nR w.w _ _ (rE j acS u) (by have:=B.1;omega) (by have:=B.2;omega) (by rw[u.ce];have:=j.c12;omega) (by rw[u.fu];have:=j.f2;omega) (by rw[u.ct];have:=j.t4;omega)
def PR{w:aG}(H:SE w){k:Nat}(N:k<w.ev.length)(Z:SF w k)(G:H7 w.w (cf w.w w.init (w.ev.take k)) w.ev[k]=true):
  Lb 99 [.agg w.enc,.acU w.ev[k].thread,.lst (w.ev[k].deps.map aa)] (∀d∈w.ev[k].deps,SD w w.ev[k].thread d)/\Lb 99 [.agg w.enc,.acU w.ev[k].thread,.lst (w.ev[k].frm.map aa)] (∀d∈w.ev[k].frm,SD w w.ev[k].thread d):=by
 have Y:=H.len;have D:=H.evs _ (LT N);have u:=hM.1 G;have j:=u.thr;rw[<-(dT.1 H.fit).2.2.2]at j;have E:=IH (s:=w.init) (n:=400) acN H.cnt w.ev[k].thread;have S:=IH (s:=cf w.w w.init (w.ev.take k)) (n:=400+(w.ev.take k).length) acN (GN (w.ev.take k) acN acS H.cnt) w.ev[k].thread;have M:(w.ev.take k).length<=16:=by simp;omega
 have B:∀l,qN l (aT (cf w.w w.init (w.ev.take k)) w.ev[k].thread)->∀d∈l,d<9223372036854775808:=λl h d O=>by obtain⟨i,hi,rfl⟩:=abC O;have:=(h i hi).2.1;omega
 exact⟨DU w _ _ acN j E.1 (B _ u.nd) (by have:=D.1;omega),DU w _ _ acN j E.1 (B _ u.nf) (by have:=D.2;omega)⟩
def MZ(w:aG)(H:SE w):Lb 62 [.agg w.enc] (eT w):=by
 have hv:=yB w.w;rw[iG H.world]at hv;have O:=Ld H;have Z:=H.world;have G:=KT w.w w.init (by have:=Z.d2;omega);rw[H.fit]at G;obtain⟨b1,k1,_⟩:=Lc w (by rw[O.ct];have:=Z.t4;omega);obtain⟨b2,k2,_⟩:=FO w (by rw[O.ct,O.th];omega) (by rw[O.th];have:=Z.t4;omega);obtain⟨b3,k3,_⟩:=IG w H.fit (by rw[O.ct];have:=Z.t4;omega) (by rw[O.lk];have:=Z.l4;omega) (by rw[O.th];have:=Z.t4;omega) H.rd H.cnd H.nc;refine SC ?_ (aA w.pure dS);refine ac.fz (Cu _ _ _ ?_);refine vw ?_;generalize hQ:(λ(v:AV) (L:SH)=>∃v2 L2,ax [v] L [v2] L2/\∃b:Bool,v2=.bool b/\L2=[]/\(b=true->eT w))=Q;have B:∀L,Q (.bool false) L:=λL=>by subst hQ;exact⟨_,[],ax.all (.refl _),false,rfl,rfl,nofun⟩
 have E:eT w->∀L,Q (.bool true) L:=λh L=>by subst hQ;exact⟨_,[],ax.all (.refl _),true,rfl,rfl,λ_=>h⟩
 clear hQ;have hl:=H.len;have d16:decide ((16:Int)<(w.ev.length:Int))=false:=decide_eq_false acN;have S:∀nb:Nat,W.loop (Cs Q) [.pptr [w.enc] 0 0,.ptr nb 0 0,.acU (0:Nat)] [(nb,⟨7,[w.init.enc]⟩)]:=by
  intro nb;refine JT w.ev.length (SF w) (λk=>([.pptr [w.enc] 0 0,.ptr nb 0 0,.acU k],[(nb,⟨7,[(cf w.w w.init (w.ev.take k)).enc]⟩)])) acN ⟨trivial,λj _ h=>absurd h acN⟩ rfl rfl (λk Y hd hkk N nx M=>?_) (λk Y hd N nx=>?_)
  all_goals refine vw ?_
  .have hx:=aj (f:=bA.enc) Y;have u:=SI H Y N;have hrd:=PR H Y N;have D:=SG Y N;have hsn:cf w.w w.init (w.ev.take (k+1))=gW w.w (cf w.w w.init (w.ev.take k)) w.ev[k]:=by rw[Fn Y,i9]
   rw[hsn]at M;clear E hsn k1 k2 k3 hv G;unfold px at u;cases ho:H7 w.w (cf w.w w.init (w.ev.take k)) w.ev[k]with
   |false=>
    rw[ho,if_neg acR]at u;clear M D hrd N;generalize w.ev[k]=e at *;generalize cf w.w w.init (w.ev.take k)=s at *;rw[eH]at hx u;unfold yW gO.zero at u;dsimp only at u;rw[dO,dL,dL]at u;rw[dL,bj]
    repeat' (first|refine sy ?_|refine s2 ?_ ?_|intro)
    exact B _
   |true=>
    rw[ho,if_pos rfl]at u;obtain⟨⟨c1,r1,i1⟩,⟨c2,r2,i2⟩⟩:=hrd ho;have D:=D ho;cases c1 with
    |false=>
     clear M D N;generalize gW w.w (cf w.w w.init (w.ev.take k)) w.ev[k]=s2 at *;generalize w.ev[k]=e at *;generalize cf w.w w.init (w.ev.take k)=s at *;rw[eH]at hx u;unfold yW at u;dsimp only at u;rw[dO,dL,dL]at u;rw[bj]at *;rw[dL]
     repeat' (first|refine sy ?_|refine s2 ?_ ?_|intro)
     exact B _
    |true=>
     cases c2 with
     |false=>
      clear M D N;generalize gW w.w (cf w.w w.init (w.ev.take k)) w.ev[k]=s2 at *;generalize w.ev[k]=e at *;generalize cf w.w w.init (w.ev.take k)=s at *;rw[eH]at hx u;unfold yW at u;dsimp only at u;rw[dO,dL,dL]at u;rw[bj]at *;rw[dL]
      repeat' (first|refine sy ?_|refine s2 ?_ ?_|intro)
      exact B _
     |true=>
      have M:=M (D (i1 rfl) (i2 rfl));clear D i1 i2 N;generalize gW w.w (cf w.w w.init (w.ev.take k)) w.ev[k]=s2 at *;generalize w.ev[k]=e at *;generalize cf w.w w.init (w.ev.take k)=s at *;rw[eH]at hx u;unfold yW at u;dsimp only at u;rw[dO,dL,dL]at u;rw[bj]at *;rw[dL]at *
      repeat' (first|refine sy ?_|refine s2 ?_ ?_|intro)
      exact M _ _ (ax.pickE rp rfl rfl)
  .have hz:=E ⟨H.world,H.fit,acN,H.cnt,H.rd,by
     have hp:=N.play;rw[Y,aaT (Fd _)]at hp;exact hp,H.evs,λj hj d hd=>N.rds j hj acN d hd⟩
   clear B E k1 k2 k3 hv G;generalize cf w.w w.init (w.ev.take k)=s at *;rw[bj,dL]
   repeat' (first|refine sy ?_|refine s2 ?_ ?_|intro)
   exact hz _
 have lp2:W.loop (Ct Q) [.pptr [w.enc] 0 0,.acU (0:Nat)] []:=by
  refine cT w.init.futures.length (λ_=>True) (λk=>[.pptr [w.enc] 0 0,.acU k]) (by rw[O.fu];have:=Z.f2;omega) trivial rfl (λk g1 hd Y _ nx M=>?_) (λk g1 hd _ nx=>?_)
  all_goals refine vw ?_
  .have hx:(w.init.futures.map aa)[k]? =some [.acU w.init.futures[k]]:=aj (f:=aa) g1;have g2:k<w.init.sync.done.length:=by rw[O.dn,<-O.fu];exact g1
   have hy:(w.init.sync.done.map au)[k]? =some [.bool w.init.sync.done[k]]:=aj (f:=au) g2;have M:=M trivial;generalize w.init.futures[k]=x at *;generalize w.init.sync.done[k]=y at *;clear S E k1 k2 k3 hv G;rw[bj]at *
   repeat' (first|refine sy ?_|refine s2 ?_ ?_|intro)
   all_goals first
    |exact B _
    |exact M
  .clear B E k1 k2 k3 hv G;rw[dL]at S;rw[bj]at *
   repeat' (first|exact S _|refine sy ?_|refine s2 ?_ ?_|intro)
 clear S E;rw[dO,dL]at G;rw[dO]at hv;rw[bj]at *
 repeat' (first|exact lp2|refine sy ?_|refine s2 ?_ ?_|intro)
 all_goals exact B _
def U4:eT ⟨bK,0,bG bK,[]⟩:=by
 have j:=uX bK;refine⟨yT,dT.2 ⟨cH.2 ⟨j.lk,j.dn,j.th,λc D=>?_⟩,j.ce,j.fu,j.ct⟩,acR,λn u=>?_,λl B=>by have:=j.rd l B;omega,trivial,nofun,nofun⟩
 .rw[aag.1 D];rfl
 .have:n=0:=List.eq_of_mem_replicate u;omega
def XK{s:gO}{ev:List bA}{st:Int}(j:nS bK s 1)(u:∀x∈s.sync.threads,x.cond=0)(B:∀x∈s.count,0<=x/\x<=3)(D:ev.length<=16)(E:∀e∈ev,wO e):SE ⟨bK,st,s,ev⟩:=
 ⟨yT,dT.2 ⟨cH.2 ⟨j.lk,j.dn,j.th,λc u=>by rw[aag.1 u];rfl⟩,j.ce,j.fu,j.ct⟩,D,λn h=>by have:=B n h;omega,λl h=>by have:=j.rd l h;omega,u,E,aaq 0⟩
def II:List AV:=[.nils,.nils,.nils,.nils,.nils,.nils,.acU 0,.nils,.acU 0,.nils,.nils,.nils,.nils,.nils,.nils]
def GO(st:Int)(s:gO)(e:AV):List AV:=[.lst (bK.cells.map aU.enc),.lst (bK.locks.map bZ.enc),.lst (bK.conds.map cM.enc),.lst (bK.futures.map ay),.lst (bK.threads.map ay),.lst (bK.sites.map cF.enc),.acU st,.lst (s.sync.locks.map LockD.enc),.acU s.sync.tx,.lst (s.sync.done.map au),.lst (s.sync.threads.map ThrD.enc),.lst (s.cells.map aa),.lst (s.futures.map aa),.lst (s.count.map aa),e]
def V8(Q:R)(M:∀(w:aG) v L,Fz L v (.agg w.enc)->eT w->Q v L)(m:Nat)(hm:m<=16)(bt E G:Nat)(t:List UInt8)(a:Nat)(s:gO)(ht:t.length<2^63)(ha:a<=t.length)(hL:nS bK s 1)(hc:∀x∈s.sync.threads,x.cond=0)(hn:∀x∈s.count,0<=x/\x<=3)(L:SH)(hP:cO L [(E,⟨15,[GO 0 s .nils]⟩),(bt,az t a),(G,⟨15,[II]⟩)]):
  W.loop (AM Q) [.acU (m:Int),.ptr G 0 0,.ptr bt 0 0,.ptr E 0 0,.lst (s.count.map aa),.acU s.count.length,.acU 0] L:=by
 have hst:=o7 bK acR acR acR acR;have hwd:=La;have Z:=U2 bt t a m s ht ha hm hL;have hct:s.count.length=4:=hL.ct;refine aL s.count.length (λk (j:Int)=>([.acU (m:Int),.ptr G 0 0,.ptr bt 0 0,.ptr E 0 0,.lst (s.count.map aa),.acU s.count.length,.acU k],[(E,⟨15,[GO j s .nils]⟩),(bt,az t a),(G,⟨15,[II]⟩)])) (λ_ _=>True) 0 trivial (ax.pickE hP rfl rfl) ?_;intro k j hk _;dsimp only;refine vw ?_;clear hP;rw[dO,dL]at *;rcases Nat.lt_or_ge k s.count.length with D|D
 .have hd:=aS D;have hx:(s.count.map aa)[k]? =some [.acU s.count[k]]:=aj (f:=aa) D;have i1:IntKind.i64.wrap ((k:Int)+1)=((k+1:Nat):Int):=av D acN;generalize s.count[k]=c at *;clear M;unfold GO II
  repeat' (first|refine sy ?_|refine s2 ?_ ?_|intro)
  exact⟨k+1,_,acN,acN,trivial,ax.pickE (R:=[(E,_),(bt,_),(G,_)]) rp rfl rfl⟩
 .have hd:=aW D;have hm1:(if(0:Int) > (m:Int)then(0:Int)else(m:Int))=(m:Int):=if_neg acN;have hm2:(if(16:Int)<(m:Int)then(16:Int)else(m:Int))=(m:Int):=if_neg acN;have Y:∀(ev:List bA) L,eT ⟨bK,j,s,ev⟩->Q (.agg (GO j s (.lst (ev.map bA.enc)))) L:=λev L h=>M _ _ L (.refl _) h
  have S:∀L,Q (.agg (GO 0 (bG bK) .nils)) L:=λL=>M ⟨bK,0,bG bK,[]⟩ _ L (Fz.aggs (.cons (.refl _) (.cons (.refl _) (.cons (.refl _) (.cons (.refl _) (.cons (.refl _) (.cons (.refl _) (.cons (.refl _) (.cons (.refl _) (.cons (.refl _) (.cons (.refl _) (.cons (.refl _) (.cons (.refl _) (.cons (.refl _) (.cons (.refl _) (.cons .nils .nil)))))))))))))))) U4
  clear M;unfold GO at *;unfold II;generalize bG bK=s0 at *
  repeat' (first|refine sy ?_|rw[Qx,hm1]|rw[NC,hm2]|((with_reducible refine aN 61 ?_);(refine cQ Z rp ?_;rintro _ _ ⟨ev_,rfl,B,u,rfl⟩;simp only[abK]))|((with_reducible refine aN 62 ?_);(obtain⟨b_,O,N⟩:=MZ ⟨bK,j,s,ev_⟩ (XK hL hc hn (abe B hm) u);refine jC O ?_;cases b_))|refine s2 ?_ ?_|intro)
  .exact S _
  .exact Y _ _ (N rfl)
def PT(t:List UInt8)(m:Nat)(Z:m<=16):ac Tryz.prog 38 [.lst (t.map aY),.acU (m:Int)] [] λv L=>∃w:aG,v=.agg w.enc/\L=[]/\eT w:=by
 have hst:=o7 bK acR acR acR acR;refine ac.fz (AN _ _ _ _ ?_);refine vw ?_;generalize hQ:(λ(v:AV) (L:SH)=>∃O L2,ax [v] L [O] L2/\∃w:aG,O=.agg w.enc/\L2=[]/\eT w)=Q;have Y:∀(w:aG) v L,Fz L v (.agg w.enc)->eT w->Q v L:=λw v L h1 h2=>by subst hQ;exact⟨_,[],ax.all h1,w,rfl,rfl,h2⟩
 clear hQ;have hwd:=La;rw[dO]at *;by_cases h400:400<t.length
 .have hd:decide ((400:Int)<(t.length:Int))=true:=decide_eq_true acN;have j:(t.take 400).length<2^63:=by simp;omega
  have M:∀(K:AV->Prop) (L:SH),K (.lst ((t.take 400).map aY))->W.slice 1 (.lst (t.map aY)) none (some (.acU 400)) none L K:=λK L hK=>by
   refine ip (l:=0) (h:=400) (by simp[cE,gQ]) (by simp[cE,gQ]) acN acS (λr S=>?_) (by simpa[<-List.map_take]using hK);cases t with
   |nil=>cases S
   |cons x _=>cases S;rfl
  repeat' (first|refine sy ?_|refine M _ _ ?_|((with_reducible refine aN 60 ?_);(refine cQ (xq _ (t.take 400) 0 j (abt _)) rp ?_;rintro _ _ ⟨G,N,rfl,E,B,u,D,rfl⟩;simp only[abX,abK,dL]))|refine aO rp acP acP acP acP (by simp[aR]) ?_|refine s2 ?_ ?_|intro)
  refine V8 Q Y m Z _ _ _ (t.take 400) N G j D E B u _ ?_;exact rp
 .have hd:decide ((400:Int)<(t.length:Int))=false:=decide_eq_false acN;have j:t.length<2^63:=by omega
  repeat' (first|refine sy ?_|((with_reducible refine aN 60 ?_);(refine cQ (xq _ t 0 j (abt _)) rp ?_;rintro _ _ ⟨G,N,rfl,E,B,u,D,rfl⟩;simp only[abX,abK,dL]))|refine aO rp acP acP acP acP (by simp[aR]) ?_|refine s2 ?_ ?_|intro)
  refine V8 Q Y m Z _ _ _ t N G j D E B u _ ?_;exact rp
def rG:RF:=nv (bQ Tryz.prog Tryz.f158 [(6,⟨[0,1,5],[],true,[]⟩)] [])
abbrev DV(a b:AV)(L:SH)(Q:R):Prop:=Pc rG 20 Q 0 [] [a,b] L
def pF(u j:AV)(L:SH)(Q:R)(h:DV u j L Q):ac Tryz.prog 158 [u,j] L Q:=
 fv rG Tryz.func158 h
def rH:RF:=nv (bQ Tryz.prog Tryz.f203 [(6,⟨[1,2,5],[],true,[]⟩)] [(0,[2])])
abbrev DW(a b:AV)(L:SH)(Q:R):Prop:=Pc rH 20 Q 0 [] [a,b] L
def AO(u j:AV)(L:SH)(Q:R)(h:DW u j L Q):ac Tryz.prog 203 [u,j] L Q:=
 fv rH Tryz.func203 h
def uf:RF:=nv (bQ Tryz.prog Tryz.f159 [(6,⟨[0,1,2,3,10],[],true,[]⟩)] [])
abbrev FP(a b c d:AV)(L:SH)(Q:R):Prop:=Pc uf 20 Q 0 [] [a,b,c,d] L
def DX(D B u j:AV)(L:SH)(Q:R)(h:FP D B u j L Q):ac Tryz.prog 159 [D,B,u,j] L Q:=
 fv uf Tryz.func159 h
def fQ:RF:=nv (bQ Tryz.prog Tryz.f124 [(42,⟨[1,2,3,6,7,8],[18],false,[]⟩),(60055,⟨[1,2,3,6,7,31,65],[18],false,[]⟩),(42037,⟨[1,2,3,6,7,31,39],[18],false,[]⟩),(2402,⟨[1,2,3,6],[18],false,[]⟩),(7502,⟨[1,2,3,9],[69],false,[]⟩),(69,⟨[1,2,3,9],[],true,[]⟩),(18,⟨[1,2,3,6],[],true,[]⟩)] [(0,[1]),(8,[7])])
abbrev DY(a:Kn):Vs->SH->Kn->Prop:=Lp fQ 16 q0 42 [a]
abbrev DZ(a:Kn)(b:SH)(c d e f:AV):Prop:=Pc fQ 18 q0 2402 [a] [c,e,f,d] b
abbrev D0(a:Kn)(b:SH)(c d e f:AV):Prop:=Pc fQ 17 q0 7502 [a] [d,f,c,e] b
abbrev D3(Q:R):Vs->SH->Kn->Prop:=Lp fQ 18 Q 69 []
abbrev FQ(a:AV)(L:SH)(Q:R):Prop:=Pc fQ 20 Q 0 [] [a] L
def D4(j:AV)(L:SH)(Q:R)(h:FQ j L Q):ac Tryz.prog 124 [j] L Q:=
 fv fQ Tryz.func124 h
def pG:RF:=nv (bQ Tryz.prog Tryz.f126 [] [])
abbrev AP(a b:AV)(L:SH)(Q:R):Prop:=Pc pG 20 Q 0 [] [a,b] L
def yZ(u j:AV)(L:SH)(Q:R)(h:AP u j L Q):ac Tryz.prog 126 [u,j] L Q:=
 fv pG Tryz.func126 h
def lZ:RF:=nv (bQ Tryz.prog Tryz.f186 [] [(0,[4])])
abbrev xr(a b c:AV)(L:SH)(Q:R):Prop:=Pc lZ 20 Q 0 [] [a,b,c] L
def uZ(B u j:AV)(L:SH)(Q:R)(h:xr B u j L Q):ac Tryz.prog 186 [B,u,j] L Q:=
 fv lZ Tryz.func186 h
def lg:RF:=nv (bQ Tryz.prog Tryz.f182 [] [(0,[3])])
abbrev u3(a b:AV)(L:SH)(Q:R):Prop:=Pc lg 20 Q 0 [] [a,b] L
def sV(u j:AV)(L:SH)(Q:R)(h:u3 u j L Q):ac Tryz.prog 182 [u,j] L Q:=
 fv lg Tryz.func182 h
def jy:RF:=nv (bQ Tryz.prog Tryz.f183 [] [(0,[3])])
abbrev rI(a b:AV)(L:SH)(Q:R):Prop:=Pc jy 20 Q 0 [] [a,b] L
def pU(u j:AV)(L:SH)(Q:R)(h:rI u j L Q):ac Tryz.prog 183 [u,j] L Q:=
 fv jy Tryz.func183 h
def lh:RF:=nv (bQ Tryz.prog Tryz.f184 [] [(0,[6])])
abbrev u5(a b c d e:AV)(L:SH)(Q:R):Prop:=Pc lh 20 Q 0 [] [a,b,c,d,e] L
def sW(E D B u j:AV)(L:SH)(Q:R)(h:u5 E D B u j L Q):ac Tryz.prog 184 [E,D,B,u,j] L Q:=
 fv lh Tryz.func184 h
def nU:RF:=nv (bQ Tryz.prog Tryz.f185 [(6,⟨[0,1,5],[],true,[]⟩)] [])
abbrev y7(a b:AV)(L:SH)(Q:R):Prop:=Pc nU 20 Q 0 [] [a,b] L
def xu(u j:AV)(L:SH)(Q:R)(h:y7 u j L Q):ac Tryz.prog 185 [u,j] L Q:=
 fv nU Tryz.func185 h
def nV:RF:=nv (bQ Tryz.prog Tryz.f160 [(30025,⟨[0,3,4,25,31],[],true,[]⟩)] [(0,[3])])
abbrev y8(a b:AV)(L:SH)(Q:R):Prop:=Pc nV 20 Q 0 [] [a,b] L
def xx(u j:AV)(L:SH)(Q:R)(h:y8 u j L Q):ac Tryz.prog 160 [u,j] L Q:=
 fv nV Tryz.func160 h
def l5:RF:=nv (bQ Tryz.prog Tryz.f125 [(3,⟨[0,1,4],[],true,[]⟩)] [])
abbrev xy(a b:AV)(L:SH)(Q:R):Prop:=Pc l5 20 Q 0 [] [a,b] L
def u6(u j:AV)(L:SH)(Q:R)(h:xy u j L Q):ac Tryz.prog 125 [u,j] L Q:=
 fv l5 Tryz.func125 h
def eM:RF:=nv (bQ Tryz.prog Tryz.f104 [(60,⟨[1,2,7,8,9,10,11,12,13,14],[48],false,[]⟩),(6902,⟨[1,2,7,8,9,11],[21],false,[]⟩),(48,⟨[1,2,7,8,9,10,11,12],[21],false,[]⟩),(2702,⟨[1,2,7,8,9],[21],false,[]⟩),(21,⟨[1,2,7,8,9],[],true,[]⟩)] [(0,[1])])
abbrev y9(a:Kn):Vs->SH->Kn->Prop:=Lp eM 16 q0 60 [a]
abbrev zb(a:Kn)(b:SH)(c d e f g h:AV):Prop:=Pc eM 16 q0 6902 [a] [f,g,c,h,e,d] b
abbrev zc(a:Kn):Vs->SH->Kn->Prop:=Lp eM 17 q0 48 [a]
abbrev zd(a:Kn)(b:SH)(c d e f g:AV):Prop:=Pc eM 18 q0 2702 [a] [d,g,c,f,e] b
abbrev AQ(a:AV)(L:SH)(Q:R):Prop:=Pc eM 20 Q 0 [] [a] L
def ze(j:AV)(L:SH)(Q:R)(h:AQ j L Q):ac Tryz.prog 104 [j] L Q:=
 fv eM Tryz.func104 h
def P1(l:List bZ)(s:bU)(E:l.length<2^62):aq Tryz.prog 158 [.lst (l.map bZ.enc),.str s] (.acU (iE l s)):=by
 refine pF _ _ _ _ ?_;refine vw ?_;refine eO l (λx=>decide (x.name=s)) (λi=>[.lst (l.map bZ.enc),.str s,.acU i]) E rfl (λi u G N j B D=>?_) (λi u G j B=>?_)
 all_goals refine vw ?_
 .have M:=aj (f:=bZ.enc) u
  repeat' (first|refine sy ?_|refine s2 (λh=>?_) λh=>?_|intro)
  .exact⟨by rw[iE,mR u j h],rfl⟩
  .exact D h
 .repeat' (first|refine sy ?_|refine s2 ?_ ?_|intro)
  exact⟨by rw[iE,gz j],rfl⟩
def GS(w:aF)(s:bU)(E:w.cells.length<2^62):aq Tryz.prog 203 [.agg w.enc,.str s] (.acU (wE w.cells s)):=by
 refine AO _ _ _ _ ?_;refine vw ?_;refine BN ?_;refine eO w.cells (λx=>decide (x.name=s)) (λi=>[.str s,.pptr [w.enc] 0 0,.acU i]) E rfl (λi u G N j B D=>?_) (λi u G j B=>?_)
 all_goals refine vw ?_
 .have M:=aj (f:=aU.enc) u
  repeat' (first|refine sy ?_|refine s2 (λh=>?_) λh=>?_|intro)
  .exact⟨by rw[wE,mR u j h],rfl⟩
  .exact D h
 .repeat' (first|refine sy ?_|refine s2 ?_ ?_|intro)
  exact⟨by rw[wE,gz j],rfl⟩
section
def iM(w:aF)(loc:List bU)(v:AV)(site next:Int):Blk:=⟨10,[[.lst (w.cells.map aU.enc),.lst (w.locks.map bZ.enc),.lst (w.conds.map cM.enc),.lst (w.futures.map ay),.lst (w.threads.map ay),.lst (w.sites.map cF.enc),.lst (loc.map ay),v,.acU site,.acU next]]⟩
def cb.at_(i:cb)(s:Int):cb:={i with site:=s}
theorem XU(bg:Nat)(w:aF)(loc:List bU)(o:Option Nat)(out:List cb)(site next:Int)(i:cb)(M:o=none->out=[])(N:out.length<2^30):
  ac Tryz.prog 126 [.ptr bg 0 0,.agg i.enc] ((bg,iM w loc (af o out.length) site next)::ab o 6 (out.map cb.enc)) λu K=>∃(v:AV) (b:Nat),u=v/\v=.tup []/\K=(bg,iM w loc (af (some b) (out.length+1)) site next)::ab (some b) 6 ((out++[i.at_ site]).map cb.enc):=by
 refine ac.fz (yZ _ _ _ _ ?_);refine vw ?_;generalize E:(λ(v:AV) (L:SH)=>∃D L2,ax [v] L [D] L2/\∃(v:AV) (b:Nat),D=v/\v=AV.tup []/\L2=(bg,iM w loc (af (some b) (out.length+1)) site next)::ab (some b) 6 ((out++[i.at_ site]).map cb.enc))=Q;have G:∀(b:Nat) (L:SH),cO L ((bg,iM w loc (af (some b) (out.length+1)) site next)::ab (some b) 6 (out.map cb.enc++[(i.at_ site).enc]))->Q (.tup []) L:=λb L h=>by subst E;refine⟨_,_,ax.pickE h rfl (R2:=(bg,iM w loc (af (some b) (out.length+1)) site next)::ab (some b) 6 ((out++[i.at_ site]).map cb.enc)) (by rw[ST];rfl),_,b,rfl,rfl,rfl⟩
 clear E;unfold iM at *
 repeat' (first|refine sx ?_|refine aM rp rp acQ (λe=>by first|simp[M e]) acP acQ acS acS acP (λj B=>?_)|refine sb λj B=>?_|refine s2 ?_ ?_|intro)
 cases i;exact G j _ (.one (.there _ (.there _ (.there _ (.here _)))) (.one (.here _) (.nil _)))
section
variable {bg:Nat} {w:aF} {loc:List bU} {o:Option Nat} {out:List cb} {site next:Int} {L L1 L2:SH}
theorem XV{i:cb}{KL:R}(B:dF bg (iM w loc (af o out.length) site next) L L1)(h2:eG o 6 (out.map cb.enc) L1 L2)(D:o=none->out=[])(u:out.length<2^30)
  (j:∀b:Nat,KL (.tup []) ((bg,iM w loc (af (some b) (out++[i.at_ site]).length) site next)::(L2++ab (some b) 6 ((out++[i.at_ site]).map cb.enc)))):W.callM Tryz.prog 126 [.ptr bg 0 0,.agg i.enc] L KL:=by
 refine oW (M:=L2) (XU bg w loc o out site next i D u) (B.perm.trans (h2.perm.cons _)) ?_;rintro _ _ ⟨v,b,rfl,rfl,rfl⟩;refine⟨_,.cons _ aar,?_⟩;have:=j b;rw[aal]at this;exact this
end
end
section
theorem an{P:Prop}(h:P:=by first|assumption|exact nofun|fail):P:=h
theorem om{P:Prop}(h:P:=by omega):P:=h
def nX(f:FuncId)(args:List AV)(w:aF)(loc:List bU)(k:Nat):Prop:=∀(bg:Nat) (o:Option Nat) (out:List cb) (site next:Int),(o=none->out=[])->out.length+k<2^30->
 ac Tryz.prog f (.ptr bg 0 0::args) ((bg,iM w loc (af o out.length) site next)::ab o 6 (out.map cb.enc)) λu K=>∃(o':Option Nat) (out':List cb) (site' next':Int),u=.tup []/\(o'=none->out'=[])/\out.length<=out'.length/\out'.length<=out.length+k/\K=(bg,iM w loc (af o' out'.length) site' next')::ab o' 6 (out'.map cb.enc)
section
variable {f:FuncId} {args:List AV} {w:aF} {loc:List bU} {k m bg:Nat} {o:Option Nat} {out:List cb} {site next:Int} {L L1 L2:SH} {KL:R}
theorem eF(h:nX f args w loc k)(h1:dF bg (iM w loc (af o m) site next) L L1)(h2:eG o 6 (out.map cb.enc) L1 L2)(O:m=out.length)(h0:o=none->out=[])(S:out.length+k<2^30)
  (N:∀(D:Option Nat) (j:List cb) (u B:Int),(D=none->j=[])->out.length<=j.length->j.length<=out.length+k->KL (.tup []) ((bg,iM w loc (af D j.length) u B)::(L2++ab D 6 (j.map cb.enc)))):W.callM Tryz.prog f (.ptr bg 0 0::args) L KL:=by
 subst O;refine oW (M:=L2) (h bg o out site next h0 S) (h1.perm.trans (h2.perm.cons _)) ?_;rintro _ _ ⟨D,j,E,G,rfl,h3,Z,Y,rfl⟩;exact⟨_,.cons _ aar,N D j E G h3 Z Y⟩
theorem rJ{b:Nat}(h:nX f args w loc k)(h1:dF bg (iM w loc (af (some b) m) site next) L L1)(h2:eG (some b) 6 (out.map cb.enc) L1 L2)(S:m=out.length)(hp:0<out.length)(Y:out.length+k<2^30)
  (O:∀(D:Nat) (j:List cb) (u B:Int),out.length<=j.length->j.length<=out.length+k->KL (.tup []) ((bg,iM w loc (af (some D) j.length) u B)::(L2++ab (some D) 6 (j.map cb.enc)))):W.callM Tryz.prog f (.ptr bg 0 0::args) L KL:=by
 refine eF h h1 h2 S nofun Y λM j G N h3 E Z=>?_
 rcases M with _|D
 .have:=h3 rfl;subst this;have h6:out.length<=0:=E;omega
 .exact O D j G N E Z
theorem fh{M G E D B u:Int}(Y:dF bg (iM w loc (af o m) site next) L L1)(h2:eG o 6 (out.map cb.enc) L1 L2)(O:m=out.length)(Z:o=none->out=[])(S:out.length<2^30)
  (N:∀(b:Nat) (j:List cb),j.length=out.length+1->KL (.tup []) ((bg,iM w loc (af (some b) j.length) site next)::(L2++ab (some b) 6 (j.map cb.enc)))):W.callM Tryz.prog 126 [.ptr bg 0 0,.agg [.acU M,.acU G,.acU E,.acU D,.acU B,.acU u]] L KL:=by
 subst O;exact XV (i:=⟨M,G,E,D,B,u⟩) Y h2 Z S λb=>N b _ acQ
theorem zf{Q:R}
  (N:(λ(v:AV) (L:SH)=>∃v2 L2,ax [v] L [v2] L2/\∃(E:Option Nat) (u:List cb) (B D:Int),v2=.tup []/\(E=none->u=[])/\out.length<=u.length/\u.length<=out.length+k/\L2=(bg,iM w loc (af E u.length) B D)::ab E 6 (u.map cb.enc))=Q)
  (E:Option Nat) (u:List cb) (B D:Int) (j:Nat) (L:SH) (h:cO L ((bg,iM w loc (af E j) B D)::ab E 6 (u.map cb.enc))) (M:j=u.length) (G:E=none->u=[]) (O:out.length<=u.length) (h2:u.length<=out.length+k):Q (.tup []) L:=by
 subst N M;exact⟨_,_,ax.pick h rfl,E,u,B,D,rfl,G,O,h2,rfl⟩
theorem nX.mono{B:Nat}(h:nX f args w loc k)(O:k<=B):nX f args w loc B:=λbg o out site next M N=>(h bg o out site next M acN).mono λu K ⟨E,j,D,G,a,b,c,d,e⟩=>⟨E,j,D,G,a,b,c,acN,e⟩
theorem IJ{K:AV->Prop}(h:K (.acU (out.length:Int)))(j:o=none->out=[]:=by assumption):W.len (af o out.length) K:=A6 h λe=>by rw[j e];rfl
end
theorem XW{op:Int}{name:bU}{n:Nat}(h:BP op name n+z0 op<2^50):op≠0/\(n=0->op=1\/op=2)/\(op=3->name=[113]):=by
 unfold BP z0 z3 at h;refine⟨λe=>?_,λe=>?_,λe=>?_⟩
 .rw[if_pos e]at h;omega
 .rw[if_pos e]at h;by_cases g:op=0\/op=1\/op=2
  .rcases g with g|g|g
   .rw[if_pos g]at h;omega
   .exact .inl g
   .exact .inr g
  .rw[if_neg g]at h;omega
 .by_cases g:name=[113]
  .exact g
  .rw[if_neg g,if_pos e]at h;omega
theorem Vb:∀(l:List aB) (h:1<l.length),(l[0]'acN).wt+l[1].wt<=aB.wts l
 |x::y::l,_=>by simp only[aB.wts,List.getElem_cons_zero,List.getElem_cons_succ];omega
structure WQ(w:aF):Prop where
 c:w.cells.length<2^40
 l:w.locks.length<2^40
 d:w.conds.length<2^40
 f:w.futures.length<2^40
 t:w.threads.length<2^40
 q:∃b:Nat,b<w.cells.length/\wE w.cells [113]=b
section
variable {w:aF} {loc:List bU} (hw:WQ w) (hlo:loc.length<2^40)
include hw hlo
theorem Be:∀(n:Nat) (e:aB) (d:Int),e.wt+z0 e.op<=n->n<2^29->nX 186 [.agg e.row,.acU d] w loc e.wt:=by
 intro n
 induction n using Nat.strongRecOn with
 |_ n ih=>
 intro e d hn hn2 bg o out site next h0 hl
 have hwe:=e.wt_eq;have B:∀(i:Nat) (h:i<e.l.length) (d:Int),nX 186 [.agg e.l[i].row,.acU d] w loc e.l[i].wt:=λi h d=>ih _ (by have:=aB.wts_get0 e.l i h;omega) e.l[i] d (Fd _) (by have:=aB.wts_get0 e.l i h;omega)
 have Z:=aB.wts_get0 e.l;have D:=Vb e.l;have O:=λ(i:Nat) (h:i<e.l.length)=>BO h;obtain⟨b1,b2,Y⟩:=XW (op:=e.op) (name:=e.name) (n:=e.l.length) acN;have ha:=KW loc e.name acN;have hc:=GS w e.name (by have:=hw.c;omega);refine ac.fz (uZ _ _ _ _ _ ?_);refine vw ?_;generalize hQ:(λ(v:AV) (L:SH)=>∃v2 L2,ax [v] L [v2] L2/\∃(o':Option Nat) (out':List cb) (site' next':Int),_)=Q;have fin:=zf hQ;clear hQ;unfold aB.row;clear ih hn;generalize e.l=l at *;generalize e.op=op at *;generalize e.name=name at *;by_cases p1:op=1
 .subst p1
  repeat' (first|refine sy ?_|((with_reducible refine aN 126 ?_);(refine fh rp rp om an om (λS j u=>?_)))|refine s2 ?_ ?_|intro)
  exact fin _ _ _ _ _ _ (.one (.here _) (.slotl .last)) om an om om
 by_cases p2:op=2
 .subst p2
  repeat' (first|refine sy ?_|((with_reducible refine aN 126 ?_);(refine fh rp rp om an om (λS j u=>?_)))|((with_reducible refine cy 126 ?_);refine oX ?_;refine fh rp rp om an om (λS j u ks_=>?_))|refine s2 ?_ ?_|intro)
  all_goals exact fin _ _ _ _ _ _ (.one (.here _) (.slotl .last)) om an om om
 have d1:decide (op=1)=false:=decide_eq_false p1;have d2:decide (op=2)=false:=decide_eq_false p2;have N:0<l.length:=by
  rcases abZ l.length with h|h
  .rcases b2 h with h|h
   .exact absurd h p1
   .exact absurd h p2
  .exact h
 have k0:=B 0 N;have x0:=O 0 N;have g0:=Z 0 N;by_cases p3:op=3
 .subst p3;obtain⟨b,hb,hcb⟩:=hw.q;rw[Y rfl,hcb]at hc;have e3:=Y rfl;subst e3;have hxc:=aj (f:=aU.enc) hb;clear B Z D O b1 b2 Y;generalize l[0]=a at *
  repeat' (first|refine sy ?_|((with_reducible refine aN 186 ?_);(refine eF (k0 _) rp rp om an om (λo_ j s_ n_ E u G=>?_)))|((with_reducible refine aN 126 ?_);(refine fh rp rp om an om (λS j u=>?_)))|refine s2 ?_ ?_|intro)
  exact fin _ _ _ _ _ _ (.one (.here _) (.slotl .last)) om an om om
 have d3:decide (op=3)=false:=decide_eq_false p3;by_cases p4:l.length=1
 .have d4:decide ((l.length:Int)=1)=true:=decide_eq_true acN;clear B Z D O b1 b2 Y;generalize l[0]=a at *
  repeat' (first|refine sy ?_|((with_reducible refine aN 186 ?_);(refine eF (k0 _) rp rp om an om (λo_ j s_ n_ E u G=>?_)))|((with_reducible refine aN 126 ?_);(refine fh rp rp om an om (λS j u=>?_)))|refine s2 ?_ ?_|intro)
  exact fin _ _ _ _ _ _ (.one (.here _) (.slotl .last)) om an om om
 .have d4:decide ((l.length:Int)=1)=false:=decide_eq_false acN;have M:1<l.length:=by omega
  have k1:=B 1 M;have x1:=O 1 M;have g1:=D M;clear B Z D O b1 b2 Y;generalize l[0]=a at *;generalize l[1]=c at *
  repeat' (first|refine sy ?_|((with_reducible refine aN 186 ?_);(refine eF (k0 _) rp rp om an om (λo_ j s_ n_ E u G=>?_)))|((with_reducible refine aN 186 ?_);(refine eF (k1 _) rp rp om an om (λo_ j s_ n_ E u G=>?_)))|((with_reducible refine aN 126 ?_);(refine fh rp rp om an om (λS j u=>?_)))|refine s2 ?_ ?_|intro)
  exact fin _ _ _ _ _ _ (.one (.here _) (.slotl .last)) om an om om
end
end
mutual
def M5(t:Nat):Nat->ae->List cF
 |n,.mk _ line _ _ _ _ body els=>⟨t,n,line⟩::(sitL t (n+1) body++sitL t (n+1+ae.cnts body) els)
def sitL(t:Nat):Nat->List ae->List cF
 |_,[]=>[]
 |n,x::l=>M5 t n x++sitL t (n+1+x.cnt) l
end
def Vc(t n:Nat)(x:ae):M5 t n x=⟨t,n,x.line⟩::(sitL t (n+1) x.body++sitL t (n+1+ae.cnts x.body) x.els):=by cases x;rw[M5];rfl
mutual
def SY(t:Nat):∀(n:Nat) (x:ae),(M5 t n x).length=1+x.cnt
 |n,.mk a b c d e f body els=>by rw[M5];simp only[abi,aal,sitL_len t _ body,sitL_len t _ els,ae.cnt];omega
def sitL_len(t:Nat):∀(n:Nat) (l:List ae),(sitL t n l).length=ae.cnts l
 |n,[]=>rfl
 |n,x::l=>by rw[sitL];simp only[aal,SY t _ x,sitL_len t _ l,ae.cnts]
end
def ae.cnts_append:∀l m:List ae,ae.cnts (l++m)=ae.cnts l+ae.cnts m
 |[],m=>by simp[ae.cnts]
 |x::l,m=>by simp only[abX,ae.cnts,ae.cnts_append l m];omega
def zQ(t:Nat):∀(n:Nat) (l m:List ae),sitL t n (l++m)=sitL t n l++sitL t (n+ae.cnts l) m
 |n,[],m=>by simp[sitL,ae.cnts]
 | n,x::l,m=>by simp only[abX,sitL,zQ t _ l m,ae.cnts,abr];rw[show n+1+x.cnt+ae.cnts l=n+(1+x.cnt+ae.cnts l) by omega]
def aZ.celW(d:aZ):List aU:=(List.range (max d.size 1).toNat).map λk=>⟨d.name,(k:Nat),d.size,decide (d.kind=2),d.init⟩
def cR(w:aF)(d:aZ):aF:=
 if d.kind=1\/d.kind=2 then {w with cells:=w.cells++d.celW} else
 if d.kind=3\/d.kind=4 then {w with locks:=w.locks++[⟨d.name,decide (d.kind=4)⟩]} else
 if d.kind=5 then {w with conds:=w.conds++[⟨d.name,iE w.locks d.on⟩]} else {w with futures:=w.futures++[d.name]}
def aF.zero:aF:=⟨[],[],[],[],[],[]⟩
def fa(w:aF)(t:am):aF:={w with threads:=w.threads++[t.name],sites:=w.sites++sitL w.threads.length 0 t.body}
def mE(p:cJ):aF:=p.threads.foldl fa (p.decls.foldl cR aF.zero)
def u7{α β:Type}{f:β->α->β}{l:List α}{a:β}{i:Nat}(h:i<l.length):(l.take (i+1)).foldl f a=f ((l.take i).foldl f a) l[i]:=by rw[Fn h,acL];rfl
def Z5(t:Nat)(l:List ae):Prop:=∀(o:Option Nat) (out:List cF) (n:Nat),(o=none->out=[])->out.length+ae.cnts l<2^30->n+ae.cnts l<2^30->
 ac Tryz.prog 159 [af o out.length,.acU t,.acU n,.lst (l.map ae.enc)] (ab o 3 (out.map cF.enc)) λu K=>∃(v:AV) (o':Option Nat),u=v/\v=.tup [af o' (out++sitL t n l).length,.acU ((n+ae.cnts l:Nat):Int)]/\(o'=none->out++sitL t n l=[])/\K=ab o' 3 ((out++sitL t n l).map cF.enc)
def M6{t n k:Nat}{l:List ae}{o:Option Nat}{out:List cF}{rows:List (List AV)}{L L2:SH}{KL:R}(h:Z5 t l)(h2:eG o 3 rows L L2)(u:rows=out.map cF.enc)(G:k=out.length)(O:o=none->out=[])(E:out.length+ae.cnts l<2^30)(D:n+ae.cnts l<2^30)
  (B:∀j:Option Nat,(j=none->out++sitL t n l=[])->KL (.tup [af j (out++sitL t n l).length,.acU ((n+ae.cnts l:Nat):Int)]) (L2++ab j 3 ((out++sitL t n l).map cF.enc))):W.callM Tryz.prog 159 [af o k,.acU t,.acU n,.lst (l.map ae.enc)] L KL:=by
 subst u G;refine oW (M:=L2) (h o out n O E D) h2.perm ?_;rintro _ _ ⟨v,j,rfl,rfl,N,rfl⟩;exact⟨_,aar,B j N⟩
def SZ(t:Nat):∀(k:Nat) (l:List ae),ae.wts l<=k->k<2^40->Z5 t l:=by
 intro k
 induction k using Nat.strongRecOn with
 |_ k Z=>
  intro l hl hk o out n h0 h1 h2;have hlen:=ae.wts_len l;refine ac.fz (DX _ _ _ _ _ _ ?_);refine vw ?_;generalize hQ:(λ(v:AV) (L:SH)=>∃v2 L2,ax [v] L [v2] L2/\∃(v:AV) (u:Option Nat),_)=Q;have fin:∀u:Option Nat,(u=none->out++sitL t n l=[])->Q (.tup [af u (out++sitL t n l).length,.acU ((n+ae.cnts l:Nat):Int)]) (ab u 3 ((out++sitL t n l).map cF.enc)):=λu h=>by subst hQ;exact⟨_,_,.refl _ _,_,u,rfl,rfl,h,rfl⟩
  clear hQ;refine aL l.length (λi u=>([af u (out++sitL t n (l.take i)).length,.acU t,.acU ((n+ae.cnts (l.take i):Nat):Int),.lst (l.map ae.enc),.acU i],ab u 3 ((out++sitL t n (l.take i)).map cF.enc))) (λi u=>u=none->out++sitL t n (l.take i)=[]) o (by simpa[sitL]using h0) (by simpa[sitL,ae.cnts]using ax.refl _ _) ?_;rintro i o1 hi hG;dsimp only;refine vw ?_;generalize G:(λ(vs':List AV) (M:SH)=>∃j u,i<j/\j<=l.length/\_)=nx;rcases Nat.lt_or_ge i l.length with D|D
  .have hd:=aS D;have hi1:=av D acN;have hx:=Gb D;have hwi:=ae.wts_get l i D;have hwe:=(l[i]).wt_eq;have hce:=(l[i]).cnt_eq;have c1:=Z _ acN l[i].body (Fd _) acN;have c2:=Z _ acN l[i].els (Fd _) acN;have e1:l=l.take i++(l[i]::l.drop (i+1)):=by rw[List.getElem_cons_drop,acr]
   have e2:ae.cnts l=ae.cnts (l.take i)+(1+l[i].cnt+ae.cnts (l.drop (i+1))):=by
    conv=>lhs;rw[e1]
    rw[ae.cnts_append];rfl
   have e3:sitL t n (l.take (i+1))=sitL t n (l.take i)++M5 t (n+ae.cnts (l.take i)) l[i]:=by rw[Fn D,zQ];simp[sitL]
   have e4:ae.cnts (l.take (i+1))=ae.cnts (l.take i)+(1+l[i].cnt):=by rw[Fn D,ae.cnts_append];simp[ae.cnts]
   have hn:∀(u:Option Nat) (B:List cF) (m:Nat),B=out++sitL t n (l.take i)++M5 t (n+ae.cnts (l.take i)) l[i]->m=n+ae.cnts (l.take i)+(1+l[i].cnt)->(u=none->B=[])->∀M:SH,cO M (ab u 3 (B.map cF.enc))->nx [af u B.length,.acU t,.acU (m:Nat),.lst (l.map ae.enc),.acU ((i+1:Nat):Int)] M:=by
    intro u B m S q2 q3 M q4;subst G;refine⟨i+1,u,acN,acN,?_,?_⟩
    .rw[e3,<-abr,<-S];exact q3
    .rw[e3,<-abr,<-S,e4,<-abW,<-q2];exact .pick q4 rfl
   clear G;have hlo:(out++sitL t n (l.take i)).length=out.length+ae.cnts (l.take i):=by rw[aal,sitL_len]
   generalize out++sitL t n (l.take i)=OUT at *;generalize hN:n+ae.cnts (l.take i)=N at *;generalize l[i]=x at *;have a1:IntKind.i64.wrap ((N:Int)+1)=((N+1:Nat):Int):=by rw[abg _ acN];omega
   have O:o1=none->OUT.map cF.enc=[]:=λe=>by rw[hG e];rfl
   repeat' (first|refine sy ?_|refine aM rp rp acQ (λe=>by first|simp[O e]) acP acQ acS acS acP (λnb_ hnb_=>?_)|((with_reducible refine aN 159 ?_);(refine M6 c1 (o:=some _) (out:=OUT++[⟨t,N,x.line⟩]) rp (by rw[List.map_append];rfl) acQ nofun acS acN (λY E=>?_);dsimp only[List.cons_append,List.nil_append]))|((with_reducible refine aN 159 ?_);(refine M6 c2 rp rfl rfl E (by simp[sitL_len];omega) acN (λY E=>?_);dsimp only[List.cons_append,List.nil_append]))|refine s2 ?_ ?_|intro)
   exact hn Y _ _ (by simp[Vc,abr]) acN E _ (.slotl rp)
  .have hd:=aW D;have:i=l.length:=by omega
   subst this;rw[acx]at *
   repeat' (first|refine sy ?_|refine s2 ?_ ?_|intro)
   exact fin _ hG
section
theorem D5(o:Option Nat)(l:List bZ)(x:bU)(Z:o=none->l=[])(O:l.length<2^62):
  ac Tryz.prog 158 [af o l.length,.str x] (ab o 2 (l.map bZ.enc)) λu K=>u=.acU (iE l x)/\K=ab o 2 (l.map bZ.enc):=by
 refine pF _ _ _ _ ?_;refine vw ?_;generalize Y:ab o 2 (l.map bZ.enc)=L;generalize N:(λ(u:AV) (K:SH)=>u=AV.acU (iE l x)/\K=L)=Q;have E:∀r:Int,r=iE l x->Q (.acU r) L:=λr h=>by subst N h;exact⟨rfl,rfl⟩
 clear N;subst Y;cases o with
 |none=>
  have:=Z rfl;subst this;dsimp only[ab,af,List.length_nil]at *;refine cT 0 (λ_=>True) (λi=>[.emp,.str x,.acU i]) acN trivial rfl (λi B G S _ D M=>by omega) (λi B G _ D=>?_);refine vw ?_
  repeat' (first|refine sy ?_|refine s2 ?_ ?_|intro)
  exact E _ rfl
 |some b1=>
  dsimp only[ab,af]at *;refine eO l (λy=>decide (y.name=x)) (λi=>[.sl b1 0 l.length,.str x,.acU i]) O rfl (λi B G S j D M=>?_) (λi B G j D=>?_)
  all_goals refine vw ?_
  .have hx:=aj (f:=bZ.enc) B
   repeat' (first|refine sy ?_|refine s2 (λh=>?_) λh=>?_|intro)
   .exact E _ (by rw[iE,mR B j h])
   .exact M h
  .repeat' (first|refine sy ?_|refine s2 ?_ ?_|intro)
   exact E _ (by rw[iE,gz j])
def XZ:List AV:=[.nils,.nils,.nils,.nils,.nils,.nils]
def Eg(b2 b6:Nat)(oc ol od of ot os:Option Nat)(w:aF):SH:=
 (b6,⟨6,[[af oc w.cells.length,af ol w.locks.length,af od w.conds.length,af of w.futures.length,af ot w.threads.length,af os w.sites.length]]⟩)::(b2,⟨6,[XZ]⟩) ::
  (ab oc 5 (w.cells.map aU.enc)++(ab ol 2 (w.locks.map bZ.enc)++(ab od 2 (w.conds.map cM.enc)++(ab of 1 (w.futures.map ay)++(ab ot 1 (w.threads.map ay)++ab os 3 (w.sites.map cF.enc))))))
structure FR(b6:Nat)(oc ol od of ot os:Option Nat)(w:aF):Prop where
 c:oc=none->w.cells=[]
 l:ol=none->w.locks=[]
 d:od=none->w.conds=[]
 f:of=none->w.futures=[]
 t:ot=none->w.threads=[]
 s:os=none->w.sites=[]
 n:∀b,ol=some b->b6≠b
def Wa(K:SH->Prop)(b2 b6:Nat)(w:aF):Prop:=∀(oc ol od of ot os:Option Nat) (L':SH) (v0 v1 v2 v3 v4 v5:AV) (r0 r1 r2 r3 r4 r5:List (List AV)),FR b6 oc ol od of ot os w->
 cO L' ((b6,⟨6,[[v0,v1,v2,v3,v4,v5]]⟩)::(b2,⟨6,[XZ]⟩)::(ab oc 5 r0++(ab ol 2 r1++(ab od 2 r2++(ab of 1 r3++(ab ot 1 r4++ab os 3 r5))))))->
 [v0,v1,v2,v3,v4,v5]=[af oc w.cells.length,af ol w.locks.length,af od w.conds.length,af of w.futures.length,af ot w.threads.length,af os w.sites.length]->
 r0=w.cells.map aU.enc->r1=w.locks.map bZ.enc->r2=w.conds.map cM.enc->r3=w.futures.map ay->r4=w.threads.map ay->r5=w.sites.map cF.enc->K L'
theorem Wa.of{K:SH->Prop}{b2 b6:Nat}{w:aF}(h:∀(oc ol od of ot os:Option Nat) (j:SH),FR b6 oc ol od of ot os w->cO j (Eg b2 b6 oc ol od of ot os w)->K j):Wa K b2 b6 w:=by intro oc ol od of ot os j v0 v1 v2 v3 Z Y r0 r1 r2 r3 r4 r5 D B u S O N M G E;simp only[List.cons.injEq,and_true]at u;obtain⟨rfl,rfl,rfl,rfl,rfl,rfl⟩:=u;subst S O N M G E;exact h oc ol od of ot os j D B
section
variable {n18:Kn} {b2 b6 i:Nat} {oc ol od of ot os:Option Nat} {w:aF} {rows tl:List (List AV)}
theorem Wb{line size B:Int}{name G:bU}{u:Int}(hk:u=1\/u=2)(hs:size<=1000)(hi1:IntKind.i64.wrap ((i:Int)+1)=((i+1:Nat):Int))(D:FR b6 oc ol od of ot os w)(hlen:w.cells.length<2^30)
  (hn:Wa (n18 [.pptr [[.lst rows,.lst tl]] 0 0,.ptr b2 0 0,.ptr b6 0 0,.acU ((i+1:Nat):Int)]) b2 b6 {w with cells:=w.cells++aZ.celW ⟨u,line,name,size,B,G⟩}) :
  W.loop (DY n18) [.pptr [[.lst rows,.lst tl]] 0 0,.ptr b2 0 0,.ptr b6 0 0,.acU i,.pptr [[.acU u,.acU line,.str name,.acU size,.acU B,.str G]] 0 0,.acU 0] (Eg b2 b6 oc ol od of ot os w):=by
 generalize hN:(max size 1).toNat=N at *;have hN1:N<=1000:=by omega
 have hcl:aZ.celW ⟨u,line,name,size,B,G⟩=(List.range N).map λk=>⟨name,(k:Nat),size,decide (u=2),B⟩:=by unfold aZ.celW;rw[hN]
 rw[hcl]at hn;obtain⟨WK,E⟩:∃f:Nat->aF,f=λk=>{w with cells:=w.cells++(List.range k).map λk=>⟨name,(k:Nat),size,decide (u=2),B⟩}:=⟨_,rfl⟩
 refine aL (β:=Option Nat×Option Nat×Option Nat×Option Nat×Option Nat×Option Nat) N (λk q=>([.pptr [[.lst rows,.lst tl]] 0 0,.ptr b2 0 0,.ptr b6 0 0,.acU i,.pptr [[.acU u,.acU line,.str name,.acU size,.acU B,.str G]] 0 0,.acU k],Eg b2 b6 q.1 q.2.1 q.2.2.1 q.2.2.2.1 q.2.2.2.2.1 q.2.2.2.2.2 (WK k)))
  (λk q=>FR b6 q.1 q.2.1 q.2.2.1 q.2.2.2.1 q.2.2.2.2.1 q.2.2.2.2.2 (WK k)) (oc,ol,od,of,ot,os) (by subst E;show FR b6 oc ol od of ot os {w with cells:=w.cells++[]};rw[aby];exact D) (by subst E;show ax _ _ _ (Eg b2 b6 oc ol od of ot os {w with cells:=w.cells++[]});rw[aby];exact ax.refl _ _) ?_
 rintro k ⟨oc,ol,od,of,ot,os⟩ hk D;dsimp only at D ⊢;refine vw ?_;generalize O:(λ(vs':List AV) (L':SH)=>∃j o',k<j/\j<=N/\_)=nx;rcases Nat.lt_or_ge k N with Y|Y
 .have hd:=aS Y;have hk1:=av Y acN;have hrs:List.range (k+1)=List.range k++[k]:=List.range_succ;have hgo:Wa (nx [.pptr [[.lst rows,.lst tl]] 0 0,.ptr b2 0 0,.ptr b6 0 0,.acU i,.pptr [[.acU u,.acU line,.str name,.acU size,.acU B,.str G]] 0 0,.acU ((k+1:Nat):Int)]) b2 b6 {w with cells:=w.cells++(List.range k).map (λk=>(⟨name,(k:Nat),size,decide (u=2),B⟩:aU))++[⟨name,(k:Nat),size,decide (u=2),B⟩]}:=.of λoc2 ol2 od2 of2 Z os2 L' q1 q2=>by
   subst O;subst E;have e:(λk=>({w with cells:=w.cells++(List.range k).map λk=>(⟨name,(k:Nat),size,decide (u=2),B⟩:aU)}:aF)) (k+1)={w with cells:=w.cells++(List.range k).map (λk=>(⟨name,(k:Nat),size,decide (u=2),B⟩:aU))++[⟨name,(k:Nat),size,decide (u=2),B⟩]}:=by show({w with cells:=w.cells++(List.range (k+1)).map (λk=>(⟨name,(k:Nat),size,decide (u=2),B⟩:aU))}:aF)=_;rw[hrs,ST,<-abr];rfl
   exact⟨k+1,(oc2,ol2,od2,of2,Z,os2),acN,acN,by rw[e];exact q1,by rw[e];exact ax.pick q2 rfl⟩
  clear O;have hCl:(w.cells++(List.range k).map (λk=>(⟨name,(k:Nat),size,decide (u=2),B⟩:aU))).length<2^31:=by simp;omega
  obtain⟨wc,wl,wd,wf,wt,ws⟩:=w;subst E;dsimp only at *;generalize wc++(List.range k).map (λk=>(⟨name,(k:Nat),size,decide (u=2),B⟩:aU))=C at *;have hC0:oc=none->C.map aU.enc=[]:=λe=>by have hc:=D.c e;dsimp only at hc;rw[hc];rfl
  unfold Eg
  repeat' (first|rw[hN]|refine sx ?_|refine aM rp rp acQ (λe=>by first|simp[hC0 e]) acP acQ acS acS acP (λM S=>?_)|refine R5 ?_|refine sb λM S=>?_|refine s2 ?_ ?_|intro)
  exact hgo (some M) ol od of ot os _ _ _ _ _ _ _ _ _ _ _ _ _ ⟨nofun,D.l,D.d,D.f,D.t,D.s,D.n⟩ rp (by simp[af]) (by rw[ST];rfl) rfl rfl rfl rfl rfl
 .have hd:=aW Y;have e:k=N:=by omega
  subst e;subst E;dsimp only at *;unfold Eg
  repeat' (first|rw[hN]|refine sy ?_|refine R5 ?_|refine s2 ?_ ?_|intro)
  exact hn oc ol od of ot os _ _ _ _ _ _ _ _ _ _ _ _ _ D rp rfl rfl rfl rfl rfl rfl rfl
theorem Vd{o:Option Nat}{l:List bZ}{x:bU}{i:Nat}{us:List W.WR}{L j:SH}{B:AV->SH->List Nat->Prop}(O:o=none->l=[])(D:l.length<2^62)(h2:eG o 2 (l.map bZ.enc) L j)(G:∀z∈us,W.free z ⟨i,[],(ab o 2 (l.map bZ.enc)).names,[],true,[]⟩)
  (E:B (.acU (iE l x)) (ab o 2 (l.map bZ.enc)++j) (ab o 2 (l.map bZ.enc)).names):W.dcallM Tryz.prog us i 158 [af o l.length,.str x] L B:=
 ⟨ab o 2 (l.map bZ.enc),j,h2.perm,G,(D5 o l x O D).mono λu K ⟨N,M⟩=>by subst N M;exact E⟩
theorem Ve{o:Option Nat}{b6 n i j k:Nat}{rows:List (List AV)}(h:∀b,o=some b->b6≠b):∀z∈[rm i rz,rm j ⟨ai (.ptr b6 0 n),[],[],[]⟩],W.free z ⟨k,[],(ab o 2 rows).names,[],true,[]⟩:=by
 intro z u;simp only[aaj,abA,or_false]at u;rcases u with rfl|rfl
 .exact⟨nofun,nofun,nofun,nofun,λ_=>rfl⟩
 .refine⟨nofun,?_,nofun,nofun,λ_=>rfl⟩;intro c B;have:c=b6:=by simpa[rm,ai]using B
  subst this;cases o with
  |none=>simp[ab,SH.names]
  |some b=>have:=h b rfl;simpa[ab,SH.names]using this
theorem X0{d:aZ}(hr:rows[i]? =some d.enc)(hk:1<=d.kind/\d.kind<=6)(hs:d.size<=1000)(hi1:IntKind.i64.wrap ((i:Int)+1)=((i+1:Nat):Int))(u:FR b6 oc ol od of ot os w)(h1:w.cells.length<2^30)(h2:w.locks.length<2^30)(h3:w.conds.length<2^30)(h4:w.futures.length<2^30)
  (O:Wa (n18 [.pptr [[.lst rows,.lst tl]] 0 0,.ptr b2 0 0,.ptr b6 0 0,.acU ((i+1:Nat):Int)]) b2 b6 (cR w d)) :
  DZ n18 (Eg b2 b6 oc ol od of ot os w) (.pptr [[.lst rows,.lst tl]] 0 0) (.acU i) (.ptr b2 0 0) (.ptr b6 0 0):=by
 obtain⟨M,B,j,size,D,S⟩:=d;have hr':rows[i]? =some [.acU M,.acU B,.str j,.acU size,.acU D,.str S]:=hr;clear hr;dsimp only at hk hs;have Z:ol=none->w.locks.map bZ.enc=[]:=λe=>by rw[u.l e];rfl
 have hd0:od=none->w.conds.map cM.enc=[]:=λe=>by rw[u.d e];rfl
 have hf0:of=none->w.futures.map ay=[]:=λe=>by rw[u.f e];rfl
 have hlk:=D5 ol w.locks S u.l acN;have hc:M=1\/M=2\/M=3\/M=4\/M=5\/M=6:=by omega
 refine vw ?_;rcases hc with rfl|rfl|rfl|rfl|rfl|rfl
 .have N:cR w ⟨1,B,j,size,D,S⟩={w with cells:=w.cells++aZ.celW ⟨1,B,j,size,D,S⟩}:=by unfold cR;rw[if_pos (.inl rfl)]
  rw[N]at O;have Y:=Wb (.inl rfl) hs hi1 u h1 O;unfold Eg at Y ⊢
  repeat' (first|exact Y|refine sy ?_|refine s2 ?_ ?_|intro)
 .have N:cR w ⟨2,B,j,size,D,S⟩={w with cells:=w.cells++aZ.celW ⟨2,B,j,size,D,S⟩}:=by unfold cR;rw[if_pos (.inr rfl)]
  rw[N]at O;have Y:=Wb (.inr rfl) hs hi1 u h1 O;unfold Eg at Y ⊢
  repeat' (first|exact Y|refine sy ?_|refine s2 ?_ ?_|intro)
 .have N:cR w ⟨3,B,j,size,D,S⟩={w with locks:=w.locks++[⟨j,decide ((3:Int)=4)⟩]}:=rfl;rw[N]at O;unfold Eg
  repeat' (first|refine sx ?_|refine aM rp rp acQ (λe=>by first|simp[Z e]) acP acQ acS acS acP (λG E=>?_)|refine sb λG E=>?_|refine s2 ?_ ?_|intro)
  exact O oc (some G) od of ot os _ _ _ _ _ _ _ _ _ _ _ _ _ ⟨u.c,nofun,u.d,u.f,u.t,u.s,λb e=>by cases e;rintro rfl;exact E (by simp[SH.names])⟩ rp (by simp[af]) rfl (by rw[ST];rfl) rfl rfl rfl rfl
 .have N:cR w ⟨4,B,j,size,D,S⟩={w with locks:=w.locks++[⟨j,decide ((4:Int)=4)⟩]}:=rfl;rw[N]at O;unfold Eg
  repeat' (first|refine sx ?_|refine aM rp rp acQ (λe=>by first|simp[Z e]) acP acQ acS acS acP (λG E=>?_)|refine sb λG E=>?_|refine s2 ?_ ?_|intro)
  exact O oc (some G) od of ot os _ _ _ _ _ _ _ _ _ _ _ _ _ ⟨u.c,nofun,u.d,u.f,u.t,u.s,λb e=>by cases e;rintro rfl;exact E (by simp[SH.names])⟩ rp (by simp[af]) rfl (by rw[ST];rfl) rfl rfl rfl rfl
 .have N:cR w ⟨5,B,j,size,D,S⟩={w with conds:=w.conds++[⟨j,iE w.locks S⟩]}:=rfl;rw[N]at O;unfold Eg;rcases ol with _|bl_
  all_goals
   repeat' (first|refine sy ?_|refine aM rp rp acQ (λe=>by first|simp[hd0 e]) acP acQ acS acS acP (λG E=>?_)|((with_reducible refine cy 158 ?_);refine Vd u.l acN rp (Ve u.n) ?_;dsimp only[A7,A8,List.nil_append,List.cons_append])|refine s2 ?_ ?_|intro)
  .exact O oc none (some G) of ot os _ _ _ _ _ _ _ _ _ _ _ _ _ ⟨u.c,u.l,nofun,u.f,u.t,u.s,u.n⟩ rp (by simp[af]) rfl rfl (by rw[ST];rfl) rfl rfl rfl
  .exact O oc (some bl_) (some G) of ot os _ _ _ _ _ _ _ _ _ _ _ _ _ ⟨u.c,u.l,nofun,u.f,u.t,u.s,u.n⟩ rp (by simp[af]) rfl rfl (by rw[ST];rfl) rfl rfl rfl
 .have N:cR w ⟨6,B,j,size,D,S⟩={w with futures:=w.futures++[j]}:=rfl;rw[N]at O;unfold Eg
  repeat' (first|refine sx ?_|refine aM rp rp acQ (λe=>by first|simp[hf0 e]) acP acQ acS acS acP (λG E=>?_)|refine sb λG E=>?_|refine s2 ?_ ?_|intro)
  exact O oc ol od (some G) ot os _ _ _ _ _ _ _ _ _ _ _ _ _ ⟨u.c,u.l,u.d,nofun,u.t,u.s,u.n⟩ rp (by simp[af]) rfl rfl rfl (by rw[ST];rfl) rfl rfl
end
end
