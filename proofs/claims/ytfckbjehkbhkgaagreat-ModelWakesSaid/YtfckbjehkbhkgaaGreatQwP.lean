/- part -/
import Derived.Test.YtfckbjehkbhkgaaGreatQwC
import Derived.Test.YtfckbjehkbhkgaaGreatQwN
import Derived.Test.YtfckbjehkbhkgaaGreatQwO
set_option linter.all false
set_option maxRecDepth 100000
set_option maxHeartbeats 0
namespace Go.Proofs.YtfckbjehkbhkgaaGreat.Am
section
theorem SR{c:bP}{s:eE}{t:Int}{e:bA}(hp:eI c s t=some e):e.value=0:=by
 unfold eI at hp;split at hp
 .dsimp only at hp;split at hp
  .cases hp;rfl
  .split at hp
   .cases hp;rfl
   .split at hp
    .split at hp
     .cases hp;unfold fN;dsimp only
      repeat' split
      all_goals rfl
     .cases hp
    .cases hp
 .cases hp
section
variable (c:bP) (s:eE) (t wake:Int) (n:Nat) (hn:n<=400) (hc:lx c) (hl:∀t∈c.ts,t.ins.length<2^40) (hv:aq Tryz.prog 101 [.agg c.enc] (.bool true)) (H:rF c s) (R:yY c s) (I:pR c n s)
include hn hc hl hv H R I
theorem SS:aq Tryz.prog 122 [.agg c.enc,.agg s.enc,.agg [.acU t,.acU wake]] (Kf (nz c s t wake)):=by
 have D:=nA hc hl;have SH':=Rz hn I D.ins D.len D.con;have zV:c.ts.length<2^62:=by have:=hc.len;have:=hc.world.t4;omega
 have hp:=Ll c s t hv (R.fit9 H) (by have:=D.con;omega) zV D.ins (λx hx r=>by
  have:=(SH'.thr x hx).1.short;unfold bI.tnt;rcases LE r.toNat x.taint.length with h|h
  .have:=this _ (LT h);simp[h];omega
  .simp[List.getD,aah h])
 have hln:s.cells.length=c.w.cells.length/\s.futures.length=c.w.futures.length:=⟨R.nc,R.nf⟩;rw[wL];refine ac.fz (E3 _ _ _ _ _ ?_);refine vw ?_;generalize hQ:(λ(v:AV) (L:SH)=>∃v2 L2,ax [v] L [v2] L2/\v2=_/\L2=[])=Q;have E:∀v L,Fz L v (Kf (match eI c s t with
  |none=>none
  | some e=>if s.cells.length=c.w.cells.length/\s.futures.length=c.w.futures.length then
    (if(dx c.w s.sync t e.kind e.obj wake).2.2 then Au c s t (dx c.w s.sync t e.kind e.obj wake).1 e (fe (cK (aE c t) (aI s t).pc) e s (aI s t) (dx c.w s.sync t e.kind e.obj wake).2.1)else none)else none))->Q v L:=λv L h=>by subst hQ;exact⟨_,[],ax.all h,rfl,rfl⟩
 clear hQ;have hce:c.enc=[.lst (c.w.cells.map aU.enc),.lst (c.w.locks.map bZ.enc),.lst (c.w.conds.map cM.enc),.lst (c.w.futures.map ay),.lst (c.w.threads.map ay),.lst (c.w.sites.map cF.enc),.lst (c.ts.map i6.enc)]:=rfl;have hse:s.enc=[.lst (s.sync.locks.map LockD.enc),.acU s.sync.tx,.lst (s.sync.done.map au),.lst (s.sync.threads.map ThrD.enc),.lst (s.cells.map aa),.lst (s.futures.map aa),.lst (s.threads.map bI.enc)]:=rfl;cases M:eI c s t with
 |none=>
  rw[M]at hp E;unfold N0 at hp;have hz:=λv L (h:v=_)=>E v L (by rw[h];exact Kg L)
  unfold ca i8 bA.zero bA.enc at *;dsimp only[List.map]at hp;rw[hce,hse]at *
  repeat' (first|refine sy ?_|(refine pf 150 ?_;refine pm (hp) ?_)|refine s2 ?_ ?_|intro)
  exact hz _ _ rfl
 |some e=>
  rw[M]at hp E;unfold N0 at hp;dsimp only at hp E;rw[if_pos hln]at E;have G:=CO D.ins M;have hval:e.value=0:=SR M;have ha:=yD c.w s.sync t e.kind e.obj wake SH'.sm;have een:e.enc=[.acU e.thread,.acU e.kind,.acU e.obj,.acU e.value,.acU e.site,.lst (e.deps.map aa),.lst (e.frm.map aa)]:=rfl;have hen:(dx c.w s.sync t e.kind e.obj wake).2.2=true->aC c.w s.sync t e.kind e.obj=true/\(e.kind≠18->e.kind≠19->(dx c.w s.sync t e.kind e.obj wake).2.1=0):=λh=>by
   unfold dx at h ⊢;split at h
   .rename_i he;refine⟨he,λk18 k19=>?_⟩;rw[if_pos he];unfold bF
    repeat' refine iteInduction (motive:=λp:SyncD×Int=>p.2=0) (λ_=>?_) (λ_=>?_)
    all_goals first
     |rfl
     |(exfalso;omega)
   .cases h
  generalize hres:dx c.w s.sync t e.kind e.obj wake=r at *;obtain⟨j,sv,ok⟩:=r;unfold EV at ha;dsimp only at ha E hen;cases ok with
  |false=>
   have hz:=λv L (h:v=_)=>E v L (by rw[h];exact Kg L)
   unfold ca i8 at hz;rw[hce,hse,een]at *
   repeat' (first|refine sy ?_|(refine pf 150 ?_;refine pm (hp) ?_)|refine s2 ?_ ?_|intro)
   exact hz _ _ rfl
  |true=>
   obtain⟨hen1,hsv⟩:=hen rfl;rw[if_pos rfl]at E;obtain⟨a1,a2,a3,a4,a5,a6⟩:=gk G.ready;have al:=Kh (w:=c.w) (s:=s.sync) (t:=t) (k:=e.kind) (o:=e.obj) (wake:=wake) (by rw[hres]);have S:aI s t∈s.threads:=j9 (d:=bI.zero) a2;have hT:=SH'.thr _ S;have hoc:e.kind=3\/e.kind=4->inB e.obj s.cells.length=true:=λN=>by unfold allowedS at al;rw[if_neg acN,if_pos N]at al;rw[hln.1];exact al
   have hof:e.kind=22\/e.kind=23->inB e.obj s.futures.length=true:=λN=>by unfold allowedS at al;rw[if_neg acN,if_neg acN,if_neg acN,if_neg acN,if_neg acN,if_neg acN,if_pos N]at al;rw[hln.2];exact al
   have u:=Ki (i:=cK (aE c t) (aI s t).pc) (e:=e) (s:=s) (sv:=sv) hT.1 hT.2.1;have O:=MP (aE c t) (fe (cK (aE c t) (aI s t).pc) e s (aI s t) sv).thread U9 SH'.u30 u.small (by rw[u.len];exact u.small) u.short u.sub (hl _ (show aE c t∈c.ts from j9 a1));have hgo:=λN=>settles (sv:=sv) hc hl H R M hen1 N
   have hcp:=RS s t.toNat SH'.nt SH'.nc SH'.nf (λx hx=>⟨(SH'.thr x hx).1.small,by have:=(SH'.thr x hx).1.len;have:=(SH'.thr x hx).2.2;omega,(SH'.thr x hx).1.short⟩) SH'.sm.locks SH'.sm.done SH'.sm.threads SH'.sm.rd;obtain⟨th,Z⟩:∃th,((e.kind=16\/e.kind=2)/\th=(fe (cK (aE c t) (aI s t).pc) e s (aI s t) sv).thread)\/((e.kind≠16/\e.kind≠2)/\cD (aE c t) (fe (cK (aE c t) (aI s t).pc) e s (aI s t) sv).thread=(th,true)):=by
    by_cases N:e.kind=16\/e.kind=2
    .exact⟨_,.inl ⟨N,rfl⟩⟩
    .exact⟨_,.inr ⟨acN,Prod.ext rfl (hgo acN)⟩⟩
   have Y:Au c s t j e (fe (cK (aE c t) (aI s t).pc) e s (aI s t) sv)=some (⟨j,(fe (cK (aE c t) (aI s t).pc) e s (aI s t) sv).cells,(fe (cK (aE c t) (aI s t).pc) e s (aI s t) sv).futures,s.threads.set t.toNat th⟩,{e with value:=(fe (cK (aE c t) (aI s t).pc) e s (aI s t) sv).value}):=by
    unfold Au;rcases Z with⟨N,rfl⟩|⟨N,hs⟩
    .rw[if_neg acN]
    .rw[if_pos N,hs];rfl
   rw[Y]at E;have fin:∀(be b8 b6 bs:Nat) (v:AV) (K:SH),W8 s t.toNat v K->∃L':SH,(K++[(be,(⟨7,[e.enc]⟩:Blk)),(b8,⟨7,[i8]⟩),(b6,⟨7,[ca]⟩),(bs,⟨7,[s.enc]⟩)]).Perm L'/\(L'.names.Nodup->tI Q (.ptr bs 0 0) (.pptr [j.enc] 0 0) (.pptr [[.acU t,.acU wake]] 0 0) (.pptr [c.enc] 0 0) (.ptr be 0 0) (.acU sv) (.ptr b6 0 0) (.ptr b8 0 0) v L'):=by
    rintro be b8 b6 bs v K ⟨bc,bf,ot,o,tt,rfl,rfl,hot,ho,htt⟩;have B:t.toNat<s.threads.length:=by have:=ao.1 a2;omega
    obtain⟨bt,rfl⟩:∃b,ot=some b:=by
     cases ot with
     |some b=>exact⟨b,rfl⟩
     |none=>exfalso;rw[hot rfl]at B;simp at B
    refine⟨ud s t e be b8 b6 bs bt bc bf o tt,?_,λhnd=>?_⟩
    .rw[if_pos B];exact aar
    .exact Z2 c s t wake a2 a1 j sv e (cK (aE c t) (aI s t).pc) (cq a4) a4 be b8 b6 bs bt bc bf o tt hnd Q hval hsv (λh=>ho h B) (λh=>htt h B) acN G.ra G.rb hoc hof λb74 hb=>
      abc c s t wake a2 a1 j sv e _ be b8 b6 bs bt bc bf o tt hnd Q (λh=>ho h B) (λh=>htt h B) acN G.ra th _ rfl O Z E b74 hb
   unfold ca i8 at fin;clear E O u hoc hof al G hT S hgo Z Y;rw[hce,hse,een]at *;rw[show j.enc=[.lst (j.locks.map LockD.enc),.acU j.tx,.lst (j.done.map au),.lst (j.threads.map ThrD.enc)]from rfl]at *
   repeat' (first|refine sy ?_|(refine pf 150 ?_;refine pm (hp) ?_)|((with_reducible refine aN 151 ?_);(refine vH hcp ?_;intro v K hK;exact fin _ _ _ _ _ _ hK))|refine s2 ?_ ?_|intro)
end
end
def P0(c:bP)(hc:lx c)(Z:∀t∈c.ts,t.ins.length<2^40)(hv:aq Tryz.prog 101 [.agg c.enc] (.bool true))(l:List aD)(hl:l.length<2^62)(D:eE)(H0:rF c D)(R0:yY c D)(I0:pR c 0 D)(b2 S:Nat)(Q:R)(hq:∀v L,Fz L v (W2 (gV c l ([],D)))->Q v L):
  W.loop (E4 Q) [.nils,.lst (l.map aD.enc),.pptr [c.enc] 0 0,.ptr b2 0 0,.ptr S 0 0,.acU (0:Nat)] [(S,⟨7,[ca]⟩),(b2,⟨7,[D.enc]⟩)]:=by
 refine aL l.length (λk (o:Option Nat)=>([af o (gV c (l.take k) ([],D)).1.length,.lst (l.map aD.enc),.pptr [c.enc] 0 0,.ptr b2 0 0,.ptr S 0 0,.acU k],(S,⟨7,[ca]⟩)::(b2,⟨7,[(gV c (l.take k) ([],D)).2.enc]⟩)::ab o 7 ((gV c (l.take k) ([],D)).1.map bA.enc))) (λk o=>o=none->(gV c (l.take k) ([],D)).1=[]) none (λ_=>rfl) (ax.drop (K:=[]) (.refl _) rfl (fy.at_ (.cons .nile (.cons (.refl _) (.cons (.refl _) (.cons (.refl _) (.cons (.refl _) (.cons (.refl _) .nil))))))).2) ?_;intro k o hk ho;dsimp only;have hcd:=nA hc Z;have hiv:=N2 hcd (l.take k) (p:=([],D)) I0 (Nat.zero_le _);have N:=U5 hc (l.take k) (p:=([],D)) H0;have hrf:=U8 hc Z (l.take k) (p:=([],D)) H0 R0 I0 (Nat.zero_le _);have B:=Pd c l k ([],D);have u:=λ(h:k<l.length)=>Pe c l k h ([],D);generalize hp:gV c (l.take k) ([],D)=p at *;obtain⟨ev,E⟩:=p;dsimp only at *;have fin:gV c l ([],D)=(ev,E)->∀L,(∀q∈ab o 7 (ev.map bA.enc),q∈L)->Q (.tup [af o ev.length,.agg E.enc]) L:=λhe L hm=>by
  refine hq _ _ ?_;rw[he];refine Fz.tups (.cons ?_ (.cons (.refl _) .nil));cases o with
  |none=>rw[ho rfl];exact .emp
  |some b=>exact Fz.sls (hm _ (.head _)) rfl acR rfl
 clear hq;unfold ca;refine vw ?_;have Y:∀n:eE,n.enc=[.lst (n.sync.locks.map LockD.enc),.acU n.sync.tx,.lst (n.sync.done.map au),.lst (n.sync.threads.map ThrD.enc),.lst (n.cells.map aa),.lst (n.futures.map aa),.lst (n.threads.map bI.enc)]:=λ_=>rfl
 have hce:c.enc=[.lst (c.w.cells.map aU.enc),.lst (c.w.locks.map bZ.enc),.lst (c.w.conds.map cM.enc),.lst (c.w.futures.map ay),.lst (c.w.threads.map ay),.lst (c.w.sites.map cF.enc),.lst (c.ts.map i6.enc)]:=rfl;rcases LE k l.length with g1|g1
 .have hd:=aS g1;have hx:=aj (f:=aD.enc) g1;have u:=u g1;generalize hch:l[k]=ch at *;obtain⟨ct,cw⟩:=ch;unfold aD.enc at hx;dsimp only at hx;by_cases G:400<=ev.length
  .have fin:=fin (by rw[B];exact Gs c _ _ G);have d4:decide ((ev.length:Int)<400)=false:=decide_eq_false acN;clear B u hp hrf N hiv hcd;rw[Y,hce]at *;cases o with
   |none=>rw[ho rfl]at G;simp at G
   |some bo=>
    dsimp only[af,ab]at *
    repeat' (first|refine sy ?_|refine s2 ?_ ?_|intro)
    exact fin _ acQ
  .have d4:decide ((ev.length:Int)<400)=true:=decide_eq_true acN;have O:=SS c E ct cw ev.length hiv.2 hc Z hv N hrf hiv.1;have M:IU c (ev,E) ⟨ct,cw⟩=match nz c E ct cw with
    |none=>(ev,E)
    |some (n,e)=>(ev++[e],n):=by unfold IU;rw[if_neg G];rfl
   clear B fin hrf N hcd;cases hs:nz c E ct cw with
   |none=>
    rw[hs]at O M;dsimp only at M;unfold Kf at O;have hz:eE.zero.enc=[.lst [],.acU 0,.lst [],.lst [],.lst [],.lst [],.lst []]:=rfl;rw[hz,show bA.zero.enc=[.acU 0,.acU 0,.acU 0,.acU 0,.acU 0,.lst [],.lst []]from rfl]at O;have fin2:∀L,L=(S,(⟨7,[ca]⟩:Blk))::(b2,⟨7,[E.enc]⟩)::ab o 7 (ev.map bA.enc)->∃(j:Nat) (o':Option Nat),k<j/\j<=l.length/\(o'=none->(gV c (l.take j) ([],D)).1=[])/\ax [af o ev.length,.lst (l.map aD.enc),.pptr [c.enc] 0 0,.ptr b2 0 0,.ptr S 0 0,.acU (IntKind.i64.wrap ((k:Int)+1))] L
      [af o' (gV c (l.take j) ([],D)).1.length,.lst (l.map aD.enc),.pptr [c.enc] 0 0,.ptr b2 0 0,.ptr S 0 0,.acU j] ((S,⟨7,[ca]⟩)::(b2,⟨7,[(gV c (l.take j) ([],D)).2.enc]⟩)::ab o' 7 ((gV c (l.take j) ([],D)).1.map bA.enc)):=by
     rintro L rfl;refine⟨k+1,o,acN,acN,?_,?_⟩
     .rw[u,M];exact ho
     .rw[u,M,av g1 hl];exact .refl _ _
    unfold ca at fin2;rw[Y,hce]at *;cases o
    all_goals
     dsimp only[af,ab]at *
     repeat' (first|refine sy ?_|refine s2 ?_ ?_|intro)
     exact fin2 _ rfl
   |some r=>
    obtain⟨n,e⟩:=r;rw[hs]at O M;dsimp only at M;unfold Kf at O;have he:e.enc=[.acU e.thread,.acU e.kind,.acU e.obj,.acU e.value,.acU e.site,.lst (e.deps.map aa),.lst (e.frm.map aa)]:=rfl;dsimp only at O;have fin3:∀(nb:Nat) (L:SH),cO L ((S,(⟨7,[ca]⟩:Blk))::(b2,⟨7,[n.enc]⟩)::ab (some nb) 7 (ev.map bA.enc++[e.enc]))->∃(j:Nat) (o':Option Nat),k<j/\j<=l.length/\(o'=none->(gV c (l.take j) ([],D)).1=[])/\ax [.sl nb 0 (ev.length+1),.lst (l.map aD.enc),.pptr [c.enc] 0 0,.ptr b2 0 0,.ptr S 0 0,.acU (IntKind.i64.wrap ((k:Int)+1))] L
      [af o' (gV c (l.take j) ([],D)).1.length,.lst (l.map aD.enc),.pptr [c.enc] 0 0,.ptr b2 0 0,.ptr S 0 0,.acU j] ((S,⟨7,[ca]⟩)::(b2,⟨7,[(gV c (l.take j) ([],D)).2.enc]⟩)::ab o' 7 ((gV c (l.take j) ([],D)).1.map bA.enc)):=by
     intro nb L hL;refine⟨k+1,some nb,acN,acN,nofun,?_⟩;rw[u,M,av g1 hl];exact ax.pickE hL (by simp[af]) acQ
    unfold ca at fin3;rw[Y n]at *;rw[Y E,he,hce]at *;have hev400:ev.length<2^30:=by omega
    have hlen:(ev.map bA.enc).length=ev.length:=by simp
    have h0:o=none->ev.map bA.enc=[]:=λe=>by rw[ho e];rfl
    repeat' (first|refine sy ?_|refine aM rp rp hlen h0 acP acQ acS acS acP (λnb_ hnb_=>?_)|refine Ud ?_ (λe=>by rw[ho e];rfl)|refine s2 ?_ ?_|intro)
    exact fin3 _ _ rp
 .have hd:=aW g1;have hk0:k=l.length:=by omega
  subst hk0;have fin:=fin (by rw[B,List.drop_of_length_le (Fd _)];rfl);clear B u hp hrf N hiv hcd;rw[Y,hce]at *;cases o
  all_goals
   dsimp only[af,ab]at *
   repeat' (first|refine sy ?_|refine s2 ?_ ?_|intro)
   exact fin _ acQ
def SU(c:bP)(M:lx c)(u:∀t∈c.ts,t.ins.length<2^40)(D:aq Tryz.prog 101 [.agg c.enc] (.bool true))(l:List aD)(G:l.length<2^62)(j:eE)(H0:rF c j)(S:yY c j)(Y:pR c 0 j):aq Tryz.prog 102 [.agg c.enc,.agg j.enc,.nils,.lst (l.map aD.enc)] (W2 (gV c l ([],j))):=by
 refine OY λQ E=>E5 _ _ _ _ _ _ ?_
 refine vw ?_;have B:=λO N=>P0 c M u D l G j H0 S Y O N Q E
 clear E D;unfold ca at B;rw[show j.enc=[.lst (j.sync.locks.map LockD.enc),.acU j.sync.tx,.lst (j.sync.done.map au),.lst (j.sync.threads.map ThrD.enc),.lst (j.cells.map aa),.lst (j.futures.map aa),.lst (j.threads.map bI.enc)]from rfl,show c.enc=[.lst (c.w.cells.map aU.enc),.lst (c.w.locks.map bZ.enc),.lst (c.w.conds.map cM.enc),.lst (c.w.futures.map ay),.lst (c.w.threads.map ay),.lst (c.w.sites.map cF.enc),.lst (c.ts.map i6.enc)]from rfl]at *
 repeat' (first|refine sy ?_|refine s2 ?_ ?_|intro)
 exact B _ _
def Va(c:bP)(j:∀t∈c.ts,t.ins.length<2^40)(l:List aD)(Y:l.length<2^62):aq Tryz.prog 64 [.agg c.enc,.lst (l.map aD.enc)] (.tup [.agg (wM c l).1.enc,.agg (wM c l).2.enc]):=by
 have G:=Pm c λt ht=>by have:=j t ht;omega
 refine ac.fz (Ii _ _ _ _ ?_);refine vw ?_;generalize hQ:(λ(v:AV) (L:SH)=>∃Z L2,ax [v] L [Z] L2/\Z=AV.tup [.agg (wM c l).1.enc,.agg (wM c l).2.enc]/\L2=[])=Q;have M:∀a b L,fy L a (wM c l).1.enc->fy L b (wM c l).2.enc->Q (.tup [.agg a,.agg b]) L:=λa b L h1 h2=>by subst hQ;exact⟨_,[],ax.all (Fz.tups (.cons (Fz.aggs h1) (.cons (Fz.aggs h2) .nil))),rfl,rfl⟩
 clear hQ;have E:c.enc=[.lst (c.w.cells.map aU.enc),.lst (c.w.locks.map bZ.enc),.lst (c.w.conds.map cM.enc),.lst (c.w.futures.map ay),.lst (c.w.threads.map ay),.lst (c.w.sites.map cF.enc),.lst (c.ts.map i6.enc)]:=rfl;cases D:lu (lx c)with
 |false=>
  rw[D]at G;have S:wM c l=(⟨⟨[],[],[],[],[],[]⟩,[]⟩,eE.zero):=by unfold wM;rw[D];rfl
  rw[S]at M;have N:∀L,Q (.tup [.agg [.nils,.nils,.nils,.nils,.nils,.nils,.nils],.agg [.nils,.acU 0,.nils,.nils,.nils,.nils,.nils]]) L:=λL=>M _ _ L (by unfold el.enc;exact fl) (by unfold eE.zero eE.enc Gl;exact fl)
  rw[E]at *
  repeat' (first|refine sy ?_|refine s2 ?_ ?_|intro)
  exact N _
 |true=>
  rw[D]at G;have u:=iH.1 D;have B:=u.world;have S:wM c l=(⟨c.w,(lS c l).1⟩,(lS c l).2):=by unfold wM;rw[D];rfl
  rw[S]at M;have hst:=PY c G (by have:=B.c12;omega) (by have:=B.l4;omega) (by have:=B.f2;omega) (by have:=B.t4;omega) (by have:=u.len;have:=B.t4;omega) (Kj u);have hf:=SU c u j G l Y (du c) (GQ u) (PW u) (A4 u);rw[show gV c l ([],du c)=lS c l from rfl]at hf;generalize lS c l=p at *;obtain⟨ev,s⟩:=p;unfold W2 at hf;have O:s.enc=[.lst (s.sync.locks.map LockD.enc),.acU s.sync.tx,.lst (s.sync.done.map au),.lst (s.sync.threads.map ThrD.enc),.lst (s.cells.map aa),.lst (s.futures.map aa),.lst (s.threads.map bI.enc)]:=rfl;dsimp only at *;generalize du c=s0 at *;rw[show s0.enc=[.lst (s0.sync.locks.map LockD.enc),.acU s0.sync.tx,.lst (s0.sync.done.map au),.lst (s0.sync.threads.map ThrD.enc),.lst (s0.cells.map aa),.lst (s0.futures.map aa),.lst (s0.threads.map bI.enc)]from rfl]at *;rw[E]at *;rw[O]at *;have N:∀L,Q (.tup [.agg [.lst (c.w.cells.map aU.enc),.lst (c.w.locks.map bZ.enc),.lst (c.w.conds.map cM.enc),.lst (c.w.futures.map ay),.lst (c.w.threads.map ay),.lst (c.w.sites.map cF.enc),.lst (ev.map bA.enc)],.agg [.lst (s.sync.locks.map LockD.enc),.acU s.sync.tx,.lst (s.sync.done.map au),.lst (s.sync.threads.map ThrD.enc),.lst (s.cells.map aa),.lst (s.futures.map aa),.lst (s.threads.map bI.enc)]]) L:=λL=>M _ _ L (fy.refl _ _) (fy.refl _ _)
  repeat' (first|refine sy ?_|refine s2 ?_ ?_|intro)
  exact N _
