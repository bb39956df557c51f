/- part -/
import Derived.Test.YtfcfhjadaknphaaGreatDoorQxw
import Derived.Test.YtfcfhjadaknphaaGreatDoorQxAk
import Derived.Test.YtfcfhjadaknphaaGreatDoorQxAl
set_option linter.all false
set_option maxRecDepth 100000
set_option maxHeartbeats 0
namespace Go.Proofs.YtfcfhjadaknphaaGreatDoor.Am
section
theorem Og{c:aL}{s:bU}{t:Int}{e:bH}(hp:bS c s t=some e):e.value=0:=by
 unfold bS at hp;split at hp
 .dsimp only at hp;split at hp
  .cases hp;rfl
  .split at hp
   .cases hp;rfl
   .split at hp
    .split at hp
     .cases hp;unfold dM;dsimp only
      repeat' split
      all_goals rfl
     .cases hp
    .cases hp
 .cases hp
section
variable (c:aL) (s:bU) (t wake:Int) (n:Nat) (hn:n<=400) (hc:fy c) (hl:∀t∈c.ts,t.ins.length<2^40) (hv:ao Tryz.prog 34 [.agg c.enc] (.bool true)) (H:Be c s) (R:Fo c s) (I:nY c n s)
include hn hc hl hv H R I
theorem Oh:ao Tryz.prog 75 [.agg c.enc,.agg s.enc,.agg [.YJ t,.YJ wake]] (jp (cB c s t wake)):=by
 have D:=jr hc hl;have SH':=u7 hn I D.ins D.len D.con;have Cj:c.ts.length<2^62:=by have:=hc.len;have:=hc.world.t4;omega
 have hp:=yi c s t hv (R.fit9 H) (by have:=D.con;omega) Cj D.ins (λx hx r=>by
  have:=(SH'.thr x hx).1.short;unfold aG.tnt;rcases Fn r.toNat x.taint.length with h|h
  .have:=this _ (WN h);simp[h];omega
  .simp[List.getD,ST h])
 have hln:s.cells.length=c.w.cells.length/\s.futures.length=c.w.futures.length:=⟨R.nc,R.nf⟩;rw[lC];refine ac.fz (CU _ _ _ _ _ ?_);refine vw ?_;generalize hQ:(λ(v:AV) (L:SH)=>∃v2 L2,aE [v] L [v2] L2/\v2=_/\L2=[])=Q;have E:∀v L,Fz L v (jp (match bS c s t with
  |none=>none
  | some e=>if s.cells.length=c.w.cells.length/\s.futures.length=c.w.futures.length then
    (if(ef c.w s.sync t e.kind e.obj wake).2.2 then lY c s t (ef c.w s.sync t e.kind e.obj wake).1 e (cG (bV (au c t) (aB s t).pc) e s (aB s t) (ef c.w s.sync t e.kind e.obj wake).2.1)else none)else none))->Q v L:=λv L h=>by subst hQ;exact⟨_,[],aE.all h,rfl,rfl⟩
 clear hQ;have hce:c.enc=[.lst (c.w.cells.map aH.enc),.lst (c.w.locks.map bv.enc),.lst (c.w.conds.map bO.enc),.lst (c.w.futures.map av),.lst (c.w.threads.map av),.lst (c.w.sites.map bM.enc),.lst (c.ts.map eG.enc)]:=rfl;have hse:s.enc=[.lst (s.sync.locks.map LockD.enc),.YJ s.sync.tx,.lst (s.sync.done.map aD),.lst (s.sync.threads.map ThrD.enc),.lst (s.cells.map ah),.lst (s.futures.map ah),.lst (s.threads.map aG.enc)]:=rfl;cases M:bS c s t with
 |none=>
  rw[M]at hp E;unfold gM at hp;have hz:=λv L (h:v=_)=>E v L (by rw[h];exact mO L)
  unfold ay cy bH.zero bH.enc at *;dsimp only[List.map]at hp;rw[hce,hse]at *
  repeat' (first|refine sy ?_|(refine pf 77 ?_;refine pm (hp) ?_)|refine s2 ?_ ?_|intro)
  exact hz _ _ rfl
 |some e=>
  rw[M]at hp E;unfold gM at hp;dsimp only at hp E;rw[if_pos hln]at E;have G:=tG D.ins M;have hval:e.value=0:=Og M;have ha:=LO c.w s.sync t e.kind e.obj wake SH'.sm;have een:e.enc=[.YJ e.thread,.YJ e.kind,.YJ e.obj,.YJ e.value,.YJ e.site,.lst (e.deps.map ah),.lst (e.frm.map ah)]:=rfl;have hen:(ef c.w s.sync t e.kind e.obj wake).2.2=true->aI c.w s.sync t e.kind e.obj=true/\(e.kind≠18->e.kind≠19->(ef c.w s.sync t e.kind e.obj wake).2.1=0):=λh=>by
   unfold ef at h ⊢;split at h
   .rename_i he;refine⟨he,λk18 k19=>?_⟩;rw[if_pos he];unfold bn
    repeat' refine iteInduction (motive:=λp:SyncD×Int=>p.2=0) (λ_=>?_) (λ_=>?_)
    all_goals first
     |rfl
     |(exfalso;omega)
   .cases h
  generalize hres:ef c.w s.sync t e.kind e.obj wake=r at *;obtain⟨j,sv,ok⟩:=r;unfold Nm at ha;dsimp only at ha E hen;cases ok with
  |false=>
   have hz:=λv L (h:v=_)=>E v L (by rw[h];exact mO L)
   unfold ay cy at hz;rw[hce,hse,een]at *
   repeat' (first|refine sy ?_|(refine pf 77 ?_;refine pm (hp) ?_)|refine s2 ?_ ?_|intro)
   exact hz _ _ rfl
  |true=>
   obtain⟨hen1,hsv⟩:=hen rfl;rw[if_pos rfl]at E;obtain⟨a1,a2,a3,a4,a5,a6⟩:=fe G.ready;have al:=xW (w:=c.w) (s:=s.sync) (t:=t) (k:=e.kind) (o:=e.obj) (wake:=wake) (by rw[hres]);have Y:aB s t∈s.threads:=fO (d:=aG.zero) a2;have hT:=SH'.thr _ Y;have hoc:e.kind=3\/e.kind=4->inB e.obj s.cells.length=true:=λO=>by unfold allowedS at al;rw[if_neg YC,if_pos O]at al;rw[hln.1];exact al
   have hof:e.kind=22\/e.kind=23->inB e.obj s.futures.length=true:=λO=>by unfold allowedS at al;rw[if_neg YC,if_neg YC,if_neg YC,if_neg YC,if_neg YC,if_neg YC,if_pos O]at al;rw[hln.2];exact al
   have u:=A8 (i:=bV (au c t) (aB s t).pc) (e:=e) (s:=s) (sv:=sv) hT.1 hT.2.1;have S:=Jj (au c t) (cG (bV (au c t) (aB s t).pc) e s (aB s t) sv).thread U9 SH'.u30 u.small (by rw[u.len];exact u.small) u.short u.sub (hl _ (show au c t∈c.ts from fO a1));have hgo:=λO=>settles (sv:=sv) hc hl H R M hen1 O
   have hcp:=Of s t.toNat SH'.nt SH'.nc SH'.nf (λx hx=>⟨(SH'.thr x hx).1.small,by have:=(SH'.thr x hx).1.len;have:=(SH'.thr x hx).2.2;omega,(SH'.thr x hx).1.short⟩) SH'.sm.locks SH'.sm.done SH'.sm.threads SH'.sm.rd;obtain⟨th,hth⟩:∃th,((e.kind=16\/e.kind=2)/\th=(cG (bV (au c t) (aB s t).pc) e s (aB s t) sv).thread)\/((e.kind≠16/\e.kind≠2)/\bu (au c t) (cG (bV (au c t) (aB s t).pc) e s (aB s t) sv).thread=(th,true)):=by
    by_cases O:e.kind=16\/e.kind=2
    .exact⟨_,.inl ⟨O,rfl⟩⟩
    .exact⟨_,.inr ⟨YC,Prod.ext rfl (hgo YC)⟩⟩
   have Z:lY c s t j e (cG (bV (au c t) (aB s t).pc) e s (aB s t) sv)=some (⟨j,(cG (bV (au c t) (aB s t).pc) e s (aB s t) sv).cells,(cG (bV (au c t) (aB s t).pc) e s (aB s t) sv).futures,s.threads.set t.toNat th⟩,{e with value:=(cG (bV (au c t) (aB s t).pc) e s (aB s t) sv).value}):=by
    unfold lY;rcases hth with⟨O,rfl⟩|⟨O,hs⟩
    .rw[if_neg YC]
    .rw[if_pos O,hs];rfl
   rw[Z]at E;have fin:∀(be b8 b6 bs:Nat) (v:AV) (K:SH),Ta s t.toNat v K->∃L':SH,(K++[(be,(⟨7,[e.enc]⟩:Blk)),(b8,⟨7,[cy]⟩),(b6,⟨7,[ay]⟩),(bs,⟨7,[s.enc]⟩)]).Perm L'/\(L'.names.Nodup->sF Q (.ptr bs 0 0) (.pptr [j.enc] 0 0) (.pptr [[.YJ t,.YJ wake]] 0 0) (.pptr [c.enc] 0 0) (.ptr be 0 0) (.YJ sv) (.ptr b6 0 0) (.ptr b8 0 0) v L'):=by
    rintro be b8 b6 bs v K ⟨bc,bf,ot,o,tt,rfl,rfl,hot,ho,htt⟩;have B:t.toNat<s.threads.length:=by have:=aw.1 a2;omega
    obtain⟨bt,rfl⟩:∃b,ot=some b:=by
     cases ot with
     |some b=>exact⟨b,rfl⟩
     |none=>exfalso;rw[hot rfl]at B;simp at B
    refine⟨sQ s t e be b8 b6 bs bt bc bf o tt,?_,λhnd=>?_⟩
    .rw[if_pos B];exact W1
    .exact VB c s t wake a2 a1 j sv e (bV (au c t) (aB s t).pc) (co a4) a4 be b8 b6 bs bt bc bf o tt hnd Q hval hsv (λh=>ho h B) (λh=>htt h B) YC G.ra G.rb hoc hof λb74 hb=>
      Ww c s t wake a2 a1 j sv e _ be b8 b6 bs bt bc bf o tt hnd Q (λh=>ho h B) (λh=>htt h B) YC G.ra th _ rfl S hth E b74 hb
   unfold ay cy at fin;clear E S u hoc hof al G hT Y hgo hth Z;rw[hce,hse,een]at *;rw[show j.enc=[.lst (j.locks.map LockD.enc),.YJ j.tx,.lst (j.done.map aD),.lst (j.threads.map ThrD.enc)]from rfl]at *
   repeat' (first|refine sy ?_|(refine pf 77 ?_;refine pm (hp) ?_)|((with_reducible refine aU 122 ?_);(refine zu hcp ?_;intro v K hK;exact fin _ _ _ _ _ _ hK))|refine s2 ?_ ?_|intro)
end
end
def Js(c:aL)(hc:fy c)(hins:∀t∈c.ts,t.ins.length<2^40)(hv:ao Tryz.prog 34 [.agg c.enc] (.bool true))(l:List bW)(hl:l.length<2^62)(u:List bH)(E:bU)(H0:gt c (u,E))(o0:Option Nat)(ho0:o0=none->u=[])(b2 Y:Nat)(Q:R)(hq:∀(o:Option Nat) (L:SH),(o=none->(cf c l (u,E)).1=[])->dD L (ab o 7 ((cf c l (u,E)).1.map bH.enc))->Q (.tup [ai o (cf c l (u,E)).1.length,.agg (cf c l (u,E)).2.enc]) L):
  W.loop (CV Q) [ai o0 u.length,.lst (l.map bW.enc),.pptr [c.enc] 0 0,.ptr b2 0 0,.ptr Y 0 0,.YJ (0:Nat)] ((Y,⟨7,[ay]⟩)::(b2,⟨7,[E.enc]⟩)::ab o0 7 (u.map bH.enc)):=by
 refine bF l.length (λk (o:Option Nat)=>([ai o (cf c (l.take k) (u,E)).1.length,.lst (l.map bW.enc),.pptr [c.enc] 0 0,.ptr b2 0 0,.ptr Y 0 0,.YJ k],(Y,⟨7,[ay]⟩)::(b2,⟨7,[(cf c (l.take k) (u,E)).2.enc]⟩)::ab o 7 ((cf c (l.take k) (u,E)).1.map bH.enc))) (λk o=>o=none->(cf c (l.take k) (u,E)).1=[]) o0 ho0 (.refl _ _) ?_;intro k o hk ho;dsimp only;have hcd:=jr hc hins;have hR:=gt.fol hc hins (l.take k) H0;have D:=wY c l k (u,E);have B:=λ(h:k<l.length)=>wZ c l k h (u,E);generalize hp:cf c (l.take k) (u,E)=p at *;obtain⟨ev,G⟩:=p;dsimp only at *;have fin:cf c l (u,E)=(ev,G)->∀L,dD L (ab o 7 (ev.map bH.enc))->Q (.tup [ai o ev.length,.agg G.enc]) L:=λhe L hm=>by rw[he]at hq;exact hq o L ho hm
 clear hq;unfold ay;refine vw ?_;have Z:∀n:bU,n.enc=[.lst (n.sync.locks.map LockD.enc),.YJ n.sync.tx,.lst (n.sync.done.map aD),.lst (n.sync.threads.map ThrD.enc),.lst (n.cells.map ah),.lst (n.futures.map ah),.lst (n.threads.map aG.enc)]:=λ_=>rfl
 have hce:c.enc=[.lst (c.w.cells.map aH.enc),.lst (c.w.locks.map bv.enc),.lst (c.w.conds.map bO.enc),.lst (c.w.futures.map av),.lst (c.w.threads.map av),.lst (c.w.sites.map bM.enc),.lst (c.ts.map eG.enc)]:=rfl;rcases Fn k l.length with g1|g1
 .have hd:=a8 g1;have hx:=aq (f:=bW.enc) g1;have B:=B g1;generalize hch:l[k]=ch at *;obtain⟨ct,cw⟩:=ch;unfold bW.enc at hx;dsimp only at hx;by_cases M:400<=ev.length
  .have fin:=fin (by rw[D];exact qP c _ _ M);have d4:decide ((ev.length:Int)<400)=false:=decide_eq_false YC;clear D B hp hR hcd;rw[Z,hce]at *;cases o with
   |none=>rw[ho rfl]at M;simp at M
   |some bo=>
    dsimp only[ai,ab]at *
    repeat' (first|refine sy ?_|refine s2 ?_ ?_|intro)
    exact fin _ rp
  .have d4:decide ((ev.length:Int)<400)=true:=decide_eq_true YC;have S:=Oh c G ct cw ev.length hR.le hc hins hv hR.stk hR.ref hR.inv;have O:zB c (ev,G) ⟨ct,cw⟩=match cB c G ct cw with
    |none=>(ev,G)
    |some (n,e)=>(ev++[e],n):=by unfold zB;rw[if_neg M];rfl
   clear D fin hcd;cases hs:cB c G ct cw with
   |none=>
    rw[hs]at S O;dsimp only at O;unfold jp at S;have hz:bU.zero.enc=[.lst [],.YJ 0,.lst [],.lst [],.lst [],.lst [],.lst []]:=rfl;rw[hz,show bH.zero.enc=[.YJ 0,.YJ 0,.YJ 0,.YJ 0,.YJ 0,.lst [],.lst []]from rfl]at S;have fin2:∀L,L=(Y,(⟨7,[ay]⟩:Blk))::(b2,⟨7,[G.enc]⟩)::ab o 7 (ev.map bH.enc)->∃(j:Nat) (o':Option Nat),k<j/\j<=l.length/\(o'=none->(cf c (l.take j) (u,E)).1=[])/\aE [ai o ev.length,.lst (l.map bW.enc),.pptr [c.enc] 0 0,.ptr b2 0 0,.ptr Y 0 0,.YJ (IntKind.i64.wrap ((k:Int)+1))] L
      [ai o' (cf c (l.take j) (u,E)).1.length,.lst (l.map bW.enc),.pptr [c.enc] 0 0,.ptr b2 0 0,.ptr Y 0 0,.YJ j] ((Y,⟨7,[ay]⟩)::(b2,⟨7,[(cf c (l.take j) (u,E)).2.enc]⟩)::ab o' 7 ((cf c (l.take j) (u,E)).1.map bH.enc)):=by
     rintro L rfl;refine⟨k+1,o,YC,YC,?_,?_⟩
     .rw[B,O];exact ho
     .rw[B,O,ax g1 hl];exact .refl _ _
    unfold ay at fin2;rw[Z,hce]at *;cases o
    all_goals
     dsimp only[ai,ab]at *
     repeat' (first|refine sy ?_|refine s2 ?_ ?_|intro)
     exact fin2 _ rfl
   |some r=>
    obtain⟨n,e⟩:=r;rw[hs]at S O;dsimp only at O;unfold jp at S;have he:e.enc=[.YJ e.thread,.YJ e.kind,.YJ e.obj,.YJ e.value,.YJ e.site,.lst (e.deps.map ah),.lst (e.frm.map ah)]:=rfl;dsimp only at S;have fin3:∀(nb:Nat) (L:SH),dD L ((Y,(⟨7,[ay]⟩:Blk))::(b2,⟨7,[n.enc]⟩)::ab (some nb) 7 (ev.map bH.enc++[e.enc]))->∃(j:Nat) (o':Option Nat),k<j/\j<=l.length/\(o'=none->(cf c (l.take j) (u,E)).1=[])/\aE [.sl nb 0 (ev.length+1),.lst (l.map bW.enc),.pptr [c.enc] 0 0,.ptr b2 0 0,.ptr Y 0 0,.YJ (IntKind.i64.wrap ((k:Int)+1))] L
      [ai o' (cf c (l.take j) (u,E)).1.length,.lst (l.map bW.enc),.pptr [c.enc] 0 0,.ptr b2 0 0,.ptr Y 0 0,.YJ j] ((Y,⟨7,[ay]⟩)::(b2,⟨7,[(cf c (l.take j) (u,E)).2.enc]⟩)::ab o' 7 ((cf c (l.take j) (u,E)).1.map bH.enc)):=by
     intro nb L hL;refine⟨k+1,some nb,YC,YC,nofun,?_⟩;rw[B,O,ax g1 hl];exact aE.pickE hL (by simp[ai]) YF
    unfold ay at fin3;rw[Z n]at *;rw[Z G,he,hce]at *;have hev400:ev.length<2^30:=by omega
    have hlen:(ev.map bH.enc).length=ev.length:=by simp
    have h0:o=none->ev.map bH.enc=[]:=λe=>by rw[ho e];rfl
    repeat' (first|refine sy ?_|refine bG rp rp hlen h0 YE YF YH YH YE (λnb_ hnb_=>?_)|refine uW ?_ (λe=>by rw[ho e];rfl)|refine s2 ?_ ?_|intro)
    exact fin3 _ _ rp
 .have hd:=bq g1;have hk0:k=l.length:=by omega
  subst hk0;have fin:=fin (by rw[D,Yn (Fd _)];rfl);clear D B hp hR hcd;rw[Z,hce]at *;cases o
  all_goals
   dsimp only[ai,ab]at *
   repeat' (first|refine sy ?_|refine s2 ?_ ?_|intro)
   exact fin _ rp
def HV(c:aL)(hc:fy c)(B:∀t∈c.ts,t.ins.length<2^40)(O:ao Tryz.prog 34 [.agg c.enc] (.bool true))(l:List bW)(hl:l.length<2^62)(j:List bH)(u:bU)(H0:gt c (j,u))(D:Option Nat)(E:D=none->j=[]):ac Tryz.prog 35 [.agg c.enc,.agg u.enc,ai D j.length,.lst (l.map bW.enc)] (ab D 7 (j.map bH.enc)) (HU (cf c l (j,u))):=by
 refine ac.fz (CW _ _ _ _ _ _ ?_);refine vw ?_;generalize Y:(λ(v:AV) (L:SH)=>∃G Z,aE [v] L [G] Z/\HU (cf c l (j,u)) G Z)=Q;have S:∀(o:Option Nat) (L:SH),(o=none->(cf c l (j,u)).1=[])->dD L (ab o 7 ((cf c l (j,u)).1.map bH.enc))->Q (.tup [ai o (cf c l (j,u)).1.length,.agg (cf c l (j,u)).2.enc]) L:=λo L ho hL=>by subst Y;exact⟨_,_,aE.pickE hL rfl rfl,o,ho,rfl,rfl⟩
 clear Y;have M:=λb2 b4=>Js c hc B O l hl j u H0 D E b2 b4 Q S
 clear S O H0;unfold ay at M;rw[show u.enc=[.lst (u.sync.locks.map LockD.enc),.YJ u.sync.tx,.lst (u.sync.done.map aD),.lst (u.sync.threads.map ThrD.enc),.lst (u.cells.map ah),.lst (u.futures.map ah),.lst (u.threads.map aG.enc)]from rfl,show c.enc=[.lst (c.w.cells.map aH.enc),.lst (c.w.locks.map bv.enc),.lst (c.w.conds.map bO.enc),.lst (c.w.futures.map av),.lst (c.w.threads.map av),.lst (c.w.sites.map bM.enc),.lst (c.ts.map eG.enc)]from rfl]at *
 repeat' (first|refine sy ?_|refine s2 ?_ ?_|intro)
 exact M _ _
def Oq(c:aL)(s:bU)(t:Int)(hp:ao Tryz.prog 77 [.agg c.enc,.agg s.enc,.YJ t] (gM (bS c s t)))(M:c.w.conds.length<2^62)(G:∀l∈s.sync.locks,l.readers.length<2^40):
  ao Tryz.prog 37 [.agg c.enc,.agg s.enc,.YJ t] (.bool (LS c s t (bS c s t))):=by
 refine Pi λQ B=>xc _ _ _ _ _ ?_
 refine vw ?_;have u:c.enc=[.lst (c.w.cells.map aH.enc),.lst (c.w.locks.map bv.enc),.lst (c.w.conds.map bO.enc),.lst (c.w.futures.map av),.lst (c.w.threads.map av),.lst (c.w.sites.map bM.enc),.lst (c.ts.map eG.enc)]:=rfl;have j:s.enc=[.lst (s.sync.locks.map LockD.enc),.YJ s.sync.tx,.lst (s.sync.done.map aD),.lst (s.sync.threads.map ThrD.enc),.lst (s.cells.map ah),.lst (s.futures.map ah),.lst (s.threads.map aG.enc)]:=rfl;generalize bS c s t=r at *;cases r with
 |none=>
  unfold LS at B;unfold gM bH.zero bH.enc at hp;dsimp only at *;rw[u,j]at *
  repeat' (first|refine sy ?_|(refine pf 77 ?_;refine pm (hp) ?_)|refine s2 ?_ ?_|intro)
  exact B _
 |some e=>
  have O:=yb c.w s.sync t e.kind e.obj M G;unfold LS at B;have E:c.w.enc=[.lst (c.w.cells.map aH.enc),.lst (c.w.locks.map bv.enc),.lst (c.w.conds.map bO.enc),.lst (c.w.futures.map av),.lst (c.w.threads.map av),.lst (c.w.sites.map bM.enc)]:=rfl;have D:s.sync.enc=[.lst (s.sync.locks.map LockD.enc),.YJ s.sync.tx,.lst (s.sync.done.map aD),.lst (s.sync.threads.map ThrD.enc)]:=rfl;rw[E,D]at O;unfold gM bH.enc at hp;dsimp only at *;rw[u,j]at *
  repeat' (first|refine sy ?_|(refine pf 77 ?_;refine pm (hp) ?_)|refine s2 ?_ ?_|intro)
  exact B _
section
theorem Ot(c:aL)(hc:fy c)(hins:∀t∈c.ts,t.ins.length<2^40)(hv:ao Tryz.prog 34 [.agg c.enc] (.bool true))(j:List bH)(u:bU)(H0:gt c (j,u))(B:Option Nat)(E:B=none->j=[])(k D:Nat){n:bU}{e:bH}(M:j.length<400)(G:cB c u (k:Int) (-1)=some (n,e)):ac Tryz.prog 35 [.agg c.enc,.agg u.enc,ai B j.length,.sl D 0 1] ((D,⟨2,[[.YJ k,.YJ (-1)]]⟩)::ab B 7 (j.map bH.enc)) (HU (j++[e],n)):=by
 have h:=HV c hc hins hv [⟨k,-1⟩] YF j u H0 B E;have O:cf c [⟨(k:Int),-1⟩] (j,u)=(j++[e],n):=by show zB c (j,u) ⟨(k:Int),-1⟩=_;unfold zB;rw[if_neg (by dsimp only;omega)];dsimp only;rw[G]
 rw[O]at h;refine ac.pre (args2:=[.agg c.enc,.agg u.enc,ai B j.length,.lst ([(⟨(k:Int),-1⟩:bW)].map bW.enc)]) (aE.drop (K:=[(D,⟨2,[[.YJ k,.YJ (-1)]]⟩)]) (.refl _) rfl (fi.at_ (.cons (.refl _) (.cons (.refl _) (.cons (.refl _) (.cons ?_ .nil))))).2) h;exact Fz.sls (l:=[(⟨(k:Int),-1⟩:bW)]) (f:=bW.enc) (.head _) rfl YG rfl
theorem Ju{args:List AV}{D:Nat}{x:Blk}{B:Option Nat}{rows:List (List AV)}{p:List bH×bU}{L E L2:SH}{KL:AV->SH->Prop}(h:ac Tryz.prog 35 args ((D,x)::ab B 7 rows) (HU p))(j:fQ D x L E)(h2:eZ B 7 rows E L2)(M:∀o:Option Nat,(o=none->p.1=[])->KL (.tup [ai o p.1.length,.agg p.2.enc]) (L2++ab o 7 (p.1.map bH.enc))):W.callM Tryz.prog 35 args L KL:=⟨.perm (h.frame (j.perm.trans (h2.perm.cons _)) λu K G=>by
 obtain⟨o,j,rfl,rfl⟩:=G;exact⟨_,W1,M o j⟩)⟩
section
variable (c:aL) (hc:fy c) (hins:∀t∈c.ts,t.ins.length<2^40) (hv:ao Tryz.prog 34 [.agg c.enc] (.bool true)) (ev:List bH) (s:bU) (H:gt c (ev,s)) (o:Option Nat) (ho:o=none->ev=[]) (bt br bs:Nat) (n1:bt≠br) (n2:bt≠bs) (n3:br≠bs) (N:Kn) (J:Vs->SH->Prop)
def Kz(ev:List bH)(s:bU)(o:Option Nat)(bt br bs:Nat):SH:=(bs,⟨7,[s.enc]⟩)::(br,⟨7,[ay]⟩)::(bt,⟨7,[ft]⟩)::ab o 7 (ev.map bH.enc)
include hc hins hv H ho n1 n2 n3
theorem Qm(hlt:ev.length<400)(S:fJ c s=none->J [.pptr [c.enc] 0 0,.ptr bt 0 0,.ptr br 0 0,ai o ev.length,.ptr bs 0 0] (Kz ev s o bt br bs))(O:∀(n:bU) (e:bH),fJ c s=some (n,e)->∀(nb:Nat) (L:SH),dD L (Kz (ev++[e]) n (some nb) bt br bs)->N [.pptr [c.enc] 0 0,.ptr bt 0 0,.ptr br 0 0,.sl nb 0 (ev.length+1),.ptr bs 0 0] L):
  W.loop (vg N J) [.pptr [c.enc] 0 0,.ptr bt 0 0,.ptr br 0 0,ai o ev.length,.ptr bs 0 0,.YJ (0:Nat)] (Kz ev s o bt br bs):=by
 refine bF c.ts.length (λk (_:Unit)=>([.pptr [c.enc] 0 0,.ptr bt 0 0,.ptr br 0 0,ai o ev.length,.ptr bs 0 0,.YJ k],Kz ev s o bt br bs)) (λk _=>∀j:Nat,j<k->cB c s j (-1)=none) () (λj hj=>absurd hj YC) (.refl _ _) ?_;intro k _ hk B;dsimp only;refine vw ?_;have hn1000:c.ts.length<=4:=by have:=hc.len;have:=hc.world.t4;omega
 have G:=jr hc hins;have Y:∀x∈s.threads,∀r,(x.tnt r).length*8<=140737488355328:=λx hx r=>by
  have:=(H.inv.thr x hx).1.short;unfold aG.tnt;rcases Fn r.toNat x.taint.length with g|g
  .have:=this _ (WN g);simp[g];omega
  .simp[g]
 have hp:=yi c s k hv (H.ref.fit9 H.stk) (by have:=G.con;omega) YC G.ins Y;have D:=Oq c s k hp (by have:=G.con;omega) λl hl=>by have:=H.inv.rd l hl;have:=H.le;dsimp only at *;omega
 rw[Ol hc hins H k (-1)]at D;dsimp only at D;clear hp Y;have E:c.enc=[.lst (c.w.cells.map aH.enc),.lst (c.w.locks.map bv.enc),.lst (c.w.conds.map bO.enc),.lst (c.w.futures.map av),.lst (c.w.threads.map av),.lst (c.w.sites.map bM.enc),.lst (c.ts.map eG.enc)]:=rfl;have u:∀s:bU,s.enc=[.lst (s.sync.locks.map LockD.enc),.YJ s.sync.tx,.lst (s.sync.done.map aD),.lst (s.sync.threads.map ThrD.enc),.lst (s.cells.map ah),.lst (s.futures.map ah),.lst (s.threads.map aG.enc)]:=λ_=>rfl
 generalize hR:(λ(vs':List AV) (L':SH)=>∃(j:Nat) (o':Unit),k<j/\j<=c.ts.length/\_)=M;have ejn:∀k2:Int,decide (k2=k2)=true:=λk2=>by simp
 rcases Fn k c.ts.length with g1|g1
 .have hd:=a8 g1;have d3:decide ((k:Int)=(c.ts.length:Int))=false:=by simp;omega
  cases Z:cB c s k (-1)with
  |none=>
   rw[Z]at D;have hm:∀L,dD L (Kz ev s o bt br bs)->M [.pptr [c.enc] 0 0,.ptr bt 0 0,.ptr br 0 0,ai o ev.length,.ptr bs 0 0,.YJ (IntKind.i64.wrap ((k:Int)+1))] L:=λL hL=>by
    subst hR;refine⟨k+1,(),YC,YC,λj hj=>?_,by rw[ax g1 YC];exact aE.pickE hL rfl rfl⟩;rcases Fn j k with g|g
    .exact B j g
    .obtain rfl:j=k:=by omega
     exact Z
   clear S O hR;unfold Kz ay ft at *;dsimp only[Option.isSome]at D;rw[u,E]at *;cases o
   all_goals
    dsimp only[ai,ab]at *
    repeat' (first|refine sy ?_|refine s2 ?_ ?_|intro)
    exact hm _ rp
  |some r=>
   obtain⟨n,e⟩:=r;rw[Z]at D;have hl:fJ c s=some (n,e):=Jn _ 0 (Xq _) YC (λj _ hj=>B j hj) Z;have hf:=λnb=>Ot c hc hins hv ev s H o ho k nb hlt Z
   have O:=O n e hl;clear S hR;unfold Kz ay ft at *;dsimp only[Option.isSome]at D;rw[u n]at O;rw[u s,E]at *
   repeat' (first|refine sy ?_|((with_reducible refine aU 35 ?_);(refine Ju (hf _) rp rp (λo_ ho_=>?_);rw[u n]))|refine s2 ?_ ?_|intro)
   obtain⟨nb2,rfl⟩:∃b,o_=some b:=by
    cases o_ with
    |none=>exact absurd (ho_ rfl) YF
    |some b=>exact⟨b,rfl⟩
   rw[LT,Yp];exact O nb2 _ rp
 .have hd:=bq g1;have d3:decide ((k:Int)=(c.ts.length:Int))=true:=by simp;omega
  have hl:fJ c s=none:=Jo _ 0 λj _ hj=>B j YC
  have S:=S hl;clear O hR D;unfold Kz ay ft at *;rw[u,E]at *;cases o
  all_goals
   dsimp only[ai,ab]at *
   repeat' (first|refine sy ?_|refine s2 ?_ ?_|intro)
   exact S
end
theorem LY(c:aL)(hc:fy c)(hins:∀t∈c.ts,t.ins.length<2^40)(hv:ao Tryz.prog 34 [.agg c.enc] (.bool true))(B:List bH×bU)(H0:gt c B)(Z:Option Nat)(ho0:Z=none->B.1=[])(M:0<(eg c 400 B).1.length)(bt br bs:Nat)(n1:bt≠br)(n2:bt≠bs)(n3:br≠bs)(Q:R)(hq:∀a b L,fi L a (fI.mk c.w (eg c 400 B).1).enc->fi L b (eg c 400 B).2.enc->Q (.tup [.agg a,.agg b]) L):
  W.loop (vh (lE Q)) [.pptr [c.enc] 0 0,.ptr bt 0 0,.ptr br 0 0,ai Z B.1.length,.ptr bs 0 0] ((bs,⟨7,[B.2.enc]⟩)::(ab Z 7 (B.1.map bH.enc)++[(br,⟨7,[ay]⟩),(bt,⟨7,[ft]⟩)])):=by
 refine bF 400 (λk (o:Option Nat)=>([.pptr [c.enc] 0 0,.ptr bt 0 0,.ptr br 0 0,ai o (eg c k B).1.length,.ptr bs 0 0],Kz (eg c k B).1 (eg c k B).2 o bt br bs)) (λk o=>o=none->(eg c k B).1=[]) Z ho0 (by
  unfold Kz;cases Z
  all_goals
   dsimp only[ai,ab,List.nil_append,List.cons_append,eg];exact aE.pickE rp rfl rfl) ?_
 intro k o hk ho;dsimp only;have hR:=gt.cmp hc hins k H0;have D:=λh=>HT (c:=c) (k:=k) (p:=B) (q:=eg c k B) hk rfl h
 have u:=λ(ev:List bH) (s n:bU) (e:bH) (hp:eg c k B=(ev,s))=>HS (n:=n) (e:=e) hp;have G:=λ(h:k=400)=>zE (c:=c) k B YC;generalize hp:eg c k B=p at *;obtain⟨ev,E⟩:=p;have u:=λn e=>u ev E n e rfl
 dsimp only at *;have S:c.enc=[.lst (c.w.cells.map aH.enc),.lst (c.w.locks.map bv.enc),.lst (c.w.conds.map bO.enc),.lst (c.w.futures.map av),.lst (c.w.threads.map av),.lst (c.w.sites.map bM.enc),.lst (c.ts.map eG.enc)]:=rfl;have O:∀s:bU,s.enc=[.lst (s.sync.locks.map LockD.enc),.YJ s.sync.tx,.lst (s.sync.done.map aD),.lst (s.sync.threads.map ThrD.enc),.lst (s.cells.map ah),.lst (s.futures.map ah),.lst (s.threads.map aG.enc)]:=λ_=>rfl
 have fin:sS c (ev,E)->∀L,(∀q∈ab o 7 (ev.map bH.enc),q∈L)->Q (.tup [.agg [.lst (c.w.cells.map aH.enc),.lst (c.w.locks.map bv.enc),.lst (c.w.conds.map bO.enc),.lst (c.w.futures.map av),.lst (c.w.threads.map av),.lst (c.w.sites.map bM.enc),ai o ev.length],.agg E.enc]) L:=λhe L hm=>by
  have e:=D he;rw[e]at hq;refine hq _ _ L (.cons (.refl _) (.cons (.refl _) (.cons (.refl _) (.cons (.refl _) (.cons (.refl _) (.cons (.refl _) (.cons ?_ .nil))))))) (fi.refl _ _);cases o with
  |none=>rw[ho rfl];exact .emp
  |some b=>exact Fz.sls (hm _ (.head _)) rfl YG rfl
 clear hq;refine vw ?_;generalize hN:(λ(vs':List AV) (L':SH)=>∃(j:Nat) (o':Option Nat),k<j/\j<=400/\_)=N;obtain⟨J,hJ⟩:∃J,J=lE Q:=⟨_,rfl⟩;have jn:sS c (ev,E)->J [.pptr [c.enc] 0 0,.ptr bt 0 0,.ptr br 0 0,ai o ev.length,.ptr bs 0 0] (Kz ev E o bt br bs):=λhe=>by
  have fin:=fin he;rw[D he]at M;rw[hJ];unfold Kz ay ft;refine vw ?_;cases o with
  |none=>rw[ho rfl]at M;exact absurd M YF
  |some bo=>
   rw[O,S]at *;dsimp only[ai,ab]at *
   repeat' (first|refine sy ?_|refine s2 ?_ ?_|intro)
   exact fin _ YF
 rw[<-hJ];clear fin hJ D M;rcases Fn ev.length 400 with Y|Y
 .have d1:decide ((ev.length:Int)<400)=true:=decide_eq_true YC;have hin:=Qm c hc hins hv ev E hR o ho bt br bs n1 n2 n3 N J Y (λh=>jn (.inr h)) (λn e hl nb L hL=>by
   have hk4:k<400:=by
    rcases Fn k 400 with g|g
    .exact g
    .exfalso;rcases G YC with h|h
     .dsimp only at h;omega
     .dsimp only at h;rw[hl]at h;cases h
   have u:=u n e Y hl;subst hN;refine⟨k+1,some nb,YC,YC,nofun,?_⟩;rw[u];exact aE.pickE hL (by simp[ai]) rfl)
  clear u G jn hN hv;unfold Kz ay ft at *;rw[O,S]at *;cases o
  all_goals
   dsimp only[ai,ab]at *
   repeat' (first|refine sy ?_|refine s2 ?_ ?_|intro)
   exact hin
 .have d1:decide ((ev.length:Int)<400)=false:=decide_eq_false YC;have jn:=jn (.inl Y);clear u G hv;unfold Kz ay ft at *;rw[O,S]at *;cases o with
  |none=>rw[ho rfl]at Y;simp at Y
  |some bo=>
   dsimp only[ai,ab]at *
   repeat' (first|refine sy ?_|refine s2 ?_ ?_|intro)
   exact jn
theorem FA(c:aL)(hc:fy c)(hins:∀t∈c.ts,t.ins.length<2^40)(l:List bW)(G:l.length<2^62):ao Tryz.prog 16 [.agg c.enc,.lst (l.map bW.enc)] (.tup [.agg (fI.mk c.w (aR c l).1).enc,.agg (aR c l).2.enc]):=by
 have hv:=LD c λt ht=>by have:=hins t ht;omega
 rw[show iz (fy c)=true from fo.2 hc]at hv;have j:=hc.world;have hst:=LR c hv (by have:=j.c12;omega) (by have:=j.l4;omega) (by have:=j.f2;omega) (by have:=j.t4;omega) (by have:=hc.len;have:=j.t4;omega) (u9 hc);have D:=HV c hc hins hv l G [] (bC c) (kH hc) none (λ_=>rfl);rw[show cf c l ([],bC c)=fN c l from rfl]at D;refine ac.fz (vi _ _ _ _ ?_);refine vw ?_;generalize Z:(λ(v:AV) (L:SH)=>∃O L2,aE [v] L [O] L2/\O=AV.tup [.agg (fI.mk c.w (aR c l).1).enc,.agg (aR c l).2.enc]/\L2=[])=Q;have Y:∀a b L,fi L a (fI.mk c.w (aR c l).1).enc->fi L b (aR c l).2.enc->Q (.tup [.agg a,.agg b]) L:=λa b L h1 h2=>by subst Z;exact⟨_,[],aE.all (Fz.tups (.cons (Fz.aggs h1) (.cons (Fz.aggs h2) .nil))),rfl,rfl⟩
 clear Z;have M:c.enc=[.lst (c.w.cells.map aH.enc),.lst (c.w.locks.map bv.enc),.lst (c.w.conds.map bO.enc),.lst (c.w.futures.map av),.lst (c.w.threads.map av),.lst (c.w.sites.map bM.enc),.lst (c.ts.map eG.enc)]:=rfl;have u:∀s:bU,s.enc=[.lst (s.sync.locks.map LockD.enc),.YJ s.sync.tx,.lst (s.sync.done.map aD),.lst (s.sync.threads.map ThrD.enc),.lst (s.cells.map ah),.lst (s.futures.map ah),.lst (s.threads.map aG.enc)]:=λ_=>rfl
 have S:=λbt br bs o ho n1 n2 n3=>LY c hc hins hv (fN c l) (gt.fol hc hins l (kH hc)) o ho (gU hc hins l) bt br bs n1 n2 n3 Q Y
 clear Y;unfold ay ft at S;have D:ac Tryz.prog 35 [.agg c.enc,.agg (bC c).enc,.nils,.lst (l.map bW.enc)] [] (HU (fN c l)):=ac.pre (aE.vals (.cons (.refl _) (.cons (.refl _) (.cons .nile (.cons (.refl _) .nil))))) D;rw[u,M]at *
 repeat' (first|refine sy ?_|((with_reducible refine dR 35 ?_);refine iF ?_;refine D9 D (λo_ E ks_=>?_);rw[u])|refine s2 ?_ ?_|intro)
 exact S _ _ _ _ E (by intro B;subst B;simp[SH.names]at *) (by intro B;subst B;simp[SH.names]at *) (by intro B;subst B;simp[SH.names]at *)
end
def Ow(c:aL)(B:fy c)(j:∀t∈c.ts,t.ins.length<2^40)(l:List bW)(i:Nat)(O:i<c.ts.length):∃b:Bool,ao Tryz.prog 19 [.agg c.enc,.agg (aR c l).2.enc,.YJ i] (.bool b)/\(b=true->decide (((aR c l).1.length:Int)<400)=false):=by
 have H:=l7 B j l;have u:=jr B j;have E:=AZ c λt M=>by have:=j t M;omega
 rw[show iz (fy c)=true from fo.2 B]at E;have G:ao Tryz.prog 43 [.agg c.enc,.agg (aR c l).2.enc,.YJ i] (gM (bS c (aR c l).2 i)):=Oi c _ i true E λ_=>Ks c _ i u.ins λx D r=>by
  have:=(H.inv.thr x D).1.short;unfold aG.tnt;rcases Fn r.toNat x.taint.length with g|g
  .have:=this _ (WN g);simp[g];omega
  .simp[g]
 refine⟨_,Oj c _ i _ G λ_=>⟨by have:=u.con;omega,λx D=>by have:=H.inv.rd x D;have:=H.le;omega⟩,λh=>?_⟩;rcases Fn (aR c l).1.length 400 with g|g
 .rw[Om B j H (qu c l) g i O]at h;cases h
 .exact decide_eq_false YC
def L4(c:aL)(tr:List AV)(j:bU)(ev:List bH)(Z:c.ts.length<=4)(E:tr=[.lst (c.w.cells.map aH.enc),.lst (c.w.locks.map bv.enc),.lst (c.w.conds.map bO.enc),.lst (c.w.futures.map av),.lst (c.w.threads.map av),.lst (c.w.sites.map bM.enc),.lst (ev.map bH.enc)])(u:∀i:Nat,i<c.ts.length->∃b:Bool,ao Tryz.prog 19 [.agg c.enc,.agg j.enc,.YJ i] (.bool b)/\(b=true->decide ((ev.length:Int)<400)=false))(Q:R)(Y:∀L,Q (.bool true) L)(L:SH):
  W.loop (pn Q) [.pptr [c.enc] 0 0,.pptr [tr] 0 0,.pptr [j.enc] 0 0,.YJ (0:Nat)] L:=by
 refine cS c.ts.length (λ_=>True) (λi=>[.pptr [c.enc] 0 0,.pptr [tr] 0 0,.pptr [j.enc] 0 0,.YJ i]) YC trivial rfl (λi O hd hi _ S G=>?_) (λi O hd _ S=>?_)
 all_goals
  refine vw ?_;have D:c.enc=[.lst (c.w.cells.map aH.enc),.lst (c.w.locks.map bv.enc),.lst (c.w.conds.map bO.enc),.lst (c.w.futures.map av),.lst (c.w.threads.map av),.lst (c.w.sites.map bM.enc),.lst (c.ts.map eG.enc)]:=rfl;have B:j.enc=[.lst (j.sync.locks.map LockD.enc),.YJ j.sync.tx,.lst (j.sync.done.map aD),.lst (j.sync.threads.map ThrD.enc),.lst (j.cells.map ah),.lst (j.futures.map ah),.lst (j.threads.map aG.enc)]:=rfl;subst E
 .obtain⟨b,he,M⟩:=u i O;clear u;rw[D,B]at *;cases b with
  |false=>
   clear M
   repeat' (first|refine sy ?_|refine s2 ?_ ?_|intro)
   exact G trivial
  |true=>
   have d4:=M rfl
   repeat' (first|refine sy ?_|refine s2 ?_ ?_|intro)
   exact G trivial
 .clear u;rw[D,B]at *
  repeat' (first|refine sy ?_|refine s2 ?_ ?_|intro)
  exact Y _
def FH(t s:List UInt8)(hc:t.length<2^40->∃c:aL,ao Tryz.prog 8 [.lst (t.map eJ)] (.agg c.enc)/\(∀x∈c.ts,x.ins.length<2^40)/\fy c):ao Tryz.prog 4 [.lst (t.map eJ),.lst (s.map eJ)] (.bool true):=by
 have u:=KC t s;refine Pi λQ O=>po _ _ _ _ ?_
 refine vw ?_;by_cases hl:200<t.length\/100<s.length
 .rw[show(decide (200<t.length)||decide (100<s.length))=true by simpa using hl]at u
  repeat' (first|refine sy ?_|refine s2 ?_ ?_|intro)
  exact O _
 .rw[show(decide (200<t.length)||decide (100<s.length))=false by simpa using hl]at u;obtain⟨c,Y,j,B⟩:=hc YC;have hch:=ym s YC;generalize Z:s.map Mm=l at *;have hll:l.length<=100:=by rw[<-Z];simp;omega
  have hr:=yj c B j l YC;have hr9:=FA c B j l YC;obtain⟨hs1,hs2⟩:=sW c B j l;have E:=Ow c B j l;have D:=gU B j l;have S:c.ts.length<=4:=by have:=B.len;have:=B.world.t4;omega
  generalize aR c l=r at *;obtain⟨ev,G⟩:=r;dsimp only at *;have d0:decide ((ev.length:Int)=0)=false:=by simp;intro h;rw[h]at D;simp at D
  have lp:=L4 c _ G ev S rfl E Q O;clear O E;have M:∀s:bU,s.enc=[.lst (s.sync.locks.map LockD.enc),.YJ s.sync.tx,.lst (s.sync.done.map aD),.lst (s.sync.threads.map ThrD.enc),.lst (s.cells.map ah),.lst (s.futures.map ah),.lst (s.threads.map aG.enc)]:=λ_=>rfl
  unfold fI.enc at *;have hce:c.enc=[.lst (c.w.cells.map aH.enc),.lst (c.w.locks.map bv.enc),.lst (c.w.conds.map bO.enc),.lst (c.w.futures.map av),.lst (c.w.threads.map av),.lst (c.w.sites.map bM.enc),.lst (c.ts.map eG.enc)]:=rfl;rw[M]at *;rw[hce]at *;dsimp only at *
  repeat' (first|refine sy ?_|refine s2 ?_ ?_|intro)
  exact lp _
def Dp(t s:List UInt8):ao Tryz.prog 4 [.lst (t.map eJ),.lst (s.map eJ)] (.bool true):=FH t s λh=>Cf t h
