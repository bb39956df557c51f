/- A part of the proof; the statement is proved in the last part. -/
import Derived.Test.YtbofdbhnbodbiaaGreatDoorQuC
set_option linter.all false
set_option maxRecDepth 100000
set_option maxHeartbeats 20000000
namespace Go.Proofs.YtbofdbhnbodbiaaGreatDoor.Am
section
theorem Lo{c:aY}{s:cy}{t:Int}{e:cu}(hp:co c s t=some e):e.value=0:=by
 unfold co at hp;split at hp
 .dsimp only at hp;split at hp
  .cases hp;rfl
  .split at hp
   .cases hp;rfl
   .split at hp
    .split at hp
     .cases hp;unfold cS;dsimp only
      repeat' split
      all_goals rfl
     .cases hp
    .cases hp
 .cases hp
section
variable (c:aY) (s:cy) (t wake:Int) (n:Nat) (hn:n<=400) (hc:gS c) (hl:∀t∈c.ts,t.ins.length<2^40) (hv:aq Tryz.prog 29 [.agg c.enc] (.bool true)) (H:oV c s) (R:u9 c s) (I:kB c n s)
include hn hc hl hv H R I
theorem Lq:aq Tryz.prog 19 [.agg c.enc,.agg s.enc,.agg [.U1 t,.U1 wake]] (ry (iG c s t wake)):=by
 have B:=ii hc hl;have SH':=EW hn I B.ins B.len B.con;have wx:c.ts.length<2^62:=by have:=hc.len;have:=hc.world.t4;omega
 have hp:=Fn c s t hv (R.fit9 H) (by have:=B.con;omega) wx B.ins (λx hx r=>by
  have:=(SH'.thr x hx).1.short;unfold aD.tnt;rcases Tf r.toNat x.taint.length with h|h
  .have:=this _ (Tk h);simp[h];omega
  .simp[List.getD,Tg h])
 have hln:s.cells.length=c.w.cells.length/\s.futures.length=c.w.futures.length:=⟨R.nc,R.nf⟩;rw[po];refine ac.fz (AP _ _ _ _ _ ?_);refine vw ?_;generalize hQ:(λ(v:AV) (L:SH)=>∃v2 L2,az [v] L [v2] L2/\v2=_/\L2=[])=Q;have D:∀v L,Fz L v (ry (match co c s t with
  |none=>none
  | some e=>if s.cells.length=c.w.cells.length/\s.futures.length=c.w.futures.length then
    (if(eg c.w s.sync t e.kind e.obj wake).2.2 then mf c s t (eg c.w s.sync t e.kind e.obj wake).1 e (bY (bH (ao c t) (ay s t).pc) e s (ay s t) (eg c.w s.sync t e.kind e.obj wake).2.1)else none)else none))->Q v L:=λv L h=>by subst hQ;exact⟨_,[],az.all h,rfl,rfl⟩
 clear hQ;have hce:c.enc=[.lst (c.w.cells.map aF.enc),.lst (c.w.locks.map bn.enc),.lst (c.w.conds.map bP.enc),.lst (c.w.futures.map au),.lst (c.w.threads.map au),.lst (c.w.sites.map bQ.enc),.lst (c.ts.map eB.enc)]:=rfl;have hse:s.enc=[.lst (s.sync.locks.map LockD.enc),.U1 s.sync.tx,.lst (s.sync.done.map aB),.lst (s.sync.threads.map ThrD.enc),.lst (s.cells.map ah),.lst (s.futures.map ah),.lst (s.threads.map aD.enc)]:=rfl;cases G:co c s t with
 |none=>
  rw[G]at hp D;unfold vT at hp;have hz:=λv L (h:v=_)=>D v L (by rw[h];exact lx L)
  unfold aC cH cu.zero cu.enc at *;dsimp only[List.map]at hp;rw[hce,hse]at *
  repeat' (first|refine st ?_|(refine pf 17 ?_;refine pm (hp) ?_)|refine sb λnb_ S=>?_|refine s2 (λh=>?_) λh=>?_|fail)
  exact hz _ _ rfl
 |some e=>
  rw[G]at hp D;unfold vT at hp;dsimp only at hp D;rw[if_pos hln]at D;have E:=rB B.ins G;have hval:e.value=0:=Lo G;have ha:=IX c.w s.sync t e.kind e.obj wake SH'.sm;have een:e.enc=[.U1 e.thread,.U1 e.kind,.U1 e.obj,.U1 e.value,.U1 e.site,.lst (e.deps.map ah),.lst (e.frm.map ah)]:=rfl;have hen:(eg c.w s.sync t e.kind e.obj wake).2.2=true->aJ c.w s.sync t e.kind e.obj=true/\(e.kind≠18->e.kind≠19->(eg c.w s.sync t e.kind e.obj wake).2.1=0):=λh=>by
   unfold eg at h ⊢;split at h
   .rename_i he;refine⟨he,λk18 k19=>?_⟩;rw[if_pos he];unfold bG
    repeat' refine iteInduction (motive:=λp:SyncD×Int=>p.2=0) (λ_=>?_) (λ_=>?_)
    all_goals first
     |rfl
     |(exfalso;omega)
   .cases h
  generalize hres:eg c.w s.sync t e.kind e.obj wake=r at *;obtain⟨M,sv,ok⟩:=r;unfold Ko at ha;dsimp only at ha D hen;cases ok with
  |false=>
   have hz:=λv L (h:v=_)=>D v L (by rw[h];exact lx L)
   unfold aC cH at hz;rw[hce,hse,een]at *
   repeat' (first|refine st ?_|(refine pf 17 ?_;refine pm (hp) ?_)|(refine pf 43 ?_;refine pm (ha) ?_)|refine sb λnb_ S=>?_|refine s2 (λh=>?_) λh=>?_|fail)
   exact hz _ _ rfl
  |true=>
   obtain⟨hen1,hsv⟩:=hen rfl;rw[if_pos rfl]at D;obtain⟨a1,a2,a3,a4,a5,a6⟩:=d9 E.ready;have al:=vU (w:=c.w) (s:=s.sync) (t:=t) (k:=e.kind) (o:=e.obj) (wake:=wake) (by rw[hres]);have Y:ay s t∈s.threads:=eI (d:=aD.zero) a2;have hT:=SH'.thr _ Y;have hoc:e.kind=3\/e.kind=4->inB e.obj s.cells.length=true:=λN=>by unfold allowedS at al;rw[if_neg UW,if_pos N]at al;rw[hln.1];exact al
   have hof:e.kind=22\/e.kind=23->inB e.obj s.futures.length=true:=λN=>by unfold allowedS at al;rw[if_neg UW,if_neg UW,if_neg UW,if_neg UW,if_neg UW,if_neg UW,if_pos N]at al;rw[hln.2];exact al
   have j:=yZ (i:=bH (ao c t) (ay s t).pc) (e:=e) (s:=s) (sv:=sv) hT.1 hT.2.1;have O:=GB (ao c t) (bY (bH (ao c t) (ay s t).pc) e s (ay s t) sv).thread U9 SH'.u30 j.small (by rw[j.len];exact j.small) j.short j.sub (hl _ (show ao c t∈c.ts from eI a1));have hgo:=λN=>settles (sv:=sv) hc hl H R G hen1 N
   have hcp:=Lh s t.toNat SH'.nt SH'.nc SH'.nf (λx hx=>⟨(SH'.thr x hx).1.small,by have:=(SH'.thr x hx).1.len;have:=(SH'.thr x hx).2.2;omega,(SH'.thr x hx).1.short⟩) SH'.sm.locks SH'.sm.done SH'.sm.threads SH'.sm.rd;obtain⟨th,hth⟩:∃th,((e.kind=16\/e.kind=2)/\th=(bY (bH (ao c t) (ay s t).pc) e s (ay s t) sv).thread)\/((e.kind≠16/\e.kind≠2)/\aU (ao c t) (bY (bH (ao c t) (ay s t).pc) e s (ay s t) sv).thread=(th,true)):=by
    by_cases N:e.kind=16\/e.kind=2
    .exact⟨_,.inl ⟨N,rfl⟩⟩
    .exact⟨_,.inr ⟨UW,Prod.ext rfl (hgo UW)⟩⟩
   have Z:mf c s t M e (bY (bH (ao c t) (ay s t).pc) e s (ay s t) sv)=some (⟨M,(bY (bH (ao c t) (ay s t).pc) e s (ay s t) sv).cells,(bY (bH (ao c t) (ay s t).pc) e s (ay s t) sv).futures,s.threads.set t.toNat th⟩,{e with value:=(bY (bH (ao c t) (ay s t).pc) e s (ay s t) sv).value}):=by
    unfold mf;rcases hth with⟨N,rfl⟩|⟨N,hs⟩
    .rw[if_neg UW]
    .rw[if_pos N,hs];rfl
   rw[Z]at D;have fin:∀(be b8 b6 bs:Nat) (v:AV) (K:SH),Pq s t.toNat v K->∃L':SH,(K++[(be,(⟨7,[e.enc]⟩:Blk)),(b8,⟨7,[cH]⟩),(b6,⟨7,[aC]⟩),(bs,⟨7,[s.enc]⟩)]).Perm L'/\(L'.names.Nodup->qu Q (.ptr bs 0 0) (.pptr [M.enc] 0 0) (.pptr [[.U1 t,.U1 wake]] 0 0) (.pptr [c.enc] 0 0) (.ptr be 0 0) (.U1 sv) (.ptr b6 0 0) (.ptr b8 0 0) v L'):=by
    rintro be b8 b6 bs v K ⟨bc,bf,ot,o,tt,rfl,rfl,hot,ho,htt⟩;have u:t.toNat<s.threads.length:=by have:=av.1 a2;omega
    obtain⟨bt,rfl⟩:∃b,ot=some b:=by
     cases ot with
     |some b=>exact⟨b,rfl⟩
     |none=>exfalso;rw[hot rfl]at u;simp at u
    refine⟨qG s t e be b8 b6 bs bt bc bf o tt,?_,λhnd=>?_⟩
    .rw[if_pos u];exact Tt
    .exact RV c s t wake a2 a1 M sv e (bH (ao c t) (ay s t).pc) (bS a4) a4 be b8 b6 bs bt bc bf o tt hnd Q hval hsv (λh=>ho h u) (λh=>htt h u) UW E.ra E.rb hoc hof λb74 hb=>
      S3 c s t wake a2 a1 M sv e _ be b8 b6 bs bt bc bf o tt hnd Q (λh=>ho h u) (λh=>htt h u) UW E.ra th _ rfl O hth D b74 hb
   unfold aC cH at fin;clear D O j hoc hof al E hT Y hgo hth Z;rw[hce,hse,een]at *;rw[show M.enc=[.lst (M.locks.map LockD.enc),.U1 M.tx,.lst (M.done.map aB),.lst (M.threads.map ThrD.enc)]from rfl]at *
   repeat' (first|refine st ?_|(refine pf 17 ?_;refine pm (hp) ?_)|(refine pf 43 ?_;refine pm (ha) ?_)|((with_reducible refine bb 44 ?_);(refine xr hcp ?_;intro v K hK;exact fin _ _ _ _ _ _ hK))|refine sb λnb_ S=>?_|refine s2 (λh=>?_) λh=>?_|fail)
end
end
section
def Ba(k:Nat):List ThrD:=(List.replicate k (⟨0,0,false⟩:ThrD)).set 0 ⟨1,0,false⟩
theorem Fo(k:Nat):(Ba k).length=k:=by simp[Ba]
theorem I3(k:Nat):Ba (k+1)=Ba k++[if k=0 then(⟨1,0,false⟩:ThrD)else⟨0,0,false⟩]:=by
 cases k with
 |zero=>rfl
 |succ k=>unfold Ba;rw[List.replicate_succ' (n:=k+1),List.set_append_left _ _ UZ,if_neg UW]
theorem zI{α:Type}(k:Nat)(x:α):List.replicate (k+1) x=List.replicate k x++[x]:=List.replicate_succ'
section
variable (w:aG) (b2 b3:Nat) (Q:R) (hq:∀v L,Fz L v (.agg (a7 w).enc)->Q v L)
def mQ:List AV:=[.nils,.U1 0,.nils,.nils]
include hq
theorem Px(h3:w.threads.length<=100)(Y Z:AV)(K L:SH)(M:Fz K Y (.lst ((List.replicate w.locks.length (⟨-1,[]⟩:LockD)).map LockD.enc)))(N:Fz K Z (.lst ((List.replicate w.futures.length false).map aB)))(hL:L.Perm (K++[(b3,⟨4,[[Y,.U1 (-1),Z,.nils]]⟩),(b2,⟨4,[mQ]⟩)])):
  W.loop (zj Q) [.pptr [w.enc] 0 0,.ptr b2 0 0,.ptr b3 0 0,.U1 (0:Nat)] L:=by
 refine bz w.threads.length (λk (o:Option Nat)=>([.pptr [w.enc] 0 0,.ptr b2 0 0,.ptr b3 0 0,.U1 k],(b3,⟨4,[[.lst ((List.replicate w.locks.length (⟨-1,[]⟩:LockD)).map LockD.enc),.U1 (-1),.lst ((List.replicate w.futures.length false).map aB),aj o k]]⟩)::(b2,⟨4,[mQ]⟩)::ab o 3 ((Ba k).map ThrD.enc))) (λk o=>o=none->k=0) none (λ_=>rfl) (az.box hL (.cons M (.cons (.refl _) (.cons N (.cons .nile .nil))))) ?_;intro k o hk ho;dsimp only;unfold mQ;refine vw ?_;have B:((Ba k).map ThrD.enc).length=k:=by simp[Fo]
 have O:o=none->(Ba k).map ThrD.enc=[]:=λe=>by rw[ho e];rfl
 rw[show w.enc=[.lst (w.cells.map aF.enc),.lst (w.locks.map bn.enc),.lst (w.conds.map bP.enc),.lst (w.futures.map au),.lst (w.threads.map au),.lst (w.sites.map bQ.enc)]from rfl];rcases Tf k w.threads.length with D|D
 .have hd:=aS D;have E:=I3 k;clear hq;by_cases S:k=0
  .have d0:decide ((k:Int)=0)=true:=decide_eq_true UW;rw[if_pos S]at E
   repeat' (first|refine st ?_|refine bA rp rp B O UY UZ (by simp;omega) (by simp;omega) UY (λj u=>?_)|refine sb λj u=>?_|refine s2 (λh=>?_) λh=>?_|fail)
   exact⟨k+1,some j,UW,UW,nofun,az.pickE (R:=[(b3,_),(b2,_),(j,_)]) rp (by rw[aw D UW]) (by rw[E];simp[ab,aj,ThrD.enc,bu])⟩
  .have d0:decide ((k:Int)=0)=false:=decide_eq_false UW;rw[if_neg S]at E
   repeat' (first|refine st ?_|refine bA rp rp B O UY UZ (by simp;omega) (by simp;omega) UY (λj u=>?_)|refine sb λj u=>?_|refine s2 (λh=>?_) λh=>?_|fail)
   exact⟨k+1,some j,UW,UW,nofun,az.pickE (R:=[(b3,_),(b2,_),(j,_)]) rp (by rw[aw D UW]) (by rw[E];simp[ab,aj,ThrD.enc,bu])⟩
 .have hd:=aX D;have G:k=w.threads.length:=by omega
  have fin:∀L,(∀q∈ab o 3 ((Ba k).map ThrD.enc),q∈L)->Q (.agg [.lst ((List.replicate w.locks.length (⟨-1,[]⟩:LockD)).map LockD.enc),.U1 (-1),.lst ((List.replicate w.futures.length false).map aB),aj o k]) L:=λL hm=>by
   refine hq _ _ (Fz.aggs (.cons (.refl _) (.cons (.refl _) (.cons (.refl _) (.cons ?_ .nil)))));subst G;cases o with
   |none=>rw[O rfl |> λh=>show(a7 w).threads.map ThrD.enc=[]from h];exact .emp
   |some b=>exact Fz.sls (l:=Ba w.threads.length) (hm _ (.head _)) rfl U0 (by rw[Fo])
  clear hq;cases o
  all_goals
   dsimp only[aj,ab]at *
   repeat' (first|refine st ?_|refine sb λj u=>?_|refine s2 (λh=>?_) λh=>?_|fail)
   exact fin _ UZ
theorem Py(h2:w.futures.length<=100)(h3:w.threads.length<=100)(N:AV)(K L:SH)(G:Fz K N (.lst ((List.replicate w.locks.length (⟨-1,[]⟩:LockD)).map LockD.enc)))(hL:L.Perm (K++[(b3,⟨4,[[N,.U1 (-1),.nils,.nils]]⟩),(b2,⟨4,[mQ]⟩)])):
  W.loop (zk Q) [.pptr [w.enc] 0 0,.ptr b2 0 0,.ptr b3 0 0,.U1 (0:Nat)] L:=by
 refine bz w.futures.length (λk (o:Option Nat)=>([.pptr [w.enc] 0 0,.ptr b2 0 0,.ptr b3 0 0,.U1 k],(b3,⟨4,[[.lst ((List.replicate w.locks.length (⟨-1,[]⟩:LockD)).map LockD.enc),.U1 (-1),aj o k,.nils]]⟩)::(b2,⟨4,[mQ]⟩)::ab o 1 ((List.replicate k false).map aB))) (λk o=>o=none->k=0) none (λ_=>rfl) (az.box hL (.cons G (.cons (.refl _) (.cons .nile (.cons (.refl _) .nil))))) ?_;intro k o hk Y;dsimp only;refine vw ?_;have B:((List.replicate k false).map aB).length=k:=by simp
 have M:o=none->(List.replicate k false).map aB=[]:=λe=>by rw[Y e];rfl
 rcases Tf k w.futures.length with D|D
 .have Z:=aS D;have S:=zI k false;clear hq;unfold mQ;rw[show w.enc=[.lst (w.cells.map aF.enc),.lst (w.locks.map bn.enc),.lst (w.conds.map bP.enc),.lst (w.futures.map au),.lst (w.threads.map au),.lst (w.sites.map bQ.enc)]from rfl]
  repeat' (first|refine st ?_|refine bA rp rp B M UY UZ (by simp;omega) (by simp;omega) UY (λj u=>?_)|refine sb λj u=>?_|refine s2 (λh=>?_) λh=>?_|fail)
  exact⟨k+1,some j,UW,UW,nofun,az.pickE (R:=[(b3,_),(b2,_),(j,_)]) rp (by rw[aw D UW]) (by rw[S];simp[ab,aj,aB,bu])⟩
 .have Z:=aX D;have E:k=w.futures.length:=by omega
  subst E;have O:=Px w b2 b3 Q hq h3 (.lst ((List.replicate w.locks.length (⟨-1,[]⟩:LockD)).map LockD.enc)) (aj o w.futures.length) (ab o 1 ((List.replicate w.futures.length false).map aB)) _ (.refl _) (by
   cases o with
   |none=>rw[M rfl];exact .emp
   |some b=>exact Fz.sls (l:=List.replicate w.futures.length false) (.head _) rfl U0 UZ) (Tt (l₁:=[(b3,(⟨4,[[.lst ((List.replicate w.locks.length (⟨-1,[]⟩:LockD)).map LockD.enc),.int .i64 (-1),aj o w.futures.length,.nils]]⟩:Blk)),(b2,⟨4,[mQ]⟩)]))
  clear hq
  repeat' (first|exact O|refine st ?_|refine sb λj u=>?_|refine s2 (λh=>?_) λh=>?_|fail)
theorem Pz(h1:w.locks.length<=100)(h2:w.futures.length<=100)(h3:w.threads.length<=100)(L:SH)(hL:L.Perm [(b3,⟨4,[[.nils,.U1 (-1),.nils,.nils]]⟩),(b2,⟨4,[mQ]⟩)]):
  W.loop (zl Q) [.pptr [w.enc] 0 0,.ptr b2 0 0,.ptr b3 0 0,.U1 (0:Nat)] L:=by
 refine bz w.locks.length (λk (o:Option Nat)=>([.pptr [w.enc] 0 0,.ptr b2 0 0,.ptr b3 0 0,.U1 k],(b3,⟨4,[[aj o k,.U1 (-1),.nils,.nils]]⟩)::(b2,⟨4,[mQ]⟩)::ab o 2 ((List.replicate k (⟨-1,[]⟩:LockD)).map LockD.enc))) (λk o=>o=none->k=0) none (λ_=>rfl) (az.box (K:=[]) hL (.cons .nile (.cons (.refl _) (.cons (.refl _) (.cons (.refl _) .nil))))) ?_;intro k o hk Z;dsimp only;refine vw ?_;have u:((List.replicate k (⟨-1,[]⟩:LockD)).map LockD.enc).length=k:=by simp
 have S:o=none->(List.replicate k (⟨-1,[]⟩:LockD)).map LockD.enc=[]:=λe=>by rw[Z e];rfl
 rcases Tf k w.locks.length with M|M
 .have hd:=aS M;clear hq;unfold mQ;rw[show w.enc=[.lst (w.cells.map aF.enc),.lst (w.locks.map bn.enc),.lst (w.conds.map bP.enc),.lst (w.futures.map au),.lst (w.threads.map au),.lst (w.sites.map bQ.enc)]from rfl]
  repeat' (first|refine st ?_|refine bA rp rp u S UY UZ (by simp;omega) (by simp;omega) UY (λB D=>?_)|refine sb λB D=>?_|refine s2 (λh=>?_) λh=>?_|fail)
  refine⟨k+1,some B,UW,UW,nofun,?_⟩;refine az.rowA (A:=[(b3,_),(b2,_)]) (b:=B) (R:=[]) (rows':=(List.replicate (k+1) (⟨-1,[]⟩:LockD)).map LockD.enc) rp ?_ ?_ (by rw[aw M UW]<;>rfl)
  .simp
  .intro j r r' G E;rw[zI,Ti]at E;rcases Tf j k with O|O
   .rw[Tq (by rw[u];exact O)]at G E;rw[G]at E;cases E;exact eP.refl _ _
   .rw[Tm (by rw[u];exact O),u]at G E;generalize j-k=m at G E
    match m with
    |0=>cases G;cases E;exact .cons (.refl _) (.cons .nils .nil)
    |m+1=>simp at G
 .have hd:=aX M;have N:k=w.locks.length:=by omega
  subst N;have Y:=Py w b2 b3 Q hq h2 h3 (aj o w.locks.length) (ab o 2 ((List.replicate w.locks.length (⟨-1,[]⟩:LockD)).map LockD.enc)) _ (by
   cases o with
   |none=>rw[S rfl];exact .emp
   |some b=>exact Fz.sls (l:=List.replicate w.locks.length (⟨-1,[]⟩:LockD)) (.head _) rfl U0 UZ) (Tt (l₁:=[(b3,(⟨4,[[aj o w.locks.length,.int .i64 (-1),.nils,.nils]]⟩:Blk)),(b2,⟨4,[mQ]⟩)]))
  clear hq
  repeat' (first|exact Y|refine st ?_|refine sb λB D=>?_|refine s2 (λh=>?_) λh=>?_|fail)
end
theorem I4(w:aG)(O:w.locks.length<=100)(h2:w.futures.length<=100)(N:w.threads.length<=100):aq Tryz.prog 37 [.agg w.enc] (.agg (a7 w).enc):=by
 refine ac.fz (zm _ _ _ ?_);refine vw ?_;generalize D:(λ(v:AV) (L:SH)=>∃j E,az [v] L [j] E/\j=AV.agg (a7 w).enc/\E=[])=Q;have hq:∀v L,Fz L v (.agg (a7 w).enc)->Q v L:=λv L h=>by subst D;exact⟨_,[],az.all h,rfl,rfl⟩
 clear D;have u:=λb2 b3 L M=>Pz w b2 b3 Q hq O h2 N L M
 clear hq;unfold mQ at u
 repeat' (first|refine st ?_|refine sb λG B=>?_|fail)
 exact u _ _ _ (.refl _)
end
section
section
variable (c:aY) (b2 b3:Nat) (Q:R) (hq:∀v L,Fz L v (.agg (bL c).enc)->Q v L)
def mo(sy:SyncD)(x y z:AV):List AV:=[.lst (sy.locks.map LockD.enc),.U1 sy.tx,.lst (sy.done.map aB),.lst (sy.threads.map ThrD.enc),x,y,z]
include hq
theorem PA(h5:c.ts.length<=1000)(hr:∀t∈c.ts,0<=t.regs/\t.regs<=1000)(gc gf:AV)(K L:SH)(M:Fz K gc (.lst ((c.w.cells.map aF.init).map ah)))(G:Fz K gf (.lst ((List.replicate c.w.futures.length (0:Int)).map ah)))(hL:L.Perm (K++[(b3,⟨7,[mo (a7 c.w) gc gf .nils]⟩),(b2,⟨7,[aC]⟩)])):
  W.loop (y8 Q) [.pptr [c.enc] 0 0,.ptr b2 0 0,.ptr b3 0 0,.U1 (0:Nat)] L:=by
 refine bz c.ts.length (λk (o:Option Nat)=>([.pptr [c.enc] 0 0,.ptr b2 0 0,.ptr b3 0 0,.U1 k],(b3,⟨7,[mo (a7 c.w) (.lst ((c.w.cells.map aF.init).map ah)) (.lst ((List.replicate c.w.futures.length (0:Int)).map ah)) (aj o k)]⟩)::(b2,⟨7,[aC]⟩)::ab o 4 (((c.ts.take k).map oI).map aD.enc))) (λk o=>o=none->k=0) none (λ_=>rfl) (az.box hL (by unfold mo;exact .cons (.refl _) (.cons (.refl _) (.cons (.refl _) (.cons (.refl _) (.cons M (.cons G (.cons .nile .nil)))))))) ?_;intro k o hk ho;dsimp only;refine vw ?_;have S:(((c.ts.take k).map oI).map aD.enc).length=k:=by simp;omega
 have h0:o=none->((c.ts.take k).map oI).map aD.enc=[]:=λe=>by rw[ho e];rfl
 have he:(bL c).enc=mo (a7 c.w) (.lst ((c.w.cells.map aF.init).map ah)) (.lst ((List.replicate c.w.futures.length (0:Int)).map ah)) (.lst ((c.ts.map oI).map aD.enc)):=by unfold bL cy.enc mo;rfl
 have fin:k=c.ts.length->∀L,(∀q∈ab o 4 (((c.ts.take k).map oI).map aD.enc),q∈L)->Q (.agg (mo (a7 c.w) (.lst ((c.w.cells.map aF.init).map ah)) (.lst ((List.replicate c.w.futures.length (0:Int)).map ah)) (aj o k))) L:=λhk0 L O=>by
  subst hk0;rw[TH (Te _)]at O h0;refine hq _ _ ?_;rw[he];unfold mo;refine Fz.aggs (.cons (.refl _) (.cons (.refl _) (.cons (.refl _) (.cons (.refl _) (.cons (.refl _) (.cons (.refl _) (.cons ?_ .nil)))))));cases o with
  |none=>rw[h0 rfl];exact .emp
  |some b=>exact Fz.sls (O _ (.head _)) rfl U0 UZ
 clear hq he;generalize a7 c.w=sy at *;generalize(c.w.cells.map aF.init).map ah=gce at *;generalize(List.replicate c.w.futures.length (0:Int)).map ah=gfe at *;rw[show c.enc=[.lst (c.w.cells.map aF.enc),.lst (c.w.locks.map bn.enc),.lst (c.w.conds.map bP.enc),.lst (c.w.futures.map au),.lst (c.w.threads.map au),.lst (c.w.sites.map bQ.enc),.lst (c.ts.map eB.enc)]from rfl];unfold mo aC at *;rcases Tf k c.ts.length with N|N
 .have hd:=aS N;have Y:=am (f:=eB.enc) N;obtain⟨r1,r2⟩:=hr _ (Tk N);have Z:c.ts.take (k+1)=c.ts.take k++[c.ts[k]]:=Th N;generalize hT:c.ts[k]=tk at *;obtain⟨m,O⟩:∃m:Nat,tk.regs=(m:Int):=⟨tk.regs.toNat,UW⟩;have hke:tk.enc=[.U1 (m:Int),.lst (tk.ins.map aT.enc)]:=by rw[<-O];rfl
  have e:oI tk=⟨0,List.replicate m 0,List.replicate m [],0⟩:=by unfold oI;rw[O];rfl
  rw[hke]at Y;clear fin hL M G
  repeat' (first|refine st ?_|refine fD (i:=m) (j:=m) UW UW UW (λu B=>?_)|refine bA rp rp S h0 UY UZ (by simp;omega) (by simp;omega) UY (λu B=>?_)|refine sb λu B=>?_|fail)
  refine⟨k+1,some u,UW,UW,nofun,?_⟩;refine az.rowA (A:=[(b3,_),(b2,_)]) (b:=u) (R:=[]) (rows':=((c.ts.take (k+1)).map oI).map aD.enc) rp ?_ ?_ (by rw[aw N UW]<;>rfl)
  .simp;omega
  .intro j r r' E D;rw[Z,Ti,Ti]at D;rcases Tf j (((c.ts.take k).map oI).map aD.enc).length with hj|hj
   .rw[Tq hj]at E D;rw[E]at D;cases D;exact eP.refl _ _
   .rw[Tm hj]at E D;rcases hmm:j-(((c.ts.take k).map oI).map aD.enc).length with _|mm
    .rw[hmm]at E D;cases E;cases D;rw[e];refine .cons (.refl _) (.cons ?_ (.cons ?_ (.cons (.refl _) .nil)))
     .exact Fz.sls (l:=List.replicate m 0) (f:=ah) mm (by simp[ah]) U0 UZ
     .refine Fz.slm (l:=List.replicate m []) (f:=λ_=>[.nils]) (g:=bC) mm UZ U0 UZ (λy _=>rfl) (λy hy q a a2 E D=>?_);obtain rfl:=(List.mem_replicate.1 hy).2
      match q with
      |0=>cases E;cases D;exact .nils
    .rw[hmm]at E;simp at E
 .have hd:=aX N;have fin:=fin UW;clear hL M G;cases o
  all_goals
   dsimp only[aj,ab]at *
   repeat' (first|refine st ?_|refine sb λu B=>?_|refine s2 (λh=>?_) λh=>?_|fail)
   exact fin _ UZ
theorem PB(h3:c.w.futures.length<=100)(h5:c.ts.length<=1000)(Z:∀t∈c.ts,0<=t.regs/\t.regs<=1000)(O:AV)(K L:SH)(B:Fz K O (.lst ((c.w.cells.map aF.init).map ah)))(M:L.Perm (K++[(b3,⟨7,[mo (a7 c.w) O .nils .nils]⟩),(b2,⟨7,[aC]⟩)])):
  W.loop (y9 Q) [.pptr [c.enc] 0 0,.ptr b2 0 0,.ptr b3 0 0,.U1 (0:Nat)] L:=by
 refine bz c.w.futures.length (λk (o:Option Nat)=>([.pptr [c.enc] 0 0,.ptr b2 0 0,.ptr b3 0 0,.U1 k],(b3,⟨7,[mo (a7 c.w) (.lst ((c.w.cells.map aF.init).map ah)) (aj o k) .nils]⟩)::(b2,⟨7,[aC]⟩)::ab o 1 ((List.replicate k (0:Int)).map ah))) (λk o=>o=none->k=0) none (λ_=>rfl) (az.box M (by unfold mo;exact .cons (.refl _) (.cons (.refl _) (.cons (.refl _) (.cons (.refl _) (.cons B (.cons .nile (.cons (.refl _) .nil)))))))) ?_;intro k o hk ho;dsimp only;refine vw ?_;have D:((List.replicate k (0:Int)).map ah).length=k:=by simp
 have N:o=none->(List.replicate k (0:Int)).map ah=[]:=λe=>by rw[ho e];rfl
 rcases Tf k c.w.futures.length with E|E
 .have hd:=aS E;have Y:=zI k (0:Int);clear hq M B;generalize a7 c.w=sy at *;generalize(c.w.cells.map aF.init).map ah=gce at *;rw[show c.enc=[.lst (c.w.cells.map aF.enc),.lst (c.w.locks.map bn.enc),.lst (c.w.conds.map bP.enc),.lst (c.w.futures.map au),.lst (c.w.threads.map au),.lst (c.w.sites.map bQ.enc),.lst (c.ts.map eB.enc)]from rfl]at *;unfold mo aC
  repeat' (first|refine st ?_|refine bA rp rp D N UY UZ (by simp;omega) (by simp;omega) UY (λj u=>?_)|refine sb λj u=>?_|refine s2 (λh=>?_) λh=>?_|fail)
  exact⟨k+1,some j,UW,UW,nofun,az.pickE (R:=[(b3,_),(b2,_),(j,_)]) rp (by rw[aw E UW]) (by rw[Y];simp[ab,aj,ah,bu])⟩
 .have hd:=aX E;have G:k=c.w.futures.length:=by omega
  subst G;have S:=PA c b2 b3 Q hq h5 Z (.lst ((c.w.cells.map aF.init).map ah)) (aj o c.w.futures.length) (ab o 1 ((List.replicate c.w.futures.length (0:Int)).map ah)) _ (.refl _) (by
   cases o with
   |none=>rw[N rfl];exact .emp
   |some b=>exact Fz.sls (l:=List.replicate c.w.futures.length (0:Int)) (.head _) rfl U0 UZ) (Tt (l₁:=[(b3,(⟨7,[mo (a7 c.w) (.lst ((c.w.cells.map aF.init).map ah)) (aj o c.w.futures.length) .nils]⟩:Blk)),(b2,⟨7,[aC]⟩)]))
  clear hq M B;rw[show c.enc=[.lst (c.w.cells.map aF.enc),.lst (c.w.locks.map bn.enc),.lst (c.w.conds.map bP.enc),.lst (c.w.futures.map au),.lst (c.w.threads.map au),.lst (c.w.sites.map bQ.enc),.lst (c.ts.map eB.enc)]from rfl]at *
  repeat' (first|exact S|refine st ?_|refine sb λj u=>?_|refine s2 (λh=>?_) λh=>?_|fail)
theorem PC(h1:c.w.cells.length<=100)(h3:c.w.futures.length<=100)(h5:c.ts.length<=1000)(Z:∀t∈c.ts,0<=t.regs/\t.regs<=1000)(L:SH)(O:L.Perm [(b3,⟨7,[mo (a7 c.w) .nils .nils .nils]⟩),(b2,⟨7,[aC]⟩)]):
  W.loop (zb Q) [.pptr [c.enc] 0 0,.ptr b2 0 0,.ptr b3 0 0,.U1 (0:Nat)] L:=by
 refine bz c.w.cells.length (λk (o:Option Nat)=>([.pptr [c.enc] 0 0,.ptr b2 0 0,.ptr b3 0 0,.U1 k],(b3,⟨7,[mo (a7 c.w) (aj o k) .nils .nils]⟩)::(b2,⟨7,[aC]⟩)::ab o 1 (((c.w.cells.take k).map aF.init).map ah))) (λk o=>o=none->k=0) none (λ_=>rfl) (az.box (K:=[]) O (by unfold mo;exact .cons (.refl _) (.cons (.refl _) (.cons (.refl _) (.cons (.refl _) (.cons .nile (.cons (.refl _) (.cons (.refl _) .nil)))))))) ?_;intro k o hk ho;dsimp only;refine vw ?_;have D:(((c.w.cells.take k).map aF.init).map ah).length=k:=by simp;omega
 have S:o=none->((c.w.cells.take k).map aF.init).map ah=[]:=λe=>by rw[ho e];rfl
 rcases Tf k c.w.cells.length with B|B
 .have hd:=aS B;have E:=am (f:=aF.enc) B;have G:c.w.cells.take (k+1)=c.w.cells.take k++[c.w.cells[k]]:=Th B;generalize hT:c.w.cells[k]=ck at *;have N:ck.enc=[.str ck.name,.U1 ck.index,.U1 ck.size,.bool ck.vol,.U1 ck.init]:=rfl;rw[N]at E;clear hq O;generalize a7 c.w=sy at *;rw[show c.enc=[.lst (c.w.cells.map aF.enc),.lst (c.w.locks.map bn.enc),.lst (c.w.conds.map bP.enc),.lst (c.w.futures.map au),.lst (c.w.threads.map au),.lst (c.w.sites.map bQ.enc),.lst (c.ts.map eB.enc)]from rfl]at *;unfold mo aC
  repeat' (first|refine st ?_|refine bA rp rp D S UY UZ (by simp;omega) (by simp;omega) UY (λj u=>?_)|refine sb λj u=>?_|refine s2 (λh=>?_) λh=>?_|fail)
  exact⟨k+1,some j,UW,UW,nofun,az.pickE (R:=[(b3,_),(b2,_),(j,_)]) rp (by rw[aw B UW]) (by rw[G];simp[ab,aj,ah,bu])⟩
 .have hd:=aX B;have M:k=c.w.cells.length:=by omega
  subst M;rw[TH (Te _)]at *;have Y:=PB c b2 b3 Q hq h3 h5 Z (aj o c.w.cells.length) (ab o 1 ((c.w.cells.map aF.init).map ah)) _ (by
   cases o with
   |none=>rw[S rfl];exact .emp
   |some b=>exact Fz.sls (.head _) rfl U0 UZ) (Tt (l₁:=[(b3,(⟨7,[mo (a7 c.w) (aj o c.w.cells.length) .nils .nils]⟩:Blk)),(b2,⟨7,[aC]⟩)]))
  clear hq O;rw[show c.enc=[.lst (c.w.cells.map aF.enc),.lst (c.w.locks.map bn.enc),.lst (c.w.conds.map bP.enc),.lst (c.w.futures.map au),.lst (c.w.threads.map au),.lst (c.w.sites.map bQ.enc),.lst (c.ts.map eB.enc)]from rfl]at *
  repeat' (first|exact Y|refine st ?_|refine sb λj u=>?_|refine s2 (λh=>?_) λh=>?_|fail)
end
theorem I5(c:aY)(O:aq Tryz.prog 29 [.agg c.enc] (.bool true))(h1:c.w.cells.length<=100)(h2:c.w.locks.length<=100)(G:c.w.futures.length<=100)(h4:c.w.threads.length<=100)(Z:c.ts.length<=1000)(S:∀t∈c.ts,0<=t.regs/\t.regs<=1000):aq Tryz.prog 15 [.agg c.enc] (.agg (bL c).enc):=by
 have j:=I4 c.w h2 G h4;refine ac.fz (zc _ _ _ ?_);refine vw ?_;generalize E:(λ(v:AV) (L:SH)=>∃u M,az [v] L [u] M/\u=AV.agg (bL c).enc/\M=[])=Q;have hq:∀v L,Fz L v (.agg (bL c).enc)->Q v L:=λv L h=>by subst E;exact⟨_,[],az.all h,rfl,rfl⟩
 clear E;have B:=λb2 b3 L Y=>PC c b2 b3 Q hq h1 G Z S L Y
 clear hq;rw[show c.w.enc=[.lst (c.w.cells.map aF.enc),.lst (c.w.locks.map bn.enc),.lst (c.w.conds.map bP.enc),.lst (c.w.futures.map au),.lst (c.w.threads.map au),.lst (c.w.sites.map bQ.enc)]from rfl,show(a7 c.w).enc=[.lst ((a7 c.w).locks.map LockD.enc),.U1 (a7 c.w).tx,.lst ((a7 c.w).done.map aB),.lst ((a7 c.w).threads.map ThrD.enc)]from rfl]at j;generalize a7 c.w=sy at *;unfold mo aC at B;rw[show c.enc=[.lst (c.w.cells.map aF.enc),.lst (c.w.locks.map bn.enc),.lst (c.w.conds.map bP.enc),.lst (c.w.futures.map au),.lst (c.w.threads.map au),.lst (c.w.sites.map bQ.enc),.lst (c.ts.map eB.enc)]from rfl]at *
 repeat' (first|refine st ?_|(refine pf 29 ?_;refine pm (O) ?_)|(refine pf 37 ?_;refine pm (j) ?_)|refine sb λN D=>?_|fail)
 exact B _ _ _ (.refl _)
end
def I6(c:aY)(hc:gS c)(Z:∀t∈c.ts,t.ins.length<2^40)(hv:aq Tryz.prog 29 [.agg c.enc] (.bool true))(l:List cK)(hl:l.length<2^62)(D:cy)(H0:oV c D)(R0:u9 c D)(I0:kB c 0 D)(b2 S:Nat)(Q:R)(hq:∀v L,Fz L v (AI (cX c l ([],D)))->Q v L):
  W.loop (AQ Q) [.nils,.lst (l.map cK.enc),.pptr [c.enc] 0 0,.ptr b2 0 0,.ptr S 0 0,.U1 (0:Nat)] [(S,⟨7,[aC]⟩),(b2,⟨7,[D.enc]⟩)]:=by
 refine bz l.length (λk (o:Option Nat)=>([aj o (cX c (l.take k) ([],D)).1.length,.lst (l.map cK.enc),.pptr [c.enc] 0 0,.ptr b2 0 0,.ptr S 0 0,.U1 k],(S,⟨7,[aC]⟩)::(b2,⟨7,[(cX c (l.take k) ([],D)).2.enc]⟩)::ab o 7 ((cX c (l.take k) ([],D)).1.map cu.enc))) (λk o=>o=none->(cX c (l.take k) ([],D)).1=[]) none (λ_=>rfl) (az.drop (K:=[]) (.refl _) rfl (eP.at_ (.cons .nile (.cons (.refl _) (.cons (.refl _) (.cons (.refl _) (.cons (.refl _) (.cons (.refl _) .nil))))))).2) ?_;intro k o hk ho;dsimp only;have hcd:=ii hc Z;have hiv:=xy hcd (l.take k) (p:=([],D)) I0 (Nat.zero_le _);have N:=MW hc (l.take k) (p:=([],D)) H0;have hrf:=MZ hc Z (l.take k) (p:=([],D)) H0 R0 I0 (Nat.zero_le _);have B:=BX c l k ([],D);have u:=λ(h:k<l.length)=>BY c l k h ([],D);generalize hp:cX c (l.take k) ([],D)=p at *;obtain⟨ev,sx⟩:=p;dsimp only at *;have fin:cX c l ([],D)=(ev,sx)->∀L,(∀q∈ab o 7 (ev.map cu.enc),q∈L)->Q (.tup [aj o ev.length,.agg sx.enc]) L:=λhe L hm=>by
  refine hq _ _ ?_;rw[he];refine Fz.tups (.cons ?_ (.cons (.refl _) .nil));cases o with
  |none=>rw[ho rfl];exact .emp
  |some b=>exact Fz.sls (hm _ (.head _)) rfl U0 rfl
 clear hq;unfold aC;refine vw ?_;have Y:∀n:cy,n.enc=[.lst (n.sync.locks.map LockD.enc),.U1 n.sync.tx,.lst (n.sync.done.map aB),.lst (n.sync.threads.map ThrD.enc),.lst (n.cells.map ah),.lst (n.futures.map ah),.lst (n.threads.map aD.enc)]:=λ_=>rfl
 have hce:c.enc=[.lst (c.w.cells.map aF.enc),.lst (c.w.locks.map bn.enc),.lst (c.w.conds.map bP.enc),.lst (c.w.futures.map au),.lst (c.w.threads.map au),.lst (c.w.sites.map bQ.enc),.lst (c.ts.map eB.enc)]:=rfl;rcases Tf k l.length with g1|g1
 .have hd:=aS g1;have hx:=am (f:=cK.enc) g1;have u:=u g1;generalize hch:l[k]=ch at *;obtain⟨ct,cw⟩:=ch;unfold cK.enc at hx;dsimp only at hx;by_cases E:400<=ev.length
  .have fin:=fin (by rw[B];exact uU c _ _ E);have d4:decide ((ev.length:Int)<400)=false:=decide_eq_false UW;clear B u hp hrf N hiv hcd;rw[Y,hce]at *;cases o with
   |none=>rw[ho rfl]at E;simp at E
   |some bo=>
    dsimp only[aj,ab]at *
    repeat' (first|refine st ?_|refine sb λnb_ O=>?_|refine s2 (λh=>?_) λh=>?_|fail)
    exact fin _ UZ
  .have d4:decide ((ev.length:Int)<400)=true:=decide_eq_true UW;have G:=Lq c sx ct cw ev.length hiv.2 hc Z hv N hrf hiv.1;have M:BT c (ev,sx) ⟨ct,cw⟩=match iG c sx ct cw with
    |none=>(ev,sx)
    |some (n,e)=>(ev++[e],n):=by unfold BT;rw[if_neg E];rfl
   clear B fin hrf N hcd;cases hs:iG c sx ct cw with
   |none=>
    rw[hs]at G M;dsimp only at M;unfold ry at G;have hz:cy.zero.enc=[.lst [],.U1 0,.lst [],.lst [],.lst [],.lst [],.lst []]:=rfl;rw[hz,show cu.zero.enc=[.U1 0,.U1 0,.U1 0,.U1 0,.U1 0,.lst [],.lst []]from rfl]at G;have fin2:∀L,L=(S,(⟨7,[aC]⟩:Blk))::(b2,⟨7,[sx.enc]⟩)::ab o 7 (ev.map cu.enc)->∃(j:Nat) (o':Option Nat),k<j/\j<=l.length/\(o'=none->(cX c (l.take j) ([],D)).1=[])/\az [aj o ev.length,.lst (l.map cK.enc),.pptr [c.enc] 0 0,.ptr b2 0 0,.ptr S 0 0,.U1 (IntKind.i64.wrap ((k:Int)+1))] L
      [aj o' (cX c (l.take j) ([],D)).1.length,.lst (l.map cK.enc),.pptr [c.enc] 0 0,.ptr b2 0 0,.ptr S 0 0,.U1 j] ((S,⟨7,[aC]⟩)::(b2,⟨7,[(cX c (l.take j) ([],D)).2.enc]⟩)::ab o' 7 ((cX c (l.take j) ([],D)).1.map cu.enc)):=by
     rintro L rfl;refine⟨k+1,o,UW,UW,?_,?_⟩
     .rw[u,M];exact ho
     .rw[u,M,aw g1 hl];exact .refl _ _
    unfold aC at fin2;rw[Y,hce]at *;cases o
    all_goals
     dsimp only[aj,ab]at *
     repeat' (first|refine st ?_|(refine pf 19 ?_;refine pm (G) ?_)|refine sb λnb_ O=>?_|refine s2 (λh=>?_) λh=>?_|fail)
     exact fin2 _ rfl
   |some r=>
    obtain⟨n,e⟩:=r;rw[hs]at G M;dsimp only at M;unfold ry at G;have he:e.enc=[.U1 e.thread,.U1 e.kind,.U1 e.obj,.U1 e.value,.U1 e.site,.lst (e.deps.map ah),.lst (e.frm.map ah)]:=rfl;dsimp only at G;have fin3:∀(nb:Nat) (L:SH),fE L ((S,(⟨7,[aC]⟩:Blk))::(b2,⟨7,[n.enc]⟩)::ab (some nb) 7 (ev.map cu.enc++[e.enc]))->∃(j:Nat) (o':Option Nat),k<j/\j<=l.length/\(o'=none->(cX c (l.take j) ([],D)).1=[])/\az [.sl nb 0 (ev.length+1),.lst (l.map cK.enc),.pptr [c.enc] 0 0,.ptr b2 0 0,.ptr S 0 0,.U1 (IntKind.i64.wrap ((k:Int)+1))] L
      [aj o' (cX c (l.take j) ([],D)).1.length,.lst (l.map cK.enc),.pptr [c.enc] 0 0,.ptr b2 0 0,.ptr S 0 0,.U1 j] ((S,⟨7,[aC]⟩)::(b2,⟨7,[(cX c (l.take j) ([],D)).2.enc]⟩)::ab o' 7 ((cX c (l.take j) ([],D)).1.map cu.enc)):=by
     intro nb L hL;refine⟨k+1,some nb,UW,UW,nofun,?_⟩;rw[u,M,aw g1 hl];exact az.pickE hL (by simp[aj]) UZ
    unfold aC at fin3;rw[Y n]at *;rw[Y sx,he,hce]at *;have hev400:ev.length<2^30:=by omega
    have hlen:(ev.map cu.enc).length=ev.length:=by simp
    have h0:o=none->ev.map cu.enc=[]:=λe=>by rw[ho e];rfl
    repeat' (first|refine st ?_|(refine pf 19 ?_;refine pm (G) ?_)|refine bA rp rp hlen h0 UY UZ (by simp;omega) (by simp;omega) UY (λnb_ O=>?_)|refine CZ ?_ (λe=>by rw[ho e];rfl)|refine sb λnb_ O=>?_|refine s2 (λh=>?_) λh=>?_|fail)
    exact fin3 _ _ rp
 .have hd:=aX g1;have hk0:k=l.length:=by omega
  subst hk0;have fin:=fin (by rw[B,List.drop_of_length_le (Te _)];rfl);clear B u hp hrf N hiv hcd;rw[Y,hce]at *;cases o
  all_goals
   dsimp only[aj,ab]at *
   repeat' (first|refine st ?_|refine sb λnb_ O=>?_|refine s2 (λh=>?_) λh=>?_|fail)
   exact fin _ UZ
def Lr(c:aY)(Z:gS c)(u:∀t∈c.ts,t.ins.length<2^40)(E:aq Tryz.prog 29 [.agg c.enc] (.bool true))(l:List cK)(Y:l.length<2^62)(j:cy)(H0:oV c j)(R0:u9 c j)(I0:kB c 0 j):aq Tryz.prog 30 [.agg c.enc,.agg j.enc,.nils,.lst (l.map cK.enc)] (AI (cX c l ([],j))):=by
 refine ac.fz (AR _ _ _ _ _ _ ?_);refine vw ?_;generalize N:(λ(v:AV) (L:SH)=>∃B O,az [v] L [B] O/\B=AI (cX c l ([],j))/\O=[])=Q;have G:∀v L,Fz L v (AI (cX c l ([],j)))->Q v L:=λv L h=>by subst N;exact⟨_,[],az.all h,rfl,rfl⟩
 clear N;have D:=λb2 b4=>I6 c Z u E l Y j H0 R0 I0 b2 b4 Q G
 clear G E;unfold aC at D;rw[show j.enc=[.lst (j.sync.locks.map LockD.enc),.U1 j.sync.tx,.lst (j.sync.done.map aB),.lst (j.sync.threads.map ThrD.enc),.lst (j.cells.map ah),.lst (j.futures.map ah),.lst (j.threads.map aD.enc)]from rfl,show c.enc=[.lst (c.w.cells.map aF.enc),.lst (c.w.locks.map bn.enc),.lst (c.w.conds.map bP.enc),.lst (c.w.futures.map au),.lst (c.w.threads.map au),.lst (c.w.sites.map bQ.enc),.lst (c.ts.map eB.enc)]from rfl]at *
 repeat' (first|refine st ?_|refine sb λS M=>?_|refine s2 (λh=>?_) λh=>?_|fail)
 exact D _ _
def M1(c:aY)(j:∀t∈c.ts,t.ins.length<2^40)(l:List cK)(hll:l.length<2^62):aq Tryz.prog 10 [.agg c.enc,.lst (l.map cK.enc)] (.tup [.agg (fa c l).1.enc,.agg (fa c l).2.enc]):=by
 have B:=IS c λt ht=>by have:=j t ht;omega
 refine ac.fz (Dd _ _ _ _ ?_);refine vw ?_;generalize hQ:(λ(v:AV) (L:SH)=>∃v2 L2,az [v] L [v2] L2/\v2=AV.tup [.agg (fa c l).1.enc,.agg (fa c l).2.enc]/\L2=[])=Q;have N:∀a b L,eP L a (fa c l).1.enc->eP L b (fa c l).2.enc->Q (.tup [.agg a,.agg b]) L:=λa b L h1 h2=>by subst hQ;exact⟨_,[],az.all (Fz.tups (.cons (Fz.aggs h1) (.cons (Fz.aggs h2) .nil))),rfl,rfl⟩
 clear hQ;have M:c.enc=[.lst (c.w.cells.map aF.enc),.lst (c.w.locks.map bn.enc),.lst (c.w.conds.map bP.enc),.lst (c.w.futures.map au),.lst (c.w.threads.map au),.lst (c.w.sites.map bQ.enc),.lst (c.ts.map eB.enc)]:=rfl;cases G:gA (gS c)with
 |false=>
  rw[G]at B;have hr:fa c l=(⟨⟨[],[],[],[],[],[]⟩,[]⟩,cy.zero):=by unfold fa;rw[G];rfl
  rw[hr]at N;have S:∀L,Q (.tup [.agg [.nils,.nils,.nils,.nils,.nils,.nils,.nils],.agg [.nils,.U1 0,.nils,.nils,.nils,.nils,.nils]]) L:=λL=>N _ _ L (by unfold oJ.enc;exact fl) (by unfold cy.zero cy.enc EB;exact fl)
  rw[M]at *
  repeat' (first|refine st ?_|(refine pf 29 ?_;refine pm (B) ?_)|refine sb λO E=>?_|refine s2 (λh=>?_) λh=>?_|fail)
  exact S _
 |true=>
  rw[G]at B;have u:=eH.1 G;have D:=u.world;have hr:fa c l=(⟨c.w,(ep c l).1⟩,(ep c l).2):=by unfold fa;rw[G];rfl
  rw[hr]at N;have Y:=I5 c B (by have:=D.c12;omega) (by have:=D.l4;omega) (by have:=D.f2;omega) (by have:=D.t4;omega) (by have:=u.len;have:=D.t4;omega) (y7 u);have hf:=Lr c u j B l hll (bL c) (B6 u) (I1 u) (pp u);rw[show cX c l ([],bL c)=ep c l from rfl]at hf;generalize ep c l=p at *;obtain⟨ev,s⟩:=p;unfold AI at hf;have Z:s.enc=[.lst (s.sync.locks.map LockD.enc),.U1 s.sync.tx,.lst (s.sync.done.map aB),.lst (s.sync.threads.map ThrD.enc),.lst (s.cells.map ah),.lst (s.futures.map ah),.lst (s.threads.map aD.enc)]:=rfl;dsimp only at *;generalize bL c=s0 at *;rw[show s0.enc=[.lst (s0.sync.locks.map LockD.enc),.U1 s0.sync.tx,.lst (s0.sync.done.map aB),.lst (s0.sync.threads.map ThrD.enc),.lst (s0.cells.map ah),.lst (s0.futures.map ah),.lst (s0.threads.map aD.enc)]from rfl]at *;rw[M]at *;rw[Z]at *;have S:∀L,Q (.tup [.agg [.lst (c.w.cells.map aF.enc),.lst (c.w.locks.map bn.enc),.lst (c.w.conds.map bP.enc),.lst (c.w.futures.map au),.lst (c.w.threads.map au),.lst (c.w.sites.map bQ.enc),.lst (ev.map cu.enc)],.agg [.lst (s.sync.locks.map LockD.enc),.U1 s.sync.tx,.lst (s.sync.done.map aB),.lst (s.sync.threads.map ThrD.enc),.lst (s.cells.map ah),.lst (s.futures.map ah),.lst (s.threads.map aD.enc)]]) L:=λL=>N _ _ L (eP.refl _ _) (eP.refl _ _)
  repeat' (first|refine st ?_|(refine pf 29 ?_;refine pm (B) ?_)|(refine pf 15 ?_;refine pm (Y) ?_)|(refine pf 30 ?_;refine pm (hf) ?_)|refine sb λO E=>?_|refine s2 (λh=>?_) λh=>?_|fail)
  exact S _
def tG:RF:=nv (bO Tryz.prog Tryz.f6 [] [])
abbrev Do(a b:AV)(L:SH)(Q:R):Prop:=Pc tG 20 Q 0 [] [a,b] L
def Bb(j t1:AV)(L:SH)(Q:R)(h:Do j t1 L Q):ac Tryz.prog 6 [j,t1] L Q:=
 fv tG Tryz.func6 h
def lF:RF:=nv (bO Tryz.prog Tryz.f3 [] [(3,[5]),(4,[7,8]),(5,[9,10])])
abbrev vc(a b:AV)(L:SH)(Q:R):Prop:=Pc lF 20 Q 0 [] [a,b] L
def tH(j t1:AV)(L:SH)(Q:R)(h:vc j t1 L Q):ac Tryz.prog 3 [j,t1] L Q:=
 fv lF Tryz.func3 h
def oW:RF:=nv (bO Tryz.prog Tryz.f8 [(9,⟨[0,3,4],[],true,[]⟩)] [])
abbrev zJ(a:AV)(L:SH)(Q:R):Prop:=Pc oW 20 Q 0 [] [a] L
def xg(j:AV)(L:SH)(Q:R)(h:zJ j L Q):ac Tryz.prog 8 [j] L Q:=
 fv oW Tryz.func8 h
def ac.pure{P:Program}{f:FuncId}{args:List AV}{Q:AV->SH->Prop}(h:ac P f args [] Q)(ha:∀a∈args,bD a)(S:∀u K,Q u K->bD u):∃v K,Q v K/\aq P f args v:=by
 obtain⟨v,H',L',h1,h2,D⟩:=h.2 ae.empty (λb _=>db b) ⟨List.nodup_nil,nofun⟩;have hV:G8 P f args v:=λw E G hW B=>(h1 w E G hW B).mono λe w' ⟨M,j,he,O,k2,N,k4⟩=>⟨M,j,H',he,O,N⟩
 exact⟨v,L',D,h.1,λH hb Y=>⟨v,H,[],Qp (S _ _ D) (λi a Z=>ha a (T0 Z)) hV H,.refl hb Y,rfl,rfl⟩⟩
def bD.lsts{rows:List (List AV)}(h:∀r∈rows,∀a∈r,bD a):bD (.lst rows):=.lst rows λi r j a B u=>h r (T0 B) a (T0 u)
def bD.lmap{α:Type}{f:α->List AV}{l:List α}(h:∀x∈l,∀a∈f x,bD a):bD (.lst (l.map f)):=.lsts λr u=>by obtain⟨x,j,rfl⟩:=TR.1 u;exact h x j
def bD.aggs{cs:List AV}(h:∀a∈cs,bD a):bD (.agg cs):=.agg cs λi a j=>h a (T0 j)
def bD.tups{cs:List AV}(h:∀a∈cs,bD a):bD (.tup cs):=.tup cs λi a j=>h a (T0 j)
def lG(s:bv):∀a∈au s,bD a:=λa h=>by rw[Tl.1 h];exact .str _
mutual
def ax.pure:∀x:ax,∀a∈x.enc,bD a
 | .mk op n name l=>by have:=ax.pures l;simp only[ax.enc,T1,T6,false_implies,implies_true,and_true];exact⟨.int _ _,.int _ _,.str _,.lsts this⟩
def ax.pures:∀l:List ax,∀r∈ax.encs l,∀a∈r,bD a
 |[]=>nofun
 | x::l=>by simp only[ax.encs,T1];exact⟨ax.pure x,ax.pures l⟩
end
mutual
def aa.pure:∀x:aa,∀a∈x.enc,bD a
 | .mk op line name arg index e body els=>by
  have u:=aa.pures body;have j:=aa.pures els
  simp only[aa.enc,T1,T6,false_implies,implies_true,and_true];exact⟨.int _ _,.int _ _,.str _,.str _,.lmap λx _=>x.pure,.int _ _,.int _ _,.str _,.lmap λx _=>x.pure,.lsts u,.lsts j⟩
def aa.pures:∀l:List aa,∀r∈aa.encs l,∀a∈r,bD a
 |[]=>nofun
 | x::l=>by simp only[aa.encs,T1];exact⟨aa.pure x,aa.pures l⟩
end
def aN.pure(d:aN):∀a∈d.enc,bD a:=by simp only[aN.enc,T1,T6,false_implies,implies_true,and_true];exact⟨.int _ _,.int _ _,.str _,.int _ _,.int _ _,.str _⟩
def ai.pure(d:ai):∀a∈d.enc,bD a:=by simp only[ai.enc,T1,T6,false_implies,implies_true,and_true];exact⟨.str _,.int _ _,.lmap λx _=>lG x,.lmap λx _=>x.pure⟩
def bU.pure(p:bU):bD (.agg p.enc):=.aggs (by
 simp only[bU.enc,T1,T6,false_implies,implies_true,and_true];exact⟨.lmap λx _=>x.pure,.lmap λx _=>x.pure⟩)
def Ls(e j:Int):bD (.tup [.U1 e,.U1 j]):=.tups (by
 simp only[T1,T6,false_implies,implies_true,and_true];exact⟨.int _ _,.int _ _⟩)
def aN.wt_pos(d:aN):1<=d.wt:=by unfold aN.wt;omega
def ai.wt_pos(d:ai):1<=d.wt:=by unfold ai.wt;omega
def ai.local_len(t:ai){i:Nat}(h:i<t.locals.length):t.locals[i].length<t.wt:=by have:=xu (f:=List.length) t.locals i h;unfold ai.wt;omega
def bU.decl_wt(p:bU){i:Nat}(h:i<p.decls.length):p.decls[i].wt<=p.wt:=by have:=xu (f:=aN.wt) p.decls i h;unfold bU.wt;omega
def bU.thread_wt(p:bU){i:Nat}(h:i<p.threads.length):p.threads[i].wt<=p.wt:=by have:=xu (f:=ai.wt) p.threads i h;unfold bU.wt;omega
def bU.decls_len(p:bU):p.decls.length<=p.wt:=by have:=CH aN.wt_pos p.decls;unfold bU.wt;omega
def bU.threads_len(p:bU):p.threads.length<=p.wt:=by have:=CH ai.wt_pos p.threads;unfold bU.wt;omega
def rM{α:Type}{p:α->Bool}:∀(l:List α) (j:Nat),(jC p l j=-1/\l.find? p=none)\/∃(k:Nat) (h:k<l.length),jC p l j=(j+k:Nat)/\l.find? p=some l[k]
 |[],_=>.inl ⟨rfl,rfl⟩
 | x::l,j=>by
  by_cases h:p x=true
  .exact .inr ⟨0,UZ,by simp[jC,h],by simp[h]⟩
  .rcases rM (p:=p) l (j+1)with⟨h1,h2⟩|⟨k,h1,h2,h3⟩
   .exact .inl ⟨by simp[jC,h,h1],by simp[h,h2]⟩
   .refine .inr ⟨k+1,by simpa using h1,?_,by simpa[h]using h3⟩;simp only[jC,h,Tz,if_false,h2];congr 1;omega
def gx{α:Type}{f:α->List AV}{l:List α}{n i:Nat}{k:IntKind}{L:SH}{K:AV->Prop}(h:K (.lst ((l.take i).map f)))(B:i<=l.length:=by omega)(u:∀x,(f x).length=n:=by intro x;rfl):W.slice n (.lst (l.map f)) none (some (.int k (i:Int))) none L K:=by
 refine o9 (l:=0) (h:=i) rfl ?_ (TG _) (by simpa using B) (λr j=>?_) ?_
 .simp[cC,kK]
 .cases l with
  |nil=>cases j
  |cons x l=>simp at j;rw[<-j];exact u x
 .simpa[List.map_take]using h
def GJ{k:IntKind}{a b:Int}{K:AV->Prop}(h:K (.int k (if b > a then b else a))):W.mnx true (.int k a) (.int k b) K:=by rw[Nw];exact h
def Lt{k:IntKind}{s:Int}{K:AV->Prop}(h:K (.int k (((max s 1).toNat:Nat):Int))):W.mnx true (.int k s) (.int k 1) K:=by
 rw[Nw];have:(if(1:Int) > s then(1:Int)else s)=(((max s 1).toNat:Nat):Int):=by split<;>omega
 rw[this];exact h
structure mq where
 t:Nat
 o1:Option Nat
 ar:List aa
 k:Nat
 o2:Option Nat
 sp:List bv
 o3:Option Nat
 se:List bv
def mq.row(p:bU)(s:mq):List AV:=[.lst (p.decls.map aN.enc),.lst (p.threads.map ai.enc),.U1 s.t,aj s.o1 s.k,aj s.o2 s.sp.length,aj s.o3 s.se.length]
def mq.L(p:bU)(bw:Nat)(s:mq):SH:=(bw,⟨6,[s.row p]⟩)::(ab s.o1 11 (s.ar.map aa.enc)++(ab s.o2 1 (s.sp.map au)++ab s.o3 1 (s.se.map au)))
structure mq.Ok(s:mq)(m:Nat):Prop where
 a0:s.o1=none->s.ar=[]
 ak:s.k<=s.ar.length
 k6:s.k<=6
 p0:s.o2=none->s.sp=[]
 e0:s.o3=none->s.se=[]
 pm:s.sp.length<=m
 em:s.se.length<=m
def ac.permR{P:Program}{f:FuncId}{args:List AV}{L:SH}{Q:AV->SH->Prop}(h:ac P f args L λv j=>∃L'',j.Perm L''/\Q v L''):ac P f args L Q:=⟨h.1,λH B u=>by
 obtain⟨v,M,j,G,E,L'',hp,D⟩:=h.2 H B u;exact⟨v,M,L'',G,E.permS hp,D⟩⟩
def ac.within{P:Program}{f:FuncId}{args:List AV}{K L R:SH}{α:Type}{F:α->AV}(h:ac P f args K λu j=>∃r,u=F r/\j=K)(hp:L.Perm (K++R)):ac P f args L λu j=>∃r,u=F r/\j=L:=
 ac.permR (h.frame hp λv j ⟨r,D,B⟩=>⟨L,by rw[B];exact hp.symm,r,D,rfl⟩)
def aa.wts_succ{l:List aa}{i:Nat}(h:i<l.length):aa.wts (l.take (i+1))=aa.wts (l.take i)+l[i].wt:=by
 rw[Th h];generalize l.take i=m
 induction m with
 |nil=>simp[aa.wts]
 |cons y m j=>simp only[Uq,aa.wts,j];omega
def aa.wts_take(l:List aa)(i:Nat):aa.wts (l.take i)<=aa.wts l:=by
 induction l generalizing i with
 |nil=>simp
 | cons x l j=>cases i with
  |zero=>simp[aa.wts]
  |succ i=>have:=j i;simp only[List.take_succ_cons,aa.wts];omega
def xA{o:Option Nat}{k:Nat}{K:AV->Prop}(h:K (.U1 (k:Int)))(j:o=none->k=0):W.len (aj o k) K:=by
 cases o with
 |none=>rw[j rfl]at h;exact CB h
 |some b=>exact Cx h
def Fq{KL:R}{L N:SH}{o:Option Nat}{i n by_ M:Nat}{rows m:List (List AV)}{r:List AV}(G:(M,(⟨n,m⟩:Blk))∈L)(O:m=[r])(E:ee o n rows L N)(j:i<=rows.length)(Y:o=none->rows=[])(B:i<=1000)(u:by_<=1000)(h4:r.all AV.one=true)
  (h:∀b,b∉L.names->KL (.sl b 0 (i+1)) ((b,⟨n,rows.take i++[r]⟩)::N)):W.append n by_ (aj o i) (.sl M 0 1) L KL:=by
 subst O;have e1:2*(i+(0+1))*by_<=2*(1000+1)*1000:=Nat.mul_le_mul UW u
 have e2:2*(0+1)*by_<=2*(0+1)*1000:=Nat.mul_le_mul UW u
 cases o with
 |none=>
  have D:=Y rfl;subst D;obtain rfl:i=0:=by simpa using j
  have S:=E.none';subst S;exact CA (KL:=KL) (by_:=by_) (jN G rfl rfl) (by show 2*(0+1)*by_<=2^48;omega) UZ (by simpa using h4) UZ (λb B=>by simpa using h b B)
 |some b=>
  refine jM (y:=⟨n,rows⟩) (l:=rows.take i) E.some'.mem' rfl (by simpa using j) UZ (jN G rfl rfl) ?_ ?_ (by simpa using h4) E.some' (λZ B=>?_)
  .rw[TJ,Ud j];simp only[TC,TQ];omega
  .rw[TJ,Ud j];simp only[TC,TQ];omega
  .rw[TJ,Ud j];exact h Z B
def PD{α:Type}(a t b:α)(R:List α):(a::t::b::R).Perm ((b::([a]++R))++[t]):=by have h:(a::t::b::R).Perm ([t]++(b::([a]++R))):=(List.Perm.swap t a _).trans ((List.Perm.swap b a R).cons t);exact h.trans Tt
def vf{n b k m:Nat}{j:IntKind}{y:Blk}{L:SH}{K:AV->Prop}(h:K (.sl b 0 k))(D:k<=m)(B:(b,y)∈L)(u:y.size=n):W.slice n (.sl b 0 m) none (some (.int j (k:Int))) none L K:=by refine uk (l:=0) (h:=k) rfl (by simp[cC,kK]) (TG _) D B u ?_;simpa using h
def Dp:List AV:=[.U1 0,.U1 0,.str [],.str [],.nils,.U1 0,.U1 0,.str [],.nils,.nils,.nils]
def Bc{α:Type}{f:α->Nat}{l:List α}{i:Nat}(h:i<l.length):((l.take (i+1)).map f).sum=((l.take i).map f).sum+f l[i]:=by rw[Th h,Ti,List.sum_append];simp
def gF{α:Type}(f:α->Nat)(l:List α):Nat:=(l.map f).sum
def GK{α:Type}{f:α->Nat}{l:List α}{i:Nat}(h:i<l.length):gF f (l.take (i+1))=gF f (l.take i)+f l[i]:=Bc h
def zK{α:Type}(f:α->Nat)(l:List α)(i:Nat):gF f (l.take i)<=gF f l:=by
 unfold gF
 induction l generalizing i with
 |nil=>simp
 | cons x l j=>cases i with
  |zero=>simp
  |succ i=>have:=j i;simp only[List.take_succ_cons,Tj,Ul];omega
def Fs{α:Type}{f g:α->Nat}(h:∀x,f x<=g x)(l:List α):gF f l<=gF g l:=by
 unfold gF
 induction l with
 |nil=>simp
 |cons x l j=>have:=h x;simp only[Tj,Ul];omega
def tI{P:Program}{g:FuncId}{args:List AV}{K M L:SH}{j:AV->SH->Prop}{KL:R}(h:ac P g args K j)(D:L.Perm (K++M))(B:∀v u,j v u->∃L'',(u++M).Perm L''/\KL v L''):W.callM P g args L KL:=⟨ac.permR (h.frame D B)⟩
def xB{n:Nat}{rows:List (List AV)}:ab none n rows=[]:=rfl
def xC{b n:Nat}{rows:List (List AV)}:ab (some b) n rows=[(b,⟨n,rows⟩)]:=rfl
def mt{P:Program}{g:FuncId}{args:List AV}{i:Nat}{L:SH}{j:AV->SH->List Nat->Prop}(h:W.callM P g args L (λv K=>∀u,j v K u)):W.dcallM P [] i g args L j:=
 ⟨L,[],UZ,nofun,h.1.mono λv D B=>by simpa using B _⟩
mutual
def aa.cnt:aa->Nat
 |.mk _ _ _ _ _ _ body els=>aa.cnts body+aa.cnts els
def aa.cnts:List aa->Nat
 |[]=>0
 |x::l=>1+x.cnt+aa.cnts l
end
def aa.cnt_eq(x:aa):x.cnt=aa.cnts x.body+aa.cnts x.els:=by cases x;rfl
mutual
def aa.cnt_wt:∀x:aa,x.cnt<x.wt
 |.mk a b c d e f j u=>by have:=aa.cnts_wt j;have:=aa.cnts_wt u;simp only[aa.cnt,aa.wt];omega
def aa.cnts_wt:∀l:List aa,aa.cnts l<=aa.wts l
 |[]=>Te _
 |x::l=>by have:=aa.cnt_wt x;have:=aa.cnts_wt l;simp only[aa.cnts,aa.wts];omega
end
def fL(b:UInt8):List AV:=[.int .u8 (b.toNat:Int)]
end Go.Proofs.YtbofdbhnbodbiaaGreatDoor.Am
