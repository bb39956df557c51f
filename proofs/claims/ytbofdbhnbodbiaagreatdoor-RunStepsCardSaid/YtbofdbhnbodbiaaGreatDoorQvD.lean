/- A part of the proof; the statement is proved in the last part. -/
import Derived.Test.YtbofdbhnbodbiaaGreatDoorQvC
set_option linter.all false
set_option maxRecDepth 100000
set_option maxHeartbeats 20000000
namespace Go.Proofs.YtbofdbhnbodbiaaGreatDoor.Am
section
theorem KK(c:aZ)(s:cm)(t wake:Int)(hv:aq Tryz.prog 29 [.agg c.enc] (.bool false)):aq Tryz.prog 19 [.agg c.enc,.agg s.enc,.agg [.Uf t,.Uf wake]] (iK none):=by
 have hp:=vF c s t hv;refine ac.fz (ql _ _ _ _ _ ?_);refine vw ?_;generalize D:(λ(v:AV) (L:SH)=>∃j E,az [v] L [j] E/\j=iK none/\E=[])=Q;have u:∀v L,v=.tup [.agg aO,.agg co,.bool false]->Q v L:=λv L h=>by subst D;rw[h];exact⟨_,[],az.all (jc L),rfl,rfl⟩
 clear D;unfold aO co at u;unfold eD da.zero da.enc at hp;dsimp only[List.map]at hp;unfold cm.enc aZ.enc at *
 repeat' (first|refine st ?_|(refine pf 17 ?_;refine pm (hp) ?_)|refine sb λG B=>?_|refine s2 (λh=>?_) λh=>?_|fail)
 exact u _ _ rfl
theorem KM{c:aZ}{s:cm}{t:Int}{e:da}(hp:bL c s t=some e):e.value=0:=by
 unfold bL at hp;split at hp
 .dsimp only at hp;split at hp
  .cases hp;rfl
  .split at hp
   .cases hp;rfl
   .split at hp
    .split at hp
     .cases hp;unfold cQ;dsimp only
      repeat' split
      all_goals rfl
     .cases hp
    .cases hp
 .cases hp
section
variable (c:aZ) (s:cm) (t wake:Int) (n:Nat) (hn:n<=400) (hc:lZ c) (hl:∀t∈c.ts,t.ins.length<2^40) (hv:aq Tryz.prog 29 [.agg c.enc] (.bool true)) (H:zo c s) (R:CR c s) (I:wF c n s)
include hn hc hl hv H R I
theorem KO:aq Tryz.prog 19 [.agg c.enc,.agg s.enc,.agg [.Uf t,.Uf wake]] (iK (gy c s t wake)):=by
 have B:=Er hc hl;have SH':=Ep hn I B.ins B.len B.con;have vS:c.ts.length<2^62:=by have:=hc.len;have:=hc.world.t4;omega
 have hp:=vL c s t hv (R.fit9 H) (by have:=B.con;omega) vS B.ins (λx hx r=>by
  have:=(SH'.thr x hx).1.short;unfold aC.tnt;rcases Fn r.toNat x.taint.length with h|h
  .have:=this _ (Sy h);simp[h];omega
  .simp[List.getD,LE h])
 have hln:s.cells.length=c.w.cells.length/\s.futures.length=c.w.futures.length:=⟨R.nc,R.nf⟩;rw[jQ];refine ac.fz (ql _ _ _ _ _ ?_);refine vw ?_;generalize hQ:(λ(v:AV) (L:SH)=>∃v2 L2,az [v] L [v2] L2/\v2=_/\L2=[])=Q;have D:∀v L,Fz L v (iK (match bL c s t with
  |none=>none
  | some e=>if s.cells.length=c.w.cells.length/\s.futures.length=c.w.futures.length then
    (if(dE c.w s.sync t e.kind e.obj wake).2.2 then kh c s t (dE c.w s.sync t e.kind e.obj wake).1 e (bY (bH (am c t) (ay s t).pc) e s (ay s t) (dE c.w s.sync t e.kind e.obj wake).2.1)else none)else none))->Q v L:=λv L h=>by subst hQ;exact⟨_,[],az.all h,rfl,rfl⟩
 clear hQ;have hce:c.enc=[.lst (c.w.cells.map aH.enc),.lst (c.w.locks.map bC.enc),.lst (c.w.conds.map bR.enc),.lst (c.w.futures.map au),.lst (c.w.threads.map au),.lst (c.w.sites.map bU.enc),.lst (c.ts.map eb.enc)]:=rfl;have hse:s.enc=[.lst (s.sync.locks.map LockD.enc),.Uf s.sync.tx,.lst (s.sync.done.map aB),.lst (s.sync.threads.map ThrD.enc),.lst (s.cells.map ah),.lst (s.futures.map ah),.lst (s.threads.map aC.enc)]:=rfl;cases G:bL c s t with
 |none=>
  rw[G]at hp D;unfold eD at hp;have hz:=λv L (h:v=_)=>D v L (by rw[h];exact jc L)
  unfold aO co da.zero da.enc at *;dsimp only[List.map]at hp;rw[hce,hse]at *
  repeat' (first|refine st ?_|(refine pf 17 ?_;refine pm (hp) ?_)|refine sb λnb_ S=>?_|refine s2 (λh=>?_) λh=>?_|fail)
  exact hz _ _ rfl
 |some e=>
  rw[G]at hp D;unfold eD at hp;dsimp only at hp D;rw[if_pos hln]at D;have E:=rh B.ins G;have hval:e.value=0:=KM G;have ha:=Io c.w s.sync t e.kind e.obj wake SH'.sm;have een:e.enc=[.Uf e.thread,.Uf e.kind,.Uf e.obj,.Uf e.value,.Uf e.site,.lst (e.deps.map ah),.lst (e.frm.map ah)]:=rfl;have hen:(dE c.w s.sync t e.kind e.obj wake).2.2=true->aE c.w s.sync t e.kind e.obj=true/\(e.kind≠18->e.kind≠19->(dE c.w s.sync t e.kind e.obj wake).2.1=0):=λh=>by
   unfold dE at h ⊢;split at h
   .rename_i he;refine⟨he,λk18 k19=>?_⟩;rw[if_pos he];unfold bG
    repeat' refine iteInduction (motive:=λp:SyncD×Int=>p.2=0) (λ_=>?_) (λ_=>?_)
    all_goals first
     |rfl
     |(exfalso;omega)
   .cases h
  generalize hres:dE c.w s.sync t e.kind e.obj wake=r at *;obtain⟨M,sv,ok⟩:=r;unfold JQ at ha;dsimp only at ha D hen;cases ok with
  |false=>
   have hz:=λv L (h:v=_)=>D v L (by rw[h];exact jc L)
   unfold aO co at hz;rw[hce,hse,een]at *
   repeat' (first|refine st ?_|(refine pf 17 ?_;refine pm (hp) ?_)|(refine pf 43 ?_;refine pm (ha) ?_)|refine sb λnb_ S=>?_|refine s2 (λh=>?_) λh=>?_|fail)
   exact hz _ _ rfl
  |true=>
   obtain⟨hen1,hsv⟩:=hen rfl;rw[if_pos rfl]at D;obtain⟨a1,a2,a3,a4,a5,a6⟩:=dX E.ready;have al:=vy (w:=c.w) (s:=s.sync) (t:=t) (k:=e.kind) (o:=e.obj) (wake:=wake) (by rw[hres]);have Y:ay s t∈s.threads:=eE (d:=aC.zero) a2;have hT:=SH'.thr _ Y;have hoc:e.kind=3\/e.kind=4->inB e.obj s.cells.length=true:=λN=>by unfold allowedS at al;rw[if_neg Ua,if_pos N]at al;rw[hln.1];exact al
   have hof:e.kind=22\/e.kind=23->inB e.obj s.futures.length=true:=λN=>by unfold allowedS at al;rw[if_neg Ua,if_neg Ua,if_neg Ua,if_neg Ua,if_neg Ua,if_neg Ua,if_pos N]at al;rw[hln.2];exact al
   have j:=yK (i:=bH (am c t) (ay s t).pc) (e:=e) (s:=s) (sv:=sv) hT.1 hT.2.1;have O:=F4 (am c t) (bY (bH (am c t) (ay s t).pc) e s (ay s t) sv).thread U9 SH'.u30 j.small (by rw[j.len];exact j.small) j.short j.sub (hl _ (show am c t∈c.ts from eE a1));have hgo:=λN=>settles (sv:=sv) hc hl H R G hen1 N
   have hcp:=KD s t.toNat SH'.nt SH'.nc SH'.nf (λx hx=>⟨(SH'.thr x hx).1.small,by have:=(SH'.thr x hx).1.len;have:=(SH'.thr x hx).2.2;omega,(SH'.thr x hx).1.short⟩) SH'.sm.locks SH'.sm.done SH'.sm.threads SH'.sm.rd;obtain⟨th,hth⟩:∃th,((e.kind=16\/e.kind=2)/\th=(bY (bH (am c t) (ay s t).pc) e s (ay s t) sv).thread)\/((e.kind≠16/\e.kind≠2)/\aT (am c t) (bY (bH (am c t) (ay s t).pc) e s (ay s t) sv).thread=(th,true)):=by
    by_cases N:e.kind=16\/e.kind=2
    .exact⟨_,.inl ⟨N,rfl⟩⟩
    .exact⟨_,.inr ⟨Ua,Prod.ext rfl (hgo Ua)⟩⟩
   have Z:kh c s t M e (bY (bH (am c t) (ay s t).pc) e s (ay s t) sv)=some (⟨M,(bY (bH (am c t) (ay s t).pc) e s (ay s t) sv).cells,(bY (bH (am c t) (ay s t).pc) e s (ay s t) sv).futures,s.threads.set t.toNat th⟩,{e with value:=(bY (bH (am c t) (ay s t).pc) e s (ay s t) sv).value}):=by
    unfold kh;rcases hth with⟨N,rfl⟩|⟨N,hs⟩
    .rw[if_neg Ua]
    .rw[if_pos N,hs];rfl
   rw[Z]at D;have fin:∀(be b8 b6 bs:Nat) (v:AV) (K:SH),OK s t.toNat v K->∃L':SH,(K++[(be,(⟨7,[e.enc]⟩:Blk)),(b8,⟨7,[co]⟩),(b6,⟨7,[aO]⟩),(bs,⟨7,[s.enc]⟩)]).Perm L'/\(L'.names.Nodup->qk Q (.ptr bs 0 0) (.pptr [M.enc] 0 0) (.pptr [[.Uf t,.Uf wake]] 0 0) (.pptr [c.enc] 0 0) (.ptr be 0 0) (.Uf sv) (.ptr b6 0 0) (.ptr b8 0 0) v L'):=by
    rintro be b8 b6 bs v K ⟨bc,bf,ot,o,tt,rfl,rfl,hot,ho,htt⟩;have u:t.toNat<s.threads.length:=by have:=av.1 a2;omega
    obtain⟨bt,rfl⟩:∃b,ot=some b:=by
     cases ot with
     |some b=>exact⟨b,rfl⟩
     |none=>exfalso;rw[hot rfl]at u;simp at u
    refine⟨qy s t e be b8 b6 bs bt bc bf o tt,?_,λhnd=>?_⟩
    .rw[if_pos u];exact SG
    .exact Ra c s t wake a2 a1 M sv e (bH (am c t) (ay s t).pc) (bQ a4) a4 be b8 b6 bs bt bc bf o tt hnd Q hval hsv (λh=>ho h u) (λh=>htt h u) Ua E.ra E.rb hoc hof λb74 hb=>
      Sj c s t wake a2 a1 M sv e _ be b8 b6 bs bt bc bf o tt hnd Q (λh=>ho h u) (λh=>htt h u) Ua E.ra th _ rfl O hth D b74 hb
   unfold aO co at fin;clear D O j hoc hof al E hT Y hgo hth Z;rw[hce,hse,een]at *;rw[show M.enc=[.lst (M.locks.map LockD.enc),.Uf M.tx,.lst (M.done.map aB),.lst (M.threads.map ThrD.enc)]from rfl]at *
   repeat' (first|refine st ?_|(refine pf 17 ?_;refine pm (hp) ?_)|(refine pf 43 ?_;refine pm (ha) ?_)|((with_reducible refine bb 44 ?_);(refine w6 hcp ?_;intro v K hK;exact fin _ _ _ _ _ _ hK))|refine sb λnb_ S=>?_|refine s2 (λh=>?_) λh=>?_|fail)
end
end
section
def AL(k:Nat):List ThrD:=(List.replicate k (⟨0,0,false⟩:ThrD)).set 0 ⟨1,0,false⟩
theorem ER(k:Nat):(AL k).length=k:=by simp[AL]
theorem It(k:Nat):AL (k+1)=AL k++[if k=0 then(⟨1,0,false⟩:ThrD)else⟨0,0,false⟩]:=by
 cases k with
 |zero=>rfl
 |succ k=>unfold AL;rw[List.replicate_succ' (n:=k+1),List.set_append_left _ _ Ud,if_neg Ua]
theorem zq{α:Type}(k:Nat)(x:α):List.replicate (k+1) x=List.replicate k x++[x]:=List.replicate_succ'
section
variable (w:aI) (b2 b3:Nat) (Q:R) (hq:∀v L,Fz L v (.agg (a7 w).enc)->Q v L)
def mF:List AV:=[.nils,.Uf 0,.nils,.nils]
include hq
theorem OQ(h3:w.threads.length<=100)(Y Z:AV)(K L:SH)(M:Fz K Y (.lst ((List.replicate w.locks.length (⟨-1,[]⟩:LockD)).map LockD.enc)))(N:Fz K Z (.lst ((List.replicate w.futures.length false).map aB)))(hL:L.Perm (K++[(b3,⟨4,[[Y,.Uf (-1),Z,.nils]]⟩),(b2,⟨4,[mF]⟩)])):
  W.loop (yT Q) [.pptr [w.enc] 0 0,.ptr b2 0 0,.ptr b3 0 0,.Uf (0:Nat)] L:=by
 refine bD w.threads.length (λk (o:Option Nat)=>([.pptr [w.enc] 0 0,.ptr b2 0 0,.ptr b3 0 0,.Uf k],(b3,⟨4,[[.lst ((List.replicate w.locks.length (⟨-1,[]⟩:LockD)).map LockD.enc),.Uf (-1),.lst ((List.replicate w.futures.length false).map aB),aj o k]]⟩)::(b2,⟨4,[mF]⟩)::ab o 3 ((AL k).map ThrD.enc))) (λk o=>o=none->k=0) none (λ_=>rfl) (az.box hL (.cons M (.cons (.refl _) (.cons N (.cons .nile .nil))))) ?_;intro k o hk ho;dsimp only;unfold mF;refine vw ?_;have B:((AL k).map ThrD.enc).length=k:=by simp[ER]
 have O:o=none->(AL k).map ThrD.enc=[]:=λe=>by rw[ho e];rfl
 rw[show w.enc=[.lst (w.cells.map aH.enc),.lst (w.locks.map bC.enc),.lst (w.conds.map bR.enc),.lst (w.futures.map au),.lst (w.threads.map au),.lst (w.sites.map bU.enc)]from rfl];rcases Fn k w.threads.length with D|D
 .have hd:=aW D;have E:=It k;clear hq;by_cases S:k=0
  .have d0:decide ((k:Int)=0)=true:=decide_eq_true Ua;rw[if_pos S]at E
   repeat' (first|refine st ?_|refine bF rp rp B O Uc Ud (by simp;omega) (by simp;omega) Uc (λj u=>?_)|refine sb λj u=>?_|refine s2 (λh=>?_) λh=>?_|fail)
   exact⟨k+1,some j,Ua,Ua,nofun,az.pickE (R:=[(b3,_),(b2,_),(j,_)]) rp (by rw[ax D Ua]) (by rw[E];simp[ab,aj,ThrD.enc,bq])⟩
  .have d0:decide ((k:Int)=0)=false:=decide_eq_false Ua;rw[if_neg S]at E
   repeat' (first|refine st ?_|refine bF rp rp B O Uc Ud (by simp;omega) (by simp;omega) Uc (λj u=>?_)|refine sb λj u=>?_|refine s2 (λh=>?_) λh=>?_|fail)
   exact⟨k+1,some j,Ua,Ua,nofun,az.pickE (R:=[(b3,_),(b2,_),(j,_)]) rp (by rw[ax D Ua]) (by rw[E];simp[ab,aj,ThrD.enc,bq])⟩
 .have hd:=aX D;have G:k=w.threads.length:=by omega
  have fin:∀L,(∀q∈ab o 3 ((AL k).map ThrD.enc),q∈L)->Q (.agg [.lst ((List.replicate w.locks.length (⟨-1,[]⟩:LockD)).map LockD.enc),.Uf (-1),.lst ((List.replicate w.futures.length false).map aB),aj o k]) L:=λL hm=>by
   refine hq _ _ (Fz.aggs (.cons (.refl _) (.cons (.refl _) (.cons (.refl _) (.cons ?_ .nil)))));subst G;cases o with
   |none=>rw[O rfl |> λh=>show(a7 w).threads.map ThrD.enc=[]from h];exact .emp
   |some b=>exact Fz.sls (l:=AL w.threads.length) (hm _ (.head _)) rfl Ue (by rw[ER])
  clear hq;cases o
  all_goals
   dsimp only[aj,ab]at *
   repeat' (first|refine st ?_|refine sb λj u=>?_|refine s2 (λh=>?_) λh=>?_|fail)
   exact fin _ Ud
theorem OR(h2:w.futures.length<=100)(h3:w.threads.length<=100)(N:AV)(K L:SH)(G:Fz K N (.lst ((List.replicate w.locks.length (⟨-1,[]⟩:LockD)).map LockD.enc)))(hL:L.Perm (K++[(b3,⟨4,[[N,.Uf (-1),.nils,.nils]]⟩),(b2,⟨4,[mF]⟩)])):
  W.loop (yU Q) [.pptr [w.enc] 0 0,.ptr b2 0 0,.ptr b3 0 0,.Uf (0:Nat)] L:=by
 refine bD w.futures.length (λk (o:Option Nat)=>([.pptr [w.enc] 0 0,.ptr b2 0 0,.ptr b3 0 0,.Uf k],(b3,⟨4,[[.lst ((List.replicate w.locks.length (⟨-1,[]⟩:LockD)).map LockD.enc),.Uf (-1),aj o k,.nils]]⟩)::(b2,⟨4,[mF]⟩)::ab o 1 ((List.replicate k false).map aB))) (λk o=>o=none->k=0) none (λ_=>rfl) (az.box hL (.cons G (.cons (.refl _) (.cons .nile (.cons (.refl _) .nil))))) ?_;intro k o hk Y;dsimp only;refine vw ?_;have B:((List.replicate k false).map aB).length=k:=by simp
 have M:o=none->(List.replicate k false).map aB=[]:=λe=>by rw[Y e];rfl
 rcases Fn k w.futures.length with D|D
 .have Z:=aW D;have S:=zq k false;clear hq;unfold mF;rw[show w.enc=[.lst (w.cells.map aH.enc),.lst (w.locks.map bC.enc),.lst (w.conds.map bR.enc),.lst (w.futures.map au),.lst (w.threads.map au),.lst (w.sites.map bU.enc)]from rfl]
  repeat' (first|refine st ?_|refine bF rp rp B M Uc Ud (by simp;omega) (by simp;omega) Uc (λj u=>?_)|refine sb λj u=>?_|refine s2 (λh=>?_) λh=>?_|fail)
  exact⟨k+1,some j,Ua,Ua,nofun,az.pickE (R:=[(b3,_),(b2,_),(j,_)]) rp (by rw[ax D Ua]) (by rw[S];simp[ab,aj,aB,bq])⟩
 .have Z:=aX D;have E:k=w.futures.length:=by omega
  subst E;have O:=OQ w b2 b3 Q hq h3 (.lst ((List.replicate w.locks.length (⟨-1,[]⟩:LockD)).map LockD.enc)) (aj o w.futures.length) (ab o 1 ((List.replicate w.futures.length false).map aB)) _ (.refl _) (by
   cases o with
   |none=>rw[M rfl];exact .emp
   |some b=>exact Fz.sls (l:=List.replicate w.futures.length false) (.head _) rfl Ue Ud) (SG (l₁:=[(b3,(⟨4,[[.lst ((List.replicate w.locks.length (⟨-1,[]⟩:LockD)).map LockD.enc),.int .i64 (-1),aj o w.futures.length,.nils]]⟩:Blk)),(b2,⟨4,[mF]⟩)]))
  clear hq
  repeat' (first|exact O|refine st ?_|refine sb λj u=>?_|refine s2 (λh=>?_) λh=>?_|fail)
theorem OS(h1:w.locks.length<=100)(h2:w.futures.length<=100)(h3:w.threads.length<=100)(L:SH)(hL:L.Perm [(b3,⟨4,[[.nils,.Uf (-1),.nils,.nils]]⟩),(b2,⟨4,[mF]⟩)]):
  W.loop (yV Q) [.pptr [w.enc] 0 0,.ptr b2 0 0,.ptr b3 0 0,.Uf (0:Nat)] L:=by
 refine bD w.locks.length (λk (o:Option Nat)=>([.pptr [w.enc] 0 0,.ptr b2 0 0,.ptr b3 0 0,.Uf k],(b3,⟨4,[[aj o k,.Uf (-1),.nils,.nils]]⟩)::(b2,⟨4,[mF]⟩)::ab o 2 ((List.replicate k (⟨-1,[]⟩:LockD)).map LockD.enc))) (λk o=>o=none->k=0) none (λ_=>rfl) (az.box (K:=[]) hL (.cons .nile (.cons (.refl _) (.cons (.refl _) (.cons (.refl _) .nil))))) ?_;intro k o hk Z;dsimp only;refine vw ?_;have u:((List.replicate k (⟨-1,[]⟩:LockD)).map LockD.enc).length=k:=by simp
 have S:o=none->(List.replicate k (⟨-1,[]⟩:LockD)).map LockD.enc=[]:=λe=>by rw[Z e];rfl
 rcases Fn k w.locks.length with M|M
 .have hd:=aW M;clear hq;unfold mF;rw[show w.enc=[.lst (w.cells.map aH.enc),.lst (w.locks.map bC.enc),.lst (w.conds.map bR.enc),.lst (w.futures.map au),.lst (w.threads.map au),.lst (w.sites.map bU.enc)]from rfl]
  repeat' (first|refine st ?_|refine bF rp rp u S Uc Ud (by simp;omega) (by simp;omega) Uc (λB D=>?_)|refine sb λB D=>?_|refine s2 (λh=>?_) λh=>?_|fail)
  refine⟨k+1,some B,Ua,Ua,nofun,?_⟩;refine az.rowA (A:=[(b3,_),(b2,_)]) (b:=B) (R:=[]) (rows':=(List.replicate (k+1) (⟨-1,[]⟩:LockD)).map LockD.enc) rp ?_ ?_ (by rw[ax M Ua]<;>rfl)
  .simp
  .intro j r r' G E;rw[zq,LT]at E;rcases Fn j k with O|O
   .rw[SE (by rw[u];exact O)]at G E;rw[G]at E;cases E;exact fU.refl _ _
   .rw[SA (by rw[u];exact O),u]at G E;generalize j-k=m at G E
    match m with
    |0=>cases G;cases E;exact .cons (.refl _) (.cons .nils .nil)
    |m+1=>simp at G
 .have hd:=aX M;have N:k=w.locks.length:=by omega
  subst N;have Y:=OR w b2 b3 Q hq h2 h3 (aj o w.locks.length) (ab o 2 ((List.replicate w.locks.length (⟨-1,[]⟩:LockD)).map LockD.enc)) _ (by
   cases o with
   |none=>rw[S rfl];exact .emp
   |some b=>exact Fz.sls (l:=List.replicate w.locks.length (⟨-1,[]⟩:LockD)) (.head _) rfl Ue Ud) (SG (l₁:=[(b3,(⟨4,[[aj o w.locks.length,.int .i64 (-1),.nils,.nils]]⟩:Blk)),(b2,⟨4,[mF]⟩)]))
  clear hq
  repeat' (first|exact Y|refine st ?_|refine sb λB D=>?_|refine s2 (λh=>?_) λh=>?_|fail)
end
theorem Iu(w:aI)(O:w.locks.length<=100)(h2:w.futures.length<=100)(N:w.threads.length<=100):aq Tryz.prog 37 [.agg w.enc] (.agg (a7 w).enc):=by
 refine ac.fz (yW _ _ _ ?_);refine vw ?_;generalize D:(λ(v:AV) (L:SH)=>∃j E,az [v] L [j] E/\j=AV.agg (a7 w).enc/\E=[])=Q;have hq:∀v L,Fz L v (.agg (a7 w).enc)->Q v L:=λv L h=>by subst D;exact⟨_,[],az.all h,rfl,rfl⟩
 clear D;have u:=λb2 b3 L M=>OS w b2 b3 Q hq O h2 N L M
 clear hq;unfold mF at u
 repeat' (first|refine st ?_|refine sb λG B=>?_|fail)
 exact u _ _ _ (.refl _)
end
section
section
variable (c:aZ) (b2 b3:Nat) (Q:R) (hq:∀v L,Fz L v (.agg (ca c).enc)->Q v L)
def mb(sy:SyncD)(x y z:AV):List AV:=[.lst (sy.locks.map LockD.enc),.Uf sy.tx,.lst (sy.done.map aB),.lst (sy.threads.map ThrD.enc),x,y,z]
include hq
theorem OT(h5:c.ts.length<=1000)(hr:∀t∈c.ts,0<=t.regs/\t.regs<=1000)(gc gf:AV)(K L:SH)(M:Fz K gc (.lst ((c.w.cells.map aH.init).map ah)))(G:Fz K gf (.lst ((List.replicate c.w.futures.length (0:Int)).map ah)))(hL:L.Perm (K++[(b3,⟨7,[mb (a7 c.w) gc gf .nils]⟩),(b2,⟨7,[aO]⟩)])):
  W.loop (yM Q) [.pptr [c.enc] 0 0,.ptr b2 0 0,.ptr b3 0 0,.Uf (0:Nat)] L:=by
 refine bD c.ts.length (λk (o:Option Nat)=>([.pptr [c.enc] 0 0,.ptr b2 0 0,.ptr b3 0 0,.Uf k],(b3,⟨7,[mb (a7 c.w) (.lst ((c.w.cells.map aH.init).map ah)) (.lst ((List.replicate c.w.futures.length (0:Int)).map ah)) (aj o k)]⟩)::(b2,⟨7,[aO]⟩)::ab o 4 (((c.ts.take k).map oq).map aC.enc))) (λk o=>o=none->k=0) none (λ_=>rfl) (az.box hL (by unfold mb;exact .cons (.refl _) (.cons (.refl _) (.cons (.refl _) (.cons (.refl _) (.cons M (.cons G (.cons .nile .nil)))))))) ?_;intro k o hk ho;dsimp only;refine vw ?_;have S:(((c.ts.take k).map oq).map aC.enc).length=k:=by simp;omega
 have h0:o=none->((c.ts.take k).map oq).map aC.enc=[]:=λe=>by rw[ho e];rfl
 have he:(ca c).enc=mb (a7 c.w) (.lst ((c.w.cells.map aH.init).map ah)) (.lst ((List.replicate c.w.futures.length (0:Int)).map ah)) (.lst ((c.ts.map oq).map aC.enc)):=by unfold ca cm.enc mb;rfl
 have fin:k=c.ts.length->∀L,(∀q∈ab o 4 (((c.ts.take k).map oq).map aC.enc),q∈L)->Q (.agg (mb (a7 c.w) (.lst ((c.w.cells.map aH.init).map ah)) (.lst ((List.replicate c.w.futures.length (0:Int)).map ah)) (aj o k))) L:=λhk0 L O=>by
  subst hk0;rw[SX (Fd _)]at O h0;refine hq _ _ ?_;rw[he];unfold mb;refine Fz.aggs (.cons (.refl _) (.cons (.refl _) (.cons (.refl _) (.cons (.refl _) (.cons (.refl _) (.cons (.refl _) (.cons ?_ .nil)))))));cases o with
  |none=>rw[h0 rfl];exact .emp
  |some b=>exact Fz.sls (O _ (.head _)) rfl Ue Ud
 clear hq he;generalize a7 c.w=sy at *;generalize(c.w.cells.map aH.init).map ah=gce at *;generalize(List.replicate c.w.futures.length (0:Int)).map ah=gfe at *;rw[show c.enc=[.lst (c.w.cells.map aH.enc),.lst (c.w.locks.map bC.enc),.lst (c.w.conds.map bR.enc),.lst (c.w.futures.map au),.lst (c.w.threads.map au),.lst (c.w.sites.map bU.enc),.lst (c.ts.map eb.enc)]from rfl];unfold mb aO at *;rcases Fn k c.ts.length with N|N
 .have hd:=aW N;have Y:=ao (f:=eb.enc) N;obtain⟨r1,r2⟩:=hr _ (Sy N);have Z:c.ts.take (k+1)=c.ts.take k++[c.ts[k]]:=Sw N;generalize hT:c.ts[k]=tk at *;obtain⟨m,O⟩:∃m:Nat,tk.regs=(m:Int):=⟨tk.regs.toNat,Ua⟩;have hke:tk.enc=[.Uf (m:Int),.lst (tk.ins.map aS.enc)]:=by rw[<-O];rfl
  have e:oq tk=⟨0,List.replicate m 0,List.replicate m [],0⟩:=by unfold oq;rw[O];rfl
  rw[hke]at Y;clear fin hL M G
  repeat' (first|refine st ?_|refine ft (i:=m) (j:=m) Ua Ua Ua (λu B=>?_)|refine bF rp rp S h0 Uc Ud (by simp;omega) (by simp;omega) Uc (λu B=>?_)|refine sb λu B=>?_|fail)
  refine⟨k+1,some u,Ua,Ua,nofun,?_⟩;refine az.rowA (A:=[(b3,_),(b2,_)]) (b:=u) (R:=[]) (rows':=((c.ts.take (k+1)).map oq).map aC.enc) rp ?_ ?_ (by rw[ax N Ua]<;>rfl)
  .simp;omega
  .intro j r r' E D;rw[Z,LT,LT]at D;rcases Fn j (((c.ts.take k).map oq).map aC.enc).length with hj|hj
   .rw[SE hj]at E D;rw[E]at D;cases D;exact fU.refl _ _
   .rw[SA hj]at E D;rcases hmm:j-(((c.ts.take k).map oq).map aC.enc).length with _|mm
    .rw[hmm]at E D;cases E;cases D;rw[e];refine .cons (.refl _) (.cons ?_ (.cons ?_ (.cons (.refl _) .nil)))
     .exact Fz.sls (l:=List.replicate m 0) (f:=ah) mm (by simp[ah]) Ue Ud
     .refine Fz.slm (l:=List.replicate m []) (f:=λ_=>[.nils]) (g:=bz) mm Ud Ue Ud (λy _=>rfl) (λy hy q a a2 E D=>?_);obtain rfl:=(List.mem_replicate.1 hy).2
      match q with
      |0=>cases E;cases D;exact .nils
    .rw[hmm]at E;simp at E
 .have hd:=aX N;have fin:=fin Ua;clear hL M G;cases o
  all_goals
   dsimp only[aj,ab]at *
   repeat' (first|refine st ?_|refine sb λu B=>?_|refine s2 (λh=>?_) λh=>?_|fail)
   exact fin _ Ud
theorem OU(h3:c.w.futures.length<=100)(h5:c.ts.length<=1000)(Z:∀t∈c.ts,0<=t.regs/\t.regs<=1000)(O:AV)(K L:SH)(B:Fz K O (.lst ((c.w.cells.map aH.init).map ah)))(M:L.Perm (K++[(b3,⟨7,[mb (a7 c.w) O .nils .nils]⟩),(b2,⟨7,[aO]⟩)])):
  W.loop (yN Q) [.pptr [c.enc] 0 0,.ptr b2 0 0,.ptr b3 0 0,.Uf (0:Nat)] L:=by
 refine bD c.w.futures.length (λk (o:Option Nat)=>([.pptr [c.enc] 0 0,.ptr b2 0 0,.ptr b3 0 0,.Uf k],(b3,⟨7,[mb (a7 c.w) (.lst ((c.w.cells.map aH.init).map ah)) (aj o k) .nils]⟩)::(b2,⟨7,[aO]⟩)::ab o 1 ((List.replicate k (0:Int)).map ah))) (λk o=>o=none->k=0) none (λ_=>rfl) (az.box M (by unfold mb;exact .cons (.refl _) (.cons (.refl _) (.cons (.refl _) (.cons (.refl _) (.cons B (.cons .nile (.cons (.refl _) .nil)))))))) ?_;intro k o hk ho;dsimp only;refine vw ?_;have D:((List.replicate k (0:Int)).map ah).length=k:=by simp
 have N:o=none->(List.replicate k (0:Int)).map ah=[]:=λe=>by rw[ho e];rfl
 rcases Fn k c.w.futures.length with E|E
 .have hd:=aW E;have Y:=zq k (0:Int);clear hq M B;generalize a7 c.w=sy at *;generalize(c.w.cells.map aH.init).map ah=gce at *;rw[show c.enc=[.lst (c.w.cells.map aH.enc),.lst (c.w.locks.map bC.enc),.lst (c.w.conds.map bR.enc),.lst (c.w.futures.map au),.lst (c.w.threads.map au),.lst (c.w.sites.map bU.enc),.lst (c.ts.map eb.enc)]from rfl]at *;unfold mb aO
  repeat' (first|refine st ?_|refine bF rp rp D N Uc Ud (by simp;omega) (by simp;omega) Uc (λj u=>?_)|refine sb λj u=>?_|refine s2 (λh=>?_) λh=>?_|fail)
  exact⟨k+1,some j,Ua,Ua,nofun,az.pickE (R:=[(b3,_),(b2,_),(j,_)]) rp (by rw[ax E Ua]) (by rw[Y];simp[ab,aj,ah,bq])⟩
 .have hd:=aX E;have G:k=c.w.futures.length:=by omega
  subst G;have S:=OT c b2 b3 Q hq h5 Z (.lst ((c.w.cells.map aH.init).map ah)) (aj o c.w.futures.length) (ab o 1 ((List.replicate c.w.futures.length (0:Int)).map ah)) _ (.refl _) (by
   cases o with
   |none=>rw[N rfl];exact .emp
   |some b=>exact Fz.sls (l:=List.replicate c.w.futures.length (0:Int)) (.head _) rfl Ue Ud) (SG (l₁:=[(b3,(⟨7,[mb (a7 c.w) (.lst ((c.w.cells.map aH.init).map ah)) (aj o c.w.futures.length) .nils]⟩:Blk)),(b2,⟨7,[aO]⟩)]))
  clear hq M B;rw[show c.enc=[.lst (c.w.cells.map aH.enc),.lst (c.w.locks.map bC.enc),.lst (c.w.conds.map bR.enc),.lst (c.w.futures.map au),.lst (c.w.threads.map au),.lst (c.w.sites.map bU.enc),.lst (c.ts.map eb.enc)]from rfl]at *
  repeat' (first|exact S|refine st ?_|refine sb λj u=>?_|refine s2 (λh=>?_) λh=>?_|fail)
theorem OV(h1:c.w.cells.length<=100)(h3:c.w.futures.length<=100)(h5:c.ts.length<=1000)(Z:∀t∈c.ts,0<=t.regs/\t.regs<=1000)(L:SH)(O:L.Perm [(b3,⟨7,[mb (a7 c.w) .nils .nils .nils]⟩),(b2,⟨7,[aO]⟩)]):
  W.loop (yO Q) [.pptr [c.enc] 0 0,.ptr b2 0 0,.ptr b3 0 0,.Uf (0:Nat)] L:=by
 refine bD c.w.cells.length (λk (o:Option Nat)=>([.pptr [c.enc] 0 0,.ptr b2 0 0,.ptr b3 0 0,.Uf k],(b3,⟨7,[mb (a7 c.w) (aj o k) .nils .nils]⟩)::(b2,⟨7,[aO]⟩)::ab o 1 (((c.w.cells.take k).map aH.init).map ah))) (λk o=>o=none->k=0) none (λ_=>rfl) (az.box (K:=[]) O (by unfold mb;exact .cons (.refl _) (.cons (.refl _) (.cons (.refl _) (.cons (.refl _) (.cons .nile (.cons (.refl _) (.cons (.refl _) .nil)))))))) ?_;intro k o hk ho;dsimp only;refine vw ?_;have D:(((c.w.cells.take k).map aH.init).map ah).length=k:=by simp;omega
 have S:o=none->((c.w.cells.take k).map aH.init).map ah=[]:=λe=>by rw[ho e];rfl
 rcases Fn k c.w.cells.length with B|B
 .have hd:=aW B;have E:=ao (f:=aH.enc) B;have G:c.w.cells.take (k+1)=c.w.cells.take k++[c.w.cells[k]]:=Sw B;generalize hT:c.w.cells[k]=ck at *;have N:ck.enc=[.str ck.name,.Uf ck.index,.Uf ck.size,.bool ck.vol,.Uf ck.init]:=rfl;rw[N]at E;clear hq O;generalize a7 c.w=sy at *;rw[show c.enc=[.lst (c.w.cells.map aH.enc),.lst (c.w.locks.map bC.enc),.lst (c.w.conds.map bR.enc),.lst (c.w.futures.map au),.lst (c.w.threads.map au),.lst (c.w.sites.map bU.enc),.lst (c.ts.map eb.enc)]from rfl]at *;unfold mb aO
  repeat' (first|refine st ?_|refine bF rp rp D S Uc Ud (by simp;omega) (by simp;omega) Uc (λj u=>?_)|refine sb λj u=>?_|refine s2 (λh=>?_) λh=>?_|fail)
  exact⟨k+1,some j,Ua,Ua,nofun,az.pickE (R:=[(b3,_),(b2,_),(j,_)]) rp (by rw[ax B Ua]) (by rw[G];simp[ab,aj,ah,bq])⟩
 .have hd:=aX B;have M:k=c.w.cells.length:=by omega
  subst M;rw[SX (Fd _)]at *;have Y:=OU c b2 b3 Q hq h3 h5 Z (aj o c.w.cells.length) (ab o 1 ((c.w.cells.map aH.init).map ah)) _ (by
   cases o with
   |none=>rw[S rfl];exact .emp
   |some b=>exact Fz.sls (.head _) rfl Ue Ud) (SG (l₁:=[(b3,(⟨7,[mb (a7 c.w) (aj o c.w.cells.length) .nils .nils]⟩:Blk)),(b2,⟨7,[aO]⟩)]))
  clear hq O;rw[show c.enc=[.lst (c.w.cells.map aH.enc),.lst (c.w.locks.map bC.enc),.lst (c.w.conds.map bR.enc),.lst (c.w.futures.map au),.lst (c.w.threads.map au),.lst (c.w.sites.map bU.enc),.lst (c.ts.map eb.enc)]from rfl]at *
  repeat' (first|exact Y|refine st ?_|refine sb λj u=>?_|refine s2 (λh=>?_) λh=>?_|fail)
end
theorem Iv(c:aZ)(O:aq Tryz.prog 29 [.agg c.enc] (.bool true))(h1:c.w.cells.length<=100)(h2:c.w.locks.length<=100)(G:c.w.futures.length<=100)(h4:c.w.threads.length<=100)(Z:c.ts.length<=1000)(S:∀t∈c.ts,0<=t.regs/\t.regs<=1000):aq Tryz.prog 15 [.agg c.enc] (.agg (ca c).enc):=by
 have j:=Iu c.w h2 G h4;refine ac.fz (ou _ _ _ ?_);refine vw ?_;generalize E:(λ(v:AV) (L:SH)=>∃u M,az [v] L [u] M/\u=AV.agg (ca c).enc/\M=[])=Q;have hq:∀v L,Fz L v (.agg (ca c).enc)->Q v L:=λv L h=>by subst E;exact⟨_,[],az.all h,rfl,rfl⟩
 clear E;have B:=λb2 b3 L Y=>OV c b2 b3 Q hq h1 G Z S L Y
 clear hq;rw[show c.w.enc=[.lst (c.w.cells.map aH.enc),.lst (c.w.locks.map bC.enc),.lst (c.w.conds.map bR.enc),.lst (c.w.futures.map au),.lst (c.w.threads.map au),.lst (c.w.sites.map bU.enc)]from rfl,show(a7 c.w).enc=[.lst ((a7 c.w).locks.map LockD.enc),.Uf (a7 c.w).tx,.lst ((a7 c.w).done.map aB),.lst ((a7 c.w).threads.map ThrD.enc)]from rfl]at j;generalize a7 c.w=sy at *;unfold mb aO at B;rw[show c.enc=[.lst (c.w.cells.map aH.enc),.lst (c.w.locks.map bC.enc),.lst (c.w.conds.map bR.enc),.lst (c.w.futures.map au),.lst (c.w.threads.map au),.lst (c.w.sites.map bU.enc),.lst (c.ts.map eb.enc)]from rfl]at *
 repeat' (first|refine st ?_|(refine pf 29 ?_;refine pm (O) ?_)|(refine pf 37 ?_;refine pm (j) ?_)|refine sb λN D=>?_|fail)
 exact B _ _ _ (.refl _)
theorem Iw(c:aZ)(M:aq Tryz.prog 29 [.agg c.enc] (.bool false)):aq Tryz.prog 15 [.agg c.enc] (.agg cm.zero.enc):=by
 refine ac.fz (ou _ _ _ ?_);refine vw ?_;generalize B:(λ(v:AV) (L:SH)=>∃j D,az [v] L [j] D/\j=AV.agg cm.zero.enc/\D=[])=Q;have G:∀L,Q (.agg [.nils,.Uf 0,.nils,.nils,.nils,.nils,.nils]) L:=λL=>by subst B;exact⟨_,[],az.all (Fz.aggs (by unfold cm.zero cm.enc G2;exact fl)),rfl,rfl⟩
 clear B;rw[show c.enc=[.lst (c.w.cells.map aH.enc),.lst (c.w.locks.map bC.enc),.lst (c.w.conds.map bR.enc),.lst (c.w.futures.map au),.lst (c.w.threads.map au),.lst (c.w.sites.map bU.enc),.lst (c.ts.map eb.enc)]from rfl]at *
 repeat' (first|refine st ?_|(refine pf 29 ?_;refine pm (M) ?_)|refine sb λE u=>?_|refine s2 (λh=>?_) λh=>?_|fail)
 exact G _
end
section
section
variable (c:aZ) (s:cm) (t:Int) (b:Bool) (hv:aq Tryz.prog 26 [.agg c.enc] (.bool b))
include hv
theorem ES(hp:b=true->aq Tryz.prog 38 [.agg c.enc,.agg s.enc,.Uf t] (eD (bL c s t))):aq Tryz.prog 16 [.agg c.enc,.agg s.enc,.Uf t] (eD (if b then bL c s t else none)):=by
 refine ac.fz (yE _ _ _ _ _ ?_);refine vw ?_;generalize N:(λ(v:AV) (L:SH)=>∃M O,az [v] L [M] O/\M=eD (if b then bL c s t else none)/\O=[])=Q;have B:∀v L,Fz L v (eD (if b then bL c s t else none))->Q v L:=λv L h=>by subst N;exact⟨_,[],az.all h,rfl,rfl⟩
 clear N;have D:c.enc=[.lst (c.w.cells.map aH.enc),.lst (c.w.locks.map bC.enc),.lst (c.w.conds.map bR.enc),.lst (c.w.futures.map au),.lst (c.w.threads.map au),.lst (c.w.sites.map bU.enc),.lst (c.ts.map eb.enc)]:=rfl;have u:s.enc=[.lst (s.sync.locks.map LockD.enc),.Uf s.sync.tx,.lst (s.sync.done.map aB),.lst (s.sync.threads.map ThrD.enc),.lst (s.cells.map ah),.lst (s.futures.map ah),.lst (s.threads.map aC.enc)]:=rfl;cases b with
 |false=>
  have G:∀L,Q (.tup [.agg [.Uf 0,.Uf 0,.Uf 0,.Uf 0,.Uf 0,.nils,.nils],.bool false]) L:=λL=>B _ L (Fz.tups (.cons (Fz.aggs (m:=da.zero.enc) (by exact fl)) (.cons (.refl _) .nil)))
  clear hp B;rw[D,u]at *
  repeat' (first|refine st ?_|(refine pf 26 ?_;refine pm (hv) ?_)|refine sb λE j=>?_|refine s2 (λh=>?_) λh=>?_|fail)
  exact G _
 |true=>
  have hp:=hp rfl;simp only[if_true]at B;generalize bL c s t=r at *;cases r with
  |none=>
   have G:∀L,Q (eD none) L:=λL=>B _ L (.refl _)
   clear B;unfold eD da.zero da.enc at *;dsimp only at *;rw[D,u]at *
   repeat' (first|refine st ?_|(refine pf 26 ?_;refine pm (hv) ?_)|(refine pf 38 ?_;refine pm (hp) ?_)|refine sb λE j=>?_|refine s2 (λh=>?_) λh=>?_|fail)
   exact G _
  |some e=>
   have G:∀L,Q (eD (some e)) L:=λL=>B _ L (.refl _)
   clear B;unfold eD da.enc at *;dsimp only at *;rw[D,u]at *
   repeat' (first|refine st ?_|(refine pf 26 ?_;refine pm (hv) ?_)|(refine pf 38 ?_;refine pm (hp) ?_)|refine sb λE j=>?_|refine s2 (λh=>?_) λh=>?_|fail)
   exact G _
end
def Lm(c:aZ)(s:cm)(t:Int):Option da->Bool
 |some e=>aE c.w s.sync t e.kind e.obj
 |none=>false
theorem ET(c:aZ)(s:cm)(t:Int)(r:Option da)(hp:aq Tryz.prog 16 [.agg c.enc,.agg s.enc,.Uf t] (eD r))(B:r≠none->c.w.conds.length<2^62/\∀l∈s.sync.locks,l.readers.length<2^40):
  aq Tryz.prog 21 [.agg c.enc,.agg s.enc,.Uf t] (.bool (Lm c s t r)):=by
 refine ac.fz (yF _ _ _ _ _ ?_);refine vw ?_;generalize Y:(λ(v:AV) (L:SH)=>∃O Z,az [v] L [O] Z/\O=AV.bool (Lm c s t r)/\Z=[])=Q;have E:∀L,Q (.bool (Lm c s t r)) L:=λL=>by subst Y;exact⟨_,[],az.all (.refl _),rfl,rfl⟩
 clear Y;have D:c.enc=[.lst (c.w.cells.map aH.enc),.lst (c.w.locks.map bC.enc),.lst (c.w.conds.map bR.enc),.lst (c.w.futures.map au),.lst (c.w.threads.map au),.lst (c.w.sites.map bU.enc),.lst (c.ts.map eb.enc)]:=rfl;have j:s.enc=[.lst (s.sync.locks.map LockD.enc),.Uf s.sync.tx,.lst (s.sync.done.map aB),.lst (s.sync.threads.map ThrD.enc),.lst (s.cells.map ah),.lst (s.futures.map ah),.lst (s.threads.map aC.enc)]:=rfl;cases r with
 |none=>
  unfold Lm at E;unfold eD da.zero da.enc at hp;dsimp only at *;rw[D,j]at *
  repeat' (first|refine st ?_|(refine pf 16 ?_;refine pm (hp) ?_)|refine sb λG u=>?_|refine s2 (λh=>?_) λh=>?_|fail)
  exact E _
 |some e=>
  have S:=yi c.w s.sync t e.kind e.obj (B nofun).1 (B nofun).2;unfold Lm at E;have N:c.w.enc=[.lst (c.w.cells.map aH.enc),.lst (c.w.locks.map bC.enc),.lst (c.w.conds.map bR.enc),.lst (c.w.futures.map au),.lst (c.w.threads.map au),.lst (c.w.sites.map bU.enc)]:=rfl;have M:s.sync.enc=[.lst (s.sync.locks.map LockD.enc),.Uf s.sync.tx,.lst (s.sync.done.map aB),.lst (s.sync.threads.map ThrD.enc)]:=rfl;rw[N,M]at S;unfold eD da.enc at hp;dsimp only at *;rw[D,j]at *
  repeat' (first|refine st ?_|(refine pf 16 ?_;refine pm (hp) ?_)|(refine pf 47 ?_;refine pm (S) ?_)|refine sb λG u=>?_|refine s2 (λh=>?_) λh=>?_|fail)
  exact E _
theorem KP(c:aZ)(s:cm)(t wake:Int)(b:Bool)(hv:aq Tryz.prog 26 [.agg c.enc] (.bool b))(hp:b=true->aq Tryz.prog 42 [.agg c.enc,.agg s.enc,.agg [.Uf t,.Uf wake]] (iK none)):
  aq Tryz.prog 18 [.agg c.enc,.agg s.enc,.agg [.Uf t,.Uf wake]] (iK none):=by
 refine ac.fz (vu _ _ _ _ _ ?_);refine vw ?_;generalize O:(λ(v:AV) (L:SH)=>∃N S,az [v] L [N] S/\N=iK none/\S=[])=Q;have D:∀v L,Fz L v (iK none)->Q v L:=λv L h=>by subst O;exact⟨_,[],az.all h,rfl,rfl⟩
 clear O;have B:c.enc=[.lst (c.w.cells.map aH.enc),.lst (c.w.locks.map bC.enc),.lst (c.w.conds.map bR.enc),.lst (c.w.futures.map au),.lst (c.w.threads.map au),.lst (c.w.sites.map bU.enc),.lst (c.ts.map eb.enc)]:=rfl;have j:s.enc=[.lst (s.sync.locks.map LockD.enc),.Uf s.sync.tx,.lst (s.sync.done.map aB),.lst (s.sync.threads.map ThrD.enc),.lst (s.cells.map ah),.lst (s.futures.map ah),.lst (s.threads.map aC.enc)]:=rfl;cases b with
 |false=>
  have G:∀L,Q (.tup [.agg [.nils,.Uf 0,.nils,.nils,.nils,.nils,.nils],.agg [.Uf 0,.Uf 0,.Uf 0,.Uf 0,.Uf 0,.nils,.nils],.bool false]) L:=λL=>D _ L (Fz.tups (.cons (Fz.aggs (m:=cm.zero.enc) (by exact fl)) (.cons (Fz.aggs (m:=da.zero.enc) (by exact fl)) (.cons (.refl _) .nil))))
  clear hp D;rw[B,j]at *
  repeat' (first|refine st ?_|(refine pf 26 ?_;refine pm (hv) ?_)|refine sb λE u=>?_|refine s2 (λh=>?_) λh=>?_|fail)
  exact G _
 |true=>
  have hp:=hp rfl;have G:∀L,Q (iK none) L:=λL=>D _ L (.refl _)
  clear D;have M:iK none=.tup [.agg [.lst [],.Uf 0,.lst [],.lst [],.lst [],.lst [],.lst []],.agg [.Uf 0,.Uf 0,.Uf 0,.Uf 0,.Uf 0,.lst [],.lst []],.bool false]:=rfl;rw[M]at *;rw[B,j]at *
  repeat' (first|refine st ?_|(refine pf 26 ?_;refine pm (hv) ?_)|(refine pf 42 ?_;refine pm (hp) ?_)|refine sb λE u=>?_|refine s2 (λh=>?_) λh=>?_|fail)
  exact G _
end
def BH(c:aZ)(s:cm)(b:Bool)(O:aq Tryz.prog 26 [.agg c.enc] (.bool b))(B:b=true->aq Tryz.prog 36 [.agg c.enc] (.agg s.enc))(S:b=false->s=cm.zero):aq Tryz.prog 14 [.agg c.enc] (.agg s.enc):=by
 refine ac.fz (Cx _ _ _ ?_);refine vw ?_;generalize Y:(λ(v:AV) (L:SH)=>∃N Z,az [v] L [N] Z/\N=.agg s.enc/\Z=[])=Q;have D:∀v L,Fz L v (.agg s.enc)->Q v L:=λv L h=>by subst Y;exact⟨_,[],az.all h,rfl,rfl⟩
 clear Y;have u:c.enc=[.lst (c.w.cells.map aH.enc),.lst (c.w.locks.map bC.enc),.lst (c.w.conds.map bR.enc),.lst (c.w.futures.map au),.lst (c.w.threads.map au),.lst (c.w.sites.map bU.enc),.lst (c.ts.map eb.enc)]:=rfl;cases b with
 |false=>
  have G:∀L,Q (.agg [.nils,.Uf 0,.nils,.nils,.nils,.nils,.nils]) L:=λL=>D _ L (by rw[S rfl];exact Fz.aggs (m:=cm.zero.enc) (by exact fl))
  clear B D;rw[u]at *
  repeat' (first|refine st ?_|(refine pf 26 ?_;refine pm (O) ?_)|refine sb λE j=>?_|refine s2 (λh=>?_) λh=>?_|fail)
  exact G _
 |true=>
  have B:=B rfl;have M:s.enc=[.lst (s.sync.locks.map LockD.enc),.Uf s.sync.tx,.lst (s.sync.done.map aB),.lst (s.sync.threads.map ThrD.enc),.lst (s.cells.map ah),.lst (s.futures.map ah),.lst (s.threads.map aC.enc)]:=rfl;have G:∀L,Q (.agg s.enc) L:=λL=>D _ L (.refl _)
  clear D S;rw[u,M]at *
  repeat' (first|refine st ?_|(refine pf 26 ?_;refine pm (O) ?_)|(refine pf 36 ?_;refine pm (B) ?_)|refine sb λE j=>?_|refine s2 (λh=>?_) λh=>?_|fail)
  exact G _
def Hj(c:aZ)(s:cm)(t wake:Int)(b:Bool)(q:Option (cm×da))(E:aq Tryz.prog 26 [.agg c.enc] (.bool b))(hp:b=true->aq Tryz.prog 42 [.agg c.enc,.agg s.enc,.agg [.Uf t,.Uf wake]] (iK q))(Y:b=false->q=none):
  aq Tryz.prog 18 [.agg c.enc,.agg s.enc,.agg [.Uf t,.Uf wake]] (iK q):=by
 rcases q with _|⟨s2,e2⟩
 .exact KP c s t wake b E hp
 .obtain rfl:b=true:=by
   cases b with
   |true=>rfl
   |false=>cases Y rfl
  have hp:=hp rfl;refine ac.fz (vu _ _ _ _ _ ?_);refine vw ?_;generalize M:(λ(v:AV) (L:SH)=>∃D N,az [v] L [D] N/\D=iK (some (s2,e2))/\N=[])=Q;have S:∀L,Q (iK (some (s2,e2))) L:=λL=>by subst M;exact⟨_,[],az.all (.refl _),rfl,rfl⟩
  clear M;have B:c.enc=[.lst (c.w.cells.map aH.enc),.lst (c.w.locks.map bC.enc),.lst (c.w.conds.map bR.enc),.lst (c.w.futures.map au),.lst (c.w.threads.map au),.lst (c.w.sites.map bU.enc),.lst (c.ts.map eb.enc)]:=rfl;have j:∀s:cm,s.enc=[.lst (s.sync.locks.map LockD.enc),.Uf s.sync.tx,.lst (s.sync.done.map aB),.lst (s.sync.threads.map ThrD.enc),.lst (s.cells.map ah),.lst (s.futures.map ah),.lst (s.threads.map aC.enc)]:=λ_=>rfl
  have u:iK (some (s2,e2))=.tup [.agg [.lst (s2.sync.locks.map LockD.enc),.Uf s2.sync.tx,.lst (s2.sync.done.map aB),.lst (s2.sync.threads.map ThrD.enc),.lst (s2.cells.map ah),.lst (s2.futures.map ah),.lst (s2.threads.map aC.enc)],.agg [.Uf e2.thread,.Uf e2.kind,.Uf e2.obj,.Uf e2.value,.Uf e2.site,.lst (e2.deps.map ah),.lst (e2.frm.map ah)],.bool true]:=rfl;rw[u]at *;rw[B,j s]at *
  repeat' (first|refine st ?_|(refine pf 26 ?_;refine pm (E) ?_)|(refine pf 42 ?_;refine pm (hp) ?_)|refine sb λO G=>?_|refine s2 (λh=>?_) λh=>?_|fail)
  exact S _
def IS(c:aZ)(k:Nat)(s:cm):Prop:=(gx (lZ c)=false/\s=cm.zero)\/(gx (lZ c)=true/\zo c s/\CR c s/\∃n≤k,wF c n s)
def IS.inv{c:aZ}{k:Nat}{s:cm}(h:IS c k s):∃n≤k,wF c n s:=by
 rcases h with⟨_,rfl⟩|⟨_,_,_,h⟩
 .exact⟨0,SL _,⟨nofun,SL _,SL _,nofun,SL _,SL _,SL _,SL _⟩⟩
 .exact h
def IS.up{c:aZ}{k:Nat}{s:cm}(h:IS c k s):IS c (k+1) s:=by
 rcases h with h|⟨a,b,d,n,j,h⟩
 .exact .inl h
 .exact .inr ⟨a,b,d,n,Ua,h⟩
def Mp{c:aZ}{s:cm}{t:Int}(D:lZ c)(B:∀t∈c.ts,t.ins.length<2^40)(H:zo c s)(R:CR c s)(wake:Int)(h:Lm c s t (bL c s t)=true):∃p,gy c s t wake=some p:=by
 cases hp:bL c s t with
 |none=>rw[hp]at h;cases h
 |some e=>
  rw[hp]at h;have u:aE c.w s.sync t e.kind e.obj=true:=h;rw[jQ,hp];dsimp only;rw[if_pos ⟨R.nc,R.nf⟩,show(dE c.w s.sync t e.kind e.obj wake).2.2=true by unfold dE;rw[u];rfl];unfold kh;by_cases j:e.kind≠16/\e.kind≠2
  .rw[if_pos j,settles D B H R hp u j];exact⟨_,rfl⟩
  .rw[if_neg j];exact⟨_,rfl⟩
def Mq{c:aZ}{s:cm}{t:Int}(wake:Int)(h:Lm c s t (bL c s t)=false):gy c s t wake=none:=by
 unfold gy;generalize bL c s t=r at *;cases r with
 |none=>rfl
 |some e=>
  dsimp only[Lm]at h;dsimp only;split
  .rw[show(dE c.w s.sync t e.kind e.obj wake).2.2=false by unfold dE;rw[h];rfl];rfl
  .rfl
def Ix{c:aZ}{s s2:cm}{e:da}{n:Nat}{t wake:Int}(H:wF c n s)(h:gy c s t wake=some (s2,e)):No e:=by
 rw[jQ]at h;cases hp:bL c s t with
 |none=>rw[hp]at h;cases h
 |some j=>
  have g:=yL H hp;rw[hp]at h;unfold kh at h;dsimp only at h
  repeat' split at h
  all_goals first
   |(cases h;exact g)
   |cases h
def EU(c:aZ)(j:∀t∈c.ts,t.ins.length<2^40)(s:cm)(k:Nat)(hk:k<100)(G:IS c k s)(t wake:Int):∃(e1:da) (N:Bool) (s2:cm) (e2:da) (b2:Bool),
  aq Tryz.prog 16 [.agg c.enc,.agg s.enc,.Uf t] (.tup [.agg e1.enc,.bool N])/\
  aq Tryz.prog 17 [.agg c.enc,.agg s.enc,.Uf t] (.tup [.agg e1.enc,.bool N])/\
  aq Tryz.prog 18 [.agg c.enc,.agg s.enc,.agg [.Uf t,.Uf wake]] (.tup [.agg s2.enc,.agg e2.enc,.bool b2])/\
  aq Tryz.prog 19 [.agg c.enc,.agg s.enc,.agg [.Uf t,.Uf wake]] (.tup [.agg s2.enc,.agg e2.enc,.bool b2])/\
  aq Tryz.prog 21 [.agg c.enc,.agg s.enc,.Uf t] (.bool b2)/\
  aq Tryz.prog 20 [.agg e1.enc,.agg e1.enc] (.bool true)/\
  aq Tryz.prog 20 [.agg e2.enc,.agg e2.enc] (.bool true)/\
  aq Tryz.prog 12 [.agg s2.enc,.agg s2.enc] (.bool true)/\(b2=true->IS c (k+1) s2):=by
 have O:=Ei c λt ht=>by have:=j t ht;omega
 have B:=BB c λt ht=>by have:=j t ht;omega
 have D:No da.zero:=⟨SL _,SL _⟩;have Y:aq Tryz.prog 12 [.agg cm.zero.enc,.agg cm.zero.enc] (.bool true):=zc c 0 Ua _ ⟨nofun,SL _,SL _,nofun,SL _,SL _,SL _,SL _⟩;rcases G with⟨hb,hs⟩|⟨hb,H,R,n,hn,I⟩
 .rw[hb]at O B;have E:=ES c s t false O nofun;exact⟨da.zero,false,cm.zero,da.zero,false,E,vF c s t B,Hj c s t wake false none O nofun λ_=>rfl,KK c s t wake B,ET c s t none E (λh=>absurd rfl h),iN _ D,iN _ D,Y,nofun⟩
 .have M:=fH.1 hb;rw[hb]at O B;have u:=Er M j;have Z:∀x∈s.threads,∀r,(x.tnt r).length*8<=140737488355328:=λx hx r=>by
   have:=(I.thr x hx).1.short;unfold aC.tnt;rcases Fn r.toNat x.taint.length with g|g
   .have:=this _ (Sy g);simp[g];omega
   .simp[g]
  have E:aq Tryz.prog 16 [.agg c.enc,.agg s.enc,.Uf t] (eD (bL c s t)):=ES c s t true O λ_=>G9 c s t u.ins Z
  have p9:=vL c s t B (R.fit9 H) (by have:=u.con;omega) (by have:=M.len;have:=M.world.t4;omega) u.ins Z;have q1:=Hj c s t wake true (gy c s t wake) O (λ_=>Mf U9 c s t wake (Ep Ua I u.ins j u.con)) nofun;have q9:=KO c s t wake n Ua M j B H R I;have en:=ET c s t (bL c s t) E λ_=>⟨by have:=u.con;omega,λl hl=>by have:=I.rd l hl;omega⟩
  have se1:∀e,bL c s t=some e->No e:=λe he=>yL I he
  have hen:Lm c s t (bL c s t)=(gy c s t wake).isSome:=by
   cases h:Lm c s t (bL c s t)with
   |true=>obtain⟨p,hp⟩:=Mp M j H R wake h;rw[hp];rfl
   |false=>rw[Mq wake h];rfl
  rw[hen]at en;have hpe:∃(e1:da) (N:Bool),eD (bL c s t)=.tup [.agg e1.enc,.bool N]/\No e1:=by
   cases h:bL c s t with
   |none=>exact⟨_,_,rfl,D⟩
   |some e=>exact⟨_,_,rfl,se1 e h⟩
  obtain⟨e1,N,he1,hs1⟩:=hpe;rw[he1]at E p9;cases S:gy c s t wake with
  |none=>rw[S]at q1 q9 en;exact⟨e1,N,cm.zero,da.zero,false,E,p9,q1,q9,en,iN _ hs1,iN _ D,Y,nofun⟩
  |some p=>obtain⟨s2,e2⟩:=p;rw[S]at q1 q9 en;have I2:=Kl Ua I u.ins S;exact⟨e1,N,s2,e2,true,E,p9,q1,q9,en,iN _ hs1,iN _ (Ix I S),zc c _ Ua _ I2,λ_=>.inr ⟨hb,EN M H S,KJ M H R S I2,_,Ua,I2⟩⟩
def gP:RF:=nv (bO Tryz.prog Tryz.f4 [(18,⟨[1,5,6,7,8],[],true,[]⟩)] [(3,[5]),(8,[9]),(9,[11]),(10,[13,14]),(11,[16,17])])
abbrev ta(Q:R):Vs->SH->Kn->Prop:=Lp gP 19 Q 18 []
abbrev uL(a b:AV)(L:SH)(Q:R):Prop:=Pc gP 20 Q 0 [] [a,b] L
def td(j t1:AV)(L:SH)(Q:R)(h:uL j t1 L Q):ac Tryz.prog 4 [j,t1] L Q:=
 fv gP Tryz.func4 h
def ac.pure{P:Program}{f:FuncId}{args:List AV}{Q:AV->SH->Prop}(h:ac P f args [] Q)(ha:∀a∈args,bA a)(S:∀u K,Q u K->bA u):∃v K,Q v K/\aq P f args v:=by
 obtain⟨v,H',L',h1,h2,D⟩:=h.2 ae.empty (λb _=>c8 b) ⟨List.nodup_nil,nofun⟩;have hV:GE P f args v:=λw E G hW B=>(h1 w E G hW B).mono λe w' ⟨M,j,he,O,k2,N,k4⟩=>⟨M,j,H',he,O,N⟩
 exact⟨v,L',D,h.1,λH hb Y=>⟨v,H,[],PI (S _ _ D) (λi a Z=>ha a (S8 Z)) hV H,.refl hb Y,rfl,rfl⟩⟩
def bA.lsts{rows:List (List AV)}(h:∀r∈rows,∀a∈r,bA a):bA (.lst rows):=.lst rows λi r j a B u=>h r (S8 B) a (S8 u)
def bA.lmap{α:Type}{f:α->List AV}{l:List α}(h:∀x∈l,∀a∈f x,bA a):bA (.lst (l.map f)):=.lsts λr u=>by obtain⟨x,j,rfl⟩:=Tl.1 u;exact h x j
def bA.aggs{cs:List AV}(h:∀a∈cs,bA a):bA (.agg cs):=.agg cs λi a j=>h a (S8 j)
def bA.tups{cs:List AV}(h:∀a∈cs,bA a):bA (.tup cs):=.tup cs λi a j=>h a (S8 j)
def lu(s:bu):∀a∈au s,bA a:=λa h=>by rw[Sz.1 h];exact .str _
mutual
def aw.pure:∀x:aw,∀a∈x.enc,bA a
 | .mk op n name l=>by have:=aw.pures l;simp only[aw.enc,Tb,Th,false_implies,implies_true,and_true];exact⟨.int _ _,.int _ _,.str _,.lsts this⟩
def aw.pures:∀l:List aw,∀r∈aw.encs l,∀a∈r,bA a
 |[]=>nofun
 | x::l=>by simp only[aw.encs,Tb];exact⟨aw.pure x,aw.pures l⟩
end
mutual
def aa.pure:∀x:aa,∀a∈x.enc,bA a
 | .mk op line name arg index e body els=>by
  have u:=aa.pures body;have j:=aa.pures els
  simp only[aa.enc,Tb,Th,false_implies,implies_true,and_true];exact⟨.int _ _,.int _ _,.str _,.str _,.lmap λx _=>x.pure,.int _ _,.int _ _,.str _,.lmap λx _=>x.pure,.lsts u,.lsts j⟩
def aa.pures:∀l:List aa,∀r∈aa.encs l,∀a∈r,bA a
 |[]=>nofun
 | x::l=>by simp only[aa.encs,Tb];exact⟨aa.pure x,aa.pures l⟩
end
def aM.pure(d:aM):∀a∈d.enc,bA a:=by simp only[aM.enc,Tb,Th,false_implies,implies_true,and_true];exact⟨.int _ _,.int _ _,.str _,.int _ _,.int _ _,.str _⟩
def ai.pure(d:ai):∀a∈d.enc,bA a:=by simp only[ai.enc,Tb,Th,false_implies,implies_true,and_true];exact⟨.str _,.int _ _,.lmap λx _=>lu x,.lmap λx _=>x.pure⟩
def bT.pure(p:bT):bA (.agg p.enc):=.aggs (by
 simp only[bT.enc,Tb,Th,false_implies,implies_true,and_true];exact⟨.lmap λx _=>x.pure,.lmap λx _=>x.pure⟩)
def KQ(e j:Int):bA (.tup [.Uf e,.Uf j]):=.tups (by
 simp only[Tb,Th,false_implies,implies_true,and_true];exact⟨.int _ _,.int _ _⟩)
def aM.wt_pos(d:aM):1<=d.wt:=by unfold aM.wt;omega
def ai.wt_pos(d:ai):1<=d.wt:=by unfold ai.wt;omega
def ai.local_len(t:ai){i:Nat}(h:i<t.locals.length):t.locals[i].length<t.wt:=by have:=w8 (f:=List.length) t.locals i h;unfold ai.wt;omega
def bT.decl_wt(p:bT){i:Nat}(h:i<p.decls.length):p.decls[i].wt<=p.wt:=by have:=w8 (f:=aM.wt) p.decls i h;unfold bT.wt;omega
def bT.thread_wt(p:bT){i:Nat}(h:i<p.threads.length):p.threads[i].wt<=p.wt:=by have:=w8 (f:=ai.wt) p.threads i h;unfold bT.wt;omega
def bT.decls_len(p:bT):p.decls.length<=p.wt:=by have:=Cf aM.wt_pos p.decls;unfold bT.wt;omega
def bT.threads_len(p:bT):p.threads.length<=p.wt:=by have:=Cf ai.wt_pos p.threads;unfold bT.wt;omega
def ru{α:Type}{p:α->Bool}:∀(l:List α) (j:Nat),(jv p l j=-1/\l.find? p=none)\/∃(k:Nat) (h:k<l.length),jv p l j=(j+k:Nat)/\l.find? p=some l[k]
 |[],_=>.inl ⟨rfl,rfl⟩
 | x::l,j=>by
  by_cases h:p x=true
  .exact .inr ⟨0,Ud,by simp[jv,h],by simp[h]⟩
  .rcases ru (p:=p) l (j+1)with⟨h1,h2⟩|⟨k,h1,h2,h3⟩
   .exact .inl ⟨by simp[jv,h,h1],by simp[h,h2]⟩
   .refine .inr ⟨k+1,by simpa using h1,?_,by simpa[h]using h3⟩;simp only[jv,h,SO,if_false,h2];congr 1;omega
def gq{α:Type}{f:α->List AV}{l:List α}{n i:Nat}{k:IntKind}{L:SH}{K:AV->Prop}(h:K (.lst ((l.take i).map f)))(B:i<=l.length:=by omega)(u:∀x,(f x).length=n:=by intro x;rfl):W.slice n (.lst (l.map f)) none (some (.int k (i:Int))) none L K:=by
 refine oS (l:=0) (h:=i) rfl ?_ (SL _) (by simpa using B) (λr j=>?_) ?_
 .simp[cC,ky]
 .cases l with
  |nil=>cases j
  |cons x l=>simp at j;rw[<-j];exact u x
 .simpa[List.map_take]using h
def Gc{k:IntKind}{a b:Int}{K:AV->Prop}(h:K (.int k (if b > a then b else a))):W.mnx true (.int k a) (.int k b) K:=by rw[MT];exact h
def KR{k:IntKind}{s:Int}{K:AV->Prop}(h:K (.int k (((max s 1).toNat:Nat):Int))):W.mnx true (.int k s) (.int k 1) K:=by
 rw[MT];have:(if(1:Int) > s then(1:Int)else s)=(((max s 1).toNat:Nat):Int):=by split<;>omega
 rw[this];exact h
structure mc where
 t:Nat
 o1:Option Nat
 ar:List aa
 k:Nat
 o2:Option Nat
 sp:List bu
 o3:Option Nat
 se:List bu
def mc.row(p:bT)(s:mc):List AV:=[.lst (p.decls.map aM.enc),.lst (p.threads.map ai.enc),.Uf s.t,aj s.o1 s.k,aj s.o2 s.sp.length,aj s.o3 s.se.length]
def mc.L(p:bT)(bw:Nat)(s:mc):SH:=(bw,⟨6,[s.row p]⟩)::(ab s.o1 11 (s.ar.map aa.enc)++(ab s.o2 1 (s.sp.map au)++ab s.o3 1 (s.se.map au)))
structure mc.Ok(s:mc)(m:Nat):Prop where
 a0:s.o1=none->s.ar=[]
 ak:s.k<=s.ar.length
 k6:s.k<=6
 p0:s.o2=none->s.sp=[]
 e0:s.o3=none->s.se=[]
 pm:s.sp.length<=m
 em:s.se.length<=m
def ac.permR{P:Program}{f:FuncId}{args:List AV}{L:SH}{Q:AV->SH->Prop}(h:ac P f args L λv j=>∃L'',j.Perm L''/\Q v L''):ac P f args L Q:=⟨h.1,λH B u=>by
 obtain⟨v,M,j,G,E,L'',hp,D⟩:=h.2 H B u;exact⟨v,M,L'',G,E.permS hp,D⟩⟩
def ac.within{P:Program}{f:FuncId}{args:List AV}{K L R:SH}{α:Type}{F:α->AV}(h:ac P f args K λu j=>∃r,u=F r/\j=K)(hp:L.Perm (K++R)):ac P f args L λu j=>∃r,u=F r/\j=L:=
 ac.permR (h.frame hp λv j ⟨r,D,B⟩=>⟨L,by rw[B];exact hp.symm,r,D,rfl⟩)
def aa.wts_succ{l:List aa}{i:Nat}(h:i<l.length):aa.wts (l.take (i+1))=aa.wts (l.take i)+l[i].wt:=by
 rw[Sw h];generalize l.take i=m
 induction m with
 |nil=>simp[aa.wts]
 |cons y m j=>simp only[TF,aa.wts,j];omega
def aa.wts_take(l:List aa)(i:Nat):aa.wts (l.take i)<=aa.wts l:=by
 induction l generalizing i with
 |nil=>simp
 | cons x l j=>cases i with
  |zero=>simp[aa.wts]
  |succ i=>have:=j i;simp only[List.take_succ_cons,aa.wts];omega
def xf{o:Option Nat}{k:Nat}{K:AV->Prop}(h:K (.Uf (k:Int)))(j:o=none->k=0):W.len (aj o k) K:=by
 cases o with
 |none=>rw[j rfl]at h;exact B9 h
 |some b=>exact B5 h
def EV{KL:R}{L N:SH}{o:Option Nat}{i n by_ M:Nat}{rows m:List (List AV)}{r:List AV}(G:(M,(⟨n,m⟩:Blk))∈L)(O:m=[r])(E:ea o n rows L N)(j:i<=rows.length)(Y:o=none->rows=[])(B:i<=1000)(u:by_<=1000)(h4:r.all AV.one=true)
  (h:∀b,b∉L.names->KL (.sl b 0 (i+1)) ((b,⟨n,rows.take i++[r]⟩)::N)):W.append n by_ (aj o i) (.sl M 0 1) L KL:=by
 subst O;have e1:2*(i+(0+1))*by_<=2*(1000+1)*1000:=Nat.mul_le_mul Ua u
 have e2:2*(0+1)*by_<=2*(0+1)*1000:=Nat.mul_le_mul Ua u
 cases o with
 |none=>
  have D:=Y rfl;subst D;obtain rfl:i=0:=by simpa using j
  have S:=E.none';subst S;exact B8 (KL:=KL) (by_:=by_) (jG G rfl rfl) (by show 2*(0+1)*by_<=2^48;omega) Ud (by simpa using h4) Ud (λb B=>by simpa using h b B)
 |some b=>
  refine jF (y:=⟨n,rows⟩) (l:=rows.take i) E.some'.mem' rfl (by simpa using j) Ud (jG G rfl rfl) ?_ ?_ (by simpa using h4) E.some' (λZ B=>?_)
  .rw[ST,Tn j];simp only[SQ,S2];omega
  .rw[ST,Tn j];simp only[SQ,S2];omega
  .rw[ST,Tn j];exact h Z B
def OW{α:Type}(a t b:α)(R:List α):(a::t::b::R).Perm ((b::([a]++R))++[t]):=by have h:(a::t::b::R).Perm ([t]++(b::([a]++R))):=(List.Perm.swap t a _).trans ((List.Perm.swap b a R).cons t);exact h.trans SG
def uM{n b k m:Nat}{j:IntKind}{y:Blk}{L:SH}{K:AV->Prop}(h:K (.sl b 0 k))(D:k<=m)(B:(b,y)∈L)(u:y.size=n):W.slice n (.sl b 0 m) none (some (.int j (k:Int))) none L K:=by refine tT (l:=0) (h:=k) rfl (by simp[cC,ky]) (SL _) D B u ?_;simpa using h
def CS:List AV:=[.Uf 0,.Uf 0,.str [],.str [],.nils,.Uf 0,.Uf 0,.str [],.nils,.nils,.nils]
def AM{α:Type}{f:α->Nat}{l:List α}{i:Nat}(h:i<l.length):((l.take (i+1)).map f).sum=((l.take i).map f).sum+f l[i]:=by rw[Sw h,LT,List.sum_append];simp
def gA{α:Type}(f:α->Nat)(l:List α):Nat:=(l.map f).sum
def Gd{α:Type}{f:α->Nat}{l:List α}{i:Nat}(h:i<l.length):gA f (l.take (i+1))=gA f (l.take i)+f l[i]:=AM h
def zr{α:Type}(f:α->Nat)(l:List α)(i:Nat):gA f (l.take i)<=gA f l:=by
 unfold gA
 induction l generalizing i with
 |nil=>simp
 | cons x l j=>cases i with
  |zero=>simp
  |succ i=>have:=j i;simp only[List.take_succ_cons,Sx,Tx];omega
def EW{α:Type}{f g:α->Nat}(h:∀x,f x<=g x)(l:List α):gA f l<=gA g l:=by
 unfold gA
 induction l with
 |nil=>simp
 |cons x l j=>have:=h x;simp only[Sx,Tx];omega
def tf{P:Program}{g:FuncId}{args:List AV}{K M L:SH}{j:AV->SH->Prop}{KL:R}(h:ac P g args K j)(D:L.Perm (K++M))(B:∀v u,j v u->∃L'',(u++M).Perm L''/\KL v L''):W.callM P g args L KL:=⟨ac.permR (h.frame D B)⟩
def xg{n:Nat}{rows:List (List AV)}:ab none n rows=[]:=rfl
def xh{b n:Nat}{rows:List (List AV)}:ab (some b) n rows=[(b,⟨n,rows⟩)]:=rfl
def md{P:Program}{g:FuncId}{args:List AV}{i:Nat}{L:SH}{j:AV->SH->List Nat->Prop}(h:W.callM P g args L (λv K=>∀u,j v K u)):W.dcallM P [] i g args L j:=
 ⟨L,[],Ud,nofun,h.1.mono λv D B=>by simpa using B _⟩
mutual
def aa.cnt:aa->Nat
 |.mk _ _ _ _ _ _ body els=>aa.cnts body+aa.cnts els
def aa.cnts:List aa->Nat
 |[]=>0
 |x::l=>1+x.cnt+aa.cnts l
end
def aa.cnt_eq(x:aa):x.cnt=aa.cnts x.body+aa.cnts x.els:=by cases x;rfl
mutual
def aa.cnt_wt:∀x:aa,x.cnt<x.wt
 |.mk a b c d e f j u=>by have:=aa.cnts_wt j;have:=aa.cnts_wt u;simp only[aa.cnt,aa.wt];omega
def aa.cnts_wt:∀l:List aa,aa.cnts l<=aa.wts l
 |[]=>Fd _
 |x::l=>by have:=aa.cnt_wt x;have:=aa.cnts_wt l;simp only[aa.cnts,aa.wts];omega
end
def oJ(b:UInt8):List AV:=[.int .u8 (b.toNat:Int)]
end Go.Proofs.YtbofdbhnbodbiaaGreatDoor.Am
