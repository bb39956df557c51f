/- A part of the proof; the statement is proved in the last part. -/
import Derived.Test.YtdnpdghlggbklaaGreatDoorQsy
set_option linter.unusedSimpArgs false
set_option linter.unusedVariables false
namespace Go.Proofs.YtdnpdghlggbklaaGreatDoor.Am
section
set_option maxRecDepth 1000000
theorem MK:ax Tryz.prog 10 [] (.bool true):=.of_ok (fJ (n:=2000) (d:=50) UY (by kernel_rfl) (by kernel_rfl))
end
section
set_option maxRecDepth 100000
set_option maxHeartbeats 2000000
theorem Qr(t s:List UInt8):ax Tryz.prog 6 [.lst (t.map fj),.lst (s.map fj)] (.bool (decide (200<t.length)||decide (100<s.length))):=by
 refine FF _ _ _ _ ?_;unfold xK;by_cases p1:200<t.length
 ·have d1:decide ((t.length:Int) > 200)=true:=decide_eq_true Xr
  repeat' (first|refine st ?_|refine sb λnb_ hnb_=>?_|refine s2 (λh=>?_) λh=>?_|fail)
  exact⟨by rw[decide_eq_true p1];rfl,rfl⟩
 ·have d1:decide ((t.length:Int) > 200)=false:=decide_eq_false Xr;by_cases p2:100<s.length
  ·have d2:decide ((s.length:Int) > 100)=true:=decide_eq_true Xr
   repeat' (first|refine st ?_|refine sb λnb_ hnb_=>?_|refine s2 (λh=>?_) λh=>?_|fail)
   exact⟨by rw[decide_eq_false p1,decide_eq_true p2];exact congrArg AV.bool d2,rfl⟩
  ·have d2:decide ((s.length:Int) > 100)=false:=decide_eq_false Xr
   repeat' (first|refine st ?_|refine sb λnb_ hnb_=>?_|refine s2 (λh=>?_) λh=>?_|fail)
   exact⟨by rw[decide_eq_false p1,decide_eq_false p2];exact congrArg AV.bool d2,rfl⟩
end
section
set_option maxRecDepth 100000
set_option maxHeartbeats 2000000
def p9(T:List ThrD)(c:Int):Nat→List Int
 |0=>[]
 |k+1=>if(T.getD k default).status=3∧(T.getD k default).cond=c then p9 T c k++[(k:Int)]else p9 T c k
theorem Hz(T:List ThrD)(c:Int):∀k,(p9 T c k).length≤k
 |0=>VL _
 | k+1=>by
  have:=Hz T c k;unfold p9;split
  ·simp;omega
  ·omega
theorem Jy(s:SyncD)(c:Int)(hT:s.threads.length<2^40):ax Tryz.prog 14 [.agg s.enc,.Xw c] (.lst ((p9 s.threads c s.threads.length).map aj)):=by
 refine af.fz (As _ _ _ _ ?_);unfold nK;obtain⟨lk,tx,dn,T⟩:=s;dsimp only at *;rw[show SyncD.enc ⟨lk,tx,dn,T⟩=[.lst (lk.map LockD.enc),.Xw tx,.lst (dn.map aI),.lst (T.map ThrD.enc)]from rfl];generalize hQ:(λ(v:AV) (L:SH)=>∃v2 L2,aF [v] L [v2] L2∧v2=AV.lst ((p9 T c T.length).map aj)∧L2=[])=Q;have hq:∀v L,Fz L v (.lst ((p9 T c T.length).map aj))→Q v L:=λv L h=>by subst hQ;exact⟨_,[],aF.all h,rfl,rfl⟩
 clear hQ;have lp:W.loop (gR Q) [.Xw c,.pptr [[.lst (lk.map LockD.enc),.Xw tx,.lst (dn.map aI),.lst (T.map ThrD.enc)]] 0 0,.nils,.Xw (0:Nat)] []:=by
  refine cb T.length (λk (o:Option Nat)=>([.Xw c,.pptr [[.lst (lk.map LockD.enc),.Xw tx,.lst (dn.map aI),.lst (T.map ThrD.enc)]] 0 0,am o (p9 T c k).length,.Xw k],ae o 1 ((p9 T c k).map aj))) (λk o=>o=none→p9 T c k=[]) none (λ_=>rfl) (aF.drop (K:=[]) (.refl _) rfl (iU.at_ (.cons (.refl _) (.cons (.refl _) (.cons .nile (.cons (.refl _) .nil))))).2) ?_;intro k o hk ho;dsimp only;unfold gR;have hle:=Hz T c k;rcases Nat.lt_or_ge k T.length with g1|g1
  ·have hd:=bK g1;have hx:=ay (f:=ThrD.enc) g1;have hw:p9 T c (k+1)=if T[k].status=3∧T[k].cond=c then p9 T c k++[(k:Int)]else p9 T c k:=by rw[p9];simp[g1]
   have ho2:o=none→(p9 T c k).map aj=[]:=λe=>by rw[ho e];rfl
   have skip:p9 T c (k+1)=p9 T c k→∀V,V=[.Xw c,.pptr [[.lst (lk.map LockD.enc),.Xw tx,.lst (dn.map aI),.lst (T.map ThrD.enc)]] 0 0,am o (p9 T c k).length,.Xw (IntKind.i64.wrap ((k:Int)+1))]→∃(j:Nat) (o':Option Nat),k<j∧j≤T.length∧(o'=none→p9 T c j=[])∧aF V (ae o 1 ((p9 T c k).map aj))
     [.Xw c,.pptr [[.lst (lk.map LockD.enc),.Xw tx,.lst (dn.map aI),.lst (T.map ThrD.enc)]] 0 0,am o' (p9 T c j).length,.Xw j] (ae o' 1 ((p9 T c j).map aj)):=λh V hV=>by
    subst hV;exact⟨k+1,o,Xr,Xr,by rw[h];exact ho,fS (by rw[aD g1 Xr,h]) (by rw[h])⟩
   have fin:p9 T c (k+1)=p9 T c k++[(k:Int)]→∀(nb n:Nat) (L:SH),n=(p9 T c k).length+1→gq L (ae (some nb) 1 ((p9 T c k).map aj++[[.Xw (k:Int)]]))→∃(j:Nat) (o':Option Nat),k<j∧j≤T.length∧(o'=none→p9 T c j=[])∧aF [.Xw c,.pptr [[.lst (lk.map LockD.enc),.Xw tx,.lst (dn.map aI),.lst (T.map ThrD.enc)]] 0 0,.sl nb 0 n,.Xw (IntKind.i64.wrap ((k:Int)+1))] L
     [.Xw c,.pptr [[.lst (lk.map LockD.enc),.Xw tx,.lst (dn.map aI),.lst (T.map ThrD.enc)]] 0 0,am o' (p9 T c j).length,.Xw j] (ae o' 1 ((p9 T c j).map aj)):=λh nb n L hn hL=>by
    refine⟨k+1,some nb,Xr,Xr,nofun,?_⟩;rw[aD g1 Xr,hn];exact aF.pickE hL (by rw[h];simp[am]) (by rw[h];simp[aj])
   generalize T[k]=y at *;obtain⟨ys,yc,ya⟩:=y;dsimp only at hw;rw[show ThrD.enc ⟨ys,yc,ya⟩=[.Xw ys,.Xw yc,.bool ya]from rfl]at hx;generalize hX:(p9 T c k).map aj=X at *;have hXl:X.length=(p9 T c k).length:=by rw[←hX];simp
   clear hq;by_cases p1:ys=3
   ·have d1:decide (ys=3)=true:=decide_eq_true p1;by_cases p2:yc=c
    ·have d2:decide (yc=c)=true:=decide_eq_true p2;rw[if_pos ⟨p1,p2⟩]at hw
     repeat' (first|refine st ?_|refine cm rp rp Xr ho2 Xt Xu (by simp;omega) (by simp;omega) Xt (λnb_ hnb_=>?_)|refine sb λnb_ hnb_=>?_|refine s2 (λh=>?_) λh=>?_|fail)
     exact fin hw nb_ _ _ rfl rp
    ·have d2:decide (yc=c)=false:=decide_eq_false p2;rw[if_neg (λh=>p2 h.2)]at hw
     repeat' (first|refine st ?_|refine sb λnb_ hnb_=>?_|refine s2 (λh=>?_) λh=>?_|fail)
     exact skip hw _ rfl
   ·have d1:decide (ys=3)=false:=decide_eq_false p1;rw[if_neg (λh=>p1 h.1)]at hw
    repeat' (first|refine st ?_|refine sb λnb_ hnb_=>?_|refine s2 (λh=>?_) λh=>?_|fail)
    exact skip hw _ rfl
  ·have hd:=bO g1;have hk0:k=T.length:=by omega
   subst hk0;have fin:∀L,(∀q∈ae o 1 ((p9 T c T.length).map aj),q∈L)→Q (am o (p9 T c T.length).length) L:=λL hm=>by
    refine hq _ _ ?_;cases o with
    |none=>rw[ho rfl];exact .emp
    |some b=>exact Fz.sls (hm _ (.head _)) rfl Xv Xu
   clear hq
   repeat' (first|refine st ?_|refine sb λnb_ hnb_=>?_|refine s2 (λh=>?_) λh=>?_|fail)
   exact fin _ λq h=>h
 repeat' (first|exact lp|refine st ?_|refine sb λnb_ hnb_=>?_|refine s2 (λh=>?_) λh=>?_|fail)
theorem ML{c:bI}{s:dE}{n:Nat}(H:FE c s)(I:Ap c n s)(j:Nat)(hj:j<c.ts.length):(cJ c s j).isSome=(decide ((bE s.sync j).status=1)||decide ((bE s.sync j).status=2)||decide ((bE s.sync j).status=4)):=by
 obtain⟨p1,p2⟩:=H.pc j hj;have hj2:j<s.threads.length:=by have:=H.th;omega
 have hj3:j<s.sync.threads.length:=by have:=H.sy;omega
 have ht:=(I.thr _ (V3 hj2)).1.len;have hta:bz s j=s.threads[j]:=by simp[bz,hj2]
 have hr:gb c s j=true:=by
  unfold gb;simp only[V5,decide_eq_true_eq];refine⟨⟨⟨⟨⟨?_,?_⟩,?_⟩,p1⟩,p2⟩,?_⟩
  ·simp[inB];omega
  ·simp[inB];omega
  ·simp[inB];omega
  ·rw[←p2,hta,ht]
 have hk:=H.run j hj;unfold cJ;rw[if_pos hr];dsimp only;generalize(bE s.sync j).status=u at *;by_cases u1:u=1
 ·subst u1;rfl
 ·by_cases u4:u=4
  ·subst u4;rfl
  ·by_cases u2:u=2
   ·subst u2;rw[if_neg Xv,if_neg Xv,if_pos rfl,if_pos (hk rfl)];rfl
   ·rw[if_neg u1,if_neg u4,if_neg u2,decide_eq_false u1,decide_eq_false u2,decide_eq_false u4];rfl
end
section
set_option maxRecDepth 100000
set_option maxHeartbeats 4000000
theorem MM(c:bI)(hl:∀t∈c.ts,t.ins.length<2^40)(l:List dU):(iX (jy c)=false∧(tq c l).2=dE.zero)∨(iX (jy c)=true∧FE c (tq c l).2∧∃n≤400,Ap c n (tq c l).2):=by
 unfold tq;cases hd:iX (jy c)with
 |false=>exact .inl ⟨rfl,rfl⟩
 |true=>have hc:=fm.1 hd;have h:=LE (lX hc hl) l (p:=([],cG c)) (LF hc) (WF _);exact .inr ⟨rfl,Qh hc l (p:=([],cG c)) (MD hc),_,h.2,h.1⟩
theorem MN{c:bI}{s:dE}{t:Int}(h:Po c s t (cJ c s t)=false)(wake:Int):nH c s t wake=none:=by
 unfold nH;generalize cJ c s t=r at *;cases r with
 |none=>rfl
 |some e=>
  dsimp only[Po]at h;dsimp only;split
  ·rw[show(fy c.w s.sync t e.kind e.obj wake).2.2=false by unfold fy;rw[h];rfl];rfl
  ·rfl
theorem Qs{c:bI}{s:dE}{t:Int}(h:Po c s t (cJ c s t)=true):0≤t∧t<c.ts.length:=by
 unfold cJ at h;split at h
 ·rename_i h1;unfold gb at h1;simp only[V5]at h1;exact aw.1 h1.1.1.1.1.1
 ·cases h
theorem MO(c:bI)(hts:c.ts.length<2^40)(s:dE)(kk:Int)(hst:(iX (jy c)=false∧s=dE.zero)∨(iX (jy c)=true∧FE c s∧∃n≤400,Ap c n s))
  (hv:ax Tryz.prog 21 [.agg c.enc] (.bool (iX (jy c)))) (hl:∀t∈c.ts,t.ins.length<2^40) (Q:R) (hq:∀L,Q (.bool true) L) (L:SH) (x38:Bool) (hx:x38=Po c s kk (if iX (jy c)then cJ c s kk else none)) :
  ge Q (.Xw kk) (.pptr [c.enc] 0 0) (.pptr [s.enc] 0 0) (.bool x38) L:=by
 have haw:=MK;have hce:c.enc=[.lst (c.w.cells.map aV.enc),.lst (c.w.locks.map bV.enc),.lst (c.w.conds.map cI.enc),.lst (c.w.futures.map aq),.lst (c.w.threads.map aq),.lst (c.w.sites.map cz.enc),.lst (c.ts.map gL.enc)]:=rfl;have hse:s.enc=[.lst (s.sync.locks.map LockD.enc),.Xw s.sync.tx,.lst (s.sync.done.map aI),.lst (s.sync.threads.map ThrD.enc),.lst (s.cells.map aj),.lst (s.futures.map aj),.lst (s.threads.map aU.enc)]:=rfl;unfold ge;cases x38 with
 |true=>
  have hb:iX (jy c)=true:=by
   cases h:iX (jy c)with
   |true=>rfl
   |false=>rw[h]at hx;cases hx
  rw[hb]at hx;obtain⟨k0,k1⟩:=Qs hx.symm;have d1:decide (kk≥0)=true:=decide_eq_true k0;have d2:decide (kk<(c.ts.length:Int))=true:=decide_eq_true k1;clear hv hst;rw[hce,hse]
  repeat' (first|refine st ?_|(refine pf 10 ?_;refine pm (haw) ?_)|refine sb λnb_ hnb_=>?_|refine s2 (λh=>?_) λh=>?_|fail)
  exact hq _
 |false=>
  have hstep:ax Tryz.prog 12 [.agg c.enc,.agg s.enc,.agg [.Xw kk,.Xw (-1)]] (pW none):=by
   refine OM c s kk (-1) _ hv λhb=>?_
   rw[hb]at hx hst;rcases hst with⟨h,_⟩|⟨_,h1,n,hn,h2⟩
   ·cases h
   ·have hc:=lX (fm.1 hb) hl;have:=LC U9 c s kk (-1) (Ji hn h2 hc.ins hl hc.con);rw[MN hx.symm]at this;exact this
  have hpend:∀hb:iX (jy c)=true,ax Tryz.prog 13 [.agg c.enc,.agg s.enc,.Xw kk] (ie (cJ c s kk)):=λhb=>by
   have h:=Jl c s kk _ hv λhb=>by
    rw[hb]at hst;rcases hst with⟨h,_⟩|⟨_,h1,n,hn,h2⟩
    ·cases h
    ·have hc:=lX (fm.1 hb) hl;refine Hk c s kk hc.ins λx hx r=>?_
     have:=(h2.thr x hx).1.short;unfold aU.tnt;rcases VO r.toNat x.taint.length with g|g
     ·have:=this _ (V3 g);simp[g];omega
     ·simp[g]
   rw[hb]at h;exact h
  have hee:pW none=.tup [.agg [.lst [],.Xw 0,.lst [],.lst [],.lst [],.lst [],.lst []],.agg [.Xw 0,.Xw 0,.Xw 0,.Xw 0,.Xw 0,.lst [],.lst []],.bool false]:=rfl;rw[hee]at hstep;clear hv;by_cases k0:kk<0
  ·have d1:decide (kk<0)=true:=decide_eq_true k0;clear hpend hst;rw[hce,hse]at *
   repeat' (first|refine st ?_|(refine pf 12 ?_;refine pm (hstep) ?_)|(refine pf 10 ?_;refine pm (haw) ?_)|refine sb λnb_ hnb_=>?_|refine s2 (λh=>?_) λh=>?_|fail)
   exact hq _
  have d1:decide (kk<0)=false:=decide_eq_false k0;by_cases k1:kk≥c.ts.length
  ·have d2:decide (kk≥(c.ts.length:Int))=true:=decide_eq_true k1;clear hpend hst;rw[hce,hse]at *
   repeat' (first|refine st ?_|(refine pf 12 ?_;refine pm (hstep) ?_)|(refine pf 10 ?_;refine pm (haw) ?_)|refine sb λnb_ hnb_=>?_|refine s2 (λh=>?_) λh=>?_|fail)
   exact hq _
  have d2:decide (kk≥(c.ts.length:Int))=false:=decide_eq_false k1;obtain⟨j,rfl⟩:∃j:Nat,kk=j:=⟨kk.toNat,Xr⟩;rcases hst with⟨hb,hz⟩|⟨hb,H,n,hn,I⟩
  ·have d3:decide ((s.sync.threads.length:Int)≠(c.ts.length:Int))=true:=decide_eq_true (by rw[hz];show((0:Nat):Int)≠_;omega);clear hpend hz hx;rw[hce,hse]at *
   repeat' (first|refine st ?_|(refine pf 12 ?_;refine pm (hstep) ?_)|(refine pf 10 ?_;refine pm (haw) ?_)|refine sb λnb_ hnb_=>?_|refine s2 (λh=>?_) λh=>?_|fail)
   exact hq _
  ·have hsy:=H.sy;have d3:decide ((s.sync.threads.length:Int)≠(c.ts.length:Int))=false:=decide_eq_false (by rw[hsy];simp);have hp:=hpend hb;have hps:=ML H I j Xr;have hj3:j<s.sync.threads.length:=by omega
   have hta:bE s.sync j=s.sync.threads[j]:=by simp[bE,hj3]
   rw[hta]at hps;have hxa:=ay (f:=ThrD.enc) hj3;have hwt:=Jy s.sync 0 Xr;have hwl:=Hz s.sync.threads 0 s.sync.threads.length;have d5:decide (((p9 s.sync.threads 0 s.sync.threads.length).length:Int)≤(c.ts.length:Int))=true:=decide_eq_true Xr;have hye:s.sync.enc=[.lst (s.sync.locks.map LockD.enc),.Xw s.sync.tx,.lst (s.sync.done.map aI),.lst (s.sync.threads.map ThrD.enc)]:=rfl;rw[hye]at hwt;generalize p9 s.sync.threads 0 s.sync.threads.length=wl at *;generalize s.sync.threads[j]=y at *;obtain⟨ys,yc,ya⟩:=y;rw[show ThrD.enc ⟨ys,yc,ya⟩=[.Xw ys,.Xw yc,.bool ya]from rfl]at hxa;dsimp only at hps;have hp2:∃a,ie (cJ c s j)=.tup [.agg a,.bool (decide (ys=1)||decide (ys=2)||decide (ys=4))]∧a.length=7∧∃x1 x2 x3 x4 x5 l1 l2,a=[.Xw x1,.Xw x2,.Xw x3,.Xw x4,.Xw x5,.lst l1,.lst l2]:=by
    rw[←hps];generalize cJ c s j=r;cases r with
    |none=>exact⟨_,rfl,rfl,_,_,_,_,_,_,_,rfl⟩
    |some e=>exact⟨_,rfl,rfl,_,_,_,_,_,_,_,rfl⟩
   obtain⟨a,hpe,_,x1,x2,x3,x4,x5,l1,l2,rfl⟩:=hp2;rw[hpe]at hp;clear hpe hps hta hpend hx H I hwl hl;rw[hce,hse]at *;by_cases y1:ys=1
   ·subst y1
    repeat' (first|refine st ?_|(refine pf 12 ?_;refine pm (hstep) ?_)|(refine pf 13 ?_;refine pm (hp) ?_)|(refine pf 14 ?_;refine pm (hwt) ?_)|(refine pf 10 ?_;refine pm (haw) ?_)|refine sb λnb_ hnb_=>?_|refine s2 (λh=>?_) λh=>?_|fail)
    exact hq _
   have e1:decide (ys=1)=false:=decide_eq_false y1;by_cases y2:ys=2
   ·subst y2
    repeat' (first|refine st ?_|(refine pf 12 ?_;refine pm (hstep) ?_)|(refine pf 13 ?_;refine pm (hp) ?_)|(refine pf 14 ?_;refine pm (hwt) ?_)|(refine pf 10 ?_;refine pm (haw) ?_)|refine sb λnb_ hnb_=>?_|refine s2 (λh=>?_) λh=>?_|fail)
    exact hq _
   have e2:decide (ys=2)=false:=decide_eq_false y2;by_cases y4:ys=4
   ·subst y4
    repeat' (first|refine st ?_|(refine pf 12 ?_;refine pm (hstep) ?_)|(refine pf 13 ?_;refine pm (hp) ?_)|(refine pf 14 ?_;refine pm (hwt) ?_)|(refine pf 10 ?_;refine pm (haw) ?_)|refine sb λnb_ hnb_=>?_|refine s2 (λh=>?_) λh=>?_|fail)
    exact hq _
   have e4:decide (ys=4)=false:=decide_eq_false y4;rw[e1,e2,e4]at hp;have e6:decide ((false||false||false)=decide (ys=4))=true:=by rw[e4];rfl
   repeat' (first|refine st ?_|(refine pf 12 ?_;refine pm (hstep) ?_)|(refine pf 13 ?_;refine pm (hp) ?_)|(refine pf 14 ?_;refine pm (hwt) ?_)|(refine pf 10 ?_;refine pm (haw) ?_)|refine sb λnb_ hnb_=>?_|refine s2 (λh=>?_) λh=>?_|fail)
   exact hq _
theorem O0(t s:List UInt8)(k:Int)(hc:t.length<2^40→∃c:bI,ax Tryz.prog 7 [.lst (t.map fj)] (.agg c.enc)∧(∀x∈c.ts,x.ins.length<2^40)∧c.ts.length<2^40):ax Tryz.prog 4 [.lst (t.map fj),.lst (s.map fj),.int .i8 k] (.bool true):=by
 have hlong:=Qr t s;refine af.fz (xU _ _ _ _ _ ?_);unfold lY;generalize hQ:(λ(v:AV) (L:SH)=>∃v2 L2,aF [v] L [v2] L2∧v2=AV.bool true∧L2=[])=Q;have hq:∀L,Q (.bool true) L:=λL=>by subst hQ;exact⟨_,[],aF.all (.refl _),rfl,rfl⟩
 clear hQ;by_cases hl:200<t.length∨100<s.length
 ·rw[show(decide (200<t.length)||decide (100<s.length))=true by simpa using hl]at hlong
  repeat' (first|refine st ?_|(refine pf 6 ?_;refine pm (hlong) ?_)|refine sb λnb_ hnb_=>?_|refine s2 (λh=>?_) λh=>?_|fail)
  exact hq _
 ·rw[show(decide (200<t.length)||decide (100<s.length))=false by simpa using hl]at hlong;obtain⟨c,hcode,hins,hts⟩:=hc Xr;have hch:=Jt s Xr;generalize hcl:s.map MH=l at *;have hll:l.length≤100:=by rw[←hcl];simp;omega
  have hr:=Qg c hins l Xr;have hst:=MM c hins l;have hv:=IU c λt ht=>by have:=hins t ht;omega
  generalize tq c l=r at *;obtain⟨⟨w1,ev⟩,st1⟩:=r;dsimp only at *;obtain⟨kk,hkk⟩:∃kk,IntKind.i64.wrap k=kk:=⟨_,rfl⟩;have conv1:∀(K:AV→Prop),K (.Xw kk)→W.conv .i64 (.int .i8 k) K:=λK h=>Nr (by rw[hkk];exact h)
  have hen:ax Tryz.prog 11 [.agg c.enc,.agg st1.enc,.Xw kk] (.bool (Po c st1 kk (if iX (jy c)then cJ c st1 kk else none))):=by
   have hp:=Jl c st1 kk _ hv λhb=>by
    rw[hb]at hst;rcases hst with⟨h,_⟩|⟨_,h1,n,hn,h2⟩
    ·cases h
    ·have hc:=lX (fm.1 hb) hins;refine Hk c st1 kk hc.ins λx hx r=>?_
     have:=(h2.thr x hx).1.short;unfold aU.tnt;rcases VO r.toNat x.taint.length with g|g
     ·have:=this _ (V3 g);simp[g];omega
     ·simp[g]
   rcases hst with⟨hb,rfl⟩|⟨hb,h1,n,hn,h2⟩
   ·rw[hb]at hp ⊢;exact Jm c _ kk _ hp λh=>(h rfl).elim
   ·have hc:=lX (fm.1 hb) hins;exact Jm c st1 kk _ hp λ_=>⟨by have:=hc.con;omega,λl hl=>by have:=h2.rd l hl;omega⟩
  have he:=λL=>MO c hts st1 kk hst hv hins Q hq L _ rfl
  have hse:∀s:dE,s.enc=[.lst (s.sync.locks.map LockD.enc),.Xw s.sync.tx,.lst (s.sync.done.map aI),.lst (s.sync.threads.map ThrD.enc),.lst (s.cells.map aj),.lst (s.futures.map aj),.lst (s.threads.map aU.enc)]:=λ_=>rfl
  have hce:c.enc=[.lst (c.w.cells.map aV.enc),.lst (c.w.locks.map bV.enc),.lst (c.w.conds.map cI.enc),.lst (c.w.futures.map aq),.lst (c.w.threads.map aq),.lst (c.w.sites.map cz.enc),.lst (c.ts.map gL.enc)]:=rfl;unfold Ep.enc at hr;dsimp only at hr;rw[hse,hce]at *
  repeat' (first|refine conv1 _ ?_|exact he _|refine st ?_|(refine pf 6 ?_;refine pm (hlong) ?_)|(refine pf 7 ?_;refine pm (hcode) ?_)|(refine pf 9 ?_;refine pm (hch) ?_)|(refine pf 8 ?_;refine pm (hr) ?_)|(refine pf 11 ?_;refine pm (hen) ?_)|refine sb λnb_ hnb_=>?_|refine s2 (λh=>?_) λh=>?_|fail)
end
section
set_option maxRecDepth 100000
def fp(Q:R)(e:Vs)(a:SH)(f:Kn):Prop:=wq 0 1 5 e λc d b=>W.len c λg=>wb .lss 3 b g λh=>wk h (eB 2 0 c b a λi=>wb .eql 9 i d λj=>wk j (Q b a) (wb .add 3 b (.Xw 1) λk=>f [c,d,k] a)) (Q (.Xw (-1)) a)
def jL(a b:AV)(L:SH)(Q:R):Prop:=W.loop (fp Q) [a,b,(.Xw 0)] L
theorem nO(t0 t1:AV)(L:SH)(Q:R)(h:jL t0 t1 L Q):af Tryz.prog 59 [t0,t1] L Q:=
 fs [] [(2,[0,1,5])] [] [] Tryz.func59 h
def nP(Q:R)(e:Vs)(a:SH)(f:Kn):Prop:=wq 1 2 5 e λd c b=>aB 0 c a λg=>W.len g λh=>wb .lss 3 b h λi=>wk i (aB 0 c a λj=>eB 5 0 j b a λk=>wb .eql 9 k d λl=>wk l (Q b a) (wb .add 3 b (.Xw 1) λm=>f [d,c,m] a)) (Q (.Xw (-1)) a)
def qa(a b:AV)(L:SH)(Q:R):Prop:=qo a L λc d=>W.loop (nP Q) [b,c,(.Xw 0)] d
theorem CA(t0 t1:AV)(L:SH)(Q:R)(h:qa t0 t1 L Q):af Tryz.prog 127 [t0,t1] L Q:=
 fs [] [(2,[1,2,5])] [(0,[2])] [] Tryz.func127 h
def EN(b:Kn)(c d e a:AV)(f:SH):Prop:=W.ext 0 a λg=>W.ext 1 a λh=>wb .add 3 c (.Xw 1) λi=>b [g,d,h,e,i] f
def EO(f:Kn)(a b c d:AV)(e:SH):Prop:=W.ext 0 d λg=>W.ext 1 d λh=>eB 11 10 a b e λi=>wc (.fn 60 []) [g,c,h,i] e (EN f b c a)
def EP(g:Kn)(d:SH)(a b c e h:AV):Prop:=eB 11 1 a b d λi=>W.build [(.Xw 0),(.Xw 0),(.Xw 0)] [(0,1,c),(1,1,e),(2,1,i)] λj=>W.bslice 3 [(.Xw 0),(.Xw 0),(.Xw 0)] 1 [(0,j)] d λk l=>W.append 3 24 h k l λm f=>wb .add 3 e (.Xw 1) λn=>eB 11 9 a b f λo=>wc (.fn 60 []) [m,c,n,o] f (EO g a b c)
def qb(Q:R)(f:Vs)(a:SH)(g:Kn):Prop:=HE 0 1 2 3 10 f λb h c d e=>W.len d λi=>wb .lss 3 e i λj=>wk j ((EP g a d e h c b)) (Q (.tup [b,c]) a)
def sB(a b c d:AV)(L:SH)(Q:R):Prop:=W.loop (qb Q) [a,b,c,d,(.Xw 0)] L
theorem EQ(t0 t1 t2 t3:AV)(L:SH)(Q:R)(h:sB t0 t1 t2 t3 L Q):af Tryz.prog 60 [t0,t1,t2,t3] L Q:=
 fs [] [(2,[0,1,2,3,10])] [] [] Tryz.func60 h
def ER(e:Kn)(a:SH)(c b d f g h:AV):Prop:=aB 0 c a λi=>aB 2 b a λj=>aB 3 b a λk=>aB 0 b a λl=>wb .eql 3 l (.Xw 2) λm=>aB 4 b a λn=>W.build [(.str []),(.Xw 0),(.Xw 0),(.bool false),(.Xw 0)] [(0,1,j),(1,1,d),(2,1,k),(3,1,m),(4,1,n)] λo=>W.bslice 5 [(.str []),(.Xw 0),(.Xw 0),(.bool false),(.Xw 0)] 1 [(0,o)] a λp q=>W.append 5 48 i p q λr s=>W.faddr 0 c λt=>W.store 1 t r s λu=>wb .add 3 d (.Xw 1) λv=>e [f,g,c,h,b,v] u
def jM(h:Kn)(i:Vs)(a:SH)(j:Kn):Prop:=Iv 1 2 3 6 7 8 i λb c d e f g=>aB 3 f a λk=>W.mnx true k (.Xw 1) λl=>wb .lss 3 g l λm=>wk m ((ER j a d f g b c e)) (wb .add 3 e (.Xw 1) λn=>h [b,c,d,n] a)
def ES(d:Kn)(a:SH)(b c e f g:AV):Prop:=aB 1 b a λh=>aB 2 c a λi=>aB 0 c a λj=>wb .eql 3 j (.Xw 4) λk=>W.build [(.str []),(.bool false)] [(0,1,i),(1,1,k)] λl=>W.bslice 2 [(.str []),(.bool false)] 1 [(0,l)] a λm n=>W.append 2 24 h m n λo p=>W.faddr 1 b λq=>W.store 1 q o p λr=>wb .add 3 e (.Xw 1) λs=>d [f,g,b,s] r
def ET(e:Kn)(f:SH)(g a c h i j:AV)(k:Fp)(l:AV)(m:SH)(n:Ns):Prop:=wn [] n [] f.names λu=>W.build [(.str []),(.Xw 0)] [(0,1,g),(1,1,l)] λo=>W.calm [rm 1 k] ⟨10,[],[],[],false,[]⟩ (W.bslice 2 [(.str []),(.Xw 0)] 1 [(0,o)] m λb p=>wn [] [] (aa b) [] λv=>W.calm [] ⟨11,(aa a++aa b),(aa a),[],false,[]⟩ (W.append 2 24 a b p λd q=>wn (aa a++aa b) (aa a) (aa d) [] λw=>W.faddr 2 c λr=>ds [] 13 1 r d q λs x=>wb .add 3 h (.Xw 1) λt=>e [i,j,c,t] s))
def EU(f:Kn)(a:SH)(c e g h i:AV):Prop:=(true=true)∧(aN 2 c [] 1 a λj b=>aN 2 e [rm 1 b] 3 a λk d=>aN 1 c [rm 3 d,rm 1 b] 5 a λl m=>aN 5 e [rm 5 m,rm 3 d,rm 1 b] 7 a λn o=>wd [rm 3 d,rm 1 b] 8 (.fn 59 []) [l,n] a (ET f a k j c g h i b))
def EV(c:Kn)(a:SH)(b d e f g:AV):Prop:=aB 3 b a λh=>aB 2 d a λi=>W.bslice 1 [(.str [])] 1 [(0,i)] a λj k=>W.append 1 16 h j k λl m=>W.faddr 3 b λn=>W.store 1 n l m λo=>wb .add 3 e (.Xw 1) λp=>c [f,g,b,p] o
def EW(a:Kn)(h:Vs)(b:SH):Prop:=NR 1 2 3 6 7 31 65 h λc d e f g i j=>wk j ((ES a b e g f c d)) (wb .eql 3 i (.Xw 5) λk=>wk k ((EU a b e g f c d)) ((EV a b e g f c d)))
def EX(j:Kn)(b:SH)(a c d e f g:AV):Prop:=W.join (EW j) λh=>wb .eql 3 a (.Xw 3) λi=>wk i (h [c,d,e,f,g,a,i] b) (wb .eql 3 a (.Xw 4) λk=>h [c,d,e,f,g,a,k] b)
def EY(a:Kn)(h:Vs)(b:SH):Prop:=NR 1 2 3 6 7 31 39 h λc d e f g i j=>wk j (W.loop (jM a) [c,d,e,f,g,(.Xw 0)] b) ((EX a b i c d e f g))
def jN(k:Kn)(b:SH)(c d g h:AV):Prop:=aB 0 c b λl=>lE 6 l d b λm=>o6 [(.Xw 0),(.Xw 0),(.str []),(.Xw 0),(.Xw 0),(.str [])] 6 m b λe f=>aB 0 e f λa=>W.join (EY k) λi=>wb .eql 3 a (.Xw 1) λj=>wk j (i [c,g,h,d,e,a,j] f) (wb .eql 3 a (.Xw 2) λn=>i [c,g,h,d,e,a,n] f)
def EZ(c:Kn)(d:SH)(a e f g b:AV)(h:SH)(i:Ns):Prop:=wn [] i [] d.names λn=>W.ext 0 b λj=>W.ext 1 b λo=>W.faddr 5 a λk=>ds [] 14 1 k j h λl p=>wb .add 3 e (.Xw 1) λm=>c [f,g,a,m] l
def jO(k:Kn)(b:SH)(d h e l:AV):Prop:=(true=true)∧(aN 4 d [] 1 b λc f=>aN 1 h [rm 1 f] 3 b λm w=>di [rm 1 f] 5 4 m e b λn x=>aN 0 n [rm 1 f] 7 b λo y=>W.calm [rm 1 f] ⟨8,[],[],[],false,[]⟩ (W.bslice 1 [(.str [])] 1 [(0,o)] b λg p=>wn [] [] (aa g) [] λz=>W.calm [] ⟨9,(aa c++aa g),(aa c),[],false,[]⟩ (W.append 1 16 c g p λj q=>wn (aa c++aa g) (aa c) (aa j) [] λA=>W.faddr 4 d λr=>ds [] 11 1 r j q λa B=>(true=true)∧(aN 5 d [] 1 a λs i=>aN 1 h [rm 1 i] 4 a λt C=>di [rm 1 i] 6 4 t e a λu D=>aN 3 u [rm 1 i] 8 a λv E=>wd [] 9 (.fn 60 []) [s,e,(.Xw 0),v] a (EZ k a d e h l)))))
def jP(Q:R)(g:Vs)(a:SH)(h:Kn):Prop:=wu 1 2 3 9 g λc b d e=>aB 1 c a λi=>W.len i λj=>wb .lss 3 e j λk=>wk k ((jO h a d c e b)) (bS 6 d a λl=>W.store 6 b l a λf=>W.load true 6 b f λm=>Q m f)
def qc(Q:R)(f:Vs)(a:SH)(g:Kn):Prop:=wu 1 2 3 6 f λb c d e=>aB 0 b a λh=>W.len h λi=>wb .lss 3 e i λj=>wk j ((jN g a b e c d)) (W.loop (jP Q) [b,c,d,(.Xw 0)] a)
def E0(Q:R)(c a f d:AV)(b:SH):Prop:=W.ext 0 d λg=>W.ext 1 d λk=>wb .neq 74 g (.Xw 0) λh=>wk h (bS 6 c b λi=>W.store 6 a i b λe=>W.load true 6 a e λj=>Q j e) (W.loop (qc Q) [f,a,c,(.Xw 0)] b)
def sC(c:AV)(L:SH)(Q:R):Prop:=W.box c L λd e=>W.alloc [.nils,.nils,.nils,.nils,.nils,.nils] e λf g=>W.frz1 d g λa h=>W.alloc [.nils,.nils,.nils,.nils,.nils,.nils] h λi b=>bS 2 a b λj=>wc (.fn 28 []) [j] b (E0 Q i f a)
theorem E1(t0:AV)(L:SH)(Q:R)(h:sC t0 L Q):af Tryz.prog 29 [t0] L Q:=
 fs [(12,[1,2,3,6,7,31,39]),(18,[1,2,3,6,7,31,65])] [(14,[1,2,3,6,7,8]),(6,[1,2,3,6]),(23,[1,2,3,9])] [(0,[1]),(8,[7])] [(21,[0,1,0,4,0,16,0,64,240,508,1020,2047,4095,8191]),(25,[0,1,0,4,0,28,60,124,252,511,1023,2047]),(26,[0,1,0,0,8,0,56,120,248,511,1023,2047,2047,4095,12287])] Tryz.func29 h
def nQ(c i:AV)(L:SH)(Q:R):Prop:=W.box i L λe f=>dL 8 c f λj=>W.faddr 5 e λk=>W.store 1 k j f λd=>(true=true)∧(W.nilchk c λl=>aN 7 l [] 4 d λa g=>dr [rm 4 g] 5 6 e d λm s=>W.calm [rm 4 g] ⟨6,[],[],[],false,[]⟩ (W.bslice 6 [(.Xw 0),(.Xw 0),(.Xw 0),(.Xw 0),(.Xw 0),(.Xw 0)] 1 [(0,m)] d λb n=>wn [] [] (aa b) [] λt=>W.calm [] ⟨7,(aa a++aa b),(aa a),[],false,[]⟩ (W.append 6 48 a b n λh o=>wn (aa a++aa b) (aa a) (aa h) [] λu=>W.nilchk c λp=>W.faddr 7 p λq=>ds [] 10 1 q h o λr v=>Q (.tup []) r)))
theorem AL(t0 t1:AV)(L:SH)(Q:R)(h:nQ t0 t1 L Q):af Tryz.prog 31 [t0,t1] L Q:=
 fs [] [] [] [(2,[0,0,2,6,14,0,32,126,255,511,1023])] Tryz.func31 h
def uQ(Q:R)(a:SH)(b c d:AV):Prop:=aB 1 d a λe=>W.build [(.Xw 0),(.Xw 0),(.Xw 0),(.Xw 0),(.Xw 0),(.Xw 0)] [(0,1,(.Xw 1)),(1,1,b),(4,1,e)] λf=>wc (.fn 31 []) [c,f] a λh g=>Q (.tup []) g
def uR(Q:R)(a:SH)(b c d:AV):Prop:=W.build [(.Xw 0),(.Xw 0),(.Xw 0),(.Xw 0),(.Xw 0),(.Xw 0)] [(0,1,(.Xw 2)),(1,1,b),(2,1,d)] λe=>wc (.fn 31 []) [c,e] a λg f=>Q (.tup []) f
def uS(Q:R)(a:SH)(d:AV)(b:SH)(c:Ns):Prop:=wn [] c [] a.names λe=>Q (.tup []) b
def uT(Q:R)(b:SH)(c d e:AV)(a:SH)(f:Ns):Prop:=wn [] f [] b.names λh=>W.build [(.Xw 0),(.Xw 0),(.Xw 0),(.Xw 0),(.Xw 0),(.Xw 0)] [(0,1,(.Xw 6)),(1,1,c),(2,1,e)] λg=>wd [] 10 (.fn 31 []) [d,g] a (uS Q a)
def uU(Q:R)(a:SH)(b c d:AV):Prop:=(true=true)∧(W.nilchk b λe=>W.faddr 0 e λf=>dr [] 5 6 f a λg h=>aN 2 d [rm 5 h] 7 a λi j=>wd [] 8 (.fn 127 []) [g,i] a (uT Q a c b))
def uV(Q:R)(e:SH)(a b f c:AV)(d:SH)(g:Ns):Prop:=wn [] g [] e.names λi=>wb .geq 3 c (.Xw 0) λh=>wk h ((uR Q d a b c)) ((uU Q d b a f))
def uW(Q:R)(a:SH)(b d c:AV):Prop:=(true=true)∧(W.nilchk b λe=>aN 6 e [] 3 a λf g=>aN 2 c [rm 3 g] 5 a λh i=>wd [] 6 (.fn 90 []) [f,h] a (uV Q a d b c))
def uX(Q:R)(e:SH)(b c d:AV)(a:SH)(f:Ns):Prop:=wn [] f [] e.names λm=>W.nilchk b λg=>W.faddr 0 g λh=>aB 0 h a λi=>eB 5 2 i d a λj=>W.build [(.Xw 0),(.Xw 0),(.Xw 0),(.Xw 0),(.Xw 0),(.Xw 0)] [(0,1,(.Xw 7)),(1,1,c),(2,1,d),(3,1,c),(4,1,j)] λk=>wc (.fn 31 []) [b,k] a λn l=>Q (.tup []) l
def uY(Q:R)(b c d j:AV)(a:SH):Prop:=(true=true)∧(W.nilchk b λe=>W.faddr 0 e λf=>dr [] 3 6 f a λg h=>aN 2 d [rm 3 h] 5 a λi k=>wd [] 6 (.fn 127 []) [g,i] a (uX Q a b c))
def uZ(Q:R)(a c d h:AV)(b:SH):Prop:=aB 0 d b λe=>W.build [(.Xw 0),(.Xw 0),(.Xw 0),(.Xw 0),(.Xw 0),(.Xw 0)] [(0,1,(.Xw 3)),(1,1,a),(2,1,a),(4,1,e)] λf=>wc (.fn 31 []) [c,f] b λi g=>Q (.tup []) g
def u0(Q:R)(a c d i:AV)(b:SH):Prop:=wb .add 3 a (.Xw 1) λe=>aB 0 d b λf=>W.build [(.Xw 0),(.Xw 0),(.Xw 0),(.Xw 0),(.Xw 0),(.Xw 0)] [(0,1,(.Xw 4)),(1,1,a),(2,1,a),(3,1,e),(4,1,f)] λg=>wc (.fn 31 []) [c,g] b λj h=>Q (.tup []) h
def u3(Q:R)(b c d h:AV)(a:SH):Prop:=aB 3 d a λe=>lE 4 e (.Xw 1) a λf=>wb .add 3 b (.Xw 1) λg=>wc (.fn 96 []) [c,f,g] a (u0 Q b c d)
def u5(Q:R)(a:SH)(c d b:AV):Prop:=aB 3 b a λe=>W.len e λf=>wb .eql 3 f (.Xw 1) λg=>wk g (aB 3 b a λh=>lE 4 h (.Xw 0) a λi=>wc (.fn 96 []) [c,i,d] a (uZ Q d c b)) (aB 3 b a λj=>lE 4 j (.Xw 0) a λk=>wc (.fn 96 []) [c,k,d] a (u3 Q d c b))
def u6(Q:R)(a:SH)(c d b:AV):Prop:=aB 0 b a λe=>wb .eql 3 e (.Xw 3) λf=>wk f (aB 3 b a λg=>lE 4 g (.Xw 0) a λh=>wc (.fn 96 []) [c,h,d] a (uY Q c d b)) ((u5 Q a c d b))
def kB(c e d:AV)(L:SH)(Q:R):Prop:=qo e L λa b=>aB 0 a b λf=>wb .eql 3 f (.Xw 1) λg=>wk g ((uQ Q b d c a)) (aB 0 a b λh=>wb .eql 3 h (.Xw 2) λi=>wk i ((uW Q b c d a)) ((u6 Q b c d a)))
theorem u7(t0 t1 t2:AV)(L:SH)(Q:R)(h:kB t0 t1 t2 L Q):af Tryz.prog 96 [t0,t1,t2] L Q:=
 fs [] [] [(0,[4])] [(7,[0,1,3,7,0,16,63,127]),(10,[0,0,0,4,12,28,0,64,252,510,1023]),(13,[0,1,3,7,0,16,63,127])] Tryz.func96 h
def rH(Q:R)(e:SH)(b c d:AV)(a:SH)(f:Ns):Prop:=wn [] f [] e.names λn=>wb .add 3 c (.Xw 1) λg=>W.nilchk b λh=>W.faddr 0 h λi=>aB 0 i a λj=>eB 5 2 j d a λk=>W.build [(.Xw 0),(.Xw 0),(.Xw 0),(.Xw 0),(.Xw 0),(.Xw 0)] [(0,1,(.Xw 9)),(1,1,d),(2,1,g),(3,1,c),(4,1,k)] λl=>wc (.fn 31 []) [b,l] a λo m=>Q (.tup []) m
def rI(Q:R)(b c d j:AV)(a:SH):Prop:=(true=true)∧(W.nilchk b λe=>W.faddr 0 e λf=>dr [] 3 6 f a λg h=>aN 2 c [rm 3 h] 5 a λi k=>wd [] 6 (.fn 127 []) [g,i] a (rH Q a b d))
def rJ(Q:R)(a b c h:AV)(d:SH):Prop:=W.faddr 5 b λe=>bS 4 e d λf=>wb .add 3 c (.Xw 1) λg=>wc (.fn 96 []) [a,f,g] d (rI Q a b c)
def rK(Q:R)(a:SH)(b c d:AV):Prop:=W.build [(.Xw 0),(.Xw 0),(.Xw 0),(.Xw 0),(.Xw 0),(.Xw 0)] [(0,1,(.Xw 2)),(1,1,c),(2,1,d)] λe=>wc (.fn 31 []) [b,e] a λg f=>Q (.tup []) f
def rL(Q:R)(a:SH)(d:AV)(b:SH)(c:Ns):Prop:=wn [] c [] a.names λe=>Q (.tup []) b
def rM(Q:R)(b:SH)(c d e:AV)(a:SH)(f:Ns):Prop:=wn [] f [] b.names λh=>W.build [(.Xw 0),(.Xw 0),(.Xw 0),(.Xw 0),(.Xw 0),(.Xw 0)] [(0,1,(.Xw 8)),(1,1,e),(2,1,d)] λg=>wd [] 10 (.fn 31 []) [c,g] a (rL Q a)
def rN(Q:R)(a:SH)(b c d:AV):Prop:=(true=true)∧(W.nilchk b λe=>W.faddr 0 e λf=>dr [] 4 6 f a λg h=>aN 2 c [rm 4 h] 6 a λi j=>wd [] 7 (.fn 127 []) [g,i] a (rM Q a b d))
def rO(Q:R)(e:SH)(a b f c:AV)(d:SH)(g:Ns):Prop:=wn [] g [] e.names λi=>wb .geq 3 c (.Xw 0) λh=>wk h ((rK Q d a c b)) ((rN Q d a f b))
def rP(Q:R)(b c d i:AV)(a:SH):Prop:=(true=true)∧(W.nilchk b λe=>aN 6 e [] 3 a λf g=>aN 2 c [rm 3 g] 5 a λh j=>wd [] 6 (.fn 90 []) [f,h] a (rO Q a b d c))
def jQ(b e:AV)(L:SH)(Q:R):Prop:=qo e L λc a=>dL 6 b a λf=>W.len f λd=>aB 4 c a λg=>W.len g λh=>wb .gtr 3 h (.Xw 0) λi=>wk i (aB 4 c a λj=>lE 4 j (.Xw 0) a λk=>wc (.fn 96 []) [b,k,d] a (rJ Q b c d)) (W.faddr 5 c λl=>bS 4 l a λm=>wc (.fn 96 []) [b,m,d] a (rP Q b c d))
theorem rQ(t0 t1:AV)(L:SH)(Q:R)(h:jQ t0 t1 L Q):af Tryz.prog 92 [t0,t1] L Q:=
 fs [] [] [(0,[3])] [(5,[0,1,3,7,0,16,63,127]),(8,[0,1,3,7,0,16,63,127]),(11,[0,0,2,6,14,0,32,126,0,510,1023])] Tryz.func92 h
def oE(Q:R)(b c m:AV)(a:SH):Prop:=(true=true)∧(W.nilchk b λd=>aN 7 d [] 3 a λe f=>W.nilchk b λg=>aN 7 g [rm 3 f] 8 a λh n=>W.len h λi=>di [] 10 6 e c a λj o=>W.faddr 2 j λk=>ds [] 12 1 k i a λl p=>Q (.tup []) l)
def oF(Q:R)(b:SH)(a c d:AV):Prop:=W.build [(.Xw 0),(.Xw 0),(.Xw 0),(.Xw 0),(.Xw 0),(.Xw 0)] [(0,1,(.Xw 5)),(1,1,c)] λe=>wc (.fn 31 []) [a,e] b (oE Q a d)
def oG(Q:R)(a:SH)(b c:AV):Prop:=(true=true)∧(W.nilchk b λd=>aN 7 d [] 3 a λe f=>W.nilchk b λg=>aN 7 g [rm 3 f] 8 a λh m=>W.len h λi=>di [] 10 6 e c a λj n=>W.faddr 2 j λk=>ds [] 12 1 k i a λl o=>Q (.tup []) l)
def oH(Q:R)(b c m:AV)(a:SH):Prop:=(true=true)∧(W.nilchk b λd=>aN 7 d [] 3 a λe f=>W.nilchk b λg=>aN 7 g [rm 3 f] 8 a λh n=>W.len h λi=>di [] 10 6 e c a λj o=>W.faddr 1 j λk=>ds [] 12 1 k i a λl p=>Q (.tup []) l)
def oI(Q:R)(a d e f p:AV)(b:SH):Prop:=(true=true)∧(W.nilchk a λg=>aN 7 g [] 3 b λh i=>W.nilchk a λj=>aN 7 j [rm 3 i] 8 b λk q=>W.len k λl=>di [] 10 6 h d b λm r=>W.faddr 2 m λn=>ds [] 12 1 n l b λc s=>aB 10 e c λo=>wc (.fn 30 []) [a,o] c (oH Q a f))
def oJ(Q:R)(b:SH)(a c d:AV):Prop:=dL 7 a b λe=>W.len e λf=>W.build [(.Xw 0),(.Xw 0),(.Xw 0),(.Xw 0),(.Xw 0),(.Xw 0)] [(0,1,(.Xw 5))] λg=>wc (.fn 31 []) [a,g] b (oI Q a c d f)
def oK(Q:R)(a:SH)(b c d:AV):Prop:=aB 10 c a λe=>W.len e λf=>wb .eql 3 f (.Xw 0) λg=>wk g ((oG Q a b d)) ((oJ Q a b d c))
def oL(Q:R)(a e c f d l:AV)(g:SH):Prop:=W.nilchk a λh=>W.faddr 8 h λi=>W.store 1 i e g λb=>aB 0 c b λj=>wb .eql 3 j (.Xw 3) λk=>wk k ((oF Q b a f d)) ((oK Q b a c d))
def oM(Q:R)(a b d e f h:AV)(c:SH):Prop:=aB 9 b c λg=>wc (.fn 30 []) [a,g] c (oL Q a d b e f)
def oN(Q:R)(c:SH)(a d e f m:AV)(b:SH)(g:Ns):Prop:=wn [] g [] c.names λn=>dL 7 a b λh=>W.len h λi=>dL 6 a b λj=>W.len j λk=>W.build [(.Xw 0),(.Xw 0),(.Xw 0),(.Xw 0),(.Xw 0),(.Xw 0)] [(0,1,(.Xw 10)),(1,1,k)] λl=>wc (.fn 31 []) [a,l] b (oM Q a d e f i)
def ii(b d:AV)(L:SH)(Q:R):Prop:=qo d L λc a=>dL 8 b a λe=>dL 7 b a λf=>W.len f λg=>(true=true)∧(W.faddr 5 c λh=>dr [] 2 4 h a λi j=>W.nilchk b λk=>aN 6 k [rm 2 j] 6 a λl n=>W.len l λm=>wd [] 8 (.fn 96 []) [b,i,m] a (oN Q a b c e g))
theorem oO(t0 t1:AV)(L:SH)(Q:R)(h:ii t0 t1 L Q):af Tryz.prog 93 [t0,t1] L Q:=
 fs [] [] [(0,[3])] [(3,[0,0,2,0,8,24,56,120,255]),(10,[0,1,3,7,0,0,32,96,224,480,1023,2047,4095]),(12,[0,1,3,7,0,0,32,96,224,480,1023,2047,4095]),(15,[0,1,3,7,0,0,32,96,224,480,1023,2047,4095]),(17,[0,1,3,7,0,0,32,96,224,480,1023,2047,4095])] Tryz.func93 h
def rR(Q:R)(a b c d k:AV)(e:SH):Prop:=W.nilchk a λf=>W.faddr 8 f λg=>W.store 1 g d e λh=>W.build [(.Xw 0),(.Xw 0),(.Xw 0),(.Xw 0),(.Xw 0),(.Xw 0)] [(0,1,b),(1,1,c)] λi=>wc (.fn 31 []) [a,i] h λl j=>Q (.tup []) j
def rS(Q:R)(a c d e f h:AV)(b:SH):Prop:=aB 9 e b λg=>wc (.fn 30 []) [a,g] b (rR Q a c d f)
def jR(a d e f b:AV)(L:SH)(Q:R):Prop:=qo d L λg c=>dL 8 a c λh=>W.build [(.Xw 0),(.Xw 0),(.Xw 0),(.Xw 0),(.Xw 0),(.Xw 0)] [(0,1,e),(1,1,b)] λi=>wc (.fn 31 []) [a,i] c (rS Q a f b g h)
theorem rT(t0 t1 t2 t3 t4:AV)(L:SH)(Q:R)(h:jR t0 t1 t2 t3 t4 L Q):af Tryz.prog 94 [t0,t1,t2,t3,t4] L Q:=
 fs [] [] [(0,[6])] [] Tryz.func94 h
def yC(Q:R)(e:Kn)(a:SH)(c b d:AV):Prop:=W.nilchk c λf=>W.faddr 0 f λg=>aB 2 g a λh=>eB 2 0 h b a λi=>wb .eql 9 i d λj=>wk j (Q b a) (wb .add 3 b (.Xw 1) λk=>e [c,d,k] a)
def kC(Q:R)(d:Vs)(a:SH)(e:Kn):Prop:=wq 0 1 5 d λb f c=>W.nilchk b λg=>W.faddr 0 g λh=>aB 2 h a λi=>W.len i λj=>wb .lss 3 c j λk=>wk k ((yC Q e a b c f)) (Q (.Xw (-1)) a)
def mf(a b:AV)(L:SH)(Q:R):Prop:=W.loop (kC Q) [a,b,(.Xw 0)] L
theorem yD(t0 t1:AV)(L:SH)(Q:R)(h:mf t0 t1 L Q):af Tryz.prog 95 [t0,t1] L Q:=
 fs [] [(2,[0,1,5])] [] [] Tryz.func95 h
def yE(Q:R)(a:SH)(d:AV)(b:SH)(c:Ns):Prop:=wn [] c [] a.names λe=>Q (.tup []) b
def yF(Q:R)(b:SH)(c d e:AV)(a:SH)(f:Ns):Prop:=wn [] f [] b.names λg=>wd [] 10 (.fn 94 []) [c,d,(.Xw 11),(.Xw 12),e] a (yE Q a)
def yG(Q:R)(a:SH)(c d:AV):Prop:=(true=true)∧(dr [] 1 11 c a λe b=>W.nilchk d λf=>W.faddr 0 f λg=>aN 1 g [rm 1 b] 6 a λh i=>aN 2 c [rm 6 i,rm 1 b] 8 a λj k=>wd [rm 1 b] 9 (.fn 59 []) [h,j] a (yF Q a d e))
def yH(Q:R)(a:SH)(d:AV)(b:SH)(c:Ns):Prop:=wn [] c [] a.names λe=>Q (.tup []) b
def yI(Q:R)(b:SH)(c d e:AV)(a:SH)(f:Ns):Prop:=wn [] f [] b.names λg=>wd [] 10 (.fn 94 []) [c,d,(.Xw 13),(.Xw 14),e] a (yH Q a)
def yJ(Q:R)(a:SH)(c d:AV):Prop:=(true=true)∧(dr [] 1 11 c a λe b=>W.nilchk d λf=>W.faddr 0 f λg=>aN 1 g [rm 1 b] 6 a λh i=>aN 2 c [rm 6 i,rm 1 b] 8 a λj k=>wd [rm 1 b] 9 (.fn 59 []) [h,j] a (yI Q a d e))
def yK(Q:R)(a:SH)(d:AV)(b:SH)(c:Ns):Prop:=wn [] c [] a.names λe=>Q (.tup []) b
def yL(Q:R)(b:SH)(c d e:AV)(a:SH)(f:Ns):Prop:=wn [] f [] b.names λg=>wd [] 10 (.fn 94 []) [c,d,(.Xw 15),(.Xw 16),e] a (yK Q a)
def yM(Q:R)(a:SH)(c d:AV):Prop:=(true=true)∧(dr [] 1 11 c a λe b=>W.nilchk d λf=>W.faddr 0 f λg=>aN 1 g [rm 1 b] 6 a λh i=>aN 2 c [rm 6 i,rm 1 b] 8 a λj k=>wd [rm 1 b] 9 (.fn 59 []) [h,j] a (yL Q a d e))
def yN(Q:R)(a b:AV)(c:SH):Prop:=W.build [(.Xw 0),(.Xw 0),(.Xw 0),(.Xw 0),(.Xw 0),(.Xw 0)] [(0,1,(.Xw 21)),(1,1,b)] λd=>wc (.fn 31 []) [a,d] c λf e=>Q (.tup []) e
def yO(Q:R)(a b:AV)(c:SH):Prop:=W.build [(.Xw 0),(.Xw 0),(.Xw 0),(.Xw 0),(.Xw 0),(.Xw 0)] [(0,1,(.Xw 22)),(1,1,b)] λd=>wc (.fn 31 []) [a,d] c λf e=>Q (.tup []) e
def yP(Q:R)(a b:AV)(c:SH):Prop:=W.build [(.Xw 0),(.Xw 0),(.Xw 0),(.Xw 0),(.Xw 0),(.Xw 0)] [(0,1,(.Xw 23)),(1,1,b)] λd=>wc (.fn 31 []) [a,d] c λf e=>Q (.tup []) e
def yQ(Q:R)(a:SH)(d:AV)(b:SH)(c:Ns):Prop:=wn [] c [] a.names λe=>Q (.tup []) b
def u9(Q:R)(b:SH)(c d:AV)(a:SH)(e:Ns):Prop:=wn [] e [] b.names λg=>W.build [(.Xw 0),(.Xw 0),(.Xw 0),(.Xw 0),(.Xw 0),(.Xw 0)] [(0,1,(.Xw 24)),(1,1,d)] λf=>wd [] 10 (.fn 31 []) [c,f] a (yQ Q a)
def yR(Q:R)(a:SH)(b c:AV):Prop:=(true=true)∧(W.nilchk b λd=>W.faddr 0 d λe=>aN 4 e [] 5 a λf g=>aN 2 c [rm 5 g] 7 a λh i=>wd [] 8 (.fn 90 []) [f,h] a (u9 Q a b))
def vc(Q:R)(a:SH)(d:AV)(b:SH)(c:Ns):Prop:=wn [] c [] a.names λe=>Q (.tup []) b
def vd(Q:R)(b:SH)(c d:AV)(a:SH)(e:Ns):Prop:=wn [] e [] b.names λg=>W.build [(.Xw 0),(.Xw 0),(.Xw 0),(.Xw 0),(.Xw 0),(.Xw 0)] [(0,1,(.Xw 25)),(1,1,d)] λf=>wd [] 10 (.fn 31 []) [c,f] a (vc Q a)
def yS(Q:R)(a:SH)(b c:AV):Prop:=(true=true)∧(W.nilchk b λd=>W.faddr 0 d λe=>aN 4 e [] 5 a λf g=>aN 2 c [rm 5 g] 7 a λh i=>wd [] 8 (.fn 90 []) [f,h] a (vd Q a b))
def vf(Q:R)(a:SH)(d:AV)(b:SH)(c:Ns):Prop:=wn [] c [] a.names λe=>Q (.tup []) b
def vg(Q:R)(b:SH)(c d e:AV)(a:SH)(f:Ns):Prop:=wn [] f [] b.names λh=>W.build [(.Xw 0),(.Xw 0),(.Xw 0),(.Xw 0),(.Xw 0),(.Xw 0)] [(0,1,(.Xw 26)),(1,1,e),(2,1,c)] λg=>wd [] 11 (.fn 31 []) [d,g] a (vf Q a)
def vh(Q:R)(b c d j:AV)(a:SH):Prop:=(true=true)∧(W.nilchk b λe=>W.faddr 0 e λf=>aN 3 f [] 5 a λg h=>aN 2 c [rm 5 h] 7 a λi k=>wd [] 8 (.fn 90 []) [g,i] a (vg Q a d b))
def vj(Q:R)(a:SH)(d:AV)(b:SH)(c:Ns):Prop:=wn [] c [] a.names λe=>Q (.tup []) b
def vk(Q:R)(b:SH)(c d e:AV)(a:SH)(f:Ns):Prop:=wn [] f [] b.names λh=>W.build [(.Xw 0),(.Xw 0),(.Xw 0),(.Xw 0),(.Xw 0),(.Xw 0)] [(0,1,(.Xw 27)),(1,1,c),(2,1,e)] λg=>wd [] 17 (.fn 31 []) [d,g] a (vj Q a)
def vl(Q:R)(f:SH)(b g:AV)(c d:Fp)(h:AV)(a:SH)(i:Ns):Prop:=wn [] i [] f.names λe=>W.nilchk b λj=>W.faddr 0 j λk=>aN 3 k [rc 7 e,rm 6 c,rm 4 d] 12 a λl m=>aN 3 g [rm 12 m,rc 7 e,rm 6 c,rm 4 d] 14 a λn o=>wd [] 15 (.fn 90 []) [l,n] a (vk Q a h b)
def yT(Q:R)(a:SH)(b c:AV):Prop:=(true=true)∧(W.nilchk b λe=>aN 6 e [] 4 a λf d=>aN 2 c [rm 4 d] 6 a λg h=>wd [] 7 (.fn 90 []) [f,g] a (vl Q a b c h d))
def yU(Q:R)(a:SH)(d b c e:AV):Prop:=wb .eql 3 d (.Xw 14) λf=>wk f (W.faddr 5 b λg=>bS 4 g a λh=>wc (.fn 96 []) [c,h,e] a (vh Q c b e)) (wb .eql 3 d (.Xw 15) λi=>wk i ((yT Q a c b)) (Q (.tup []) a))
def yV(Q:R)(a:SH)(b c d e:AV):Prop:=wb .eql 3 b (.Xw 12) λf=>wk f ((yR Q a c d)) (wb .eql 3 b (.Xw 13) λg=>wk g ((yS Q a c d)) ((yU Q a b d c e)))
def yW(Q:R)(a:SH)(c d b e:AV):Prop:=wb .eql 3 c (.Xw 11) λf=>wk f (aB 2 d a λg=>wc (.fn 95 []) [b,g] a (yP Q b)) ((yV Q a c b d e))
def yX(Q:R)(a:SH)(c d b e:AV):Prop:=wb .eql 3 c (.Xw 10) λf=>wk f (aB 2 d a λg=>wc (.fn 95 []) [b,g] a (yO Q b)) ((yW Q a c d b e))
def vm(Q:R)(a:SH)(c d b e:AV):Prop:=wb .eql 3 c (.Xw 9) λf=>wk f (aB 2 d a λg=>wc (.fn 95 []) [b,g] a (yN Q b)) ((yX Q a c d b e))
def vn(Q:R)(a:SH)(b c d e:AV):Prop:=wb .eql 3 b (.Xw 8) λf=>wk f (bS 11 c a λg=>wc (.fn 94 []) [d,g,(.Xw 19),(.Xw 20),(.Xw 0)] a λi h=>Q (.tup []) h) ((vm Q a b c d e))
def vp(Q:R)(a:SH)(b c d e:AV):Prop:=wb .eql 3 b (.Xw 7) λf=>wk f (bS 11 c a λg=>wc (.fn 94 []) [d,g,(.Xw 17),(.Xw 18),(.Xw 0)] a λi h=>Q (.tup []) h) ((vn Q a b c d e))
def vq(Q:R)(a:SH)(b c d e:AV):Prop:=wb .eql 3 b (.Xw 5) λf=>wk f ((yJ Q a c d)) (wb .eql 3 b (.Xw 6) λg=>wk g ((yM Q a c d)) ((vp Q a b c d e)))
def vt(Q:R)(e:Vs)(a:SH):Prop:=HE 0 3 4 25 31 e λb c f d g=>wk g (bS 11 c a λh=>wc (.fn 93 []) [b,h] a λk i=>Q (.tup []) i) (wb .eql 3 d (.Xw 4) λj=>wk j ((yG Q a c b)) ((vq Q a d c b f)))
def vu(Q:R)(b:SH)(c a d e:AV):Prop:=W.join (vt Q) λf=>wb .eql 3 a (.Xw 2) λg=>wk g (f [c,d,e,a,g] b) (wb .eql 3 a (.Xw 3) λh=>f [c,d,e,a,h] b)
def mg(a g:AV)(L:SH)(Q:R):Prop:=qo g L λc d=>dL 9 a d λh=>W.nilchk a λi=>W.faddr 8 i λj=>W.store 1 j h d λe=>dL 9 a e λk=>wb .add 3 k (.Xw 1) λl=>W.nilchk a λm=>W.faddr 9 m λn=>W.store 1 n l e λb=>dL 6 a b λo=>W.len o λp=>aB 0 c b λf=>wb .eql 3 f (.Xw 1) λq=>wk q (bS 11 c b λr=>wc (.fn 92 []) [a,r] b λt s=>Q (.tup []) s) ((vu Q b a f c p))
theorem yY(t0 t1:AV)(L:SH)(Q:R)(h:mg t0 t1 L Q):af Tryz.prog 61 [t0,t1] L Q:=
 fs [(8,[0,3,4,25,31])] [] [(0,[3])] [(11,[0,0,0,4,12,28,60,0,128,508,1023]),(13,[0,0,0,4,12,28,60,0,128,508,1023]),(15,[0,0,0,4,12,28,60,0,128,508,1023]),(27,[0,0,2,6,14,30,0,64,254,510,1023]),(29,[0,0,2,6,14,30,0,64,254,510,1023]),(32,[0,0,2,6,14,30,0,64,254,0,1022,2047]),(34,[0,0,2,6,14,0,32,126,0,256,768,1792,3840,0,8192,32766,65534,131071])] Tryz.func61 h
def vv(a:Kn)(b c d g:AV)(e:SH):Prop:=wb .add 3 b (.Xw 1) λf=>a [c,d,f] e
def jS(Q:R)(e:Vs)(a:SH)(f:Kn):Prop:=wq 0 1 4 e λd b c=>W.len b λg=>wb .lss 3 c g λh=>wk h (lE 11 b c a λi=>wc (.fn 61 []) [d,i] a (vv f c d b)) (Q (.tup []) a)
def kD(a b:AV)(L:SH)(Q:R):Prop:=W.loop (jS Q) [a,b,(.Xw 0)] L
theorem vw(t0 t1:AV)(L:SH)(Q:R)(h:kD t0 t1 L Q):af Tryz.prog 30 [t0,t1] L Q:=
 fs [] [(1,[0,1,4])] [] [] Tryz.func30 h
def AM(Q:R)(c:SH)(a d e:AV):Prop:=W.build [.nils,.nils,.nils,.nils,.nils,.nils,.nils] [] λf=>W.store 7 a f c λb=>W.load true 7 a b λg=>Q (.tup [g,d,e]) b
def AN(f:Kn)(a:SH)(b c d g h i j k l m:AV):Prop:=(true=true)∧(aN 0 b [] 1 a λn e=>di [rm 1 e] 4 1 c d a λo v=>dl [rm 1 e] 5 o a λp w=>wb .add 3 p (.Xw 1) λq=>W.mnx true n q λr=>W.faddr 0 b λs=>ds [] 9 1 s r a λt x=>wb .add 3 d (.Xw 1) λu=>f [g,h,i,j,k,l,b,m,c,u] t)
def gS(l:Kn)(m:Vs)(a:SH)(n:Kn):Prop:=PW 1 2 7 8 9 10 11 12 13 14 m λb c d e f g h i j k=>W.len j λo=>wb .lss 3 k o λp=>wk p ((AN n a h j k b c d e f g i)) (wb .add 3 i (.Xw 1) λq=>l [b,c,d,e,f,g,h,q] a)
def AO(a:Kn)(b c d e f g h i j:AV)(k:SH):Prop:=W.loop (gS a) [b,c,d,e,f,g,h,i,j,(.Xw 0)] k
def gT(c:Kn)(a:SH)(b d e f g h:AV):Prop:=aB 6 b a λi=>bS 2 d a λj=>W.bslice 2 [(.Xw 0),.nils] 1 [(0,j)] a λk l=>W.append 2 32 i k l λm n=>W.faddr 6 b λo=>W.store 1 o m n λp=>wb .add 3 e (.Xw 1) λq=>c [f,g,b,h,q] p
def gU(j:Kn)(k:Vs)(a:SH)(l:Kn):Prop:=RV 1 2 7 8 9 10 11 12 k λd e f g h b i c=>dL 7 b a λm=>W.len m λn=>wb .lss 3 c n λo=>wk o (dL 7 b a λp=>lE 6 p c a λq=>wc (.fn 32 []) [q] a (AO l d e f g h b i c)) ((gT j a f i h d e g))
def AP(e:Kn)(a f g h i j t:AV)(b:SH):Prop:=(true=true)∧(W.nilchk a λk=>aN 6 k [] 3 b λl d=>W.len l λm=>W.nilchk a λn=>aN 7 n [rm 3 d] 8 b λo p=>W.build [(.Xw 0),.nils] [(0,1,m),(1,1,o)] λq=>W.calm [rm 8 p,rm 3 d] ⟨10,[],[],[],false,[]⟩ (W.alloc [(.Xw 0),.nils] b λc r=>wn [] [] (aa c) [] λu=>ds [] 11 2 c q r λs v=>W.loop (gU e) [f,g,h,i,j,a,c,(.Xw 0)] s))
def AQ(c:Kn)(a d e f g m:AV)(b:SH):Prop:=dL 9 a b λh=>W.nilchk a λi=>W.faddr 8 i λj=>W.store 1 j (.Xw (-1)) b λk=>W.build [(.Xw 0),(.Xw 0),(.Xw 0),(.Xw 0),(.Xw 0),(.Xw 0)] [(0,1,(.Xw 28))] λl=>wc (.fn 31 []) [a,l] k (AP c a d e f h g)
def gV(h:Kn)(a:SH)(g b c i j:AV):Prop:=(true=true)∧(W.faddr 0 g λk=>dr [] 1 6 k a λl d=>aN 1 b [rm 1 d] 3 a λm s=>di [rm 1 d] 5 4 m c a λn t=>aN 2 n [rm 1 d] 7 a λo u=>W.build [.nils,.nils,.nils,.nils,.nils,.nils,.nils,.nils,(.Xw 0),(.Xw 0)] [(0,6,l),(6,1,o),(9,1,i)] λp=>W.calm [] ⟨10,[],[],[],false,[]⟩ (W.box p a λe f=>wn [] [] (aa e) [] λv=>aB 1 b f λq=>eB 4 3 q c f λr=>wc (.fn 30 []) [e,r] f (AQ h e b j g c)))
def mh(Q:R)(g:Vs)(a:SH)(h:Kn):Prop:=HE 1 2 7 8 9 g λc b d i e=>aB 1 c a λj=>W.len j λk=>wb .lss 3 e k λl=>wk l ((gV h a d c e i b)) (bS 7 d a λm=>W.store 7 b m a λf=>W.load true 7 b f λn=>Q (.tup [n,(.Xw 0),(.Xw 0)]) f)
def AR(Q:R)(b c d:AV)(e:SH):Prop:=W.build [.nils,.nils,.nils,.nils,.nils,.nils,.nils] [(0,6,d)] λf=>W.alloc [.nils,.nils,.nils,.nils,.nils,.nils,.nils] e λa g=>W.store 7 a f g λh=>W.loop (mh Q) [b,c,a,(.Xw 0),(.Xw 0)] h
def AS(Q:R)(b c d:AV)(a:SH):Prop:=W.ext 0 d λe=>W.ext 1 d λf=>wb .neq 74 e (.Xw 0) λg=>wk g ((AM Q a b e f)) (bS 2 c a λh=>wc (.fn 29 []) [h] a (AR Q c b))
def nR(c:AV)(L:SH)(Q:R):Prop:=W.box c L λd e=>W.alloc [.nils,.nils,.nils,.nils,.nils,.nils,.nils] e λf g=>W.frz1 d g λa b=>bS 2 a b λh=>wc (.fn 28 []) [h] b (AS Q f a)
theorem AT(t0:AV)(L:SH)(Q:R)(h:nR t0 L Q):af Tryz.prog 19 [t0] L Q:=
 fs [] [(20,[1,2,7,8,9,10,11,12,13,14]),(16,[1,2,7,8,9,10,11,12]),(7,[1,2,7,8,9])] [(0,[1])] [(9,[0,1,0,4,0,28,60,124,0,511,1023,2047]),(14,[0,1,3,7,15,0,32,96,224,511,0,2047]),(22,[0,1,0,0,12,28,60,127,255,511])] Tryz.func19 h
end
section
set_option maxRecDepth 100000
theorem MP(l:List bV)(s:aZ)(hl:l.length<2^62):ax Tryz.prog 59 [.lst (l.map bV.enc),.str s] (.Xw (fT l s)):=by
 refine nO _ _ _ _ ?_;unfold jL;refine fi l (λx=>decide (x.name=s)) (λi=>[.lst (l.map bV.enc),.str s,.Xw i]) hl rfl (λi h1 hd hi hno nx hn=>?_) (λi h1 hd hno nx=>?_)
 all_goals unfold fp
 ·have hx:=ay (f:=bV.enc) h1
  repeat' (first|refine st ?_|refine sb λnb_ hnb_=>?_|refine s2 (λh=>?_) λh=>?_|fail)
  ·exact⟨by rw[fT,pi h1 hno h],rfl⟩
  ·exact hn h
 ·repeat' (first|refine st ?_|refine sb λnb_ hnb_=>?_|refine s2 (λh=>?_) λh=>?_|fail)
  exact⟨by rw[fT,gM hno],rfl⟩
theorem Gm(w:aM)(s:aZ)(hl:w.cells.length<2^62):ax Tryz.prog 127 [.agg w.enc,.str s] (.Xw (wY w.cells s)):=by
 refine CA _ _ _ _ ?_;unfold qa;refine GO ?_;refine fi w.cells (λx=>decide (x.name=s)) (λi=>[.str s,.pptr [w.enc] 0 0,.Xw i]) hl rfl (λi h1 hd hi hno nx hn=>?_) (λi h1 hd hno nx=>?_)
 all_goals unfold nP
 ·have hx:=ay (f:=aV.enc) h1
  repeat' (first|refine st ?_|refine sb λnb_ hnb_=>?_|refine s2 (λh=>?_) λh=>?_|fail)
  ·exact⟨by rw[wY,pi h1 hno h],rfl⟩
  ·exact hn h
 ·repeat' (first|refine st ?_|refine sb λnb_ hnb_=>?_|refine s2 (λh=>?_) λh=>?_|fail)
  exact⟨by rw[wY,gM hno],rfl⟩
end
section
set_option maxRecDepth 100000
set_option maxHeartbeats 2000000
def gp(w:aM)(loc:List aZ)(v:AV)(site next:Int):Blk:=⟨10,[[.lst (w.cells.map aV.enc),.lst (w.locks.map bV.enc),.lst (w.conds.map cI.enc),.lst (w.futures.map aq),.lst (w.threads.map aq),.lst (w.sites.map cz.enc),.lst (loc.map aq),v,.Xw site,.Xw next]]⟩
def bj.at_(i:bj)(s:Int):bj:={i with site:=s}
theorem SW(bg:Nat)(w:aM)(loc:List aZ)(o:Option Nat)(out:List bj)(site next:Int)(i:bj)(h0:o=none→out=[])(hl:out.length<2^30):
  af Tryz.prog 31 [.ptr bg 0 0,.agg i.enc] ((bg,gp w loc (am o out.length) site next)::ae o 6 (out.map bj.enc)) λu K=>∃(v:AV) (b:Nat),u=v∧v=.tup []∧K=(bg,gp w loc (am (some b) (out.length+1)) site next)::ae (some b) 6 ((out++[i.at_ site]).map bj.enc):=by
 refine af.fz (AL _ _ _ _ ?_);unfold nQ;generalize hQ:(λ(v:AV) (L:SH)=>∃v2 L2,aF [v] L [v2] L2∧∃(v:AV) (b:Nat),v2=v∧v=AV.tup []∧L2=(bg,gp w loc (am (some b) (out.length+1)) site next)::ae (some b) 6 ((out++[i.at_ site]).map bj.enc))=Q;have hq:∀(b:Nat) (L:SH),gq L ((bg,gp w loc (am (some b) (out.length+1)) site next)::ae (some b) 6 (out.map bj.enc++[(i.at_ site).enc]))→Q (.tup []) L:=λb L h=>by subst hQ;refine⟨_,_,aF.pickE h rfl (R2:=(bg,gp w loc (am (some b) (out.length+1)) site next)::ae (some b) 6 ((out++[i.at_ site]).map bj.enc)) (by rw[VQ];rfl),_,b,rfl,rfl,rfl⟩
 clear hQ;unfold gp at *
 repeat' (first|refine st ?_|refine cm rp rp Xu (λe=>by first|simp[h0 e]) Xt Xu (by simp;omega) (by simp;omega) Xt (λnb_ hnb_=>?_)|refine sb λnb_ hnb_=>?_|refine s2 (λh=>?_) λh=>?_|fail)
 cases i;exact hq nb_ _ (.one (.there _ (.there _ (.there _ (.here _)))) (.one (.here _) (.nil _)))
section
variable {bg:Nat} {w:aM} {loc:List aZ} {o:Option Nat} {out:List bj} {site next:Int} {L L1 L2:SH}
theorem SX{i:bj}{KL:R}(h1:eI bg (gp w loc (am o out.length) site next) L L1)(h2:dM o 6 (out.map bj.enc) L1 L2)(h0:o=none→out=[])(hl:out.length<2^30)
  (hq:∀b:Nat,KL (.tup []) ((bg,gp w loc (am (some b) (out++[i.at_ site]).length) site next)::(L2++ae (some b) 6 ((out++[i.at_ site]).map bj.enc)))):W.callM Tryz.prog 31 [.ptr bg 0 0,.agg i.enc] L KL:=by
 refine xV (M:=L2) (SW bg w loc o out site next i h0 hl) (h1.perm.trans (h2.perm.cons _)) ?_;rintro _ _ ⟨v,b,rfl,rfl,rfl⟩;refine⟨_,.cons _ Wf,?_⟩;have:=hq b;rw[VT]at this;exact this
end
end
end Go.Proofs.YtdnpdghlggbklaaGreatDoor.Am
