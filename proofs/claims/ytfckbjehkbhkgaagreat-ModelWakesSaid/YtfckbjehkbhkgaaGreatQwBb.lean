/- part -/
import Derived.Test.YtfckbjehkbhkgaaGreatQwBa
set_option linter.all false
set_option maxRecDepth 100000
set_option maxHeartbeats 0
namespace Go.Proofs.YtfckbjehkbhkgaaGreat.Am
def yF(w:aG)(c:aP)(t wake:Int)(W0:Av w)(WP:oK w.w)(H:jK w c):aq Tryz.prog 22 [.agg w.enc,.agg c.enc,.agg [.acU t,.acU wake]] (nH (c8 w c t wake)):=by
 obtain⟨s1,s2,s3,s4,s5,s6,s7,s8,s9⟩:=N9 WP W0.lw H;have hen:=Ib w c t W0 acN (λl h=>by have:=s9 l h;omega);have hnx:=ku w c t W0.lw acN;refine ac.fz (EA _ _ _ _ _ ?_);refine vw ?_;generalize B:(λ(v:AV) (L:SH)=>∃v2 L2,ax [v] L [v2] L2/\v2=nH (c8 w c t wake)/\L2=[])=Q;cases he:u9 w c t with
 |false=>
  have j:∀L,Q (.tup [.agg [.nils,.acU 0,.nils,.nils,.nils,.nils,.nils,.nils,.nils],.bool false]) L:=λL=>by subst B;refine⟨_,[],ax.all (Fz.tups (.cons (Fz.aggs (m:=aP.zero.enc) ?_) (.cons (.refl _) .nil))),by unfold c8;rw[he];rfl,rfl⟩;exact fl
  rw[he]at hen;clear B;rw[bj,cG]at *
  repeat' (first|refine sy ?_|refine s2 ?_ ?_|intro)
  exact j _
 |true=>
  rw[he]at hen;obtain⟨k,hk,e1,e2,hth,hc,hb,h8,hfd⟩:=CQ he;have hst:c8 w c t wake=some (uG w c t k w.ev[k] wake):=by unfold c8;rw[he,e1,e2];rfl
  rw[hst]at B;rw[e1]at hnx;have hfx:=oN w c t (w.ev[k]).frm W0.lw (by have:=(W0.evs _ (LT hk)).2;omega) (W0.num _ (LT hk)).2 (qR W0.cnt t);have S:=Pr c acN acN acN (λl h=>by have:=s9 l h;omega) acN acN acN acN acN;have hap:=yD w.w c.sync t (w.ev[k]).kind (w.ev[k]).obj wake ⟨by have:=WP.d2;omega,acN,acN,acN,λl h=>by have:=s9 l h;omega⟩;have hx:=qS hk;rw[eH]at hx;have hkx:k<c.fixed.length:=by rw[H.fixed];exact hk
  have hkw:k<c.woke.length:=by rw[H.woke];exact hk
  have hfr:=aj (f:=au) hkx;have hwr:=aj (f:=aa) hkw;have hal:allowedS w.w (w.ev[k]).kind (w.ev[k]).obj=true:=by unfold aC at h8;simp only[aas]at h8;exact h8.1.2
  have hdo:uG w c t k w.ev[k] wake=⟨(dx w.w c.sync t (w.ev[k]).kind (w.ev[k]).obj wake).1,if(w.ev[k]).kind=4 then c.cells.set (w.ev[k]).obj.toNat (if eJ w c t (w.ev[k]).frm then⟨(w.ev[k]).value,true⟩else⟨0,false⟩)else c.cells,if(w.ev[k]).kind=22 then c.futures.set (w.ev[k]).obj.toNat (if eJ w c t (w.ev[k]).frm then⟨(w.ev[k]).value,true⟩else⟨0,false⟩)else c.futures,c.order++[(k:Int)],
   if(w.ev[k]).kind=3 then c.fixed.set k (Kk (qO c.cells (w.ev[k]).obj) (w.ev[k]).value)else if(w.ev[k]).kind=23 then c.fixed.set k (Kk (qO c.futures (w.ev[k]).obj) (w.ev[k]).value)else c.fixed,
   if(w.ev[k]).kind=18 then(if 0<=(dx w.w c.sync t (w.ev[k]).kind (w.ev[k]).obj wake).2.1 then c.woke.set k 1 else c.woke)else if(w.ev[k]).kind=19 then c.woke.set k (dx w.w c.sync t (w.ev[k]).kind (w.ev[k]).obj wake).2.1 else c.woke⟩:=rfl
  rw[hdo]at B;clear hdo hst hfd hb hc hth;generalize dx w.w c.sync t (w.ev[k]).kind (w.ev[k]).obj wake=r at *;generalize eJ w c t (w.ev[k]).frm=kn at *;generalize w.ev[k]=e at *;obtain⟨et,ek,Z,ev,es,ed,ef⟩:=e;obtain⟨E,vv,bb⟩:=r;dsimp only at *;have j:∀(n:aP) (L:SH) (G fv O M N:AV),Q=(λ(v:AV) (L:SH)=>∃v2 L2,ax [v] L [v2] L2/\v2=nH (some n)/\L2=[])->n.sync=E->Fz L G (.lst (n.cells.map eu.enc))->Fz L fv (.lst (n.futures.map eu.enc))->Fz L O (.lst (n.order.map aa))->Fz L M (.lst (n.fixed.map au))->Fz L N (.lst (n.woke.map aa))->
    Q (.tup [.agg [.lst (E.locks.map LockD.enc),.acU E.tx,.lst (E.done.map au),.lst (E.threads.map ThrD.enc),G,fv,O,M,N],.bool true]) L:=λn L G fv O M N B hs f1 f2 f3 f4 f5=>by
   subst B;subst hs;exact⟨_,[],ax.all (Fz.tups (.cons (Fz.aggs (m:=n.enc) (.cons (.refl _) (.cons (.refl _) (.cons (.refl _) (.cons (.refl _) (.cons f1 (.cons f2 (.cons f3 (.cons f4 (.cons f5 .nil)))))))))) (.cons (.refl _) .nil))),rfl,rfl⟩
  rw[show EV (E,vv,bb)=.tup [.agg [.lst (E.locks.map LockD.enc),.acU E.tx,.lst (E.done.map au),.lst (E.threads.map ThrD.enc)],.acU vv,.bool bb]from rfl,Mv,show aF.enc w.w=[.lst (w.w.cells.map aU.enc),.lst (w.w.locks.map bZ.enc),.lst (w.w.conds.map cM.enc),.lst (w.w.futures.map ay),.lst (w.w.threads.map ay),.lst (w.w.sites.map cF.enc)]from rfl]at hap;rw[bj,cG]at *;have hor:(c.order++[(k:Int)]).map aa=c.order.map aa++[[.acU (k:Int)]]:=by simp[aa]
  have u:c.order.map aa++(List.replicate 1 [AV.int IntKind.i64 0]).set 0 [AV.int IntKind.i64 (k:Int)]=(c.order++[(k:Int)]).map aa:=by simp[aa]
  have k0:(0:Int)<=(k:Int):=by omega
  by_cases k3:ek=3
  .subst k3;have j:=λL G fv O M N=>j _ L G fv O M N B.symm rfl
   clear B;obtain⟨o0,o1⟩:=ao.1 (rW hal (.inl rfl));have o2:Z<c.cells.length:=by rw[H.cells];exact o1
   have hcr:(c.cells.map eu.enc)[Z.toNat]? =some [.acU (qO c.cells Z).value,.bool (qO c.cells Z).known]:=by
    have:Z.toNat<c.cells.length:=by omega
    simp[this,qO,eu.enc]
   generalize qO c.cells Z=cx at *;obtain⟨G,ck⟩:=cx;dsimp only at hcr
   repeat' (first|refine sy ?_|refine s2 ?_ ?_|intro)
   refine fm S ?_;rintro v K ⟨bc,bf,bo,bx,bw,rfl,rfl⟩;cases ck
   all_goals
    cases kn
   all_goals
    repeat' (first|refine aw o0 acN rp rfl ?_|refine wZ acN rp rfl ?_|refine sy ?_|refine fq rp rp acQ rfl acS acS rfl (λY D=>?_)|refine aO rp acP acP acP acP acQ ?_|refine dR rp hcr rfl ?_|refine s2 ?_ ?_|intro)
    refine j _ _ _ _ _ _ ?_ ?_ ?_ ?_ ?_
    .exact Fz.sls mm rfl (aaq _) acQ
    .exact Fz.sls mm rfl (aaq _) acQ
    .exact Fz.sls mm u (aaq _) acQ
    .exact Fz.sls mm R3 (aaq _) acQ
    .exact Fz.sls mm rfl (aaq _) acQ
  by_cases k23:ek=23
  .subst k23;have j:=λL G fv O M N=>j _ L G fv O M N B.symm rfl
   clear B;obtain⟨o0,o1⟩:=ao.1 (w6 hal (.inr rfl));have o2:Z<c.futures.length:=by rw[H.futures];exact o1
   have hcr:(c.futures.map eu.enc)[Z.toNat]? =some [.acU (qO c.futures Z).value,.bool (qO c.futures Z).known]:=by
    have:Z.toNat<c.futures.length:=by omega
    simp[this,qO,eu.enc]
   generalize qO c.futures Z=cx at *;obtain⟨G,ck⟩:=cx;dsimp only at hcr
   repeat' (first|refine sy ?_|refine s2 ?_ ?_|intro)
   refine fm S ?_;rintro v K ⟨bc,bf,bo,bx,bw,rfl,rfl⟩;cases ck
   all_goals
    cases kn
   all_goals
    repeat' (first|refine aw o0 acN rp rfl ?_|refine wZ acN rp rfl ?_|refine sy ?_|refine fq rp rp acQ rfl acS acS rfl (λY D=>?_)|refine aO rp acP acP acP acP acQ ?_|refine dR rp hcr rfl ?_|refine s2 ?_ ?_|intro)
    refine j _ _ _ _ _ _ ?_ ?_ ?_ ?_ ?_
    .exact Fz.sls mm rfl (aaq _) acQ
    .exact Fz.sls mm rfl (aaq _) acQ
    .exact Fz.sls mm u (aaq _) acQ
    .exact Fz.sls mm R3 (aaq _) acQ
    .exact Fz.sls mm rfl (aaq _) acQ
  by_cases k4:ek=4
  .subst k4;have j:=λL G fv O M N=>j _ L G fv O M N B.symm rfl
   clear B;obtain⟨o0,o1⟩:=ao.1 (rW hal (.inr rfl));have o2:Z<c.cells.length:=by rw[H.cells];exact o1
   have y:=cq (f:=eu.enc) (ao.2 ⟨o0,o2⟩)
   repeat' (first|refine sy ?_|refine s2 ?_ ?_|intro)
   refine fm S ?_;rintro v K ⟨bc,bf,bo,bx,bw,rfl,rfl⟩;cases kn
   all_goals
    repeat' (first|refine aw o0 acN rp rfl ?_|refine sy ?_|refine fq rp rp acQ rfl acS acS rfl (λY D=>?_)|refine aO rp acP acP acP acP acQ ?_|refine s2 ?_ ?_|intro)
    refine j _ _ _ _ _ _ ?_ ?_ ?_ ?_ ?_
    .exact Fz.sls mm R4 (aaq _) acQ
    .exact Fz.sls mm rfl (aaq _) acQ
    .exact Fz.sls mm u (aaq _) acQ
    .exact Fz.sls mm rfl (aaq _) acQ
    .exact Fz.sls mm rfl (aaq _) acQ
  by_cases k22:ek=22
  .subst k22;have j:=λL G fv O M N=>j _ L G fv O M N B.symm rfl
   clear B;obtain⟨o0,o1⟩:=ao.1 (w6 hal (.inl rfl));have o2:Z<c.futures.length:=by rw[H.futures];exact o1
   have y:=cq (f:=eu.enc) (ao.2 ⟨o0,o2⟩)
   repeat' (first|refine sy ?_|refine s2 ?_ ?_|intro)
   refine fm S ?_;rintro v K ⟨bc,bf,bo,bx,bw,rfl,rfl⟩;cases kn
   all_goals
    repeat' (first|refine aw o0 acN rp rfl ?_|refine sy ?_|refine fq rp rp acQ rfl acS acS rfl (λY D=>?_)|refine aO rp acP acP acP acP acQ ?_|refine s2 ?_ ?_|intro)
    refine j _ _ _ _ _ _ ?_ ?_ ?_ ?_ ?_
    .exact Fz.sls mm rfl (aaq _) acQ
    .exact Fz.sls mm R4 (aaq _) acQ
    .exact Fz.sls mm u (aaq _) acQ
    .exact Fz.sls mm rfl (aaq _) acQ
    .exact Fz.sls mm rfl (aaq _) acQ
  by_cases k18:ek=18
  .subst k18;by_cases q:0<=vv
   .have dq:decide (0<=vv)=true:=decide_eq_true q;have dq2:decide (vv>=0)=true:=decide_eq_true q;rw[if_pos rfl,if_pos q]at B;have j:=λL G fv O M N=>j _ L G fv O M N B.symm rfl
    clear B
    repeat' (first|refine sy ?_|refine s2 ?_ ?_|intro)
    refine fm S ?_;rintro v K ⟨bc,bf,bo,bx,bw,rfl,rfl⟩;cases kn
    all_goals
     repeat' (first|refine wZ acN rp rfl ?_|refine sy ?_|refine fq rp rp acQ rfl acS acS rfl (λY D=>?_)|refine aO rp acP acP acP acP acQ ?_|refine s2 ?_ ?_|intro)
     refine j _ _ _ _ _ _ ?_ ?_ ?_ ?_ ?_
     .exact Fz.sls mm rfl (aaq _) acQ
     .exact Fz.sls mm rfl (aaq _) acQ
     .exact Fz.sls mm u (aaq _) acQ
     .exact Fz.sls mm rfl (aaq _) acQ
     .exact Fz.sls mm w4 (aaq _) acQ
   .have dq:decide (0<=vv)=false:=decide_eq_false q;have dq2:decide (vv>=0)=false:=decide_eq_false q;rw[if_pos rfl,if_neg q]at B;have j:=λL G fv O M N=>j _ L G fv O M N B.symm rfl
    clear B
    repeat' (first|refine sy ?_|refine s2 ?_ ?_|intro)
    refine fm S ?_;rintro v K ⟨bc,bf,bo,bx,bw,rfl,rfl⟩;cases kn
    all_goals
     repeat' (first|refine sy ?_|refine fq rp rp acQ rfl acS acS rfl (λY D=>?_)|refine aO rp acP acP acP acP acQ ?_|refine s2 ?_ ?_|intro)
     refine j _ _ _ _ _ _ ?_ ?_ ?_ ?_ ?_
     .exact Fz.sls mm rfl (aaq _) acQ
     .exact Fz.sls mm rfl (aaq _) acQ
     .exact Fz.sls mm u (aaq _) acQ
     .exact Fz.sls mm rfl (aaq _) acQ
     .exact Fz.sls mm rfl (aaq _) acQ
  by_cases k19:ek=19
  .subst k19;have j:=λL G fv O M N=>j _ L G fv O M N B.symm rfl
   clear B
   repeat' (first|refine sy ?_|refine s2 ?_ ?_|intro)
   refine fm S ?_;rintro v K ⟨bc,bf,bo,bx,bw,rfl,rfl⟩;cases kn
   all_goals
    repeat' (first|refine wZ acN rp rfl ?_|refine sy ?_|refine fq rp rp acQ rfl acS acS rfl (λY D=>?_)|refine aO rp acP acP acP acP acQ ?_|refine s2 ?_ ?_|intro)
    refine j _ _ _ _ _ _ ?_ ?_ ?_ ?_ ?_
    .exact Fz.sls mm rfl (aaq _) acQ
    .exact Fz.sls mm rfl (aaq _) acQ
    .exact Fz.sls mm u (aaq _) acQ
    .exact Fz.sls mm rfl (aaq _) acQ
    .exact Fz.sls mm w4 (aaq _) acQ
  rw[if_neg k3,if_neg k23,if_neg k4,if_neg k22,if_neg k18,if_neg k19]at B;have j:=λL G fv O M N=>j _ L G fv O M N B.symm rfl
  clear B;have d3:decide (ek=3)=false:=decide_eq_false k3;have d4:decide (ek=4)=false:=decide_eq_false k4;have d18:decide (ek=18)=false:=decide_eq_false k18;have d19:decide (ek=19)=false:=decide_eq_false k19;have d22:decide (ek=22)=false:=decide_eq_false k22;have d23:decide (ek=23)=false:=decide_eq_false k23
  repeat' (first|refine sy ?_|refine s2 ?_ ?_|intro)
  refine fm S ?_;rintro v K ⟨bc,bf,bo,bx,bw,rfl,rfl⟩;cases kn
  all_goals
   repeat' (first|refine sy ?_|refine fq rp rp acQ rfl acS acS rfl (λY D=>?_)|refine aO rp acP acP acP acP acQ ?_|refine s2 ?_ ?_|intro)
   refine j _ _ _ _ _ _ ?_ ?_ ?_ ?_ ?_
   .exact Fz.sls mm rfl (aaq _) acQ
   .exact Fz.sls mm rfl (aaq _) acQ
   .exact Fz.sls mm u (aaq _) acQ
   .exact Fz.sls mm rfl (aaq _) acQ
   .exact Fz.sls mm rfl (aaq _) acQ
