/- part -/
import Derived.Test.YtfckbjehkbhkgaaGreatQww
set_option linter.all false
set_option maxRecDepth 100000
set_option maxHeartbeats 0
namespace Go.Proofs.YtfckbjehkbhkgaaGreat.Am
def yW(r:Option gO):AV:=match r with
 |none=>.tup [.agg gO.zero.enc,.bool false]
 |some n=>.tup [.agg n.enc,.bool true]
def UX{s:gO}{t:Int}(h:inB t s.count.length=true):(s.count.map aa)[t.toNat]? =some [.acU (aT s t)]:=jn h
def ZX{α:Type}{l:List α}(h:l=[]):decide ((0:Int)<(l.length:Int))=false:=decide_eq_false (by rw[h];simp)
def ZY{α:Type}{l:List α}(h:¬l=[]):decide ((0:Int)<(l.length:Int))=true:=decide_eq_true (by have:=acE.2 h;omega)
def nR(w:aF)(s:gO)(e:bA)(hsm:CJ w s.sync)(he1:e.deps.length<2^62)(he2:e.frm.length<2^62)(h4:s.cells.length<2^40)(h5:s.futures.length<2^40)(h6:s.count.length<2^40):
  aq Tryz.prog 58 [.agg w.enc,.agg s.enc,.agg e.enc] (yW (px w s e)):=by
 have hf:=KT w s (by have:=hsm.conds;omega);have hi1:=Oj e.thread w.threads.length;have hi2:=Oj e.site w.sites.length;have he:=qI w s.sync e.thread e.kind e.obj (by have:=hsm.conds;omega) hsm.rd;have hn1:=KU e.deps (aT s e.thread) he1;have hn2:=KU e.frm (aT s e.thread) he2;refine ac.fz (Fu _ _ _ _ _ ?_);refine vw ?_;generalize hQ:(λ(v:AV) (L:SH)=>∃v2 L2,ax [v] L [v2] L2/\v2=yW (px w s e)/\L2=[])=Q;have j:H7 w s e=false->∀L,Q (.tup [.agg [.nils,.acU 0,.nils,.nils,.nils,.nils,.nils],.bool false]) L:=λh L=>by subst hQ;refine⟨_,[],ax.all (Fz.tups (.cons (Fz.aggs (m:=gO.zero.enc) ?_) (.cons (.refl _) .nil))),by unfold px;rw[h];rfl,rfl⟩;exact fl
 have M:H7 w s e=true->Q=(λ(v:AV) (L:SH)=>∃v2 L2,ax [v] L [v2] L2/\v2=yW (some (gW w s e))/\L2=[]):=λh=>by rw[<-hQ];unfold px;rw[h];rfl
 have G:=λwake=>yD (w:=w) (s:=s.sync) (t:=e.thread) (k:=e.kind) (o:=e.obj) (wake:=wake) hsm
 clear hQ;have hwe:w.enc=[.lst (w.cells.map aU.enc),.lst (w.locks.map bZ.enc),.lst (w.conds.map cM.enc),.lst (w.futures.map ay),.lst (w.threads.map ay),.lst (w.sites.map cF.enc)]:=rfl;have hye:s.sync.enc=[.lst (s.sync.locks.map LockD.enc),.acU s.sync.tx,.lst (s.sync.done.map au),.lst (s.sync.threads.map ThrD.enc)]:=rfl;have hv:aC w s.sync e.thread e.kind e.obj=true->nB w s=true->aq Tryz.prog 91 [.agg s.enc,.agg e.enc] (.bool (H6 s e)):=λh hfn=>by obtain⟨_,f2,f3,_⟩:=dT.1 hfn;exact Ss s e hsm.threads (λhk=>by rw[f2];exact iK (Dp h) (.inl hk)) (λhk=>by rw[f3];exact o5 (Dp h) (.inr hk))
 have O:aC w s.sync e.thread e.kind e.obj=true->allowedS w e.kind e.obj=true:=Dp;have hokd:H7 w s e=(nB w s&&inB e.thread w.threads.length&&decide (1<=e.kind)&&decide (e.kind<=23)&&aC w s.sync e.thread e.kind e.obj&&Uh w e&&Ui w e&&Uj e&&lu (qN e.deps (aT s e.thread))&&lu (qN e.frm (aT s e.thread))&&H6 s e):=rfl;have hfe:nB w s=true->s.cells.length=w.cells.length/\s.futures.length=w.futures.length/\s.count.length=w.threads.length:=λh=>(dT.1 h).2
 have hnx:gW w s e=⟨(dx w s.sync e.thread e.kind e.obj (if e.kind=18 then e.value else -1)).1,if e.kind=4 then s.cells.set e.obj.toNat e.value else s.cells,if e.kind=22 then s.futures.set e.obj.toNat e.value else s.futures,s.count.set e.thread.toNat (IntKind.i64.wrap (aT s e.thread+1))⟩:=rfl;rw[hokd]at j M;rw[hnx]at M;unfold Uh Ui Uj at j M;clear hokd hnx;generalize lu (qN e.deps (aT s e.thread))=g1 at *;generalize lu (qN e.frm (aT s e.thread))=g2 at *;generalize H6 s e=g3 at *;generalize aC w s.sync e.thread e.kind e.obj=g4 at *;obtain⟨et,D,eo,ev,es,ed,ef⟩:=e;dsimp only at *;obtain⟨N,u⟩:∃b,b=(if D=1\/D=2 then decide (es=-1)else inB es w.sites.length&&decide ((w.sites.getD es.toNat default).thread=et)):=⟨_,rfl⟩;obtain⟨db,Y⟩:∃b,b=(decide (ed=[])||decide (D=5)||(decide (D=3\/D=4)&&decide ((w.cells.getD eo.toNat default).size≠0))):=⟨_,rfl⟩;obtain⟨fb,Z⟩:∃b,b=(decide (ef=[])||decide (D=4)||decide (D=22)):=⟨_,rfl⟩;rw[<-u,<-Y,<-Z]at j M;have hcr:inB et s.count.length=true->(s.count.map aa)[et.toNat]? =some [.acU (aT s et)]:=UX;rw[hwe,hye]at *;rw[dL,eH]at *;dsimp only at hn1 hn2 hv;obtain⟨wv,hwv⟩:∃x:AV,x=.pptr [[.lst (w.cells.map aU.enc),.lst (w.locks.map bZ.enc),.lst (w.conds.map cM.enc),.lst (w.futures.map ay),.lst (w.threads.map ay),.lst (w.sites.map cF.enc)]] 0 0:=⟨_,rfl⟩;obtain⟨sv,hsv⟩:∃x:AV,x=.pptr [[.lst (s.sync.locks.map LockD.enc),.acU s.sync.tx,.lst (s.sync.done.map au),.lst (s.sync.threads.map ThrD.enc),.lst (s.cells.map aa),.lst (s.futures.map aa),.lst (s.count.map aa)]] 0 0:=⟨_,rfl⟩;obtain⟨ev',hev⟩:∃x:AV,x=.pptr [[.acU et,.acU D,.acU eo,.acU ev,.acU es,.lst (ed.map aa),.lst (ef.map aa)]] 0 0:=⟨_,rfl⟩;have h6:∀S:Nat,(nB w s=true/\inB et w.threads.length=true/\1<=D/\D<=23/\g4=true)/\N=true/\db=true/\fb=true/\g1=true/\g2=true/\g3=true->Fo Q [(S,⟨7,[[.nils,.acU 0,.nils,.nils,.nils,.nils,.nils]]⟩)] sv ev' wv (.ptr S 0 0):=by
  rintro S ⟨⟨q1,q2,q3,q4,rfl⟩,rfl,rfl,rfl,rfl,rfl,rfl⟩;have hQ:=M (by simp[q1,q2,q3,q4]);have hal:=O rfl;obtain⟨f1,f2,f3⟩:=hfe q1;have hitc:inB et s.count.length=true:=by rw[f3];exact q2
  obtain⟨t0,t1⟩:=ao.1 hitc;have hrow:=hcr hitc;clear j M O hfe hcr hf hi1 hi2 he hn1 hn2 hv u Y Z;subst hwv hsv hev;have E:∀(n:gO) (L:SH) (B:SyncD) (cv fv nv:AV),Q=(λ(v:AV) (L:SH)=>∃v2 L2,ax [v] L [v2] L2/\v2=yW (some n)/\L2=[])->n.sync=B->Fz L cv (.lst (n.cells.map aa))->Fz L fv (.lst (n.futures.map aa))->Fz L nv (.lst (n.count.map aa))->
    Q (.tup [.agg [.lst (B.locks.map LockD.enc),.acU B.tx,.lst (B.done.map au),.lst (B.threads.map ThrD.enc),cv,fv,nv],.bool true]) L:=λn L B cv fv nv hQ hs f1 f2 f3=>by
   subst hQ hs;exact⟨_,[],ax.all (Fz.tups (.cons (Fz.aggs (m:=n.enc) (.cons (.refl _) (.cons (.refl _) (.cons (.refl _) (.cons (.refl _) (.cons f1 (.cons f2 (.cons f3 .nil)))))))) (.cons (.refl _) .nil))),rfl,rfl⟩
  by_cases k18:D=18
  .subst k18;have G:=G (ev);rw[if_pos (show((18:Int)=18)from rfl),if_neg (show¬((18:Int)=4) by decide),if_neg (show¬((18:Int)=22) by decide)]at hQ;have E:=λL cv fv nv=>E _ L _ cv fv nv hQ rfl
   clear hQ;generalize dx w s.sync et 18 eo (ev)=r at *;obtain⟨B,vv,bb⟩:=r;rw[show EV (B,vv,bb)=.tup [.agg [.lst (B.locks.map LockD.enc),.acU B.tx,.lst (B.done.map au),.lst (B.threads.map ThrD.enc)],.acU vv,.bool bb]from rfl]at G;dsimp only at E;refine vw ?_
   repeat' (first|refine aw t0 t1 rp acO ?_|refine aw t0 acN rp rfl ?_|refine sy ?_|refine dJ rp (λ_=>rfl) acP acS acS (λ_=>rfl) (λnb_ hnb_=>?_)|refine aO rp acP acP acP acP (by simp[aR]) ?_|refine dR rp hrow rfl ?_|refine s2 ?_ ?_|intro)
   all_goals
    refine E _ _ _ _ ?_ ?_ ?_
    .exact Fz.sls mm rfl (aaq _) acQ
    .exact Fz.sls mm rfl (aaq _) acQ
    .exact Fz.sls mm w4 (aaq _) acQ
  .by_cases k4:D=4
   .subst k4;have G:=G (-1);rw[if_neg (show¬((4:Int)=18) by decide),if_pos (show((4:Int)=4)from rfl),if_neg (show¬((4:Int)=22) by decide)]at hQ;have E:=λL cv fv nv=>E _ L _ cv fv nv hQ rfl
    clear hQ;generalize dx w s.sync et 4 eo (-1)=r at *;obtain⟨B,vv,bb⟩:=r;rw[show EV (B,vv,bb)=.tup [.agg [.lst (B.locks.map LockD.enc),.acU B.tx,.lst (B.done.map au),.lst (B.threads.map ThrD.enc)],.acU vv,.bool bb]from rfl]at G;dsimp only at E;have y:=jn (iK hal (.inr rfl) |> λh=>by rw[<-f1]at h;exact h);obtain⟨c0,c1⟩:=ao.1 (iK hal (.inr rfl));refine vw ?_
    repeat' (first|refine aw t0 t1 rp acO ?_|refine aw c0 acN rp rfl ?_|refine aw t0 acN rp rfl ?_|refine sy ?_|refine dJ rp (λ_=>rfl) acP acS acS (λ_=>rfl) (λnb_ hnb_=>?_)|refine aO rp acP acP acP acP (by simp[aR]) ?_|refine dR rp hrow rfl ?_|refine s2 ?_ ?_|intro)
    all_goals
     refine E _ _ _ _ ?_ ?_ ?_
     .exact Fz.sls mm w4 (aaq _) acQ
     .exact Fz.sls mm rfl (aaq _) acQ
     .exact Fz.sls mm w4 (aaq _) acQ
   .by_cases k22:D=22
    .subst k22;have G:=G (-1);rw[if_neg (show¬((22:Int)=18) by decide),if_neg (show¬((22:Int)=4) by decide),if_pos (show((22:Int)=22)from rfl)]at hQ;have E:=λL cv fv nv=>E _ L _ cv fv nv hQ rfl
     clear hQ;generalize dx w s.sync et 22 eo (-1)=r at *;obtain⟨B,vv,bb⟩:=r;rw[show EV (B,vv,bb)=.tup [.agg [.lst (B.locks.map LockD.enc),.acU B.tx,.lst (B.done.map au),.lst (B.threads.map ThrD.enc)],.acU vv,.bool bb]from rfl]at G;dsimp only at E;have y:=jn (o5 hal (.inl rfl) |> λh=>by rw[<-f2]at h;exact h);obtain⟨u0,u1⟩:=ao.1 (o5 hal (.inl rfl));refine vw ?_
     repeat' (first|refine aw t0 t1 rp acO ?_|refine aw u0 acN rp rfl ?_|refine aw t0 acN rp rfl ?_|refine sy ?_|refine dJ rp (λ_=>rfl) acP acS acS (λ_=>rfl) (λnb_ hnb_=>?_)|refine aO rp acP acP acP acP (by simp[aR]) ?_|refine dR rp hrow rfl ?_|refine s2 ?_ ?_|intro)
     all_goals
      refine E _ _ _ _ ?_ ?_ ?_
      .exact Fz.sls mm rfl (aaq _) acQ
      .exact Fz.sls mm w4 (aaq _) acQ
      .exact Fz.sls mm w4 (aaq _) acQ
    .have j18:decide (D=18)=false:=decide_eq_false k18;have j4:decide (D=4)=false:=decide_eq_false k4;have j22:decide (D=22)=false:=decide_eq_false k22;have G:=G (-1);rw[if_neg k18,if_neg k4,if_neg k22]at hQ;have E:=λL cv fv nv=>E _ L _ cv fv nv hQ rfl
     clear hQ;generalize dx w s.sync et D eo (-1)=r at *;obtain⟨B,vv,bb⟩:=r;rw[show EV (B,vv,bb)=.tup [.agg [.lst (B.locks.map LockD.enc),.acU B.tx,.lst (B.done.map au),.lst (B.threads.map ThrD.enc)],.acU vv,.bool bb]from rfl]at G;dsimp only at E;refine vw ?_
     repeat' (first|refine aw t0 t1 rp acO ?_|refine aw t0 acN rp rfl ?_|refine sy ?_|refine dJ rp (λ_=>rfl) acP acS acS (λ_=>rfl) (λnb_ hnb_=>?_)|refine aO rp acP acP acP acP (by simp[aR]) ?_|refine dR rp hrow rfl ?_|refine s2 ?_ ?_|intro)
     all_goals
      refine E _ _ _ _ ?_ ?_ ?_
      .exact Fz.sls mm rfl (aaq _) acQ
      .exact Fz.sls mm rfl (aaq _) acQ
      .exact Fz.sls mm w4 (aaq _) acQ
 have h7:∀S:Nat,(nB w s=true/\inB et w.threads.length=true/\1<=D/\D<=23/\g4=true)/\N=true/\db=true/\fb=true->Fq Q [(S,⟨7,[[.nils,.acU 0,.nils,.nils,.nils,.nils,.nils]]⟩)] ev' sv (.ptr S 0 0) wv:=by
  rintro S ⟨⟨q1,q2,q3,q4,rfl⟩,rfl,rfl,rfl⟩;obtain⟨f1,f2,f3⟩:=hfe q1;have hitc:inB et s.count.length=true:=by rw[f3];exact q2
  obtain⟨t0,t1⟩:=ao.1 hitc;have hrow:=hcr hitc;have hv:=hv rfl q1;have h6:=h6 S;have j:=λh=>j h
  clear M G O hfe hcr hf hi1 hi2 he;subst hwv hsv hev;cases g1 with
  |false=>
   have E:=j acQ;clear j h6;refine vw ?_
   repeat' (first|refine aw t0 t1 rp acO ?_|refine sy ?_|refine s2 ?_ ?_|intro)
   all_goals exact E _
  |true=>
  cases g2 with
  |false=>
   have E:=j acQ;clear j h6;refine vw ?_
   repeat' (first|refine aw t0 t1 rp acO ?_|refine sy ?_|refine s2 ?_ ?_|intro)
   all_goals exact E _
  |true=>
  cases g3 with
  |false=>
   have E:=j acQ;clear j h6;refine vw ?_
   repeat' (first|refine aw t0 t1 rp acO ?_|refine sy ?_|refine s2 ?_ ?_|intro)
   all_goals exact E _
  |true=>
  have h6:=h6 ⟨⟨q1,q2,q3,q4,rfl⟩,rfl,rfl,rfl,rfl,rfl,rfl⟩;clear j;refine vw ?_
  repeat' (first|with_reducible exact h6|refine aw t0 t1 rp acO ?_|refine sy ?_|refine s2 ?_ ?_|intro)
 have h8:∀S:Nat,(nB w s=true/\inB et w.threads.length=true/\1<=D/\D<=23/\g4=true)/\N=true/\db=true->Fs Q [(S,⟨7,[[.nils,.acU 0,.nils,.nils,.nils,.nils,.nils]]⟩)] ev' (.ptr S 0 0) sv wv:=by
  rintro S ⟨hc,rfl,rfl⟩;have h7:=h7 S;have j:=λh=>j h
  clear h6 M G O hfe hcr hf hi1 hi2 he hn1 hn2 hv;subst hwv hsv hev;by_cases z1:ef=[]
  .obtain rfl:fb=true:=by rw[Z];simp[z1]
   have h7:=h7 ⟨hc,rfl,rfl,rfl⟩;have q0:=ZX z1;clear j;refine vw ?_
   repeat' (first|with_reducible exact h7|refine sy ?_|refine s2 ?_ ?_|intro)
  .have q0:=ZY z1;by_cases z2:D=4
   .obtain rfl:fb=true:=by rw[Z];simp[z2]
    have h7:=h7 ⟨hc,rfl,rfl,rfl⟩;have q1:decide (D≠4)=false:=decide_eq_false λh=>h z2
    clear j;refine vw ?_
    repeat' (first|with_reducible exact h7|refine sy ?_|refine s2 ?_ ?_|intro)
   .have q1:decide (D≠4)=true:=decide_eq_true z2;by_cases z3:D=22
    .obtain rfl:fb=true:=by rw[Z];simp[z3]
     have h7:=h7 ⟨hc,rfl,rfl,rfl⟩;have q2:decide (D≠22)=false:=decide_eq_false λh=>h z3
     clear j;refine vw ?_
     repeat' (first|with_reducible exact h7|refine sy ?_|refine s2 ?_ ?_|intro)
    .have q2:decide (D≠22)=true:=decide_eq_true z3;obtain rfl:fb=false:=by rw[Z];simp[z1,z2,z3]
     have E:=j acQ;clear j h7;refine vw ?_
     repeat' (first|refine sy ?_|refine s2 ?_ ?_|intro)
     all_goals exact E _
 have h5:∀S:Nat,(nB w s=true/\inB et w.threads.length=true/\1<=D/\D<=23/\g4=true)/\N=true->Ft Q [wv,sv,ev',.ptr S 0 0,.bool false] [(S,⟨7,[[.nils,.acU 0,.nils,.nils,.nils,.nils,.nils]]⟩)]:=by
  rintro S ⟨hc,rfl⟩;have h8:=h8 S;have j:=λh=>j h
  have hal:=O hc.2.2.2.2;clear h6 h7 M G O hfe hcr hf hi1 hi2 he hn1 hn2 hv;subst hwv hsv hev;by_cases z1:ed=[]
  .obtain rfl:db=true:=by rw[Y];simp[z1]
   have h8:=h8 ⟨hc,rfl,rfl⟩;have q0:=ZX z1;clear j;refine vw ?_
   repeat' (first|with_reducible exact h8|refine sy ?_|refine s2 ?_ ?_|intro)
  .have q0:=ZY z1;by_cases z2:D=5
   .obtain rfl:db=true:=by rw[Y];simp[z2]
    have h8:=h8 ⟨hc,rfl,rfl⟩;have q1:decide (D≠5)=false:=decide_eq_false λh=>h z2
    clear j;refine vw ?_
    repeat' (first|with_reducible exact h8|refine sy ?_|refine s2 ?_ ?_|intro)
   .have q1:decide (D≠5)=true:=decide_eq_true z2;by_cases z3:D=3\/D=4
    .have qc:=cq (f:=aU.enc) (iK hal z3);obtain⟨c0,c1⟩:=ao.1 (iK hal z3);change (w.cells.map aU.enc)[eo.toNat]? =some (w.cells.getD eo.toNat default).enc at qc;generalize w.cells.getD eo.toNat default=cl at *;obtain⟨cn,ci,cz,cv,cin⟩:=cl;rw[show aU.enc ⟨cn,ci,cz,cv,cin⟩=[.str cn,.acU ci,.acU cz,.bool cv,.acU cin]from rfl]at qc;dsimp only at Y;have z3':(decide (D=3)=true\/(decide (D=3)=false/\decide (D=4)=true)):=by
      rcases z3 with h|h
      .exact .inl (decide_eq_true h)
      .exact .inr ⟨decide_eq_false acN,decide_eq_true h⟩
     by_cases z4:cz=0
     .obtain rfl:db=false:=by rw[Y];simp[z1,z2,z4]
      have E:=j acQ;have q4:decide (cz≠0)=false:=decide_eq_false λh=>h z4
      have q4':(!decide (cz≠0))=true:=by rw[q4];rfl
      clear j h8 Y;refine vw ?_;rcases z3' with z5|⟨z5,z6⟩
      all_goals
       repeat' (first|refine aw c0 c1 rp acO ?_|refine sy ?_|refine s2 ?_ ?_|intro)
       all_goals exact E _
     .obtain rfl:db=true:=by rw[Y];simp[z3,z4]
      have h8:=h8 ⟨hc,rfl,rfl⟩;have q4:decide (cz≠0)=true:=decide_eq_true z4;have q4':(!decide (cz≠0))=false:=by rw[q4];rfl
      clear j Y;refine vw ?_;rcases z3' with z5|⟨z5,z6⟩
      all_goals
       repeat' (first|with_reducible exact h8|refine aw c0 c1 rp acO ?_|refine sy ?_|refine s2 ?_ ?_|intro)
    .have q3:decide (D=3)=false:=decide_eq_false λh=>z3 (.inl h)
     have q4:decide (D=4)=false:=decide_eq_false λh=>z3 (.inr h)
     obtain rfl:db=false:=by rw[Y];simp[z1,z2,z3]
     have E:=j acQ;clear j h8;refine vw ?_
     repeat' (first|refine sy ?_|refine s2 ?_ ?_|intro)
     all_goals exact E _
 clear h6 h7 h8 M G hv O hfe hcr hn1 hn2;subst hwv hsv hev;cases hfb:nB w s with
 |false=>
  rw[hfb]at hf j;have E:=j acQ;clear j h5
  repeat' (first|refine sy ?_|refine s2 ?_ ?_|intro)
  exact E _
 |true=>
 rw[hfb]at hf j;cases hib:inB et w.threads.length with
 |false=>
  rw[hib]at hi1 j;have E:=j acQ;clear j h5
  repeat' (first|refine sy ?_|refine s2 ?_ ?_|intro)
  exact E _
 |true=>
 rw[hib]at hi1 j;by_cases k0:1<=D
 .have d0:decide (D<1)=false:=decide_eq_false acN;by_cases k1:D<=23
  .have d1:decide (23<D)=false:=decide_eq_false acN;cases g4 with
   |false=>
    have E:=j acQ;clear j h5
    repeat' (first|refine sy ?_|refine s2 ?_ ?_|intro)
    exact E _
   |true=>
   by_cases z1:D=1\/D=2
   .have z1':(decide (D=1)=true\/(decide (D=1)=false/\decide (D=2)=true)):=by
     rcases z1 with h|h
     .exact .inl (decide_eq_true h)
     .exact .inr ⟨decide_eq_false acN,decide_eq_true h⟩
    rw[if_pos z1]at u;by_cases z2:es=-1
    .have q2:decide (es≠-1)=false:=decide_eq_false λh=>h z2
     have h5:=λS=>h5 S ⟨⟨hfb,hib,k0,k1,rfl⟩,by rw[u];simp[z2]⟩
     clear j u
     skip
     rcases z1' with z5|⟨z5,z6⟩
     all_goals
      repeat' (first|exact h5 _|refine sy ?_|refine s2 ?_ ?_|intro)
    .have q2:decide (es≠-1)=true:=decide_eq_true z2;obtain rfl:N=false:=by rw[u];simp[z2]
     have E:=j acQ;clear j u h5
     skip
     rcases z1' with z5|⟨z5,z6⟩
     all_goals
      repeat' (first|refine sy ?_|refine s2 ?_ ?_|intro)
      all_goals exact E _
   .have q3:decide (D=1)=false:=decide_eq_false λh=>z1 (.inl h)
    have q4:decide (D=2)=false:=decide_eq_false λh=>z1 (.inr h)
    rw[if_neg z1]at u;cases hib2:inB es w.sites.length with
    |false=>
     rw[hib2]at hi2;obtain rfl:N=false:=by rw[u,hib2];simp
     have E:=j acQ;clear j u h5
     skip
     repeat' (first|refine sy ?_|refine s2 ?_ ?_|intro)
     all_goals exact E _
    |true=>
    rw[hib2]at hi2 u;have hsr:=cq (f:=cF.enc) hib2;obtain⟨u0,u1⟩:=ao.1 hib2;change (w.sites.map cF.enc)[es.toNat]? =some (w.sites.getD es.toNat default).enc at hsr;generalize w.sites.getD es.toNat default=sr at *;obtain⟨yr,srs,srl⟩:=sr;rw[show cF.enc ⟨yr,srs,srl⟩=[.acU yr,.acU srs,.acU srl]from rfl]at hsr;dsimp only at u;by_cases qs:yr=et
    .have qs2:decide (yr≠et)=false:=decide_eq_false λh=>h qs
     have h5:=λS=>h5 S ⟨⟨hfb,hib,k0,k1,rfl⟩,by rw[u];simp[qs]⟩
     clear j u
     skip
     repeat' (first|exact h5 _|refine aw u0 u1 rp acO ?_|refine sy ?_|refine s2 ?_ ?_|intro)
    .have qs2:decide (yr≠et)=true:=decide_eq_true qs;obtain rfl:N=false:=by rw[u];simp[qs]
     have E:=j acQ;clear j u h5
     skip
     repeat' (first|refine aw u0 u1 rp acO ?_|refine sy ?_|refine s2 ?_ ?_|intro)
     all_goals exact E _
  .have d1:decide (23<D)=true:=decide_eq_true acN;have E:=j (by simp[k1]);clear j h5
   repeat' (first|refine sy ?_|refine s2 ?_ ?_|intro)
   exact E _
 .have d0:decide (D<1)=true:=decide_eq_true acN;have E:=j (by simp[k0]);clear j h5
  repeat' (first|refine sy ?_|refine s2 ?_ ?_|intro)
  exact E _
