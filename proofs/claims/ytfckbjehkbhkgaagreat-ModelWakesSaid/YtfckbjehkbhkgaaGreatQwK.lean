/- part -/
import Derived.Test.YtfckbjehkbhkgaaGreatQwJ
set_option linter.all false
set_option maxRecDepth 100000
set_option maxHeartbeats 0
namespace Go.Proofs.YtfckbjehkbhkgaaGreat.Am
def SD(w:aG)(t d:Int):Prop:=aT w.init t<=d->(jA w (ep w t (d-aT w.init t))).kind=3\/(jA w (ep w t (d-aT w.init t))).kind=23
def DU(w:aG)(t:Int)(l:List Int)(hl:w.ev.length<=400)(ht:inB t w.init.count.length=true)(hc:0<=aT w.init t)(hd9:∀d∈l,d<9223372036854775808)(hll:l.length<2^40):
  Lb 99 [.agg w.enc,.acU t,.lst (l.map aa)] (∀d∈l,SD w t d):=by
 refine SC ?_ (aA w.pure (aA (.int _ _) (aA (.lmap λx _=>by unfold aa;exact aA (.int _ _) dS) dS)));refine ac.fz (Cr _ _ _ _ _ ?_);refine vw ?_;generalize hQ:(λ(v:AV) (L:SH)=>∃v2 L2,ax [v] L [v2] L2/\∃b:Bool,v2=.bool b/\L2=[]/\(b=true->∀d∈l,SD w t d))=Q;have u:∀L,Q (.bool false) L:=λL=>by subst hQ;exact⟨_,[],ax.all (.refl _),false,rfl,rfl,nofun⟩
 have D:(∀d∈l,SD w t d)->∀L,Q (.bool true) L:=λh L=>by subst hQ;exact⟨_,[],ax.all (.refl _),true,rfl,rfl,λ_=>h⟩
 clear hQ;obtain⟨S,O⟩:=ao.1 ht;have hcr:=CR ht;have lp:W.loop (Cq Q) [.acU t,.lst (l.map aa),.pptr [w.enc] 0 0,.acU (0:Nat)] []:=by
  refine cT l.length (λk=>∀j (hj:j<l.length),j<k->SD w t l[j]) (λk=>[.acU t,.lst (l.map aa),.pptr [w.enc] 0 0,.acU k]) acN (λj _ h=>absurd h acN) rfl (λk g1 hd hk hG nx E=>?_) (λk g1 hd hG nx=>?_)
  all_goals refine vw ?_
  .have hx:(l.map aa)[k]? =some [.acU l[k]]:=aj (f:=aa) g1;have h9:=hd9 _ (LT g1);have E:SD w t l[k]->nx [.acU t,.lst (l.map aa),.pptr [w.enc] 0 0,.acU ((k+1:Nat):Int)] []:=λh=>E λj hj hjk=>by
    rcases LE j k with g|g
    .exact hG j hj g
    .obtain rfl:j=k:=by omega
     exact h
   clear hG hd9 D;unfold SD at E;generalize l[k]=d at *;by_cases z1:d<aT w.init t
   .have d1:decide (d<aT w.init t)=true:=decide_eq_true z1;have G:=E λh=>absurd h acN
    clear u E;generalize aT w.init t=c at *;rw[bj]at *
    repeat' (first|refine aw S O rp acO ?_|refine sy ?_|refine s2 ?_ ?_|intro)
    exact G
   .have d1:decide (d<aT w.init t)=false:=decide_eq_false z1;have Z:=qQ w t (d-aT w.init t).toNat acN hl;rw[abD acN]at Z;have e1:IntKind.i64.wrap (d-aT w.init t)=d-aT w.init t:=wQ acN acN;rcases Kl (w:=w) (t:=t) (k:=d-aT w.init t)with⟨p0,p1⟩|p0
    .obtain⟨_,p2,_⟩:=yx p1;have hb:inB (ep w t (d-aT w.init t)) w.ev.length=true:=ao.2 ⟨p0,p2⟩;have Y:(w.ev.map bA.enc)[(ep w t (d-aT w.init t)).toNat]? =some (jA w (ep w t (d-aT w.init t))).enc:=by
      have hlt:(ep w t (d-aT w.init t)).toNat<w.ev.length:=by omega
      rw[aj (f:=bA.enc) hlt];simp[jA,List.getD,hlt]
     have M:=λh=>E λ_=>h
     clear E;generalize ep w t (d-aT w.init t)=x at *;generalize jA w x=e at *;have d2:decide (x<0)=false:=decide_eq_false acN;obtain⟨et,B,eo,ev,es,ed,ef⟩:=e;rw[eH]at Y;dsimp only at M Y;by_cases z3:B=3
     .have G:=M (.inl z3);clear M;have d3:decide (B=3)=true:=decide_eq_true z3;have d4:decide (B≠3)=false:=decide_eq_false λh=>h z3
      clear u p1;generalize aT w.init t=c at *;rw[bj]at *
      repeat' (first|refine aw S O rp acO ?_|refine aw p0 p2 rp acO ?_|refine sy ?_|refine s2 ?_ ?_|intro)
      exact G
     .have d3:decide (B=3)=false:=decide_eq_false z3;have d4:decide (B≠3)=true:=decide_eq_true z3;by_cases N:B=23
      .have G:=M (.inr N);clear M;have d5:decide (B=23)=true:=decide_eq_true N;have d6:decide (B≠23)=false:=decide_eq_false λh=>h N
       clear u p1;generalize aT w.init t=c at *;rw[bj]at *
       repeat' (first|refine aw S O rp acO ?_|refine aw p0 p2 rp acO ?_|refine sy ?_|refine s2 ?_ ?_|intro)
       exact G
      .have d5:decide (B=23)=false:=decide_eq_false N;have d6:decide (B≠23)=true:=decide_eq_true N;clear M p1;generalize aT w.init t=c at *;rw[bj]at *
       repeat' (first|refine aw S O rp acO ?_|refine aw p0 p2 rp acO ?_|refine sy ?_|refine s2 ?_ ?_|intro)
       exact u _
    .clear E;rw[p0]at Z;generalize aT w.init t=c at *;rw[bj]at *
     repeat' (first|refine aw S O rp acO ?_|refine sy ?_|refine s2 ?_ ?_|intro)
     exact u _
  .have G:=D λd hd=>by obtain⟨j,hj,rfl⟩:=abC hd;exact hG j hj acN
   clear u D;rw[bj]at *
   repeat' (first|refine sy ?_|refine s2 ?_ ?_|intro)
   exact G _
 clear u D;rw[bj]at *
 repeat' (first|refine sy ?_|refine s2 ?_ ?_|intro)
 exact lp
def IG(w:aG)(hf:nB w.w w.init=true)(hcl:w.init.count.length<2^40)(hlk:w.init.sync.locks.length<2^40)(hth:w.init.sync.threads.length<2^40)(rd:∀l∈w.init.sync.locks,l.readers.length<=400)(hcd:∀t∈w.init.sync.threads,t.cond=0)(nc:0<w.w.conds.length):Lb 98 [.agg w.enc] True:=by
 have hF:=cH.1 (dT.1 hf).1;refine SC ?_ (aA w.pure dS);refine ac.fz (ye _ _ _ ?_);refine vw ?_;generalize hQ:(λ(v:AV) (L:SH)=>∃v2 L2,ax [v] L [v2] L2/\∃b:Bool,v2=.bool b/\L2=[]/\(b=true->True))=Q;have O:∀b L,Q (.bool b) L:=λb L=>by subst hQ;exact⟨_,[],ax.all (.refl _),b,rfl,rfl,λ_=>trivial⟩
 clear hQ;have D:=λt=>MY w t hcl
 have j:w.init.sync.enc=[.lst (w.init.sync.locks.map LockD.enc),.acU w.init.sync.tx,.lst (w.init.sync.done.map au),.lst (w.init.sync.threads.map ThrD.enc)]:=rfl;have B:W.loop (yb Q) [.pptr [w.enc] 0 0,.pptr [w.init.sync.enc] 0 0,.acU 0] []:=by
  refine cT w.init.sync.threads.length (λ_=>True) (λk=>[.pptr [w.enc] 0 0,.pptr [w.init.sync.enc] 0 0,.acU k]) acN trivial rfl (λk M hd hk _ nx G=>?_) (λk M hd _ nx=>?_)
  all_goals refine vw ?_
  .have Y:=aj (f:=ThrD.enc) M;have Z:=hcd _ (List.getElem_mem M);have G:=G trivial;generalize w.init.sync.threads[k]=t at *;obtain⟨t1,t2,t3⟩:=t;dsimp only at Z;subst Z;rw[show ThrD.enc ⟨t1,0,t3⟩=[.acU t1,.acU 0,.bool t3]from rfl]at Y;have hy:=aj (f:=cM.enc) nc;have hm:=hF.conds _ (List.getElem_mem nc);generalize w.w.conds[0]=c at *;obtain⟨cn,cm⟩:=c;rw[show cM.enc ⟨cn,cm⟩=[.str cn,.acU cm]from rfl]at hy;dsimp only at hm;rw[<-hF.locks]at hm;have hz:=cq (f:=LockD.enc) hm;obtain⟨m0,m1⟩:=ao.1 hm;change (w.init.sync.locks.map LockD.enc)[cm.toNat]? =some (w.init.sync.locks.getD cm.toNat default).enc at hz;generalize w.init.sync.locks.getD cm.toNat default=l at *;obtain⟨l1,l2⟩:=l;rw[show LockD.enc ⟨l1,l2⟩=[.acU l1,.lst (l2.map aa)]from rfl]at hz;have D:=D k;generalize(inB (k:Int) w.init.count.length&&decide (1<=aT w.init k))=bb at *;rw[j,bj]at *
   repeat' (first|refine aw m0 m1 rp acO ?_|refine sy ?_|refine s2 ?_ ?_|intro)
   all_goals first
    |exact O _ _
    |exact G
  .rw[j,bj]at *
   repeat' (first|refine sy ?_|refine s2 ?_ ?_|intro)
   all_goals exact O _ _
 have lp3:W.loop (yd Q) [.pptr [w.enc] 0 0,.pptr [w.init.sync.enc] 0 0,.acU 0] []:=by
  refine cT w.init.sync.locks.length (λ_=>True) (λk=>[.pptr [w.enc] 0 0,.pptr [w.init.sync.enc] 0 0,.acU k]) acN trivial rfl (λk M hd hk _ nx G=>?_) (λk M hd _ nx=>?_)
  all_goals refine vw ?_
  .have Y:=aj (f:=LockD.enc) M;have hy:=aj (f:=bZ.enc) (show k<w.w.locks.length by rw[<-hF.locks];exact M);have hr:=rd _ (List.getElem_mem M);have G:=G trivial;generalize w.init.sync.locks[k]=l at *;generalize w.w.locks[k]'(by rw[<-hF.locks];exact M)=lw at *;obtain⟨N,u⟩:=l;obtain⟨ln,lb⟩:=lw;rw[show LockD.enc ⟨N,u⟩=[.acU N,.lst (u.map aa)]from rfl]at Y;rw[show bZ.enc ⟨ln,lb⟩=[.str ln,.bool lb]from rfl]at hy;dsimp only at hr;have lp1:W.loop (x9 Q nx) [.pptr [w.enc] 0 0,.pptr [w.init.sync.enc] 0 0,.acU k,.pptr [[.acU N,.lst (u.map aa)]] 0 0,.acU 0] []:=by
    refine cT u.length (λ_=>True) (λi=>[.pptr [w.enc] 0 0,.pptr [w.init.sync.enc] 0 0,.acU k,.pptr [[.acU N,.lst (u.map aa)]] 0 0,.acU i]) acN trivial rfl (λi g2 hd2 hk2 _ nx2 E=>?_) (λi g2 hd2 _ nx2=>?_)
    all_goals refine vw ?_
    .have E:=E trivial;have hx2:(u.map aa)[i]? =some [.acU u[i]]:=aj (f:=aa) g2;by_cases i0:i=0
     .subst i0;have d0:decide ((0:Int)<((0:Nat):Int))=false:=rfl;generalize u[0]=x at *;have D:=D x;generalize(inB x w.init.count.length&&decide (1<=aT w.init x))=bb at *;clear G B Y;rw[j,bj]at *
      repeat' (first|refine sy ?_|refine s2 ?_ ?_|intro)
      all_goals first
       |exact O _ _
       |exact E
     .have d0:decide ((0:Int)<(i:Int))=true:=decide_eq_true acN;have e1:IntKind.i64.wrap ((i:Int)-1)=((i-1:Nat):Int):=by rw[abg _ acN];omega
      have S:(u.map aa)[i-1]? =some [.acU (u[i-1]'acN)]:=aj (f:=aa) acN;have v0:0<=IntKind.i64.wrap ((i:Int)-1):=by rw[e1];omega
      have v1:IntKind.i64.wrap ((i:Int)-1)<(u.length:Int):=by rw[e1];omega
      have hx4:(u.map aa)[(IntKind.i64.wrap ((i:Int)-1)).toNat]? =some [.acU (u[i-1]'acN)]:=by rw[e1];exact S
      clear S;generalize u[i-1]'acN=y at *;generalize u[i]=x at *;have D:=D x;generalize(inB x w.init.count.length&&decide (1<=aT w.init x))=bb at *;clear G B Y e1;rw[j,bj]at *
      repeat' (first|refine aw v0 v1 rp acO ?_|refine sy ?_|refine s2 ?_ ?_|intro)
      all_goals first
       |exact O _ _
       |exact E
    .clear B;rw[j,bj]at *
     repeat' (first|refine sy ?_|refine s2 ?_ ?_|intro)
     all_goals exact G
   have D:=D N;generalize(inB N w.init.count.length&&decide (1<=aT w.init N))=bb at *;clear B;rw[j,bj]at *
   repeat' (first|with_reducible exact lp1|refine sy ?_|refine s2 ?_ ?_|intro)
   all_goals exact O _ _
  .have D:=D w.init.sync.tx;generalize(inB w.init.sync.tx w.init.count.length&&decide (1<=aT w.init w.init.sync.tx))=bb at *;rw[j,bj]at *
   repeat' (first|with_reducible exact B|refine sy ?_|refine s2 ?_ ?_|intro)
   all_goals exact O _ _
 clear B;rw[j,bj]at *
 repeat' (first|refine sy ?_|refine s2 ?_ ?_|intro)
 exact lp3
