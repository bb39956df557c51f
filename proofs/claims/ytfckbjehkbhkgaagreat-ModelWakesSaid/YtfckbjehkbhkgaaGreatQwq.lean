/- part -/
import Derived.Test.YtfckbjehkbhkgaaGreatQwp
set_option linter.all false
set_option maxRecDepth 100000
set_option maxHeartbeats 0
namespace Go.Proofs.YtfckbjehkbhkgaaGreat.Am
section
section
variable {w:aF} {t:Nat} {c:i6} {k:Nat} {i:cb} (h0:0<=c.regs) (Q:R) (n36:W.Kn)
 (hno:¬(∀r∈bS i,0<=r/\r<c.regs)->Q (.bool false) [])
 (hgo:(∀r∈bS i,0<=r/\r<c.regs)->n36 [.acU t,.pptr [w.enc] 0 0,.pptr [c.enc] 0 0,.acU c.ins.length,.acU (k+1:Nat)] [])
 (hl:c.ins.length<2^48) (hk:k<c.ins.length)
include h0 hno hgo hl hk
theorem Un:W.loop (jx Q n36) [.acU t,.pptr [w.enc] 0 0,.pptr [c.enc] 0 0,.acU c.ins.length,.acU k,.lst ((bS i).map aa),.acU 0] []:=by
 obtain⟨M,u⟩:=abH h0;have O:IntKind.i64.wrap ((k:Int)+1)=((k+1:Nat):Int):=av hk acN;refine cT (bS i).length (λj=>∀r∈(bS i).take j,0<=r/\r<c.regs) (λj=>[.acU t,.pptr [w.enc] 0 0,.pptr [c.enc] 0 0,.acU c.ins.length,.acU k,.lst ((bS i).map aa),.acU (j:Int)]) (by have:=O9 i;omega) acQ rfl (λj B Y hi E N S=>?_) (λj B Y E N=>?_)
 all_goals refine vw ?_
 .have Z:=aj (f:=aa) B;have G:=nD (bS i)[j] M;rw[<-u]at G;cases D:inB (bS i)[j] M with
  |false=>
   rw[D]at G;have:¬ ∀r∈bS i,0<=r/\r<c.regs:=λh=>by have:=h _ (LT B);rw[u,<-ao,D]at this;cases this
   repeat' (first|refine sy ?_|refine s2 ?_ ?_|intro)
   exact hno this
  |true=>
   rw[D]at G
   repeat' (first|refine sy ?_|refine s2 ?_ ?_|intro)
   refine S (JS B E ?_);rw[u];exact ao.1 D
 .subst B;rw[acx]at E
  repeat' (first|refine sy ?_|refine s2 ?_ ?_|intro)
  exact hgo E
end
theorem Az(w:aF)(t:Nat)(c:i6)(hl:c.ins.length<2^48):aq Tryz.prog 121 [.agg w.enc,.acU t,.agg c.enc] (.bool (lu (HY w t c))):=by
 refine qW _ _ _ _ _ ?_;refine vw ?_;generalize hQ:(λ(u:AV) (K:SH)=>u=AV.bool (lu (HY w t c))/\K=[])=Q;have hq:∀b,lu (HY w t c)=b->Q (.bool b) []:=λb hb=>by subst hQ;exact⟨by rw[hb],rfl⟩
 clear hQ;by_cases h0:0<=c.regs/\c.regs<=32/\0<c.ins.length
 .obtain⟨h0,h32,hn0⟩:=h0;have d1:decide (c.regs<0)=false:=by simpa using h0
  have d2:decide (c.regs > 32)=false:=by simpa using h32
  have d3:decide ((c.ins.length:Int)=0)=false:=decide_eq_false acN
  repeat' (first|refine sx ?_|refine sb λnb_ hnb_=>?_|refine s2 (λh=>?_) λh=>?_|fail)
  refine cT c.ins.length (λk=>∀j (h:j<c.ins.length),j<k->Mm w t c.ins.length c.regs j c.ins[j]/\yn c.ins j) (λk=>[.acU t,.pptr [w.enc] 0 0,.pptr [c.enc] 0 0,.acU c.ins.length,.acU (k:Int)]) acN (λj h hj=>absurd hj (Nat.not_lt_zero _)) rfl (λk hk hd hi hG nx hn=>?_) (λk hk hd hG nx=>?_)
  all_goals refine vw ?_
  .have hx:=aj (f:=cb.enc) hk;have hno:¬(Mm w t c.ins.length c.regs k c.ins[k]/\yn c.ins k)->Q (.bool false) []:=λh=>hq _ (gU λh2=>h ⟨h2.ins k hk,h2.lans k hk⟩)
   have hgo:Mm w t c.ins.length c.regs k c.ins[k]->yn c.ins k->nx [.acU t,.pptr [w.enc] 0 0,.pptr [c.enc] 0 0,.acU c.ins.length,.acU (k+1:Nat)] []:=λh h2=>hn λj hj hjk=>by
    rcases LE j k with g|g
    .exact hG j hj g
    .have e:j=k:=by omega
     subst e;exact⟨h,h2⟩
   clear hn hG hq;have Y:=RH c.ins k hl;generalize hL:lu (yn c.ins k)=la at Y;have S:la=true↔yn c.ins k:=by rw[<-hL];exact iH
   clear hL;generalize c.ins[k]=i at hx hno hgo;have O:=Ms w i;have N:=oS i;have hja:=nD i.a c.ins.length;have hjb:=nD i.b c.ins.length;have G:=nD i.site w.sites.length;have hl1:=λhno hgo=>Un (w:=w) (t:=t) (k:=k) (i:=i) h0 Q nx hno hgo hl hk
   have hs1:IntKind.i64.wrap ((c.ins.length:Int)-1)=((c.ins.length-1:Nat):Int):=by rw[abg _ acN];omega
   have Z:Rs c.ins.length i=if i.op=5 then inB i.a c.ins.length else if i.op=10 then inB i.b c.ins.length else true:=rfl
   generalize inB i.a c.ins.length=ja at *;generalize inB i.b c.ins.length=jb at *;have B:¬(1<=i.op/\i.op<=28/\(i.op=28↔k+1=c.ins.length)/\(i.op=28->i.site=-1)/\(i.op≠28->inB i.site w.sites.length=true)/\(i.op≠28->(w.sites.getD i.site.toNat default).thread=t)/\(∀r∈bS i,0<=r/\r<c.regs)/\sK w i=true/\(i.op=5->ja=true)/\(i.op=10->jb=true)/\la=true)->Q (.bool false) []:=λh=>hno λE=>h ⟨E.1.lo,E.1.hi,E.1.last,E.1.fin,E.1.sin,E.1.sth,E.1.regs,E.1.obj,λh5=>by have:=E.1.jmp;rw[Z,if_pos h5]at this;exact this,λh10=>by have:=E.1.jmp;rw[Z,if_neg acN,if_pos h10]at this;exact this,S.2 E.2⟩
   have D:(1<=i.op/\i.op<=28/\(i.op=28↔k+1=c.ins.length)/\(i.op=28->i.site=-1)/\(i.op≠28->inB i.site w.sites.length=true)/\(i.op≠28->(w.sites.getD i.site.toNat default).thread=t)/\sK w i=true/\(i.op=5->ja=true)/\(i.op=10->jb=true)/\la=true)->W.loop (jx Q nx) [.acU t,.pptr [w.enc] 0 0,.pptr [c.enc] 0 0,.acU c.ins.length,.acU k,.lst ((bS i).map aa),.acU 0] []:=λh=>hl1 (λh2=>B λh3=>h2 h3.2.2.2.2.2.2.1) λh2=>hgo ⟨h.1,h.2.1,h.2.2.1,h.2.2.2.1,h.2.2.2.2.1,h.2.2.2.2.2.1,h2,h.2.2.2.2.2.2.1,by
     rw[Z];split
     .rename_i h5;exact h.2.2.2.2.2.2.2.1 h5
     .split
      .rename_i h5;exact h.2.2.2.2.2.2.2.2.1 h5
      .rfl⟩ (S.1 h.2.2.2.2.2.2.2.2.2)
   clear hno hgo hl1 Z S;generalize sK w i=ob at *;generalize hrr:(bS i).map aa=rr at *;have hrx:(∀r∈bS i,0<=r/\r<c.regs)=(∀r∈bS i,0<=r/\r<c.regs):=rfl;generalize(∀r∈bS i,0<=r/\r<c.regs)=RP at *;clear hrx hrr;obtain⟨op,ia,ib,ic,m,M⟩:=i;have he:cb.enc ⟨op,ia,ib,ic,m,M⟩=[.acU op,.acU ia,.acU ib,.acU ic,.acU m,.acU M]:=rfl;rw[he]at hx O N;clear he;dsimp only at *;cases hb:inB M w.sites.length with
   |false=>
    rw[hb]at G B D
    repeat' (first|refine sy ?_|refine s2 ?_ ?_|intro)
    all_goals first
     |(refine B λE=>?_;obtain⟨f1,f2,f3,f4,f5,f6,f7,f8,f9,f10,f11⟩:=E;clear O Y N hja hjb G hx B D f7;simp only[decide_eq_true_eq,decide_eq_false_iff_not,ge_iff_le,gt_iff_lt,ne_eq,Decidable.not_not,decide_eq_decide,Bool.not_eq_true',Bool.not_eq_false',acI,Bool.not_eq_false,abj,imp_false]at *;grind)
     |(refine D ?_;clear O Y N hja hjb G hx B D;simp only[decide_eq_true_eq,decide_eq_false_iff_not,ge_iff_le,gt_iff_lt,ne_eq,Decidable.not_not,decide_eq_decide,Bool.not_eq_true',Bool.not_eq_false',acI,Bool.not_eq_false,abj,imp_false]at *;grind)
   |true=>
    rw[hb]at G B D;obtain⟨ks,rfl⟩:=abH (dY hb);have hks:ks<w.sites.length:=by have:=(ao.1 hb).2;omega
    have hx2:=aj (f:=cF.enc) hks;rw[Int.toNat_natCast,List.getD_eq_getElem?_getD,List.getElem?_eq_getElem hks,Option.getD_some]at B D;generalize w.sites[ks]=s at *;obtain⟨th,sm,ln⟩:=s;unfold cF.enc at hx2;dsimp only at *
    repeat' (first|refine sy ?_|refine s2 ?_ ?_|intro)
    all_goals first
     |(refine B λE=>?_;obtain⟨f1,f2,f3,f4,f5,f6,f7,f8,f9,f10,f11⟩:=E;clear O Y N hja hjb G hx hx2 B D f7;simp only[decide_eq_true_eq,decide_eq_false_iff_not,ge_iff_le,gt_iff_lt,ne_eq,Decidable.not_not,decide_eq_decide,Bool.not_eq_true',Bool.not_eq_false',acI,Bool.not_eq_false,abj,imp_false]at *;grind)
     |(refine D ?_;clear O Y N hja hjb G hx hx2 B D;simp only[decide_eq_true_eq,decide_eq_false_iff_not,ge_iff_le,gt_iff_lt,ne_eq,Decidable.not_not,decide_eq_decide,Bool.not_eq_true',Bool.not_eq_false',acI,Bool.not_eq_false,abj,imp_false]at *;grind)
  .subst hk
   repeat' (first|refine sy ?_|refine s2 ?_ ?_|intro)
   exact hq _ (iG ⟨h0,h32,hn0,λj h=>(hG j h h).1,λj h=>(hG j h h).2⟩)
 .have hno:=hq _ (gU λh=>h0 ⟨h.r0,h.r32,h.ne⟩)
  repeat' (first|refine sy ?_|refine s2 ?_ ?_|intro)
  all_goals first
   |exact hno
   |(exfalso;refine h0 ?_;simp only[decide_eq_true_eq,decide_eq_false_iff_not]at *;omega)
theorem Pm(c:bP)(hl:∀t∈c.ts,t.ins.length<2^48):aq Tryz.prog 101 [.agg c.enc] (.bool (lu (lx c))):=by
 have hw:=yB c.w;have ht:=λi (h:i<c.ts.length)=>Az c.w i c.ts[i] (hl _ (LT h))
 obtain⟨w,ts⟩:=c;dsimp only at *;refine C7 _ _ _ ?_;refine vw ?_;generalize hQ:(λ(u:AV) (K:SH)=>u=AV.bool (lu (lx ⟨w,ts⟩))/\K=[])=Q;have N:∀b,lu (lx ⟨w,ts⟩)=b->Q (.bool b) []:=λb hb=>by subst hQ;exact⟨by rw[hb],rfl⟩
 clear hQ;cases D:lu (oK w)with
 |false=>
  rw[D]at hw
  repeat' (first|refine sy ?_|refine s2 ?_ ?_|intro)
  all_goals exact N _ (gU λh=>by have:=h.world;rw[iG this]at D;cases D)
 |true=>
  rw[D]at hw;have D:=iH.1 D;by_cases B:ts.length=w.threads.length
  .have e1:decide ((ts.length:Int)≠(w.threads.length:Int))=false:=by simp[B]
   have h4:=D.t4
   repeat' (first|refine sy ?_|refine s2 (λh=>?_) λh=>?_|intro)
   refine cT ts.length (λk=>∀j (h:j<ts.length),j<k->HY w j ts[j]) (λk=>[.pptr [(⟨w,ts⟩:bP).enc] 0 0,.acU k]) acN (λj h Y=>absurd Y (Nat.not_lt_zero _)) rfl (λk hk hd hi O Z hn=>?_) (λk hk hd O Z=>?_)
   all_goals refine vw ?_
   .have hx:=aj (f:=i6.enc) hk;have E:=ht k hk;have G:¬HY w k ts[k]->Q (.bool false) []:=λh=>N _ (gU λh2=>h (h2.thr k hk))
    have hgo:HY w k ts[k]->Z [.pptr [(⟨w,ts⟩:bP).enc] 0 0,.acU ((k+1:Nat):Int)] []:=λh=>hn λj Y hjk=>by
     rcases LE j k with g|g
     .exact O j Y g
     .have e:j=k:=by omega
      subst e;exact h
    clear hn O;generalize ts[k]=c at *;obtain⟨rg,S⟩:=c;cases M:lu (HY w k ⟨rg,S⟩)with
    |false=>
     rw[M]at E
     repeat' (first|refine sy ?_|refine s2 ?_ ?_|intro)
     exact G λh=>by rw[iG h]at M;cases M
    |true=>
     rw[M]at E
     repeat' (first|refine sy ?_|refine s2 ?_ ?_|intro)
     exact hgo (iH.1 M)
   .repeat' (first|refine sy ?_|refine s2 ?_ ?_|intro)
    exact N _ (iG ⟨D,B,λj h=>O j h (by have:j<ts.length:=h;omega)⟩)
  .have e1:decide ((ts.length:Int)≠(w.threads.length:Int))=true:=by simp;omega
   repeat' (first|refine sy ?_|refine s2 ?_ ?_|intro)
   all_goals exact N _ (gU λh=>B h.len)
end
