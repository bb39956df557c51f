/- A part of the proof; the statement is proved in the last part. -/
import Derived.Test.YtbofdbhnbodbiaaGreatDoorQuw
set_option linter.all false
set_option maxRecDepth 100000
set_option maxHeartbeats 20000000
namespace Go.Proofs.YtbofdbhnbodbiaaGreatDoor.Am
section
section
variable {w:aG} {t:Nat} {c:eB} {k:Nat} {i:aT} (h0:0<=c.regs) (Q:R) (n36:W.Kn)
 (hno:¬(∀r∈aO i,0<=r/\r<c.regs)->Q (.bool false) [])
 (hgo:(∀r∈aO i,0<=r/\r<c.regs)->n36 [.U1 t,.pptr [w.enc] 0 0,.pptr [c.enc] 0 0,.U1 c.ins.length,.U1 (k+1:Nat)] [])
 (hl:c.ins.length<2^48) (hk:k<c.ins.length)
include h0 hno hgo hl hk
theorem MT:W.loop (ij Q n36) [.U1 t,.pptr [w.enc] 0 0,.pptr [c.enc] 0 0,.U1 c.ins.length,.U1 k,.lst ((aO i).map ah),.U1 0] []:=by
 obtain⟨O,B⟩:=TM h0;have Y:IntKind.i64.wrap ((k:Int)+1)=((k+1:Nat):Int):=aw hk UW;refine dw (aO i).length (λj=>∀r∈(aO i).take j,0<=r/\r<c.regs) (λj=>[.U1 t,.pptr [w.enc] 0 0,.pptr [c.enc] 0 0,.U1 c.ins.length,.U1 k,.lst ((aO i).map ah),.U1 (j:Int)]) (by have:=BR i;omega) UZ rfl (λj G hd hi N S Z=>?_) (λj G hd N S=>?_)
 all_goals refine vw ?_
 .have hx:=am (f:=ah) G;have E:=lC (aO i)[j] O;rw[<-B]at E;cases M:inB (aO i)[j] O with
  |false=>
   rw[M]at E;have:¬ ∀r∈aO i,0<=r/\r<c.regs:=λh=>by have:=h _ (Tk G);rw[B,<-av,M]at this;cases this
   repeat' (first|refine st ?_|(refine pf 111 ?_;refine pm (E) ?_)|refine sb λD u=>?_|refine s2 (λh=>?_) λh=>?_|fail)
   exact hno this
  |true=>
   rw[M]at E
   repeat' (first|refine st ?_|(refine pf 111 ?_;refine pm (E) ?_)|refine sb λD u=>?_|refine s2 (λh=>?_) λh=>?_|fail)
   refine Z (yA G N ?_);rw[B];exact av.1 M
 .subst G;rw[UQ]at N
  repeat' (first|refine st ?_|refine sb λD u=>?_|refine s2 (λh=>?_) λh=>?_|fail)
  exact hgo N
end
theorem xf(w:aG)(t:Nat)(c:eB)(hl:c.ins.length<2^48):aq Tryz.prog 68 [.agg w.enc,.U1 t,.agg c.enc] (.bool (gA (pF w t c))):=by
 refine oR _ _ _ _ _ ?_;refine vw ?_;generalize hQ:(λ(u:AV) (K:SH)=>u=AV.bool (gA (pF w t c))/\K=[])=Q;have hq:∀b,gA (pF w t c)=b->Q (.bool b) []:=λb hb=>by subst hQ;exact⟨by rw[hb],rfl⟩
 clear hQ;by_cases h0:0<=c.regs/\c.regs<=32/\0<c.ins.length
 .obtain⟨h0,h32,hn0⟩:=h0;have d1:decide (c.regs<0)=false:=by simpa using h0
  have d2:decide (c.regs > 32)=false:=by simpa using h32
  have d3:decide ((c.ins.length:Int)=0)=false:=decide_eq_false UW
  repeat' (first|refine st ?_|refine sb λnb_ S=>?_|refine s2 (λh=>?_) λh=>?_|fail)
  refine dw c.ins.length (λk=>∀j (h:j<c.ins.length),j<k->uI w t c.ins.length c.regs j c.ins[j]/\gt c.ins j) (λk=>[.U1 t,.pptr [w.enc] 0 0,.pptr [c.enc] 0 0,.U1 c.ins.length,.U1 (k:Int)]) UW (λj h hj=>absurd hj (UM _)) rfl (λk hk hd hi hG nx hn=>?_) (λk hk hd hG nx=>?_)
  all_goals refine vw ?_
  .have hx:=am (f:=aT.enc) hk;have hno:¬(uI w t c.ins.length c.regs k c.ins[k]/\gt c.ins k)->Q (.bool false) []:=λh=>hq _ (dy λh2=>h ⟨h2.ins k hk,h2.lans k hk⟩)
   have hgo:uI w t c.ins.length c.regs k c.ins[k]->gt c.ins k->nx [.U1 t,.pptr [w.enc] 0 0,.pptr [c.enc] 0 0,.U1 c.ins.length,.U1 (k+1:Nat)] []:=λh h2=>hn λj hj hjk=>by
    rcases Tf j k with g|g
    .exact hG j hj g
    .have e:j=k:=by omega
     subst e;exact⟨h,h2⟩
   clear hn hG hq;have N:=Ld c.ins k hl;generalize hL:gA (gt c.ins k)=la at N;have hla1:la=true↔gt c.ins k:=by rw[<-hL];exact eH
   clear hL;generalize c.ins[k]=i at hx hno hgo;have M:=GE w i;have G:=ml i;have Z:=lC i.a c.ins.length;have Y:=lC i.b c.ins.length;have E:=lC i.site w.sites.length;have hl1:=λhno hgo=>MT (w:=w) (t:=t) (k:=k) (i:=i) h0 Q nx hno hgo hl hk
   have hs1:IntKind.i64.wrap ((c.ins.length:Int)-1)=((c.ins.length-1:Nat):Int):=by rw[TY _ UW];omega
   have hjm:Au c.ins.length i=if i.op=5 then inB i.a c.ins.length else if i.op=10 then inB i.b c.ins.length else true:=rfl
   generalize inB i.a c.ins.length=ja at *;generalize inB i.b c.ins.length=jb at *;have B:¬(1<=i.op/\i.op<=28/\(i.op=28↔k+1=c.ins.length)/\(i.op=28->i.site=-1)/\(i.op≠28->inB i.site w.sites.length=true)/\(i.op≠28->(w.sites.getD i.site.toNat default).thread=t)/\(∀r∈aO i,0<=r/\r<c.regs)/\ku w i=true/\(i.op=5->ja=true)/\(i.op=10->jb=true)/\la=true)->Q (.bool false) []:=λh=>hno λO=>h ⟨O.1.lo,O.1.hi,O.1.last,O.1.fin,O.1.sin,O.1.sth,O.1.regs,O.1.obj,λh5=>by have:=O.1.jmp;rw[hjm,if_pos h5]at this;exact this,λh10=>by have:=O.1.jmp;rw[hjm,if_neg UW,if_pos h10]at this;exact this,hla1.2 O.2⟩
   have D:(1<=i.op/\i.op<=28/\(i.op=28↔k+1=c.ins.length)/\(i.op=28->i.site=-1)/\(i.op≠28->inB i.site w.sites.length=true)/\(i.op≠28->(w.sites.getD i.site.toNat default).thread=t)/\ku w i=true/\(i.op=5->ja=true)/\(i.op=10->jb=true)/\la=true)->W.loop (ij Q nx) [.U1 t,.pptr [w.enc] 0 0,.pptr [c.enc] 0 0,.U1 c.ins.length,.U1 k,.lst ((aO i).map ah),.U1 0] []:=λh=>hl1 (λh2=>B λh3=>h2 h3.2.2.2.2.2.2.1) λh2=>hgo ⟨h.1,h.2.1,h.2.2.1,h.2.2.2.1,h.2.2.2.2.1,h.2.2.2.2.2.1,h2,h.2.2.2.2.2.2.1,by
     rw[hjm];split
     .rename_i h5;exact h.2.2.2.2.2.2.2.1 h5
     .split
      .rename_i h5;exact h.2.2.2.2.2.2.2.2.1 h5
      .rfl⟩ (hla1.1 h.2.2.2.2.2.2.2.2.2)
   clear hno hgo hl1 hjm hla1;generalize ku w i=ob at *;generalize hrr:(aO i).map ah=rr at *;have hrx:(∀r∈aO i,0<=r/\r<c.regs)=(∀r∈aO i,0<=r/\r<c.regs):=rfl;generalize(∀r∈aO i,0<=r/\r<c.regs)=RP at *;clear hrx hrr;obtain⟨op,ia,ib,ic,m,site⟩:=i;have he:aT.enc ⟨op,ia,ib,ic,m,site⟩=[.U1 op,.U1 ia,.U1 ib,.U1 ic,.U1 m,.U1 site]:=rfl;rw[he]at hx M G;clear he;dsimp only at *;cases hb:inB site w.sites.length with
   |false=>
    rw[hb]at E B D
    repeat' (first|refine st ?_|(refine pf 109 ?_;refine pm (M) ?_)|(refine pf 110 ?_;refine pm (N) ?_)|(refine pf 54 ?_;refine pm (G) ?_)|(refine pf 111 ?_;refine pm (Z) ?_)|(refine pf 111 ?_;refine pm (Y) ?_)|(refine pf 111 ?_;refine pm (E) ?_)|refine sb λnb_ S=>?_|refine s2 (λh=>?_) λh=>?_|fail)
    all_goals first
     |(refine B λO=>?_;obtain⟨f1,f2,f3,f4,f5,f6,f7,f8,f9,f10,f11⟩:=O;clear M N G Z Y E hx B D f7;simp only[decide_eq_true_eq,decide_eq_false_iff_not,ge_iff_le,gt_iff_lt,ne_eq,Decidable.not_not,decide_eq_decide,Bool.not_eq_true',Bool.not_eq_false',Bool.not_eq_true,Bool.not_eq_false,Tz,imp_false]at *;grind)
     |(refine D ?_;clear M N G Z Y E hx B D;simp only[decide_eq_true_eq,decide_eq_false_iff_not,ge_iff_le,gt_iff_lt,ne_eq,Decidable.not_not,decide_eq_decide,Bool.not_eq_true',Bool.not_eq_false',Bool.not_eq_true,Bool.not_eq_false,Tz,imp_false]at *;grind)
   |true=>
    rw[hb]at E B D;obtain⟨ks,rfl⟩:=TM (cG hb);have hks:ks<w.sites.length:=by have:=(av.1 hb).2;omega
    have hx2:=am (f:=bQ.enc) hks;rw[Int.toNat_natCast,List.getD_eq_getElem?_getD,List.getElem?_eq_getElem hks,Option.getD_some]at B D;generalize w.sites[ks]=s at *;obtain⟨th,sm,ln⟩:=s;unfold bQ.enc at hx2;dsimp only at *
    repeat' (first|refine st ?_|(refine pf 109 ?_;refine pm (M) ?_)|(refine pf 110 ?_;refine pm (N) ?_)|(refine pf 54 ?_;refine pm (G) ?_)|(refine pf 111 ?_;refine pm (Z) ?_)|(refine pf 111 ?_;refine pm (Y) ?_)|(refine pf 111 ?_;refine pm (E) ?_)|refine sb λnb_ S=>?_|refine s2 (λh=>?_) λh=>?_|fail)
    all_goals first
     |(refine B λO=>?_;obtain⟨f1,f2,f3,f4,f5,f6,f7,f8,f9,f10,f11⟩:=O;clear M N G Z Y E hx hx2 B D f7;simp only[decide_eq_true_eq,decide_eq_false_iff_not,ge_iff_le,gt_iff_lt,ne_eq,Decidable.not_not,decide_eq_decide,Bool.not_eq_true',Bool.not_eq_false',Bool.not_eq_true,Bool.not_eq_false,Tz,imp_false]at *;grind)
     |(refine D ?_;clear M N G Z Y E hx hx2 B D;simp only[decide_eq_true_eq,decide_eq_false_iff_not,ge_iff_le,gt_iff_lt,ne_eq,Decidable.not_not,decide_eq_decide,Bool.not_eq_true',Bool.not_eq_false',Bool.not_eq_true,Bool.not_eq_false,Tz,imp_false]at *;grind)
  .subst hk
   repeat' (first|refine st ?_|refine sb λnb_ S=>?_|refine s2 (λh=>?_) λh=>?_|fail)
   exact hq _ (eG ⟨h0,h32,hn0,λj h=>(hG j h h).1,λj h=>(hG j h h).2⟩)
 .have hno:=hq _ (dy λh=>h0 ⟨h.r0,h.r32,h.ne⟩)
  repeat' (first|refine st ?_|refine sb λnb_ S=>?_|refine s2 (λh=>?_) λh=>?_|fail)
  all_goals first
   |exact hno
   |(exfalso;refine h0 ?_;simp only[decide_eq_true_eq,decide_eq_false_iff_not]at *;omega)
theorem IS(c:aY)(hl:∀t∈c.ts,t.ins.length<2^48):aq Tryz.prog 29 [.agg c.enc] (.bool (gA (gS c))):=by
 have N:=IR c.w;have ht:=λi (h:i<c.ts.length)=>xf c.w i c.ts[i] (hl _ (Tk h))
 obtain⟨w,ts⟩:=c;dsimp only at *;refine zG _ _ _ ?_;refine vw ?_;generalize hQ:(λ(u:AV) (K:SH)=>u=AV.bool (gA (gS ⟨w,ts⟩))/\K=[])=Q;have Y:∀b,gA (gS ⟨w,ts⟩)=b->Q (.bool b) []:=λb hb=>by subst hQ;exact⟨by rw[hb],rfl⟩
 clear hQ;cases M:gA (uP w)with
 |false=>
  rw[M]at N
  repeat' (first|refine st ?_|(refine pf 67 ?_;refine pm (N) ?_)|refine sb λD B=>?_|refine s2 (λh=>?_) λh=>?_|fail)
  all_goals exact Y _ (dy λh=>by have:=h.world;rw[eG this]at M;cases M)
 |true=>
  rw[M]at N;have M:=eH.1 M;by_cases E:ts.length=w.threads.length
  .have e1:decide ((ts.length:Int)≠(w.threads.length:Int))=false:=by simp[E]
   have h4:=M.t4
   repeat' (first|refine st ?_|(refine pf 67 ?_;refine pm (N) ?_)|refine sb λD B=>?_|refine s2 (λh=>?_) λh=>?_|fail)
   refine dw ts.length (λk=>∀j (h:j<ts.length),j<k->pF w j ts[j]) (λk=>[.pptr [(⟨w,ts⟩:aY).enc] 0 0,.U1 k]) UW (λj h hj=>absurd hj (UM _)) rfl (λk hk hd hi Z nx hn=>?_) (λk hk hd Z nx=>?_)
   all_goals refine vw ?_
   .have hx:=am (f:=eB.enc) hk;have G:=ht k hk;have O:¬pF w k ts[k]->Q (.bool false) []:=λh=>Y _ (dy λh2=>h (h2.thr k hk))
    have hgo:pF w k ts[k]->nx [.pptr [(⟨w,ts⟩:aY).enc] 0 0,.U1 ((k+1:Nat):Int)] []:=λh=>hn λj hj hjk=>by
     rcases Tf j k with g|g
     .exact Z j hj g
     .have e:j=k:=by omega
      subst e;exact h
    clear hn Z;generalize ts[k]=c at *;obtain⟨rg,ins⟩:=c;cases S:gA (pF w k ⟨rg,ins⟩)with
    |false=>
     rw[S]at G
     repeat' (first|refine st ?_|(refine pf 68 ?_;refine pm (G) ?_)|refine sb λD B=>?_|refine s2 (λh=>?_) λh=>?_|fail)
     exact O λh=>by rw[eG h]at S;cases S
    |true=>
     rw[S]at G
     repeat' (first|refine st ?_|(refine pf 68 ?_;refine pm (G) ?_)|refine sb λD B=>?_|refine s2 (λh=>?_) λh=>?_|fail)
     exact hgo (eH.1 S)
   .repeat' (first|refine st ?_|refine sb λD B=>?_|refine s2 (λh=>?_) λh=>?_|fail)
    exact Y _ (eG ⟨M,E,λj h=>Z j h (by have:j<ts.length:=h;omega)⟩)
  .have e1:decide ((ts.length:Int)≠(w.threads.length:Int))=true:=by simp;omega
   repeat' (first|refine st ?_|(refine pf 67 ?_;refine pm (N) ?_)|refine sb λD B=>?_|refine s2 (λh=>?_) λh=>?_|fail)
   all_goals exact Y _ (dy λh=>E h.len)
end
end Go.Proofs.YtbofdbhnbodbiaaGreatDoor.Am
