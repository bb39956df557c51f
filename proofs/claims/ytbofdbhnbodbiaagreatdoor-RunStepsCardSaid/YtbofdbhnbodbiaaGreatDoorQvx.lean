/- A part of the proof; the statement is proved in the last part. -/
import Derived.Test.YtbofdbhnbodbiaaGreatDoorQvw
set_option linter.all false
set_option maxRecDepth 100000
set_option maxHeartbeats 20000000
namespace Go.Proofs.YtbofdbhnbodbiaaGreatDoor.Am
section
section
variable {w:aI} {t:Nat} {c:eb} {k:Nat} {i:aS} (h0:0<=c.regs) (Q:R) (n36:W.Kn)
 (hno:¬(∀r∈aN i,0<=r/\r<c.regs)->Q (.bool false) [])
 (hgo:(∀r∈aN i,0<=r/\r<c.regs)->n36 [.Uf t,.pptr [w.enc] 0 0,.pptr [c.enc] 0 0,.Uf c.ins.length,.Uf (k+1:Nat)] [])
 (hl:c.ins.length<2^48) (hk:k<c.ins.length)
include h0 hno hgo hl hk
theorem Mk:W.loop (hM Q n36) [.Uf t,.pptr [w.enc] 0 0,.pptr [c.enc] 0 0,.Uf c.ins.length,.Uf k,.lst ((aN i).map ah),.Uf 0] []:=by
 obtain⟨O,B⟩:=SZ h0;have Y:IntKind.i64.wrap ((k:Int)+1)=((k+1:Nat):Int):=ax hk Ua;refine eB (aN i).length (λj=>∀r∈(aN i).take j,0<=r/\r<c.regs) (λj=>[.Uf t,.pptr [w.enc] 0 0,.pptr [c.enc] 0 0,.Uf c.ins.length,.Uf k,.lst ((aN i).map ah),.Uf (j:Int)]) (by have:=Bu i;omega) Ud rfl (λj G hd hi N S Z=>?_) (λj G hd N S=>?_)
 all_goals refine vw ?_
 .have hx:=ao (f:=ah) G;have E:=lm (aN i)[j] O;rw[<-B]at E;cases M:inB (aN i)[j] O with
  |false=>
   rw[M]at E;have:¬ ∀r∈aN i,0<=r/\r<c.regs:=λh=>by have:=h _ (Sy G);rw[B,<-av,M]at this;cases this
   repeat' (first|refine st ?_|(refine pf 111 ?_;refine pm (E) ?_)|refine sb λD u=>?_|refine s2 (λh=>?_) λh=>?_|fail)
   exact hno this
  |true=>
   rw[M]at E
   repeat' (first|refine st ?_|(refine pf 111 ?_;refine pm (E) ?_)|refine sb λD u=>?_|refine s2 (λh=>?_) λh=>?_|fail)
   refine Z (ye G N ?_);rw[B];exact av.1 M
 .subst G;rw[T4]at N
  repeat' (first|refine st ?_|refine sb λD u=>?_|refine s2 (λh=>?_) λh=>?_|fail)
  exact hgo N
end
theorem wP(w:aI)(t:Nat)(c:eb)(hl:c.ins.length<2^48):aq Tryz.prog 68 [.agg w.enc,.Uf t,.agg c.enc] (.bool (gx (pp w t c))):=by
 refine oG _ _ _ _ _ ?_;refine vw ?_;generalize hQ:(λ(u:AV) (K:SH)=>u=AV.bool (gx (pp w t c))/\K=[])=Q;have hq:∀b,gx (pp w t c)=b->Q (.bool b) []:=λb hb=>by subst hQ;exact⟨by rw[hb],rfl⟩
 clear hQ;by_cases h0:0<=c.regs/\c.regs<=32/\0<c.ins.length
 .obtain⟨h0,h32,hn0⟩:=h0;have d1:decide (c.regs<0)=false:=by simpa using h0
  have d2:decide (c.regs > 32)=false:=by simpa using h32
  have d3:decide ((c.ins.length:Int)=0)=false:=decide_eq_false Ua
  repeat' (first|refine st ?_|refine sb λnb_ S=>?_|refine s2 (λh=>?_) λh=>?_|fail)
  refine eB c.ins.length (λk=>∀j (h:j<c.ins.length),j<k->ur w t c.ins.length c.regs j c.ins[j]/\gg c.ins j) (λk=>[.Uf t,.pptr [w.enc] 0 0,.pptr [c.enc] 0 0,.Uf c.ins.length,.Uf (k:Int)]) Ua (λj h hj=>absurd hj (T0 _)) rfl (λk hk hd hi hG nx hn=>?_) (λk hk hd hG nx=>?_)
  all_goals refine vw ?_
  .have hx:=ao (f:=aS.enc) hk;have hno:¬(ur w t c.ins.length c.regs k c.ins[k]/\gg c.ins k)->Q (.bool false) []:=λh=>hq _ (dq λh2=>h ⟨h2.ins k hk,h2.lans k hk⟩)
   have hgo:ur w t c.ins.length c.regs k c.ins[k]->gg c.ins k->nx [.Uf t,.pptr [w.enc] 0 0,.pptr [c.enc] 0 0,.Uf c.ins.length,.Uf (k+1:Nat)] []:=λh h2=>hn λj hj hjk=>by
    rcases Fn j k with g|g
    .exact hG j hj g
    .have e:j=k:=by omega
     subst e;exact⟨h,h2⟩
   clear hn hG hq;have N:=Ky c.ins k hl;generalize hL:gx (gg c.ins k)=la at N;have hla1:la=true↔gg c.ins k:=by rw[<-hL];exact fH
   clear hL;generalize c.ins[k]=i at hx hno hgo;have M:=F7 w i;have G:=l9 i;have Z:=lm i.a c.ins.length;have Y:=lm i.b c.ins.length;have E:=lm i.site w.sites.length;have hl1:=λhno hgo=>Mk (w:=w) (t:=t) (k:=k) (i:=i) h0 Q nx hno hgo hl hk
   have hs1:IntKind.i64.wrap ((c.ins.length:Int)-1)=((c.ins.length-1:Nat):Int):=by rw[Te _ Ua];omega
   have hjm:Ac c.ins.length i=if i.op=5 then inB i.a c.ins.length else if i.op=10 then inB i.b c.ins.length else true:=rfl
   generalize inB i.a c.ins.length=ja at *;generalize inB i.b c.ins.length=jb at *;have B:¬(1<=i.op/\i.op<=28/\(i.op=28↔k+1=c.ins.length)/\(i.op=28->i.site=-1)/\(i.op≠28->inB i.site w.sites.length=true)/\(i.op≠28->(w.sites.getD i.site.toNat default).thread=t)/\(∀r∈aN i,0<=r/\r<c.regs)/\j9 w i=true/\(i.op=5->ja=true)/\(i.op=10->jb=true)/\la=true)->Q (.bool false) []:=λh=>hno λO=>h ⟨O.1.lo,O.1.hi,O.1.last,O.1.fin,O.1.sin,O.1.sth,O.1.regs,O.1.obj,λh5=>by have:=O.1.jmp;rw[hjm,if_pos h5]at this;exact this,λh10=>by have:=O.1.jmp;rw[hjm,if_neg Ua,if_pos h10]at this;exact this,hla1.2 O.2⟩
   have D:(1<=i.op/\i.op<=28/\(i.op=28↔k+1=c.ins.length)/\(i.op=28->i.site=-1)/\(i.op≠28->inB i.site w.sites.length=true)/\(i.op≠28->(w.sites.getD i.site.toNat default).thread=t)/\j9 w i=true/\(i.op=5->ja=true)/\(i.op=10->jb=true)/\la=true)->W.loop (hM Q nx) [.Uf t,.pptr [w.enc] 0 0,.pptr [c.enc] 0 0,.Uf c.ins.length,.Uf k,.lst ((aN i).map ah),.Uf 0] []:=λh=>hl1 (λh2=>B λh3=>h2 h3.2.2.2.2.2.2.1) λh2=>hgo ⟨h.1,h.2.1,h.2.2.1,h.2.2.2.1,h.2.2.2.2.1,h.2.2.2.2.2.1,h2,h.2.2.2.2.2.2.1,by
     rw[hjm];split
     .rename_i h5;exact h.2.2.2.2.2.2.2.1 h5
     .split
      .rename_i h5;exact h.2.2.2.2.2.2.2.2.1 h5
      .rfl⟩ (hla1.1 h.2.2.2.2.2.2.2.2.2)
   clear hno hgo hl1 hjm hla1;generalize j9 w i=ob at *;generalize hrr:(aN i).map ah=rr at *;have hrx:(∀r∈aN i,0<=r/\r<c.regs)=(∀r∈aN i,0<=r/\r<c.regs):=rfl;generalize(∀r∈aN i,0<=r/\r<c.regs)=RP at *;clear hrx hrr;obtain⟨op,ia,ib,ic,m,site⟩:=i;have he:aS.enc ⟨op,ia,ib,ic,m,site⟩=[.Uf op,.Uf ia,.Uf ib,.Uf ic,.Uf m,.Uf site]:=rfl;rw[he]at hx M G;clear he;dsimp only at *;cases hb:inB site w.sites.length with
   |false=>
    rw[hb]at E B D
    repeat' (first|refine st ?_|(refine pf 109 ?_;refine pm (M) ?_)|(refine pf 110 ?_;refine pm (N) ?_)|(refine pf 54 ?_;refine pm (G) ?_)|(refine pf 111 ?_;refine pm (Z) ?_)|(refine pf 111 ?_;refine pm (Y) ?_)|(refine pf 111 ?_;refine pm (E) ?_)|refine sb λnb_ S=>?_|refine s2 (λh=>?_) λh=>?_|fail)
    all_goals first
     |(refine B λO=>?_;obtain⟨f1,f2,f3,f4,f5,f6,f7,f8,f9,f10,f11⟩:=O;clear M N G Z Y E hx B D f7;simp only[decide_eq_true_eq,decide_eq_false_iff_not,ge_iff_le,gt_iff_lt,ne_eq,Decidable.not_not,decide_eq_decide,Bool.not_eq_true',Bool.not_eq_false',Bool.not_eq_true,Bool.not_eq_false,SO,imp_false]at *;grind)
     |(refine D ?_;clear M N G Z Y E hx B D;simp only[decide_eq_true_eq,decide_eq_false_iff_not,ge_iff_le,gt_iff_lt,ne_eq,Decidable.not_not,decide_eq_decide,Bool.not_eq_true',Bool.not_eq_false',Bool.not_eq_true,Bool.not_eq_false,SO,imp_false]at *;grind)
   |true=>
    rw[hb]at E B D;obtain⟨ks,rfl⟩:=SZ (cG hb);have hks:ks<w.sites.length:=by have:=(av.1 hb).2;omega
    have hx2:=ao (f:=bU.enc) hks;rw[Int.toNat_natCast,List.getD_eq_getElem?_getD,List.getElem?_eq_getElem hks,Option.getD_some]at B D;generalize w.sites[ks]=s at *;obtain⟨th,sm,ln⟩:=s;unfold bU.enc at hx2;dsimp only at *
    repeat' (first|refine st ?_|(refine pf 109 ?_;refine pm (M) ?_)|(refine pf 110 ?_;refine pm (N) ?_)|(refine pf 54 ?_;refine pm (G) ?_)|(refine pf 111 ?_;refine pm (Z) ?_)|(refine pf 111 ?_;refine pm (Y) ?_)|(refine pf 111 ?_;refine pm (E) ?_)|refine sb λnb_ S=>?_|refine s2 (λh=>?_) λh=>?_|fail)
    all_goals first
     |(refine B λO=>?_;obtain⟨f1,f2,f3,f4,f5,f6,f7,f8,f9,f10,f11⟩:=O;clear M N G Z Y E hx hx2 B D f7;simp only[decide_eq_true_eq,decide_eq_false_iff_not,ge_iff_le,gt_iff_lt,ne_eq,Decidable.not_not,decide_eq_decide,Bool.not_eq_true',Bool.not_eq_false',Bool.not_eq_true,Bool.not_eq_false,SO,imp_false]at *;grind)
     |(refine D ?_;clear M N G Z Y E hx hx2 B D;simp only[decide_eq_true_eq,decide_eq_false_iff_not,ge_iff_le,gt_iff_lt,ne_eq,Decidable.not_not,decide_eq_decide,Bool.not_eq_true',Bool.not_eq_false',Bool.not_eq_true,Bool.not_eq_false,SO,imp_false]at *;grind)
  .subst hk
   repeat' (first|refine st ?_|refine sb λnb_ S=>?_|refine s2 (λh=>?_) λh=>?_|fail)
   exact hq _ (eC ⟨h0,h32,hn0,λj h=>(hG j h h).1,λj h=>(hG j h h).2⟩)
 .have hno:=hq _ (dq λh=>h0 ⟨h.r0,h.r32,h.ne⟩)
  repeat' (first|refine st ?_|refine sb λnb_ S=>?_|refine s2 (λh=>?_) λh=>?_|fail)
  all_goals first
   |exact hno
   |(exfalso;refine h0 ?_;simp only[decide_eq_true_eq,decide_eq_false_iff_not]at *;omega)
theorem BB(c:aZ)(hl:∀t∈c.ts,t.ins.length<2^48):aq Tryz.prog 29 [.agg c.enc] (.bool (gx (lZ c))):=by
 have N:=Ij c.w;have ht:=λi (h:i<c.ts.length)=>wP c.w i c.ts[i] (hl _ (Sy h))
 obtain⟨w,ts⟩:=c;dsimp only at *;refine zm _ _ _ ?_;refine vw ?_;generalize hQ:(λ(u:AV) (K:SH)=>u=AV.bool (gx (lZ ⟨w,ts⟩))/\K=[])=Q;have Y:∀b,gx (lZ ⟨w,ts⟩)=b->Q (.bool b) []:=λb hb=>by subst hQ;exact⟨by rw[hb],rfl⟩
 clear hQ;cases M:gx (uz w)with
 |false=>
  rw[M]at N
  repeat' (first|refine st ?_|(refine pf 67 ?_;refine pm (N) ?_)|refine sb λD B=>?_|refine s2 (λh=>?_) λh=>?_|fail)
  all_goals exact Y _ (dq λh=>by have:=h.world;rw[eC this]at M;cases M)
 |true=>
  rw[M]at N;have M:=fH.1 M;by_cases E:ts.length=w.threads.length
  .have e1:decide ((ts.length:Int)≠(w.threads.length:Int))=false:=by simp[E]
   have h4:=M.t4
   repeat' (first|refine st ?_|(refine pf 67 ?_;refine pm (N) ?_)|refine sb λD B=>?_|refine s2 (λh=>?_) λh=>?_|fail)
   refine eB ts.length (λk=>∀j (h:j<ts.length),j<k->pp w j ts[j]) (λk=>[.pptr [(⟨w,ts⟩:aZ).enc] 0 0,.Uf k]) Ua (λj h hj=>absurd hj (T0 _)) rfl (λk hk hd hi Z nx hn=>?_) (λk hk hd Z nx=>?_)
   all_goals refine vw ?_
   .have hx:=ao (f:=eb.enc) hk;have G:=ht k hk;have O:¬pp w k ts[k]->Q (.bool false) []:=λh=>Y _ (dq λh2=>h (h2.thr k hk))
    have hgo:pp w k ts[k]->nx [.pptr [(⟨w,ts⟩:aZ).enc] 0 0,.Uf ((k+1:Nat):Int)] []:=λh=>hn λj hj hjk=>by
     rcases Fn j k with g|g
     .exact Z j hj g
     .have e:j=k:=by omega
      subst e;exact h
    clear hn Z;generalize ts[k]=c at *;obtain⟨rg,ins⟩:=c;cases S:gx (pp w k ⟨rg,ins⟩)with
    |false=>
     rw[S]at G
     repeat' (first|refine st ?_|(refine pf 68 ?_;refine pm (G) ?_)|refine sb λD B=>?_|refine s2 (λh=>?_) λh=>?_|fail)
     exact O λh=>by rw[eC h]at S;cases S
    |true=>
     rw[S]at G
     repeat' (first|refine st ?_|(refine pf 68 ?_;refine pm (G) ?_)|refine sb λD B=>?_|refine s2 (λh=>?_) λh=>?_|fail)
     exact hgo (fH.1 S)
   .repeat' (first|refine st ?_|refine sb λD B=>?_|refine s2 (λh=>?_) λh=>?_|fail)
    exact Y _ (eC ⟨M,E,λj h=>Z j h (by have:j<ts.length:=h;omega)⟩)
  .have e1:decide ((ts.length:Int)≠(w.threads.length:Int))=true:=by simp;omega
   repeat' (first|refine st ?_|(refine pf 67 ?_;refine pm (N) ?_)|refine sb λD B=>?_|refine s2 (λh=>?_) λh=>?_|fail)
   all_goals exact Y _ (dq λh=>E h.len)
end
end Go.Proofs.YtbofdbhnbodbiaaGreatDoor.Am
