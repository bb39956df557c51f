/- part -/
import Derived.Test.YtfcfhjadaknphaaGreatDoorQxt
set_option linter.all false
set_option maxRecDepth 100000
set_option maxHeartbeats 0
namespace Go.Proofs.YtfcfhjadaknphaaGreatDoor.Am
def fD(p:aY)(loc:List aO)(x:aa):Prop:=
 if x.op=1 then(match x.index with
  |[]=>gj (aV p loc x.name) 8 1=0/\kS p loc x.expr=0
  |i::_=>gj (aV p loc x.name) 2 2=0/\kS p loc i=0/\kS p loc x.expr=0)
 else if x.op=2\/x.op=3 then kS p loc x.expr=0
 else if x.op=4 then gj (aV p loc x.name) 3 3=0
 else if x.op=5\/x.op=6 then gj (aV p loc x.name) 4 4=0
 else if x.op=7\/x.op=8 then True
 else if x.op=9\/x.op=10\/x.op=11 then gj (aV p loc x.name) 5 5=0
 else if x.op=12\/x.op=13 then gj (aV p loc x.name) 7 7=0
 else if x.op=14 then gj (aV p loc x.name) 6 6=0/\kS p loc x.expr=0
 else gj (aV p loc x.name) 8 8=0/\gj (aV p loc x.arg) 6 6=0
def xH{p:aY}{loc:List aO}{j:aO}(h:qC p.decls j=none):gj (aV p loc j) 5 5≠0:=by unfold aV;rw[h,Ie];cases decide (0<=jx loc j)<;>cases decide (0<=dV p.threads j)<;>decide
def O4(p:aY)(bw:Nat)(s:pk)(m:Nat)(good:Prop)(u:AV)(K:SH):Prop:=
 ∃(e:Int) (s':pk),u=.YJ e/\K.Perm (s'.L p bw)/\s'.Ok m/\s'.t=s.t/\s'.o1=s.o1/\s'.ar=s.ar/\s'.k=s.k/\(e=0->good)
def dC{a b:Int}:V1 a b=0↔a=0/\b=0:=by unfold V1;split<;>simp_all
def QC(p:aY)(bw:Nat)(s:pk)(x:aa)(m:Nat)(hw:p.wt<2^40)(ht:s.t<p.threads.length)(D:s.Ok m)(hm:m<2^40)(hx:x.wt<2^40):
  ac Tryz.prog 97 [.ptr bw 0 0,.agg x.row] (s.L p bw) (O4 p bw s (m+1) (fD p p.threads[s.t].locals x)):=by
 have hxw:=x.wt_eq;have hl1:=p.decls_len;have hl2:=p.threads_len;obtain⟨op,Z,j,arg,M,e,body,els⟩:=x;simp only[aa.name,aa.arg,aa.index,aa.expr,aa.body,aa.els]at hxw;have u:=λ(a b:Int) (nm:aO)=>JF bw (.lst (p.decls.map aA.enc)) (.lst (p.threads.map aj.enc)) (.YJ s.t) (ai s.o2 s.sp.length) (ai s.o3 s.se.length) s.o1 s.ar s.k (ab s.o2 1 (s.sp.map av)++ab s.o3 1 (s.se.map av)) a b nm D.a0 D.ak D.k6;have O:=λ(nm:aO) (a b:Int)=>FP p s.t nm a b hw ht;have ce:=λ(y:ae) (hy:y.wt<2^40)=>QB p s.t y hw ht hy;have hex:=ce e YC;unfold ae.row at hex;have hda:=i4 p.decls j YC;have hta:=lR p.threads j YC;have hlen2:s.sp.length<=2^40:=by have:=D.pm;omega
 have hlen3:s.se.length<=2^40:=by have:=D.em;omega
 refine ac.fz (vE _ _ _ _ ?_);refine vw ?_;generalize hQ:(λ(v:AV) (L:SH)=>∃v2 L2,aE [v] L [v2] L2/\O4 p bw s (m+1) (fD p p.threads[s.t].locals (.mk op Z j arg M e body els)) v2 L2)=Q;have hqg:∀(v:Int) (K:SH) (s':pk),dD K (s'.L p bw)->s'.Ok (m+1)->s'.t=s.t->s'.o1=s.o1->s'.ar=s.ar->s'.k=s.k->(v=0->fD p p.threads[s.t].locals (.mk op Z j arg M e body els))->Q (.YJ v) K:=λv K s' h1 h2 h3 h4 h5 h6 h7=>by subst hQ;exact⟨_,_,aE.pick h1 rfl,v,s',rfl,.refl _,h2,h3,h4,h5,h6,h7⟩
 have B:∀(v:Int),(v=0->fD p p.threads[s.t].locals (.mk op Z j arg M e body els))->Q (.YJ v) (s.L p bw):=λv h2=>by subst hQ;exact⟨_,_,aE.refl _ _,v,s,rfl,.refl _,⟨D.a0,D.ak,D.k6,D.p0,D.e0,Yk D.pm,Yk D.em⟩,rfl,rfl,rfl,rfl,h2⟩
 clear hQ;unfold pk.L pk.row at *;unfold aa.row;generalize hloc:p.threads[s.t].locals=loc at *;clear hloc;dsimp only[aa.op,aa.line,aa.name,aa.arg,aa.index,aa.expr,aa.body,aa.els];by_cases p1:1<=op/\op<=14
 .have:op=1\/op=2\/op=3\/op=4\/op=5\/op=6\/op=7\/op=8\/op=9\/op=10\/op=11\/op=12\/op=13\/op=14:=by omega
  clear p1;rcases this with rfl|rfl|rfl|rfl|rfl|rfl|rfl|rfl|rfl|rfl|rfl|rfl|rfl|rfl
  .cases M with
   |nil=>
    repeat' (first|refine sy ?_|(refine pf 139 ?_;refine pm (O _ _ _) ?_)|((with_reducible refine aU 137 ?_);(refine dK (u _ _ _) ?_;rintro _ _ ⟨G,rfl,rfl⟩))|(refine pf 138 ?_;refine pm (iG _ _) ?_)|refine s2 ?_ ?_|intro)
    exact B _ (λE=>by simpa[fD,aa.op,aa.name,aa.index,aa.expr,dC]using E)
   |cons i r=>
    have hei:=ce i (by simp only[ae.wts]at hxw;omega);unfold ae.row at hei;have hx0:=GO (l:=i::r) (i:=0) YF;have d1:decide (((i::r).length:Int)=0)=false:=by simp;omega
    repeat' (first|refine sy ?_|(refine pf 139 ?_;refine pm (O _ _ _) ?_)|((with_reducible refine aU 137 ?_);(refine dK (u _ _ _) ?_;rintro _ _ ⟨G,rfl,rfl⟩))|(refine pf 138 ?_;refine pm (iG _ _) ?_)|refine s2 ?_ ?_|intro)
    exact B _ (λE=>by simpa[fD,aa.op,aa.name,aa.index,aa.expr,dC]using E)
  .repeat' (first|refine sy ?_|(refine pf 139 ?_;refine pm (O _ _ _) ?_)|((with_reducible refine aU 137 ?_);(refine dK (u _ _ _) ?_;rintro _ _ ⟨G,rfl,rfl⟩))|(refine pf 141 ?_;refine pm (cD _) ?_)|(refine pf 138 ?_;refine pm (iG _ _) ?_)|refine s2 ?_ ?_|intro)
   all_goals exact B _ (λE=>by simp_all[fD,aa.op,aa.name,aa.index,aa.expr,dC])
  .repeat' (first|refine sy ?_|(refine pf 139 ?_;refine pm (O _ _ _) ?_)|((with_reducible refine aU 137 ?_);(refine dK (u _ _ _) ?_;rintro _ _ ⟨G,rfl,rfl⟩))|(refine pf 141 ?_;refine pm (cD _) ?_)|(refine pf 138 ?_;refine pm (iG _ _) ?_)|refine s2 ?_ ?_|intro)
   all_goals exact B _ (λE=>by simp_all[fD,aa.op,aa.name,aa.index,aa.expr,dC])
  .repeat' (first|refine sy ?_|(refine pf 139 ?_;refine pm (O _ _ _) ?_)|((with_reducible refine aU 137 ?_);(refine dK (u _ _ _) ?_;rintro _ _ ⟨G,rfl,rfl⟩))|(refine pf 141 ?_;refine pm (cD _) ?_)|(refine pf 138 ?_;refine pm (iG _ _) ?_)|refine s2 ?_ ?_|intro)
   all_goals exact B _ (λE=>by simp_all[fD,aa.op,aa.name,aa.index,aa.expr,dC])
  .repeat' (first|refine sy ?_|(refine pf 139 ?_;refine pm (O _ _ _) ?_)|((with_reducible refine aU 137 ?_);(refine dK (u _ _ _) ?_;rintro _ _ ⟨G,rfl,rfl⟩))|(refine pf 141 ?_;refine pm (cD _) ?_)|(refine pf 138 ?_;refine pm (iG _ _) ?_)|refine s2 ?_ ?_|intro)
   all_goals exact B _ (λE=>by simp_all[fD,aa.op,aa.name,aa.index,aa.expr,dC])
  .repeat' (first|refine sy ?_|(refine pf 139 ?_;refine pm (O _ _ _) ?_)|((with_reducible refine aU 137 ?_);(refine dK (u _ _ _) ?_;rintro _ _ ⟨G,rfl,rfl⟩))|(refine pf 141 ?_;refine pm (cD _) ?_)|(refine pf 138 ?_;refine pm (iG _ _) ?_)|refine s2 ?_ ?_|intro)
   all_goals exact B _ (λE=>by simp_all[fD,aa.op,aa.name,aa.index,aa.expr,dC])
  .repeat' (first|refine sy ?_|(refine pf 139 ?_;refine pm (O _ _ _) ?_)|((with_reducible refine aU 137 ?_);(refine dK (u _ _ _) ?_;rintro _ _ ⟨G,rfl,rfl⟩))|(refine pf 141 ?_;refine pm (cD _) ?_)|(refine pf 138 ?_;refine pm (iG _ _) ?_)|refine s2 ?_ ?_|intro)
   all_goals exact B _ (λE=>by simp_all[fD,aa.op,aa.name,aa.index,aa.expr,dC])
  .repeat' (first|refine sy ?_|(refine pf 139 ?_;refine pm (O _ _ _) ?_)|((with_reducible refine aU 137 ?_);(refine dK (u _ _ _) ?_;rintro _ _ ⟨G,rfl,rfl⟩))|(refine pf 141 ?_;refine pm (cD _) ?_)|(refine pf 138 ?_;refine pm (iG _ _) ?_)|refine s2 ?_ ?_|intro)
   all_goals exact B _ (λE=>by simp_all[fD,aa.op,aa.name,aa.index,aa.expr,dC])
  .rcases gZ (p:=λx:aA=>decide (x.name=j)) p.decls 0 with⟨g1,g2⟩|⟨k,g1,g2,g3⟩
   .have d1:decide (gj (aV p loc j) 5 5≠0)=true:=by simpa using xH g2
    repeat' (first|refine sy ?_|(refine pf 139 ?_;refine pm (O _ _ _) ?_)|((with_reducible refine aU 137 ?_);(refine dK (u _ _ _) ?_;rintro _ _ ⟨G,rfl,rfl⟩))|(refine pf 141 ?_;refine pm (cD _) ?_)|(refine pf 138 ?_;refine pm (iG _ _) ?_)|refine s2 ?_ ?_|intro)
    exact B _ (λE=>absurd E (of_decide_eq_true d1))
   .have e1:cH p.decls j=(k:Nat):=by rw[cH,g2];simp
    rw[e1]at hda;have hy:=aq (f:=aA.enc) g1
    repeat' (first|refine sy ?_|(refine pf 139 ?_;refine pm (O _ _ _) ?_)|((with_reducible refine aU 137 ?_);(refine dK (u _ _ _) ?_;rintro _ _ ⟨G,rfl,rfl⟩))|(refine pf 141 ?_;refine pm (cD _) ?_)|(refine pf 138 ?_;refine pm (iG _ _) ?_)|((with_reducible refine dR 137 ?_);refine nM (u _ _ _) ?_;rintro _ _ ⟨G,rfl,rfl⟩)|refine s2 ?_ ?_|intro)
    all_goals exact B _ (λE=>by simp_all[fD,aa.op,aa.name,aa.index,aa.expr,dC])
  .rcases gZ (p:=λx:aA=>decide (x.name=j)) p.decls 0 with⟨g1,g2⟩|⟨k,g1,g2,g3⟩
   .have d1:decide (gj (aV p loc j) 5 5≠0)=true:=by simpa using xH g2
    repeat' (first|refine sy ?_|(refine pf 139 ?_;refine pm (O _ _ _) ?_)|((with_reducible refine aU 137 ?_);(refine dK (u _ _ _) ?_;rintro _ _ ⟨G,rfl,rfl⟩))|(refine pf 141 ?_;refine pm (cD _) ?_)|(refine pf 138 ?_;refine pm (iG _ _) ?_)|refine s2 ?_ ?_|intro)
    exact B _ (λE=>absurd E (of_decide_eq_true d1))
   .have e1:cH p.decls j=(k:Nat):=by rw[cH,g2];simp
    rw[e1]at hda;have hy:=aq (f:=aA.enc) g1
    repeat' (first|refine sy ?_|(refine pf 139 ?_;refine pm (O _ _ _) ?_)|((with_reducible refine aU 137 ?_);(refine dK (u _ _ _) ?_;rintro _ _ ⟨G,rfl,rfl⟩))|(refine pf 141 ?_;refine pm (cD _) ?_)|(refine pf 138 ?_;refine pm (iG _ _) ?_)|((with_reducible refine dR 137 ?_);refine nM (u _ _ _) ?_;rintro _ _ ⟨G,rfl,rfl⟩)|refine s2 ?_ ?_|intro)
    all_goals exact B _ (λE=>by simp_all[fD,aa.op,aa.name,aa.index,aa.expr,dC])
  .rcases gZ (p:=λx:aA=>decide (x.name=j)) p.decls 0 with⟨g1,g2⟩|⟨k,g1,g2,g3⟩
   .have d1:decide (gj (aV p loc j) 5 5≠0)=true:=by simpa using xH g2
    repeat' (first|refine sy ?_|(refine pf 139 ?_;refine pm (O _ _ _) ?_)|((with_reducible refine aU 137 ?_);(refine dK (u _ _ _) ?_;rintro _ _ ⟨G,rfl,rfl⟩))|(refine pf 141 ?_;refine pm (cD _) ?_)|(refine pf 138 ?_;refine pm (iG _ _) ?_)|refine s2 ?_ ?_|intro)
    exact B _ (λE=>absurd E (of_decide_eq_true d1))
   .have e1:cH p.decls j=(k:Nat):=by rw[cH,g2];simp
    rw[e1]at hda;have hy:=aq (f:=aA.enc) g1
    repeat' (first|refine sy ?_|(refine pf 139 ?_;refine pm (O _ _ _) ?_)|((with_reducible refine aU 137 ?_);(refine dK (u _ _ _) ?_;rintro _ _ ⟨G,rfl,rfl⟩))|(refine pf 141 ?_;refine pm (cD _) ?_)|(refine pf 138 ?_;refine pm (iG _ _) ?_)|((with_reducible refine dR 137 ?_);refine nM (u _ _ _) ?_;rintro _ _ ⟨G,rfl,rfl⟩)|refine s2 ?_ ?_|intro)
    all_goals exact B _ (λE=>by simp_all[fD,aa.op,aa.name,aa.index,aa.expr,dC])
  .have hat:=ac.within (R:=[]) (KI s.o2 s.sp _ j D.p0 YC) ((show eZ s.o2 1 (s.sp.map av) ((bw,(⟨6,[[.lst (p.decls.map aA.enc),.lst (p.threads.map aj.enc),.YJ s.t,ai s.o1 s.k,ai s.o2 s.sp.length,ai s.o3 s.se.length]]⟩:Blk))::(ab s.o1 11 (s.ar.map aa.enc)++(ab s.o2 1 (s.sp.map av)++ab s.o3 1 (s.se.map av)))) _ by repeat constructor).perm.trans (.of_eq (Xr _).symm))
   repeat' (first|refine sx ?_|(refine pf 139 ?_;refine pm (O _ _ _) ?_)|((with_reducible refine aU 137 ?_);(refine dK (u _ _ _) ?_;rintro _ _ ⟨G,rfl,rfl⟩))|(refine pf 141 ?_;refine pm (cD _) ?_)|(refine pf 138 ?_;refine pm (iG _ _) ?_)|((with_reducible refine dR 96 ?_);refine nM hat ?_;rintro _ _ ⟨G,rfl,rfl⟩)|refine bG rp rp YF (λe=>by first|simp[D.p0 e]) YE YF YH YH YE (λY hnb_=>?_)|refine sb λY hnb_=>?_|refine s2 ?_ ?_|intro)
   all_goals first
    |exact B _ (λE=>by simp_all[fD,aa.op,aa.name,aa.index,aa.expr,dC])
    |skip
   all_goals
    refine hqg _ _ {s with o2:=some Y,sp:=s.sp++[j]} ?_ ⟨D.a0,D.ak,D.k6,nofun,D.e0,by have:=D.pm;simp;omega,Yk D.em⟩ rfl rfl rfl rfl (λE=>by simp_all[fD,aa.op,aa.name,aa.index,aa.expr,dC]);simp only[ai,ab,LT,WO,WT,WL,WS,Xp];exact .one (.there _ (.there _ (.here _))) (.slot (.there _ (.there _ (.here _))) (.one (.here _) (.slotl (.there _ .last))))
  .repeat' (first|refine sy ?_|(refine pf 139 ?_;refine pm (O _ _ _) ?_)|((with_reducible refine aU 137 ?_);(refine dK (u _ _ _) ?_;rintro _ _ ⟨G,rfl,rfl⟩))|(refine pf 141 ?_;refine pm (cD _) ?_)|(refine pf 138 ?_;refine pm (iG _ _) ?_)|refine s2 ?_ ?_|intro)
   all_goals exact B _ (λE=>by simp_all[fD,aa.op,aa.name,aa.index,aa.expr,dC])
  .have hat:=ac.within (R:=[]) (KI s.o3 s.se _ j D.e0 YC) ((show eZ s.o3 1 (s.se.map av) ((bw,(⟨6,[[.lst (p.decls.map aA.enc),.lst (p.threads.map aj.enc),.YJ s.t,ai s.o1 s.k,ai s.o2 s.sp.length,ai s.o3 s.se.length]]⟩:Blk))::(ab s.o1 11 (s.ar.map aa.enc)++(ab s.o2 1 (s.sp.map av)++ab s.o3 1 (s.se.map av)))) _ by repeat constructor).perm.trans (.of_eq (Xr _).symm))
   repeat' (first|refine sx ?_|(refine pf 139 ?_;refine pm (O _ _ _) ?_)|((with_reducible refine aU 137 ?_);(refine dK (u _ _ _) ?_;rintro _ _ ⟨G,rfl,rfl⟩))|(refine pf 141 ?_;refine pm (cD _) ?_)|(refine pf 138 ?_;refine pm (iG _ _) ?_)|((with_reducible refine dR 96 ?_);refine nM hat ?_;rintro _ _ ⟨G,rfl,rfl⟩)|refine bG rp rp YF (λe=>by first|simp[D.e0 e]) YE YF YH YH YE (λY hnb_=>?_)|refine sb λY hnb_=>?_|refine s2 ?_ ?_|intro)
   all_goals
    refine hqg _ _ {s with o3:=some Y,se:=s.se++[j]} ?_ ⟨D.a0,D.ak,D.k6,D.p0,nofun,Yk D.pm,by have:=D.em;simp;omega⟩ rfl rfl rfl rfl (λE=>by simp_all[fD,aa.op,aa.name,aa.index,aa.expr,dC]);simp only[ai,ab,LT,WO,WT,WL,WS,Xp];exact .one (.there _ (.there _ (.here _))) (.slot (.there _ (.there _ (.here _))) (.slot (.there _ (.there _ (.here _))) (.one (.here _) (.nil _))))
 .have S:∀k:Int,1<=k->k<=14->decide (op=k)=false:=λk h1 h2=>by simpa using(by omega:¬op=k)
  have d1:=S 1 YC YC;have d2:=S 2 YC YC;have d3:=S 3 YC YC;have d4:=S 4 YC YC;have d5:=S 5 YC YC;have d6:=S 6 YC YC;have d7:=S 7 YC YC;have d8:=S 8 YC YC;have d9:=S 9 YC YC;have d10:=S 10 YC YC;have d11:=S 11 YC YC;have d12:=S 12 YC YC;have d13:=S 13 YC YC;have d14:=S 14 YC YC
  repeat' (first|refine sy ?_|(refine pf 139 ?_;refine pm (O _ _ _) ?_)|((with_reducible refine aU 137 ?_);(refine dK (u _ _ _) ?_;rintro _ _ ⟨G,rfl,rfl⟩))|(refine pf 141 ?_;refine pm (cD _) ?_)|(refine pf 138 ?_;refine pm (iG _ _) ?_)|refine s2 ?_ ?_|intro)
  all_goals exact B _ (λE=>by simp_all[fD,aa.op,aa.name,aa.arg,aa.index,aa.expr,dC])
