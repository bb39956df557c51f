/- A part of the proof; the statement is proved in the last part. -/
import Derived.Test.YtbofdbhnbodbiaaGreatDoorQuq
set_option linter.all false
set_option maxRecDepth 100000
set_option maxHeartbeats 20000000
namespace Go.Proofs.YtbofdbhnbodbiaaGreatDoor.Am
def IF(w:aG)(h1:w.cells.length<=1000)(h2:w.locks.length<=1000)(h3:w.conds.length<=1000)(h4:w.futures.length<=1000)(h5:w.threads.length<=1000)(h6:w.sites.length<=1000):aq Tryz.prog 28 [.agg w.enc] (.agg w.enc):=by
 have Y:=Gq w.cells h1;have S:=Gr w.locks h2;have O:=Gs w.conds h3;have N:=y6 w.futures h4;have M:=y6 w.threads h5;have G:=Gt w.sites h6;refine ac.fz (uT _ _ _ ?_);refine vw ?_;generalize B:(λ(v:AV) (L:SH)=>∃j D,az [v] L [j] D/\j=AV.agg w.enc/\D=[])=Q;have Z:∀L,Q (.agg w.enc) L:=λL=>by subst B;exact⟨_,[],az.all (.refl _),rfl,rfl⟩
 clear B;unfold aG.enc at *
 repeat' (first|refine st ?_|(refine pf 62 ?_;refine pm (Y) ?_)|(refine pf 63 ?_;refine pm (S) ?_)|(refine pf 64 ?_;refine pm (O) ?_)|(refine pf 65 ?_;refine pm (N) ?_)|(refine pf 65 ?_;refine pm (M) ?_)|(refine pf 66 ?_;refine pm (G) ?_)|refine sb λE u=>?_|refine s2 (λh=>?_) λh=>?_|fail)
 exact Z _
def IG(c:aY)(Z:BZ c)(l:List cK)(Y:l.length<2^62)(j:aq Tryz.prog 36 [.agg c.enc] (.agg (bL c).enc))(h0:kB c 0 (bL c)):aq Tryz.prog 27 [.agg c.enc,.lst (l.map cK.enc)] (AI (ep c l)):=by
 refine ac.fz (AE _ _ _ _ ?_);refine vw ?_;generalize M:(λ(v:AV) (L:SH)=>∃D N,az [v] L [D] N/\D=AI (ep c l)/\N=[])=Q;have S:∀v L,Fz L v (AI (cX c l ([],bL c)))->Q v L:=λv L h=>by subst M;exact⟨_,[],az.all h,rfl,rfl⟩
 clear M;have E:=λb2 b9=>KZ c Z l Y (bL c) h0 b2 b9 Q S
 have B:c.enc=[.lst (c.w.cells.map aF.enc),.lst (c.w.locks.map bn.enc),.lst (c.w.conds.map bP.enc),.lst (c.w.futures.map au),.lst (c.w.threads.map au),.lst (c.w.sites.map bQ.enc),.lst (c.ts.map eB.enc)]:=rfl;generalize bL c=s0 at *;have u:s0.enc=[.lst (s0.sync.locks.map LockD.enc),.U1 s0.sync.tx,.lst (s0.sync.done.map aB),.lst (s0.sync.threads.map ThrD.enc),.lst (s0.cells.map ah),.lst (s0.futures.map ah),.lst (s0.threads.map aD.enc)]:=rfl;unfold aC at E;rw[B,u]at *
 repeat' (first|exact E _ _|refine st ?_|(refine pf 36 ?_;refine pm (j) ?_)|refine sb λO G=>?_|refine s2 (λh=>?_) λh=>?_|fail)
def ii{c:aY}(h:gS c)(B:∀t∈c.ts,t.ins.length<2^40):BZ c where
 ins:=λx u i G=>by obtain⟨k,D,rfl⟩:=List.mem_iff_getElem.1 u;obtain⟨j,E,rfl⟩:=List.mem_iff_getElem.1 G;have:=(h.thr k D).ins j E;exact⟨this.lo,this.hi,this.regs⟩
 len:=B
 con:=by have:=h.world.d2;omega
def y7{c:aY}(h:gS c):∀t∈c.ts,0<=t.regs/\t.regs<=1000:=λt j=>by obtain⟨k,u,rfl⟩:=List.mem_iff_getElem.1 j;have:=h.thr k u;have D:=this.r0;have B:=this.r32;exact⟨D,UW⟩
def pp{c:aY}(h:gS c):kB c 0 (bL c):=by
 have j:=h.world;refine⟨λx B=>?_,?_,?_,λl u=>?_,?_,?_,?_,?_⟩
 .obtain⟨t,D,rfl⟩:=TR.1 B;have:=y7 h t D;exact⟨⟨UZ,by simp;omega,λl u=>by rw[(List.mem_replicate.1 u).2];simp,λl u x B=>by rw[(List.mem_replicate.1 u).2]at B;simp at B⟩,Int.le_refl _,Int.le_refl _,by simp;omega⟩
 .have:=h.len;have:=j.t4;simp[bL];omega
 .have:=j.l4;simp[bL,a7];omega
 .have:=(List.mem_replicate.1 u).2;rw[this];simp
 .have:=j.f2;simp[bL,a7];omega
 .have:=j.t4;simp[bL,a7];omega
 .have:=j.c12;simp[bL];omega
 .have:=j.f2;simp[bL];omega
structure oJ where
 w:aG
 ev:List cu
def oJ.enc(t:oJ):List AV:=[.lst (t.w.cells.map aF.enc),.lst (t.w.locks.map bn.enc),.lst (t.w.conds.map bP.enc),.lst (t.w.futures.map au),.lst (t.w.threads.map au),.lst (t.w.sites.map bQ.enc),.lst (t.ev.map cu.enc)]
noncomputable def fa (c:aY) (l:List cK):oJ×cy:=if gA (gS c)then(⟨c.w,(ep c l).1⟩,(ep c l).2)else(⟨⟨[],[],[],[],[],[]⟩,[]⟩,cy.zero)
def MP(c:aY)(hl:∀t∈c.ts,t.ins.length<2^40)(l:List cK)(hll:l.length<2^62):aq Tryz.prog 9 [.agg c.enc,.lst (l.map cK.enc)] (.tup [.agg (fa c l).1.enc,.agg (fa c l).2.enc]):=by
 have M:=KR c λt ht=>by have:=hl t ht;omega
 refine ac.fz (Gm _ _ _ _ ?_);refine vw ?_;generalize hQ:(λ(v:AV) (L:SH)=>∃v2 L2,az [v] L [v2] L2/\v2=AV.tup [.agg (fa c l).1.enc,.agg (fa c l).2.enc]/\L2=[])=Q;have N:∀a b L,eP L a (fa c l).1.enc->eP L b (fa c l).2.enc->Q (.tup [.agg a,.agg b]) L:=λa b L h1 h2=>by subst hQ;exact⟨_,[],az.all (Fz.tups (.cons (Fz.aggs h1) (.cons (Fz.aggs h2) .nil))),rfl,rfl⟩
 clear hQ;have E:c.enc=[.lst (c.w.cells.map aF.enc),.lst (c.w.locks.map bn.enc),.lst (c.w.conds.map bP.enc),.lst (c.w.futures.map au),.lst (c.w.threads.map au),.lst (c.w.sites.map bQ.enc),.lst (c.ts.map eB.enc)]:=rfl;cases B:gA (gS c)with
 |false=>
  rw[B]at M;have hr:fa c l=(⟨⟨[],[],[],[],[],[]⟩,[]⟩,cy.zero):=by unfold fa;rw[B];rfl
  rw[hr]at N;have S:∀L,Q (.tup [.agg [.nils,.nils,.nils,.nils,.nils,.nils,.nils],.agg [.nils,.U1 0,.nils,.nils,.nils,.nils,.nils]]) L:=λL=>N _ _ L (by unfold oJ.enc;exact fl) (by unfold cy.zero cy.enc EB;exact fl)
  rw[E]at *
  repeat' (first|refine st ?_|(refine pf 26 ?_;refine pm (M) ?_)|refine sb λO u=>?_|refine s2 (λh=>?_) λh=>?_|fail)
  exact S _
 |true=>
  rw[B]at M;have G:=eH.1 B;have j:=G.world;have hr:fa c l=(⟨c.w,(ep c l).1⟩,(ep c l).2):=by unfold fa;rw[B];rfl
  rw[hr]at N;have Z:=IB c (by have:=j.c12;omega) (by have:=j.l4;omega) (by have:=j.f2;omega) (by have:=j.t4;omega) (by have:=G.len;have:=j.t4;omega) (y7 G);have hf:=IG c (ii G hl) l hll Z (pp G);have D:=IF c.w (by have:=j.c12;omega) (by have:=j.l4;omega) (by have:=j.d2;omega) (by have:=j.f2;omega) (by have:=j.t4;omega) (by have:=j.s60;omega);generalize ep c l=p at *;obtain⟨ev,s⟩:=p;unfold AI at hf;have Y:c.w.enc=[.lst (c.w.cells.map aF.enc),.lst (c.w.locks.map bn.enc),.lst (c.w.conds.map bP.enc),.lst (c.w.futures.map au),.lst (c.w.threads.map au),.lst (c.w.sites.map bQ.enc)]:=rfl;have hse:s.enc=[.lst (s.sync.locks.map LockD.enc),.U1 s.sync.tx,.lst (s.sync.done.map aB),.lst (s.sync.threads.map ThrD.enc),.lst (s.cells.map ah),.lst (s.futures.map ah),.lst (s.threads.map aD.enc)]:=rfl;dsimp only at *;rw[E]at *;rw[Y]at D;rw[hse]at *;have S:∀L,Q (.tup [.agg [.lst (c.w.cells.map aF.enc),.lst (c.w.locks.map bn.enc),.lst (c.w.conds.map bP.enc),.lst (c.w.futures.map au),.lst (c.w.threads.map au),.lst (c.w.sites.map bQ.enc),.lst (ev.map cu.enc)],.agg [.lst (s.sync.locks.map LockD.enc),.U1 s.sync.tx,.lst (s.sync.done.map aB),.lst (s.sync.threads.map ThrD.enc),.lst (s.cells.map ah),.lst (s.futures.map ah),.lst (s.threads.map aD.enc)]]) L:=λL=>N _ _ L (eP.refl _ _) (eP.refl _ _)
  repeat' (first|refine st ?_|(refine pf 26 ?_;refine pm (M) ?_)|(refine pf 27 ?_;refine pm (hf) ?_)|(refine pf 28 ?_;refine pm (D) ?_)|refine sb λO u=>?_|refine s2 (λh=>?_) λh=>?_|fail)
  exact S _
def Jq(e:cu):Prop:=e.deps.length<=2^30/\e.frm.length<=2^30
def Gu{i:aT}{s:aD}{t:Int}(h:∀r,(s.tnt r).length<=2^30):Jq (cS i s t):=by
 unfold cS Jq;dsimp only
 repeat' split
 all_goals first
  |exact⟨TG _,TG _⟩
  |exact⟨h _,TG _⟩
  |exact⟨TG _,h _⟩
  |exact⟨h _,h _⟩
def IH{U:List Int}{s:aD}(h:hM U s)(r:Int):(s.tnt r).length<=2^30:=by
 unfold aD.tnt;rcases Tf r.toNat s.taint.length with j|j
 .simpa[j]using h.short _ (Tk j)
 .simp[List.getD,Tg j]
def Gv{c:aY}{s:cy}{t:Int}{e:cu}{n:Nat}(H:kB c n s)(h:co c s t=some e):Jq e:=by
 unfold co at h;split at h
 .rename_i u;have B:ay s t∈s.threads:=eI (d:=aD.zero) (d9 u).2.1;have j:=λr=>IH (H.thr _ B).1 r
  dsimp only at h;split at h
  .cases h;exact⟨TG _,TG _⟩
  .split at h
   .cases h;exact⟨TG _,TG _⟩
   .split at h
    .split at h
     .cases h;exact Gu j
     .cases h
    .cases h
 .cases h
def K0{c:aY}{p:List cu×cy}{ch:cK}(H:kB c p.1.length p.2)(h:∀e∈p.1,Jq e):∀e∈(BT c p ch).1,Jq e:=by
 unfold BT;split
 .exact h
 .split
  .exact h
  .rename_i n e u;intro x j;rcases Tn.1 j with j|j
   .exact h x j
   .rw[Tl.1 j];obtain⟨D,B,hp,_,_,_,_,_,rfl⟩:=y5 u;have u:=Gv H hp;exact u
def II{c:aY}(B:BZ c)(l:List cK){p:List cu×cy}(H:kB c p.1.length p.2)(u:p.1.length<=400)(h:∀e∈p.1,Jq e):∀e∈(cX c l p).1,Jq e:=by
 induction l generalizing p with
 |nil=>exact h
 |cons ch l j=>obtain⟨a,b⟩:=C5 (ch:=ch) B H u;exact j a b (K0 H h)
def C6{c:aY}(h:gS c)(j:∀t∈c.ts,t.ins.length<2^40)(l:List cK):(∀e∈(ep c l).1,Jq e)/\(ep c l).1.length<=400:=
 ⟨II (ii h j) l (pp h) (TG _) nofun,(xy (ii h j) l (p:=([],bL c)) (pp h) (TG _)).2⟩
def IJ(c:aY)(j:∀t∈c.ts,t.ins.length<2^40)(l:List cK):(∀e∈(fa c l).1.ev,Jq e)/\(fa c l).1.ev.length<=400:=by
 unfold fa;cases u:gA (gS c)with
 |true=>exact C6 (eH.1 u) j l
 |false=>exact⟨nofun,TG _⟩
def fG:RF:=nv (bO Tryz.prog Tryz.f15 [(39,⟨[1,2,3,6],[],true,[]⟩),(27,⟨[1,2,3,5],[],true,[]⟩),(15,⟨[1,2,3,4],[],true,[]⟩)] [(0,[1])])
abbrev y8(Q:R):Vs->SH->Kn->Prop:=Lp fG 17 Q 39 []
abbrev y9(Q:R):Vs->SH->Kn->Prop:=Lp fG 18 Q 27 []
abbrev zb(Q:R):Vs->SH->Kn->Prop:=Lp fG 19 Q 15 []
abbrev AJ(a:AV)(L:SH)(Q:R):Prop:=Pc fG 20 Q 0 [] [a] L
def zc(j:AV)(L:SH)(Q:R)(h:AJ j L Q):ac Tryz.prog 15 [j] L Q:=
 fv fG Tryz.func15 h
def mh:RF:=nv (bO Tryz.prog Tryz.f44 [(9,⟨[1,2,3,4],[],true,[]⟩)] [(0,[1])])
abbrev qt(Q:R):Vs->SH->Kn->Prop:=Lp mh 19 Q 9 []
abbrev C7(a:AV)(L:SH)(Q:R):Prop:=Pc mh 20 Q 0 [] [a] L
def AK(j:AV)(L:SH)(Q:R)(h:C7 j L Q):ac Tryz.prog 44 [j] L Q:=
 fv mh Tryz.func44 h
def s9:RF:=nv (bO Tryz.prog Tryz.f12 [(12,⟨[2,3,5],[],true,[]⟩)] [(0,[2,3])])
abbrev C8(a b:AV)(L:SH)(Q:R):Prop:=Pc s9 20 Q 0 [] [a,b] L
def AL(j t1:AV)(L:SH)(Q:R)(h:C8 j t1 L Q):ac Tryz.prog 12 [j,t1] L Q:=
 fv s9 Tryz.func12 h
def jX:RF:=nv (bO Tryz.prog Tryz.f34 [(12,⟨[0,1,5],[],true,[]⟩)] [])
abbrev ta(a b:AV)(L:SH)(Q:R):Prop:=Pc jX 20 Q 0 [] [a,b] L
def rC(j t1:AV)(L:SH)(Q:R)(h:ta j t1 L Q):ac Tryz.prog 34 [j,t1] L Q:=
 fv jX Tryz.func34 h
def mi:RF:=nv (bO Tryz.prog Tryz.f39 [(12,⟨[2,3,5],[],true,[]⟩)] [(0,[2,3]),(6,[6])])
abbrev AM(Q:R):Vs->SH->Kn->Prop:=Lp mi 19 Q 12 []
abbrev C9(a b:AV)(L:SH)(Q:R):Prop:=Pc mi 20 Q 0 [] [a,b] L
def AN(j t1:AV)(L:SH)(Q:R)(h:C9 j t1 L Q):ac Tryz.prog 39 [j,t1] L Q:=
 fv mi Tryz.func39 h
def td:RF:=nv (bO Tryz.prog Tryz.f40 [] [])
abbrev Da(a:AV)(L:SH)(Q:R):Prop:=Pc td 20 Q 0 [] [a] L
def AO(j:AV)(L:SH)(Q:R)(h:Da j L Q):ac Tryz.prog 40 [j] L Q:=
 fv td Tryz.func40 h
def oK:RF:=nv (bO Tryz.prog Tryz.f41 [(15010,⟨[2,3,6,7],[],true,[]⟩)] [(0,[2,3])])
abbrev zd(a b:AV)(L:SH)(Q:R):Prop:=Pc oK 20 Q 0 [] [a,b] L
def wY(j t1:AV)(L:SH)(Q:R)(h:zd j t1 L Q):ac Tryz.prog 41 [j,t1] L Q:=
 fv oK Tryz.func41 h
def mK:RF:=nv (bO Tryz.prog Tryz.f17 [(72067,⟨[6,8,9,10],[],true,[]⟩),(69064,⟨[6,8,9,10,98],[72067],false,[]⟩)] [(0,[3,4]),(3,[8]),(4,[9])])
abbrev wZ(a b c:AV)(L:SH)(Q:R):Prop:=Pc mK 20 Q 0 [] [a,b,c] L
def uV(j t1 t2:AV)(L:SH)(Q:R)(h:wZ j t1 t2 L Q):ac Tryz.prog 17 [j,t1,t2] L Q:=
 fv mK Tryz.func17 h
def fh:RF:=nv (bO Tryz.prog Tryz.f19 [(123118,⟨[4,5,6,7,9,14],[],true,[]⟩),(111106,⟨[3,4,5,6,7,9,14,16],[],true,[]⟩),(102097,⟨[3,4,5,6,7,9,14,15,16],[],true,[]⟩),(54049,⟨[3,4,5,6,7,9,14,15,16,77,78],[102097],false,[]⟩),(2108,⟨[3,4,5,6,7,9,11,12,51],[],true,[]⟩)] [(0,[3,5]),(4,[11]),(10,[15])])
abbrev fH(Q:R):Vs->SH->Prop:=Jp fh 16 Q 123118 []
abbrev kC(Q:R):Vs->SH->Prop:=Jp fh 17 Q 111106 []
abbrev gW(Q:R):Vs->SH->Prop:=Jp fh 18 Q 102097 []
abbrev qu(Q:R)(a b c d e f g h i:AV)(j:SH):Prop:=Pc fh 19 Q 2108 [] [d,a,c,g,h,e,b,f,i] j
abbrev Db(a b c:AV)(L:SH)(Q:R):Prop:=Pc fh 20 Q 0 [] [a,b,c] L
def AP(j t1 t2:AV)(L:SH)(Q:R)(h:Db j t1 t2 L Q):ac Tryz.prog 19 [j,t1,t2] L Q:=
 fv fh Tryz.func19 h
def mj:RF:=nv (bO Tryz.prog Tryz.f30 [(6,⟨[2,3,4,5,9,10],[],true,[]⟩)] [(0,[4]),(4,[11,12])])
abbrev AQ(Q:R):Vs->SH->Kn->Prop:=Lp mj 19 Q 6 []
abbrev Dc(a b c d:AV)(L:SH)(Q:R):Prop:=Pc mj 20 Q 0 [] [a,b,c,d] L
def AR(j t1 t2 t3:AV)(L:SH)(Q:R)(h:Dc j t1 t2 t3 L Q):ac Tryz.prog 30 [j,t1,t2,t3] L Q:=
 fv mj Tryz.func30 h
def vV:RF:=nv (bO Tryz.prog Tryz.f10 [] [(0,[2]),(3,[7])])
abbrev EX(a b:AV)(L:SH)(Q:R):Prop:=Pc vV 20 Q 0 [] [a,b] L
def Dd(j t1:AV)(L:SH)(Q:R)(h:EX j t1 L Q):ac Tryz.prog 10 [j,t1] L Q:=
 fv vV Tryz.func10 h
def jY:RF:=nv (bO Tryz.prog Tryz.f20 [] [(0,[2,3])])
abbrev tf(a b:AV)(L:SH)(Q:R):Prop:=Pc jY 20 Q 0 [] [a,b] L
def rD(j t1:AV)(L:SH)(Q:R)(h:tf j t1 L Q):ac Tryz.prog 20 [j,t1] L Q:=
 fv jY Tryz.func20 h
def jm:RF:=nv (bO Tryz.prog Tryz.f32 [(12,⟨[0,1,5],[],true,[]⟩)] [])
abbrev rE(a b:AV)(L:SH)(Q:R):Prop:=Pc jm 20 Q 0 [] [a,b] L
def pR(j t1:AV)(L:SH)(Q:R)(h:rE j t1 L Q):ac Tryz.prog 32 [j,t1] L Q:=
 fv jm Tryz.func32 h
def jZ:RF:=nv (bO Tryz.prog Tryz.f11 [] [(0,[2,3])])
abbrev tg(a b:AV)(L:SH)(Q:R):Prop:=Pc jZ 20 Q 0 [] [a,b] L
def rF(j t1:AV)(L:SH)(Q:R)(h:tg j t1 L Q):ac Tryz.prog 11 [j,t1] L Q:=
 fv jZ Tryz.func11 h
def ly:RF:=nv (bO Tryz.prog Tryz.f46 [(12,⟨[0,1,5],[],true,[]⟩)] [])
abbrev uW(a b:AV)(L:SH)(Q:R):Prop:=Pc ly 20 Q 0 [] [a,b] L
def tj(j t1:AV)(L:SH)(Q:R)(h:uW j t1 L Q):ac Tryz.prog 46 [j,t1] L Q:=
 fv ly Tryz.func46 h
def tm(l:List Int)(O:l.length<2^62):aq Tryz.prog 46 [.lst (l.map ah),.lst (l.map ah)] (.bool true):=by
 refine tj _ _ _ _ ?_;refine vw ?_;generalize D:(λ(u:AV) (K:SH)=>u=AV.bool true/\K=[])=Q;have M:Q (.bool true) []:=by subst D;exact⟨rfl,rfl⟩
 clear D;have d0:decide ((l.length:Int)≠(l.length:Int))=false:=by simp
 repeat' (first|refine st ?_|refine sb λB j=>?_|refine s2 (λh=>?_) λh=>?_|fail)
 refine dw l.length (λ_=>True) (λi=>[.lst (l.map ah),.lst (l.map ah),.U1 i]) O trivial rfl (λi E S Z _ G N=>?_) (λi E S _ G=>?_)
 all_goals refine vw ?_
 .have Y:=am (f:=ah) E;have d1:decide (l[i]≠l[i])=false:=by simp
  repeat' (first|refine st ?_|refine sb λB j=>?_|refine s2 (λh=>?_) λh=>?_|fail)
  exact N trivial
 .repeat' (first|refine st ?_|refine sb λB j=>?_|refine s2 (λh=>?_) λh=>?_|fail)
  exact M
def IK(e:cu)(h:Jq e):aq Tryz.prog 20 [.agg e.enc,.agg e.enc] (.bool true):=by
 have G:=tm e.deps (by have:=h.1;omega);have s2:=tm e.frm (by have:=h.2;omega);refine ac.fz (rD _ _ _ _ ?_);refine vw ?_;generalize B:(λ(v:AV) (L:SH)=>∃j E,az [v] L [j] E/\j=AV.bool true/\E=[])=Q;have N:∀L,Q (.bool true) L:=λL=>by subst B;exact⟨_,[],az.all (.refl _),rfl,rfl⟩
 clear B h;obtain⟨e1,e2,D,e4,e5,d,f⟩:=e;unfold cu.enc;dsimp only at *;have d1:decide (e1=e1)=true:=decide_eq_true rfl;have Z:decide (e2=e2)=true:=decide_eq_true rfl;have Y:decide (D=D)=true:=decide_eq_true rfl;have S:decide (e4=e4)=true:=decide_eq_true rfl;have O:decide (e5=e5)=true:=decide_eq_true rfl
 repeat' (first|refine st ?_|(refine pf 46 ?_;refine pm (G) ?_)|(refine pf 46 ?_;refine pm (s2) ?_)|refine sb λM u=>?_|refine s2 (λh=>?_) λh=>?_|fail)
 exact N _
def Gw(l:List cu)(h:∀e∈l,Jq e)(N:l.length<2^62):aq Tryz.prog 32 [.lst (l.map cu.enc),.lst (l.map cu.enc)] (.bool true):=by
 refine pR _ _ _ _ ?_;refine vw ?_;have d0:decide ((l.length:Int)≠l.length)=false:=decide_eq_false UZ
 repeat' (first|refine st ?_|refine sb λu j=>?_|refine s2 (λh=>?_) λh=>?_|fail)
 refine dt l (λ_=>false) (λi=>[.lst (l.map cu.enc),.lst (l.map cu.enc),.U1 i]) N rfl (λi E S Z B G D=>?_) (λi E S B G=>?_)
 all_goals refine vw ?_
 .have Y:=am (f:=cu.enc) E;have M:=IK _ (h _ (Tk E));have D:=D rfl;generalize l[i]=e at *;have O:e.enc=[.U1 e.thread,.U1 e.kind,.U1 e.obj,.U1 e.value,.U1 e.site,.lst (e.deps.map ah),.lst (e.frm.map ah)]:=rfl;rw[O]at *
  repeat' (first|refine st ?_|(refine pf 20 ?_;refine pm (M) ?_)|refine sb λu j=>?_|refine s2 (λh=>?_) λh=>?_|fail)
  exact D
 .repeat' (first|refine st ?_|refine sb λu j=>?_|refine s2 (λh=>?_) λh=>?_|fail)
  exact⟨rfl,rfl⟩
def zf:RF:=nv (bO Tryz.prog Tryz.f124 [] [])
abbrev Gx(a b:AV)(L:SH)(Q:R):Prop:=Pc zf 20 Q 0 [] [a,b] L
def EY(j t1:AV)(L:SH)(Q:R)(h:Gx j t1 L Q):ac Tryz.prog 124 [j,t1] L Q:=
 fv zf Tryz.func124 h
def qv:RF:=nv (bO Tryz.prog Tryz.f125 [(96091,⟨[2,3,79],[],true,[]⟩),(87082,⟨[2,3,7,71],[],true,[]⟩),(78073,⟨[2,3,7,61],[],true,[]⟩),(63058,⟨[2,3,7,43],[],true,[]⟩),(48043,⟨[2,3,7,26],[],true,[]⟩),(39034,⟨[2,3,7,18],[],true,[]⟩),(30025,⟨[2,3,7,8],[],true,[]⟩)] [(0,[3])])
abbrev AS(a b c:AV)(L:SH)(Q:R):Prop:=Pc qv 20 Q 0 [] [a,b,c] L
def zg(j t1 t2:AV)(L:SH)(Q:R)(h:AS j t1 t2 L Q):ac Tryz.prog 125 [j,t1,t2] L Q:=
 fv qv Tryz.func125 h
def tp:RF:=nv (bO Tryz.prog Tryz.f71 [(6,⟨[2,3,5],[],true,[]⟩)] [(0,[2,3])])
abbrev De(a b:AV)(L:SH)(Q:R):Prop:=Pc tp 20 Q 0 [] [a,b] L
def AT(j t1:AV)(L:SH)(Q:R)(h:De j t1 L Q):ac Tryz.prog 71 [j,t1] L Q:=
 fv tp Tryz.func71 h
def iA:RF:=nv (bO Tryz.prog Tryz.f76 [(105100,⟨[2,4,5,6,70,160],[],true,[]⟩),(63058,⟨[2,4,5,6,11,70,119],[],true,[]⟩),(902,⟨[2,3,4,5,6],[],true,[]⟩)] [(0,[5,6]),(3,[11])])
abbrev tq(Q:R)(a:SH)(b c d e f:AV):Prop:=Pc iA 19 Q 902 [] [b,c,d,f,e] a
abbrev w6(a b c d e:AV)(L:SH)(Q:R):Prop:=Pc iA 20 Q 0 [] [a,b,c,d,e] L
def uX(u t1 t2 t3 j:AV)(L:SH)(Q:R)(h:w6 u t1 t2 t3 j L Q):ac Tryz.prog 76 [u,t1,t2,t3,j] L Q:=
 fv iA Tryz.func76 h
def vW:RF:=nv (bO Tryz.prog Tryz.f81 [(6,⟨[0,1,5],[],true,[]⟩)] [])
abbrev EZ(a b:AV)(L:SH)(Q:R):Prop:=Pc vW 20 Q 0 [] [a,b] L
def Df(j t1:AV)(L:SH)(Q:R)(h:EZ j t1 L Q):ac Tryz.prog 81 [j,t1] L Q:=
 fv vW Tryz.func81 h
def tu:RF:=nv (bO Tryz.prog Tryz.f77 [(9,⟨[1,2,3,4],[],true,[]⟩)] [(0,[1])])
abbrev Dg(a:AV)(L:SH)(Q:R):Prop:=Pc tu 20 Q 0 [] [a] L
def AU(j:AV)(L:SH)(Q:R)(h:Dg j L Q):ac Tryz.prog 77 [j] L Q:=
 fv tu Tryz.func77 h
def mL:RF:=nv (bO Tryz.prog Tryz.f79 [(9,⟨[0,1,5,6],[],true,[]⟩)] [])
abbrev w7(a b:AV)(L:SH)(Q:R):Prop:=Pc mL 20 Q 0 [] [a,b] L
def uY(j t1:AV)(L:SH)(Q:R)(h:w7 j t1 L Q):ac Tryz.prog 79 [j,t1] L Q:=
 fv mL Tryz.func79 h
def mM:RF:=nv (bO Tryz.prog Tryz.f80 [(9,⟨[1,2,5,6],[],true,[]⟩)] [(0,[2])])
abbrev w8(a b:AV)(L:SH)(Q:R):Prop:=Pc mM 20 Q 0 [] [a,b] L
def uZ(j t1:AV)(L:SH)(Q:R)(h:w8 j t1 L Q):ac Tryz.prog 80 [j,t1] L Q:=
 fv mM Tryz.func80 h
def kD:RF:=nv (bO Tryz.prog Tryz.f43 [(165160,⟨[7,12,15],[],true,[]⟩),(126121,⟨[7,12,17],[165160],false,[]⟩),(138,⟨[7,12,18,19],[165160],false,[]⟩),(48043,⟨[2,4,5,6,7,12,15,30,54],[165160],false,[]⟩),(39034,⟨[2,4,5,6,7,12,15,30,45],[165160],false,[]⟩),(908,⟨[2,3,4,5,6,7,12,29],[],true,[]⟩)] [(0,[6])])
abbrev mN(Q:R)(a b c d e f g h:AV)(i:SH):Prop:=Pc kD 19 Q 908 [] [b,a,c,d,g,e,f,h] i
abbrev qw(a b c d e f:AV)(L:SH)(Q:R):Prop:=Pc kD 20 Q 0 [] [a,b,c,d,e,f] L
def zh(B t1 t2 t3 u j:AV)(L:SH)(Q:R)(h:qw B t1 t2 t3 u j L Q):ac Tryz.prog 43 [B,t1,t2,t3,u,j] L Q:=
 fv kD Tryz.func43 h
def fI:RF:=nv (bO Tryz.prog Tryz.f37 [(51046,⟨[1,2,3,6,7],[33],false,[]⟩),(33,⟨[1,2,3,6],[],true,[]⟩),(21,⟨[1,2,3,5],[],true,[]⟩),(9,⟨[1,2,3,4],[],true,[]⟩)] [(0,[1])])
abbrev zj(Q:R):Vs->SH->Kn->Prop:=Lp fI 17 Q 33 []
abbrev zk(Q:R):Vs->SH->Kn->Prop:=Lp fI 18 Q 21 []
abbrev zl(Q:R):Vs->SH->Kn->Prop:=Lp fI 19 Q 9 []
abbrev AW(a:AV)(L:SH)(Q:R):Prop:=Pc fI 20 Q 0 [] [a] L
def zm(j:AV)(L:SH)(Q:R)(h:AW j L Q):ac Tryz.prog 37 [j] L Q:=
 fv fI Tryz.func37 h
def tv:RF:=nv (bO Tryz.prog Tryz.f33 [(42,⟨[2,3,7],[],true,[]⟩),(27,⟨[2,3,6],[],true,[]⟩),(12,⟨[2,3,5],[],true,[]⟩)] [(0,[2,3])])
abbrev Dh(a b:AV)(L:SH)(Q:R):Prop:=Pc tv 20 Q 0 [] [a,b] L
def AX(j t1:AV)(L:SH)(Q:R)(h:Dh j t1 L Q):ac Tryz.prog 33 [j,t1] L Q:=
 fv tv Tryz.func33 h
end Go.Proofs.YtbofdbhnbodbiaaGreatDoor.Am
