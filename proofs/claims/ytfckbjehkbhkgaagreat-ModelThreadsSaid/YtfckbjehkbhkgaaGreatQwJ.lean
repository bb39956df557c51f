/- part -/
import Derived.Test.YtfckbjehkbhkgaaGreatQwH
import Derived.Test.YtfckbjehkbhkgaaGreatQwI
set_option linter.all false
set_option maxRecDepth 100000
set_option maxHeartbeats 0
namespace Go.Proofs.YtfckbjehkbhkgaaGreat.Am
section
section
variable (c:bP) (l:List bI) (t wake:Int) (h1:inB t l.length=true) (hc:inB t c.ts.length=true) (sy_:SyncD) (e:bA) (a:bI) (ev0 pc0:Int) (ce fu:List Int) (g1 g2:AV) (K A:SH) (hA:A=[]\/∃q,A=[q]) (b74 be b8 b6 bs bt bc bf:Nat)
 (hg:∀L:SH,(∀q∈A++K,q∈L)->Fz L g1 (.lst (a.regs.map aa))) (hg2:∀L:SH,(∀q∈A++K,q∈L)->Fz L g2 (.lst (a.taint.map eX))) (hev:a.ev=IntKind.i64.wrap (ev0+1)) (g1o:g1.one=true) (g2o:g2.one=true)
def ue(r:List AV)(ev:bA)(T:SH):SH:=(b74,⟨4,[r]⟩)::(be,⟨7,[ev.enc]⟩)::(b8,⟨7,[i8]⟩)::(b6,⟨7,[ca]⟩)::(bs,⟨7,[[.lst (sy_.locks.map LockD.enc),.acU sy_.tx,.lst (sy_.done.map au),.lst (sy_.threads.map ThrD.enc),.sl bc 0 ce.length,.sl bf 0 fu.length,.sl bt 0 l.length]]⟩)::(bt,⟨4,(l.map bI.enc).set t.toNat [.acU pc0,g1,g2,.acU ev0]⟩)::T
variable (hnd:(A++ue l t sy_ ev0 pc0 ce fu g1 g2 b74 be b8 b6 bs bt bc bf [] e ([]:SH)).names.Nodup) (th:bI) (Q:R)
 (hq:∀v L,Fz L v (Kf (some (⟨sy_,ce,fu,l.set t.toNat th⟩,e)))->Q v L)
include h1 hA hnd hq
theorem Z3(r:List AV)(T L:SH)(hL:L=A++ue l t sy_ ev0 pc0 ce fu g1 g2 b74 be b8 b6 bs bt bc bf r e (T++[(bf,⟨1,fu.map aa⟩),(bc,⟨1,ce.map aa⟩)]))(hr:∃x y z w,r=[x,y,z,w])(u:r.all AV.one=true)(S:∀L,(∀q∈A++T,q∈L)->fy L r th.enc):
  gY Q [.ptr bs 0 0,.pptr [[.acU t,.acU wake]] 0 0,.ptr b6 0 0,.ptr b8 0 0,.ptr be 0 0,.ptr b74 0 0] L:=by
 subst hL;obtain⟨O,t1⟩:=ao.1 h1;have N:t.toNat<(l.map bI.enc).length:=by simp;omega
 have j:t.toNat<l.length:=by omega
 have x2:=Ke [AV.acU pc0,g1,g2,.acU ev0] N;obtain⟨x,y,z,w,rfl⟩:=hr;have fin:∀L,(∀q∈A++T,q∈L)->(bf,(⟨1,fu.map aa⟩:Blk))∈L->(bc,(⟨1,ce.map aa⟩:Blk))∈L->(bt,(⟨4,((l.map bI.enc).set t.toNat [.acU pc0,g1,g2,.acU ev0]).set t.toNat [x,y,z,w]⟩:Blk))∈L->
   Q (.tup [.agg [.lst (sy_.locks.map LockD.enc),.acU sy_.tx,.lst (sy_.done.map au),.lst (sy_.threads.map ThrD.enc),.sl bc 0 ce.length,.sl bf 0 fu.length,.sl bt 0 l.length],.agg e.enc,.bool true]) L:=λL h1 h2 h3 Y=>by
  rw[List.set_set]at Y;exact hq _ _ (Fz.tups (.cons (Fz.aggs (.cons (.refl _) (.cons (.refl _) (.cons (.refl _) (.cons (.refl _) (.cons (Fz.sls h3 rfl acR rfl) (.cons (Fz.sls h2 rfl acR rfl) (.cons (WZ j Y (S L h1)) .nil)))))))) (.cons (.refl _) (.cons (.refl _) .nil))))
 clear hq S;refine vw ?_;unfold ue ca i8 at *;obtain⟨e1,ek,eo,ev,Z,d,f⟩:=e;rw[show∀k v,bA.enc ⟨e1,k,eo,v,Z,d,f⟩=[.acU e1,.acU k,.acU eo,.acU v,.acU Z,.lst (d.map aa),.lst (f.map aa)]from λ_ _=>rfl]at *;rcases hA with rfl|⟨q,rfl⟩
 all_goals
  simp only[SH.names,aai,abF,abG,aaj,abA,or_false,not_or,abK,abX]at hnd
 .obtain⟨⟨n1,n2,n3,n4,n5⟩,⟨n6,n7,n8,n9⟩,⟨M,G,E⟩,⟨D,B⟩,n15,_⟩:=hnd;dsimp only[List.nil_append,List.cons_append]at fin ⊢
  repeat' (first|refine aw O j rp rfl ?_|refine sy ?_|refine aO rp acO rfl rfl u acQ ?_|refine s2 ?_ ?_|intro)
  exact fin _ (λq hq=>by simp[hq]) acQ acQ mm
 .obtain⟨⟨m1,m2,m3,m4,m5,m6⟩,⟨n1,n2,n3,n4,n5⟩,⟨n6,n7,n8,n9⟩,⟨M,G,E⟩,⟨D,B⟩,n15,_⟩:=hnd;obtain⟨qb,qx⟩:=q;dsimp only[List.nil_append,List.cons_append]at fin m1 m2 m3 m4 m5 m6 ⊢
  repeat' (first|refine aw O j rp rfl ?_|refine sy ?_|refine aO rp acO rfl rfl u acQ ?_|refine s2 ?_ ?_|intro)
  exact fin _ (λq hq=>by simp at hq ⊢;rcases hq with rfl|hq<;>simp[*]) acQ acQ mm
include hc hg hg2 hev g1o g2o
theorem abb(u:aq Tryz.prog 152 [.agg (aE c t).enc,.agg a.enc] (Ka (cD (aE c t) a)))(M:((e.kind=16\/e.kind=2)/\th=a)\/((e.kind≠16/\e.kind≠2)/\cD (aE c t) a=(th,true))):
  mq Q [.pptr [c.enc] 0 0,.ptr bs 0 0,.pptr [[.acU t,.acU wake]] 0 0,.ptr b6 0 0,.ptr b8 0 0,.ptr be 0 0,.ptr b74 0 0,.acU a.pc] (A++ue l t sy_ ev0 pc0 ce fu g1 g2 b74 be b8 b6 bs bt bc bf [.acU pc0,g1,g2,.acU ev0] e (K++[(bf,⟨1,fu.map aa⟩),(bc,⟨1,ce.map aa⟩)])):=by
 have G:SH.names (([]:SH)++ue l t sy_ ev0 pc0 ce fu g1 g2 b74 be b8 b6 bs bt bc bf [] e ([]:SH)) |>.Nodup:=by have:=hnd;unfold SH.names at this ⊢;rw[ST]at this;exact(acy.1 this).2.1
 have j:th=a->∀L,L=A++ue l t sy_ ev0 pc0 ce fu g1 g2 b74 be b8 b6 bs bt bc bf [.acU a.pc,g1,g2,.acU a.ev] e (K++[(bf,⟨1,fu.map aa⟩),(bc,⟨1,ce.map aa⟩)])->gY Q [.ptr bs 0 0,.pptr [[.acU t,.acU wake]] 0 0,.ptr b6 0 0,.ptr b8 0 0,.ptr be 0 0,.ptr b74 0 0] L:=λO L S=>
  Z3 l t wake h1 sy_ e ev0 pc0 ce fu g1 g2 A hA b74 be b8 b6 bs bt bc bf hnd th Q hq _ K L S ⟨_,_,_,_,rfl⟩ (by show(true&&(g1.one&&(g2.one&&(true&&true))))=true;rw[g1o,g2o];rfl) λL2 h2=>by rw[O];exact .cons (.refl _) (.cons (hg L2 h2) (.cons (hg2 L2 h2) (.cons (.refl _) .nil)))
 have E:∀L,L=([]:SH)++ue l t sy_ ev0 pc0 ce fu g1 g2 b74 be b8 b6 bs bt bc bf th.enc e (([]:SH)++[(bf,⟨1,fu.map aa⟩),(bc,⟨1,ce.map aa⟩)])->gY Q [.ptr bs 0 0,.pptr [[.acU t,.acU wake]] 0 0,.ptr b6 0 0,.ptr b8 0 0,.ptr be 0 0,.ptr b74 0 0] L:=λL S=>
  Z3 l t wake h1 sy_ e ev0 pc0 ce fu g1 g2 [] (.inl rfl) b74 be b8 b6 bs bt bc bf G th Q hq _ [] L S ⟨_,_,_,_,rfl⟩ rfl λL S=>fy.refl _ _
 obtain⟨u0,u1⟩:=ao.1 hc;have x1:(c.ts.map i6.enc)[t.toNat]? =some (aE c t).enc:=CN hc;obtain⟨J,hJ⟩:∃J,J=gY Q:=⟨_,rfl⟩;refine vw ?_;unfold gY at hJ j E;rw[<-hJ]at j E ⊢;have N:∀B:SH,ax [.agg (aE c t).enc,.agg [.acU a.pc,g1,g2,.acU a.ev]] (A++(B++(K++[(bf,⟨1,fu.map aa⟩),(bc,⟨1,ce.map aa⟩)]))) [.agg (aE c t).enc,.agg a.enc] (B++[(bf,⟨1,fu.map aa⟩),(bc,⟨1,ce.map aa⟩)]):=λB=>
  ax.drop (K:=A++K) (by
   rw[abr];refine List.Perm.append_left A ?_;exact act _ _ _) rfl (fy.at_ (.cons (.refl _) (.cons (Fz.aggs (.cons (.refl _) (.cons (hg _ λq h=>h) (.cons (hg2 _ λq h=>h) (.cons (.refl _) .nil))))) .nil))).2
 clear hq hJ hg hg2 hc G h1;rw[hev]at j N;unfold ue ca i8 at *;obtain⟨e1,Y,eo,ev,es,d,f⟩:=e;rw[show∀k v,bA.enc ⟨e1,k,eo,v,es,d,f⟩=[.acU e1,.acU k,.acU eo,.acU v,.acU es,.lst (d.map aa),.lst (f.map aa)]from λ_ _=>rfl]at *;unfold bP.enc at *;dsimp only at M;have hnd2:=hnd;rcases hA with rfl|⟨q,rfl⟩
 all_goals
  simp only[SH.names,aai,abF,abG,aaj,abA,or_false,not_or,abK,abX]at hnd
 .obtain⟨⟨n1,n2,n3,n4,n5⟩,⟨n6,n7,n8,n9⟩,⟨n10,n11,n12⟩,⟨n13,Z⟩,n15,_⟩:=hnd;dsimp only[List.nil_append,List.cons_append]at j E N ⊢;rcases M with⟨D,O⟩|⟨D,hs⟩
  .have j:=j O;rcases D with rfl|rfl
   all_goals
    repeat' (first|refine sy ?_|refine s2 ?_ ?_|intro)
    exact j _ rfl
  .have d1:decide (Y≠16)=true:=decide_eq_true D.1;have d2:decide (Y≠2)=true:=decide_eq_true D.2;rw[hs]at u
   repeat' (first|refine sy ?_|refine s2 ?_ ?_|intro)
   refine qj (ac.pre (N [_,_,_,_,_,_]) (u.call (KL:=λv K'=>v=_/\K'=_) ⟨rfl,rfl⟩)) ?_;rintro _ _ ⟨rfl,rfl⟩;unfold Ka;dsimp only[List.nil_append,List.cons_append];unfold bI.enc at E ⊢
   repeat' (first|refine sy ?_|refine s2 ?_ ?_|intro)
   exact E _ rfl
 .obtain⟨⟨m1,m2,m3,m4,m5,m6⟩,⟨n1,n2,n3,n4,n5⟩,⟨n6,n7,n8,n9⟩,⟨n10,n11,n12⟩,⟨n13,Z⟩,n15,_⟩:=hnd;obtain⟨qb,qx⟩:=q;dsimp only[List.nil_append,List.cons_append]at j E N m1 m2 m3 m4 m5 m6 ⊢;rcases M with⟨D,O⟩|⟨D,hs⟩
  .have j:=j O;rcases D with rfl|rfl
   all_goals
    repeat' (first|refine sy ?_|refine s2 ?_ ?_|intro)
    exact j _ rfl
  .have d1:decide (Y≠16)=true:=decide_eq_true D.1;have d2:decide (Y≠2)=true:=decide_eq_true D.2;rw[hs]at u
   repeat' (first|refine sy ?_|refine s2 ?_ ?_|intro)
   refine qj (ac.pre (N [_,_,_,_,_,_]) (u.call (KL:=λv K'=>v=_/\K'=_) ⟨rfl,rfl⟩)) ?_;rintro _ _ ⟨rfl,rfl⟩;unfold Ka;dsimp only[List.nil_append,List.cons_append];unfold bI.enc at E ⊢
   repeat' (first|refine sy ?_|refine s2 ?_ ?_|intro)
   exact E _ rfl
end
end
section
section
variable (c:bP) (s:eE) (t wake:Int) (h1:inB t s.threads.length=true) (hc:inB t c.ts.length=true) (sy_:SyncD) (sv:Int) (e:bA) (i:cb) (be b8 b6 bs bt bc bf:Nat) (o tt:Option Nat)
 (hnd:(ud s t e be b8 b6 bs bt bc bf o tt).names.Nodup) (Q:R)
 (ho:o=none->(aI s t).regs=[]) (htt:tt=none->(aI s t).taint=[]) (htl:(aI s t).taint.length=(aI s t).regs.length)
 (hra:e.kind=3\/e.kind=23\/e.kind=5->0<=i.a/\i.a<(aI s t).regs.length) (th:bI) (a:Ue) (ha:a=fe i e s (aI s t) sv)
 (hse:aq Tryz.prog 152 [.agg (aE c t).enc,.agg a.thread.enc] (Ka (cD (aE c t) a.thread)))
 (hth:((e.kind=16\/e.kind=2)/\th=a.thread)\/((e.kind≠16/\e.kind≠2)/\cD (aE c t) a.thread=(th,true)))
 (hq:∀v L,Fz L v (Kf (some (⟨sy_,a.cells,a.futures,s.threads.set t.toNat th⟩,{e with value:=a.value})))->Q v L)
include h1 hc hnd ho htt htl hra ha hse hth hq
theorem abc(B:Nat)(hb:B∉(ud s t e be b8 b6 bs bt bc bf o tt).names):jl Q (Le c t wake i be b8 b6 bs B a.thread.pc) (Lf s t sy_ e be b8 b6 bs bt bc bf o tt B a.value a.cells a.futures):=by
 have hev:a.thread.ev=IntKind.i64.wrap ((aI s t).ev+1):=by rw[ha];exact oM.1
 have D:List.Nodup [B,be,b8,b6,bs,bt]:=by simp only[SH.names,ud,aai,abG,aaj,not_or]at hnd hb;obtain⟨⟨n1,n2,n3,n4,n5⟩,⟨n6,n7,n8,n9⟩,⟨n10,n11,n12⟩,⟨n13,Z⟩,Y,S⟩:=hnd;obtain⟨m1,m2,m3,m4,m5,m6⟩:=hb;clear n5 n9 n12 Z Y S m6;simp;omega
 have u:=λ(g1 g2:AV) (K A:SH) hA hg hg2 g1o g2o hn=>abb c s.threads t wake h1 hc sy_ {e with value:=a.value} a.thread (aI s t).ev (aI s t).pc a.cells a.futures g1 g2 K A hA B be b8 b6 bs bt bc bf hg hg2 hev g1o g2o hn th Q hq hse hth;obtain⟨J,hJ⟩:∃J,J=mq Q:=⟨_,rfl⟩;refine vw ?_;unfold mq at hJ u;rw[<-hJ]at u ⊢;clear hq hth hse hJ;by_cases O:e.kind=3\/e.kind=23
 .obtain⟨r0,r1⟩:=hra acN;have r2:i.a.toNat<(aI s t).regs.length:=by omega
  have r3:i.a.toNat<(aI s t).taint.length:=by omega
  have y1:=Mn r0 r1;have y2:=Rt (s:=aI s t) r0 acN;obtain⟨o,rfl⟩:∃b,o=some b:=by
   cases o with
   |some b=>exact⟨b,rfl⟩
   |none=>exfalso;rw[ho rfl]at r2;simp at r2
  obtain⟨tt,rfl⟩:∃b,tt=some b:=by
   cases tt with
   |some b=>exact⟨b,rfl⟩
   |none=>exfalso;rw[htt rfl]at r3;simp at r3
  have G:a.thread.regs=(aI s t).regs.set i.a.toNat a.value/\a.thread.taint=(aI s t).taint.set i.a.toNat [(aI s t).ev]:=by
   rw[ha];unfold fe;rcases O with k|k
   .rw[if_pos k];exact⟨rfl,rfl⟩
   .rw[if_neg acN,if_pos k];exact⟨rfl,rfl⟩
  have j:=λ(nb:Nat) (hnb:nb∉[B,be,b8,b6,bs,bt])=>u (.sl o 0 (aI s t).regs.length) (.sl tt 0 (aI s t).taint.length) [(o,⟨1,((aI s t).regs.map aa).set i.a.toNat [.acU a.value]⟩),(tt,⟨1,((aI s t).taint.map eX).set i.a.toNat [.sl nb 0 1]⟩)] [(nb,⟨1,[[.acU (aI s t).ev]]⟩)] (.inr ⟨_,rfl⟩)
   (λL N=>Fz.sls (size:=1) (l:=a.thread.regs) (f:=aa) (N _ (.tail _ (.head _))) (by rw[G.1,abT];rfl) acR (by rw[G.1];simp))
   (λL N=>by
    rw[G.2];exact Ru (n:=1) (f:=eX) acR rfl r3 (N _ (.tail _ (.tail _ (.head _)))) (.cons (Fz.sls (size:=1) (l:=[(aI s t).ev]) (f:=aa) (N _ (.head _)) rfl acR rfl) .nil)) rfl rfl (abG.2 ⟨hnb,D⟩)
  have M:=hnd;simp only[SH.names,ud,oU,ab,List.map_cons,List.map_nil,List.nodup_cons,List.mem_cons,not_or,List.not_mem_nil,or_false,List.cons_append,List.nil_append,not_false_eq_true,and_true]at M hb;obtain⟨⟨n1,n2,n3,n4,n5,n6,n7,n8⟩,⟨n9,n10,n11,n12,n13,Z,Y⟩,⟨S,n17,n18,n19,n20,n21⟩,⟨n22,n23,n24,n25,n26⟩,⟨n27,n28,n29,n30⟩,⟨n31,n32,n33⟩,⟨n34,n35⟩,n36,_⟩:=M;obtain⟨q1,q2,q3,q4,q5,q6,q7,q8,q9⟩:=hb;clear u G ho htt hra htl hnd D;unfold Le Lf ue at *;obtain⟨e1,ek,eo,ev,es,d,f⟩:=e;obtain⟨op,ia,ib,ic,im,E⟩:=i;dsimp only at *;rw[show cb.enc ⟨op,ia,ib,ic,im,E⟩=[.acU op,.acU ia,.acU ib,.acU ic,.acU im,.acU E]from rfl];rw[show∀k v,bA.enc ⟨e1,k,eo,v,es,d,f⟩=[.acU e1,.acU k,.acU eo,.acU v,.acU es,.lst (d.map aa),.lst (f.map aa)]from λ_ _=>rfl]at *;unfold sO oU cU ab at *;dsimp only[List.cons_append,List.nil_append]at *;rcases O with rfl|rfl
  all_goals
   repeat' (first|refine aw r0 r2 rp rfl ?_|refine aw r0 r3 rp rfl ?_|refine sx ?_|refine sb λnb_ hnb_=>?_|refine s2 ?_ ?_|intro)
   refine j _ ?_;simp only[aaj,abA,or_false,not_or];simp only[SH.names,aai,abF,aaj,not_or]at hnb_;refine⟨?_,?_,?_,?_,?_,?_⟩<;>omega
 .have G:a.thread.regs=(aI s t).regs/\a.thread.taint=(aI s t).taint:=by
   rw[ha];unfold fe;rw[if_neg (λh=>O (.inl h)),if_neg (λh=>O (.inr h))]
   repeat' split
   all_goals exact⟨rfl,rfl⟩
  have j:=u (cU o (aI s t).regs.length) (cU tt (aI s t).taint.length) (oU (aI s t) o tt) [] (.inl rfl) (λL N=>by rw[G.1];exact nu rfl ho λb e=>by subst e;exact N _ (by simp[oU,ab])) (λL N=>by rw[G.2];exact nu rfl htt λb e=>by subst e;exact N _ (by simp[oU,ab])) (i7 _ _) (i7 _ _) D;have e3:decide (e.kind=3)=false:=decide_eq_false (λh=>O (.inl h));have e23:decide (e.kind=23)=false:=decide_eq_false (λh=>O (.inr h));clear u G;unfold Le Lf ue at *;obtain⟨e1,ek,eo,ev,es,d,f⟩:=e;dsimp only at *;rw[show∀k v,bA.enc ⟨e1,k,eo,v,es,d,f⟩=[.acU e1,.acU k,.acU eo,.acU v,.acU es,.lst (d.map aa),.lst (f.map aa)]from λ_ _=>rfl]at *
  repeat' (first|refine sy ?_|refine s2 ?_ ?_|intro)
  exact j
end
end
section
theorem Oz{b N u m E k:Nat}{kd:IntKind}{out:List cb}{v:AV}{L:SH}{g:Nat×Blk}{D:SH->Fp->Prop}(B:k<out.length)(Z:L=g::ab (some b) 6 (out.map cb.enc))(Y:N=out.length)(f:cb->cb)(S:∀i:cb,i.enc.set u v=(f i).enc)(O:u<6)(M:v.cells? =some [v])(h1:v.one=true)
  (G:∀(j:List cb) (r:Fp),j.length=out.length->D (g::ab (some b) 6 (j.map cb.enc)) r):di [] m 6 (af (some b) N) (.int kd (k:Int)) L λx r=>W.faddr u x λy=>ds [] E 1 y v L D:=by
 subst Y Z;refine WG (Hs (cN (uq (xL (Y6 (Hs ?_)))) B (.tail _ (.head _)) rfl));refine qh (x:=⟨6,out.map cb.enc⟩) (r:=out[k].enc) (x':=⟨6,(out.set k (f out[k])).map cb.enc⟩) (.there _ (.here _)) (aj B) M h1 (by rw[abI];exact O) ?_ (uq (G _ _ acQ));rw[abT,abI,S]
theorem ptB{b N m B k:Nat}{kd:IntKind}{n:Int}{out:List cb}{L:SH}{g:Nat×Blk}{u:SH->Fp->Prop}(M:L=g::ab (some b) 6 (out.map cb.enc))(G:N=out.length)(E:k<out.length)
  (D:∀(j:List cb) (r:Fp),j.length=out.length->u (g::ab (some b) 6 (j.map cb.enc)) r):di [] m 6 (af (some b) N) (.int kd (k:Int)) L λx r=>W.faddr 2 x λy=>ds [] B 1 y (.acU n) L u:=
 Oz E M G (λi=>{i with b:=n}) (λ_=>rfl) acR rfl rfl D
theorem ptA{b N m B k:Nat}{kd:IntKind}{n:Int}{out:List cb}{L:SH}{g:Nat×Blk}{u:SH->Fp->Prop}(M:L=g::ab (some b) 6 (out.map cb.enc))(G:N=out.length)(E:k<out.length)
  (D:∀(j:List cb) (r:Fp),j.length=out.length->u (g::ab (some b) 6 (j.map cb.enc)) r):di [] m 6 (af (some b) N) (.int kd (k:Int)) L λx r=>W.faddr 1 x λy=>ds [] B 1 y (.acU n) L u:=
 Oz E M G (λi=>{i with a:=n}) (λ_=>rfl) acR rfl rfl D
theorem XX(j:Nat)(w:aF)(loc:List bU)(v:AV)(site next:Int)(s:bU)(G:w.conds.length<2^62):
  ac Tryz.prog 185 [.ptr j 0 0,.str s] [(j,iM w loc v site next)] λu K=>∃n:Int,u=.acU n/\K=[(j,iM w loc v site next)]:=by
 refine xu _ _ _ _ ?_;refine vw ?_;refine nI w.conds.length (λi=>[.ptr j 0 0,.str s,.acU i]) G rfl (λi B M O D E=>?_) (λi B M D=>?_)
 all_goals refine vw ?_
 .have N:=aj (f:=cM.enc) B;unfold iM at *
  repeat' (first|refine sy ?_|refine s2 ?_ ?_|intro)
  all_goals first|exact⟨_,rfl,rfl⟩|exact E
 .unfold iM at *
  repeat' (first|refine sy ?_|refine s2 ?_ ?_|intro)
  exact⟨_,rfl,rfl⟩
section
variable {w:aF} {loc:List bU} (hw:WQ w) (hlo:loc.length<2^40)
include hw hlo
theorem SW(x:ae)(hx:x.wt<2^29)(h1:x.op=1):nX 182 [.agg x.row] w loc (aB.wts x.index+x.expr.wt+1):=by
 intro bg o out site next h0 hl
 have D:=x.wt_eq;rw[h1,show zv 1 x.expr.op=z0 x.expr.op from rfl]at D;have ve:=λd=>Be hw hlo _ x.expr d (Fd _) acN
 have M:=λ(i:Nat) (h:i<x.index.length) d=>Be hw hlo _ x.index[i] d (Fd _) (by have:=aB.wts_get0 x.index i h;omega);have Z:=aB.wts_get0 x.index;have B:=λ(i:Nat) (h:i<x.index.length)=>BO h;have ha:=KW loc x.name acN;have hc:=GS w x.name (by have:=hw.c;omega);refine ac.fz (sV _ _ _ _ ?_);refine vw ?_;generalize hQ:(λ(v:AV) (L:SH)=>∃v2 L2,ax [v] L [v2] L2/\∃(o':Option Nat) (out':List cb) (N S:Int),_)=Q;have fin:=zf hQ;clear hQ;unfold ae.row aB.row at *;by_cases p:x.index.length=0
 .have d1:decide ((0:Int)<(x.index.length:Int))=false:=decide_eq_false acN;clear M Z B
  repeat' (first|refine sy ?_|((with_reducible refine aN 186 ?_);(refine eF (ve _) rp rp om an om (λo_ j s_ n_ E u G=>?_)))|((with_reducible refine aN 126 ?_);(refine fh rp rp om an om (λb_ j u=>?_)))|((with_reducible refine cy 126 ?_);refine oX ?_;refine fh rp rp om an om (λb_ j u ks_=>?_))|refine s2 ?_ ?_|intro)
  all_goals exact fin _ _ _ _ _ _ (.one (.here _) (.slotl .last)) om an om om
 .have d1:decide ((0:Int)<(x.index.length:Int))=true:=decide_eq_true acN;have O:0<x.index.length:=by omega
  have v0:=M 0 O;have g0:=Z 0 O;have x0:=B 0 O;obtain⟨b,hb,Y⟩:=hw.q;have e3:x.name=[113]:=by
   by_cases g:x.name=[113]
   .exact g
   .unfold zi at D;rw[if_neg (by rintro(h|h);exact p h;exact g h)]at D;omega
  rw[e3,Y]at hc;rw[e3];have hxc:=aj (f:=aU.enc) hb;clear M Z B;generalize x.index[0]=a at *
  repeat' (first|refine sy ?_|((with_reducible refine aN 186 ?_);(refine eF (v0 _) rp rp om an om (λo_ j s_ n_ E u G=>?_)))|((with_reducible refine aN 186 ?_);(refine eF (ve _) rp rp om an om (λo_ j s_ n_ E u G=>?_)))|((with_reducible refine aN 126 ?_);(refine fh rp rp om an om (λb_ j u=>?_)))|refine s2 ?_ ?_|intro)
  exact fin _ _ _ _ _ _ (.one (.here _) (.slotl .last)) om an om om
theorem M4(x:ae){kb ke:Nat}(hx:x.wt<2^29)(h1:x.op=2\/x.op=3)(hB:nX 125 [.lst (x.body.map ae.enc)] w loc kb)(hE:nX 125 [.lst (x.els.map ae.enc)] w loc ke):nX 183 [.agg x.row] w loc (x.expr.wt+kb+ke+2):=by
 intro bg o out site next h0 hl
 have hwe:=x.wt_eq;have hz:zv x.op x.expr.op=z0 x.expr.op:=if_pos acN;have Y:=λd=>Be hw hlo _ x.expr d (Fd _) acN
 refine ac.fz (pU _ _ _ _ ?_);refine vw ?_;generalize hQ:(λ(v:AV) (L:SH)=>∃v2 L2,ax [v] L [v2] L2/\∃(o':Option Nat) (out':List cb) (Z next':Int),_)=Q;have fin:=zf hQ;clear hQ;unfold ae.row aB.row at *;clear hwe hz hx;generalize x.op=op at *;have h9:decide (op=3)=true\/decide (op=3)=false:=by cases decide (op=3)<;>simp
 have e9:decide ((x.els.length:Int)=0)=true\/decide ((x.els.length:Int)=0)=false:=by cases decide ((x.els.length:Int)=0)<;>simp
 clear h1;rcases h9 with h9|h9
 .repeat' (first|refine ptB acP om om (λj N D=>?_)|refine ptA acP om om (λj N D=>?_)|refine sy ?_|refine IJ ?_|((with_reducible refine cy 186 ?_);refine oX ?_;refine eF (Y _) rp rp om an om (λo_ j E G S u B O=>?_))|((with_reducible refine aN 126 ?_);(refine fh rp rp om an om (λM j u=>?_)))|((with_reducible refine aN 125 ?_);(refine rJ hB rp rp om om om (λM j E G u B=>?_)))|intro)
  exact fin _ _ _ _ _ _ (.one (.here _) (.slotl .last)) om an om om
 rcases e9 with e9|e9
 .repeat' (first|refine ptB acP om om (λj N D=>?_)|refine ptA acP om om (λj N D=>?_)|refine sy ?_|refine IJ ?_|((with_reducible refine cy 186 ?_);refine oX ?_;refine eF (Y _) rp rp om an om (λo_ j E G S u B O=>?_))|((with_reducible refine aN 126 ?_);(refine fh rp rp om an om (λM j u=>?_)))|((with_reducible refine aN 125 ?_);(refine rJ hB rp rp om om om (λM j E G u B=>?_)))|intro)
  exact fin _ _ _ _ _ _ (.one (.here _) (.slotl .last)) om an om om
 .repeat' (first|refine ptB acP om om (λj N D=>?_)|refine ptA acP om om (λj N D=>?_)|refine sy ?_|refine IJ ?_|((with_reducible refine cy 186 ?_);refine oX ?_;refine eF (Y _) rp rp om an om (λo_ j E G S u B O=>?_))|((with_reducible refine aN 126 ?_);(refine fh rp rp om an om (λM j u=>?_)))|((with_reducible refine aN 125 ?_);(refine rJ hB rp rp om om om (λM j E G u B=>?_)))|((with_reducible refine aN 125 ?_);(refine rJ hE rp rp om om om (λM j E G u B=>?_)))|intro)
  exact fin _ _ _ _ _ _ (.one (.here _) (.slotl .last)) om an om om
omit hw hlo in
theorem SX(x:ae){N:Nat}{f l ob:Int}(hB:nX 125 [.lst (x.body.map ae.enc)] w loc N):nX 184 [.agg x.row,.acU f,.acU l,.acU ob] w loc (N+2):=by
 intro bg o Y E M h0 hl
 refine ac.fz (sW _ _ _ _ _ _ _ ?_);refine vw ?_;generalize O:(λ(v:AV) (L:SH)=>∃S L2,ax [v] L [S] L2/\∃(o':Option Nat) (G:List cb) (u B:Int),_)=Q;have fin:=zf O;clear O;unfold ae.row at *
 repeat' (first|refine sy ?_|((with_reducible refine aN 126 ?_);(refine fh rp rp om an om (λb_ j D=>?_)))|((with_reducible refine aN 125 ?_);(refine rJ hB rp rp om om om (λb_ j s_ n_ D Z=>?_)))|intro)
 exact fin _ _ _ _ _ _ (.one (.here _) (.slotl .last)) om an om om
theorem XY(x:ae){kb ke:Nat}(hx:x.wt<2^29)(hB:nX 125 [.lst (x.body.map ae.enc)] w loc kb)(hE:nX 125 [.lst (x.els.map ae.enc)] w loc ke):nX 160 [.agg x.row] w loc (aB.wts x.index+x.expr.wt+kb+ke+2):=by
 intro bg o out E G h0 hl
 have O:=x.wt_eq;have c1:=P1 w.locks x.name (by have:=hw.l;omega);have c2:=KW w.threads x.name (by have:=hw.t;omega);have c3:=KW w.futures x.name (by have:=hw.f;omega);have c4:=KW w.futures x.arg (by have:=hw.f;omega);have c5:=KW loc x.name acN;have cc:=λ(v:AV) (E G:Int)=>XX bg w loc v E G x.name (by have:=hw.d;omega)
 have ve:=λ(h:x.op=14) d=>Be hw hlo _ x.expr d (Fd _) (by rw[h,show zv 14 x.expr.op=z0 x.expr.op from rfl]at O;omega);have va:=SW hw hlo x hx;have vb:=λh=>M4 hw hlo x hx h hB hE
 have vr:=λ(f l ob:Int)=>SX x (f:=f) (l:=l) (ob:=ob) hB;refine ac.fz (xx _ _ _ _ ?_);refine vw ?_;generalize hQ:(λ(v:AV) (L:SH)=>∃v2 L2,ax [v] L [v2] L2/\∃(o':Option Nat) (out':List cb) (Z next':Int),_)=Q;have fin:=zf hQ;clear hQ;clear hB hE O hx;obtain⟨op,line,name,arg,index,e,body,els⟩:=x;unfold ae.row aB.row at *;dsimp only[ae.op,ae.line,ae.name,ae.arg,ae.index,ae.expr,ae.body,ae.els]at *
 repeat' (first|refine sy ?_|((with_reducible refine aN 182 ?_);(refine eF (va (of_decide_eq_true acO)) rp rp om an om (λY j S M B u D=>?_)))|((with_reducible refine aN 183 ?_);(refine eF (vb (by first|exact .inl (of_decide_eq_true acO)|exact .inr (of_decide_eq_true acO))) rp rp om an om (λY j S M B u D=>?_)))|((with_reducible refine cy 184 ?_);refine oX ?_;refine eF (vr _ _ _) rp rp om an om (λY j S M B u D N=>?_))|((with_reducible refine aN 184 ?_);(refine eF (vr _ _ _) rp rp om an om (λY j S M B u D=>?_)))|((with_reducible refine aN 185 ?_);(refine cQ (cc _ _ _) rp ?_;rintro _ _ ⟨M,rfl,rfl⟩;dsimp only[List.cons_append,List.nil_append]))|((with_reducible refine cy 185 ?_);refine oX ?_;refine cQ (cc _ _ _) rp ?_;rintro _ _ ⟨M,rfl,rfl⟩ N;dsimp only[List.cons_append,List.nil_append])|((with_reducible refine aN 186 ?_);(refine eF (ve (of_decide_eq_true acO) _) rp rp om an om (λY j S M B u D=>?_)))|((with_reducible refine aN 126 ?_);(refine fh rp rp om an om (λb_ j u=>?_)))|((with_reducible refine cy 126 ?_);refine oX ?_;refine fh rp rp om an om (λb_ j u N=>?_))|refine s2 ?_ ?_|intro)
 all_goals exact fin _ _ _ _ _ _ (.one (.here _) (.slotl .last)) om an om om
end
end
