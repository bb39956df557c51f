/- part -/
import Derived.Test.YtfckbjehkbhkgaaGreatQwM
set_option linter.all false
set_option maxRecDepth 100000
set_option maxHeartbeats 0
namespace Go.Proofs.YtfckbjehkbhkgaaGreat.Am
section
section
variable (c:bP) (l:List bI) (t wake:Int) (h1:inB t l.length=true) (hc:inB t c.ts.length=true) (sy_:SyncD) (e:bA) (a:bI) (ev0 pc0:Int) (ce fu:List Int) (g1 g2:AV) (K A:SH) (hA:A=[]\/∃q,A=[q]) (b74 be b8 b6 bs bt bc bf:Nat)
 (hg:∀L:SH,(∀q∈A++K,q∈L)->Fz L g1 (.lst (a.regs.map aa))) (hg2:∀L:SH,(∀q∈A++K,q∈L)->Fz L g2 (.lst (a.taint.map eX))) (hev:a.ev=IntKind.i64.wrap (ev0+1)) (g1o:g1.one=true) (g2o:g2.one=true)
def ue(r:List AV)(ev:bA)(T:SH):SH:=(b74,⟨4,[r]⟩)::(be,⟨7,[ev.enc]⟩)::(b8,⟨7,[i8]⟩)::(b6,⟨7,[ca]⟩)::(bs,⟨7,[[.lst (sy_.locks.map LockD.enc),.acU sy_.tx,.lst (sy_.done.map au),.lst (sy_.threads.map ThrD.enc),.sl bc 0 ce.length,.sl bf 0 fu.length,.sl bt 0 l.length]]⟩)::(bt,⟨4,(l.map bI.enc).set t.toNat [.acU pc0,g1,g2,.acU ev0]⟩)::T
variable (hnd:(A++ue l t sy_ ev0 pc0 ce fu g1 g2 b74 be b8 b6 bs bt bc bf [] e ([]:SH)).names.Nodup) (th:bI) (Q:R)
 (hq:∀v L,Fz L v (Kf (some (⟨sy_,ce,fu,l.set t.toNat th⟩,e)))->Q v L)
include h1 hA hnd hq
theorem Z3(r:List AV)(T L:SH)(hL:L=A++ue l t sy_ ev0 pc0 ce fu g1 g2 b74 be b8 b6 bs bt bc bf r e (T++[(bf,⟨1,fu.map aa⟩),(bc,⟨1,ce.map aa⟩)]))(hr:∃x y z w,r=[x,y,z,w])(u:r.all AV.one=true)(S:∀L,(∀q∈A++T,q∈L)->fy L r th.enc):
  gY Q [.ptr bs 0 0,.pptr [[.acU t,.acU wake]] 0 0,.ptr b6 0 0,.ptr b8 0 0,.ptr be 0 0,.ptr b74 0 0] L:=by
 subst hL;obtain⟨O,t1⟩:=ao.1 h1;have N:t.toNat<(l.map bI.enc).length:=by simp;omega
 have j:t.toNat<l.length:=by omega
 have x2:=Ke [AV.acU pc0,g1,g2,.acU ev0] N;obtain⟨x,y,z,w,rfl⟩:=hr;have fin:∀L,(∀q∈A++T,q∈L)->(bf,(⟨1,fu.map aa⟩:Blk))∈L->(bc,(⟨1,ce.map aa⟩:Blk))∈L->(bt,(⟨4,((l.map bI.enc).set t.toNat [.acU pc0,g1,g2,.acU ev0]).set t.toNat [x,y,z,w]⟩:Blk))∈L->
   Q (.tup [.agg [.lst (sy_.locks.map LockD.enc),.acU sy_.tx,.lst (sy_.done.map au),.lst (sy_.threads.map ThrD.enc),.sl bc 0 ce.length,.sl bf 0 fu.length,.sl bt 0 l.length],.agg e.enc,.bool true]) L:=λL h1 h2 h3 Y=>by
  rw[List.set_set]at Y;exact hq _ _ (Fz.tups (.cons (Fz.aggs (.cons (.refl _) (.cons (.refl _) (.cons (.refl _) (.cons (.refl _) (.cons (Fz.sls h3 rfl acR rfl) (.cons (Fz.sls h2 rfl acR rfl) (.cons (WZ j Y (S L h1)) .nil)))))))) (.cons (.refl _) (.cons (.refl _) .nil))))
 clear hq S;refine vw ?_;unfold ue ca i8 at *;obtain⟨e1,ek,eo,ev,Z,d,f⟩:=e;rw[show∀k v,bA.enc ⟨e1,k,eo,v,Z,d,f⟩=[.acU e1,.acU k,.acU eo,.acU v,.acU Z,.lst (d.map aa),.lst (f.map aa)]from λ_ _=>rfl]at *;rcases hA with rfl|⟨q,rfl⟩
 all_goals
  simp only[SH.names,aai,abF,abG,aaj,abA,or_false,not_or,abK,abX]at hnd
 .obtain⟨⟨n1,n2,n3,n4,n5⟩,⟨n6,n7,n8,n9⟩,⟨M,G,E⟩,⟨D,B⟩,n15,_⟩:=hnd;dsimp only[List.nil_append,List.cons_append]at fin ⊢
  repeat' (first|refine aw O j rp rfl ?_|refine sy ?_|refine aO rp acO rfl rfl u acQ ?_|refine s2 ?_ ?_|intro)
  exact fin _ (λq hq=>by simp[hq]) acQ acQ mm
 .obtain⟨⟨m1,m2,m3,m4,m5,m6⟩,⟨n1,n2,n3,n4,n5⟩,⟨n6,n7,n8,n9⟩,⟨M,G,E⟩,⟨D,B⟩,n15,_⟩:=hnd;obtain⟨qb,qx⟩:=q;dsimp only[List.nil_append,List.cons_append]at fin m1 m2 m3 m4 m5 m6 ⊢
  repeat' (first|refine aw O j rp rfl ?_|refine sy ?_|refine aO rp acO rfl rfl u acQ ?_|refine s2 ?_ ?_|intro)
  exact fin _ (λq hq=>by simp at hq ⊢;rcases hq with rfl|hq<;>simp[*]) acQ acQ mm
include hc hg hg2 hev g1o g2o
theorem abb(u:aq Tryz.prog 152 [.agg (aE c t).enc,.agg a.enc] (Ka (cD (aE c t) a)))(M:((e.kind=16\/e.kind=2)/\th=a)\/((e.kind≠16/\e.kind≠2)/\cD (aE c t) a=(th,true))):
  mq Q [.pptr [c.enc] 0 0,.ptr bs 0 0,.pptr [[.acU t,.acU wake]] 0 0,.ptr b6 0 0,.ptr b8 0 0,.ptr be 0 0,.ptr b74 0 0,.acU a.pc] (A++ue l t sy_ ev0 pc0 ce fu g1 g2 b74 be b8 b6 bs bt bc bf [.acU pc0,g1,g2,.acU ev0] e (K++[(bf,⟨1,fu.map aa⟩),(bc,⟨1,ce.map aa⟩)])):=by
 have G:SH.names (([]:SH)++ue l t sy_ ev0 pc0 ce fu g1 g2 b74 be b8 b6 bs bt bc bf [] e ([]:SH)) |>.Nodup:=by have:=hnd;unfold SH.names at this ⊢;rw[ST]at this;exact(acy.1 this).2.1
 have j:th=a->∀L,L=A++ue l t sy_ ev0 pc0 ce fu g1 g2 b74 be b8 b6 bs bt bc bf [.acU a.pc,g1,g2,.acU a.ev] e (K++[(bf,⟨1,fu.map aa⟩),(bc,⟨1,ce.map aa⟩)])->gY Q [.ptr bs 0 0,.pptr [[.acU t,.acU wake]] 0 0,.ptr b6 0 0,.ptr b8 0 0,.ptr be 0 0,.ptr b74 0 0] L:=λO L S=>
  Z3 l t wake h1 sy_ e ev0 pc0 ce fu g1 g2 A hA b74 be b8 b6 bs bt bc bf hnd th Q hq _ K L S ⟨_,_,_,_,rfl⟩ (by show(true&&(g1.one&&(g2.one&&(true&&true))))=true;rw[g1o,g2o];rfl) λL2 h2=>by rw[O];exact .cons (.refl _) (.cons (hg L2 h2) (.cons (hg2 L2 h2) (.cons (.refl _) .nil)))
 have E:∀L,L=([]:SH)++ue l t sy_ ev0 pc0 ce fu g1 g2 b74 be b8 b6 bs bt bc bf th.enc e (([]:SH)++[(bf,⟨1,fu.map aa⟩),(bc,⟨1,ce.map aa⟩)])->gY Q [.ptr bs 0 0,.pptr [[.acU t,.acU wake]] 0 0,.ptr b6 0 0,.ptr b8 0 0,.ptr be 0 0,.ptr b74 0 0] L:=λL S=>
  Z3 l t wake h1 sy_ e ev0 pc0 ce fu g1 g2 [] (.inl rfl) b74 be b8 b6 bs bt bc bf G th Q hq _ [] L S ⟨_,_,_,_,rfl⟩ rfl λL S=>fy.refl _ _
 obtain⟨u0,u1⟩:=ao.1 hc;have x1:(c.ts.map i6.enc)[t.toNat]? =some (aE c t).enc:=CN hc;obtain⟨J,hJ⟩:∃J,J=gY Q:=⟨_,rfl⟩;refine vw ?_;unfold gY at hJ j E;rw[<-hJ]at j E ⊢;have N:∀B:SH,ax [.agg (aE c t).enc,.agg [.acU a.pc,g1,g2,.acU a.ev]] (A++(B++(K++[(bf,⟨1,fu.map aa⟩),(bc,⟨1,ce.map aa⟩)]))) [.agg (aE c t).enc,.agg a.enc] (B++[(bf,⟨1,fu.map aa⟩),(bc,⟨1,ce.map aa⟩)]):=λB=>
  ax.drop (K:=A++K) (by
   rw[abr];refine List.Perm.append_left A ?_;exact act _ _ _) rfl (fy.at_ (.cons (.refl _) (.cons (Fz.aggs (.cons (.refl _) (.cons (hg _ λq h=>h) (.cons (hg2 _ λq h=>h) (.cons (.refl _) .nil))))) .nil))).2
 clear hq hJ hg hg2 hc G h1;rw[hev]at j N;unfold ue ca i8 at *;obtain⟨e1,Y,eo,ev,es,d,f⟩:=e;rw[show∀k v,bA.enc ⟨e1,k,eo,v,es,d,f⟩=[.acU e1,.acU k,.acU eo,.acU v,.acU es,.lst (d.map aa),.lst (f.map aa)]from λ_ _=>rfl]at *;unfold bP.enc at *;dsimp only at M;have hnd2:=hnd;rcases hA with rfl|⟨q,rfl⟩
 all_goals
  simp only[SH.names,aai,abF,abG,aaj,abA,or_false,not_or,abK,abX]at hnd
 .obtain⟨⟨n1,n2,n3,n4,n5⟩,⟨n6,n7,n8,n9⟩,⟨n10,n11,n12⟩,⟨n13,Z⟩,n15,_⟩:=hnd;dsimp only[List.nil_append,List.cons_append]at j E N ⊢;rcases M with⟨D,O⟩|⟨D,hs⟩
  .have j:=j O;rcases D with rfl|rfl
   all_goals
    repeat' (first|refine sy ?_|refine s2 ?_ ?_|intro)
    exact j _ rfl
  .have d1:decide (Y≠16)=true:=decide_eq_true D.1;have d2:decide (Y≠2)=true:=decide_eq_true D.2;rw[hs]at u
   repeat' (first|refine sy ?_|refine s2 ?_ ?_|intro)
   refine qj (ac.pre (N [_,_,_,_,_,_]) (u.call (KL:=λv K'=>v=_/\K'=_) ⟨rfl,rfl⟩)) ?_;rintro _ _ ⟨rfl,rfl⟩;unfold Ka;dsimp only[List.nil_append,List.cons_append];unfold bI.enc at E ⊢
   repeat' (first|refine sy ?_|refine s2 ?_ ?_|intro)
   exact E _ rfl
 .obtain⟨⟨m1,m2,m3,m4,m5,m6⟩,⟨n1,n2,n3,n4,n5⟩,⟨n6,n7,n8,n9⟩,⟨n10,n11,n12⟩,⟨n13,Z⟩,n15,_⟩:=hnd;obtain⟨qb,qx⟩:=q;dsimp only[List.nil_append,List.cons_append]at j E N m1 m2 m3 m4 m5 m6 ⊢;rcases M with⟨D,O⟩|⟨D,hs⟩
  .have j:=j O;rcases D with rfl|rfl
   all_goals
    repeat' (first|refine sy ?_|refine s2 ?_ ?_|intro)
    exact j _ rfl
  .have d1:decide (Y≠16)=true:=decide_eq_true D.1;have d2:decide (Y≠2)=true:=decide_eq_true D.2;rw[hs]at u
   repeat' (first|refine sy ?_|refine s2 ?_ ?_|intro)
   refine qj (ac.pre (N [_,_,_,_,_,_]) (u.call (KL:=λv K'=>v=_/\K'=_) ⟨rfl,rfl⟩)) ?_;rintro _ _ ⟨rfl,rfl⟩;unfold Ka;dsimp only[List.nil_append,List.cons_append];unfold bI.enc at E ⊢
   repeat' (first|refine sy ?_|refine s2 ?_ ?_|intro)
   exact E _ rfl
end
end
section
section
variable (c:bP) (s:eE) (t wake:Int) (h1:inB t s.threads.length=true) (hc:inB t c.ts.length=true) (sy_:SyncD) (sv:Int) (e:bA) (i:cb) (be b8 b6 bs bt bc bf:Nat) (o tt:Option Nat)
 (hnd:(ud s t e be b8 b6 bs bt bc bf o tt).names.Nodup) (Q:R)
 (ho:o=none->(aI s t).regs=[]) (htt:tt=none->(aI s t).taint=[]) (htl:(aI s t).taint.length=(aI s t).regs.length)
 (hra:e.kind=3\/e.kind=23\/e.kind=5->0<=i.a/\i.a<(aI s t).regs.length) (th:bI) (a:Ue) (ha:a=fe i e s (aI s t) sv)
 (hse:aq Tryz.prog 152 [.agg (aE c t).enc,.agg a.thread.enc] (Ka (cD (aE c t) a.thread)))
 (hth:((e.kind=16\/e.kind=2)/\th=a.thread)\/((e.kind≠16/\e.kind≠2)/\cD (aE c t) a.thread=(th,true)))
 (hq:∀v L,Fz L v (Kf (some (⟨sy_,a.cells,a.futures,s.threads.set t.toNat th⟩,{e with value:=a.value})))->Q v L)
include h1 hc hnd ho htt htl hra ha hse hth hq
theorem abc(B:Nat)(hb:B∉(ud s t e be b8 b6 bs bt bc bf o tt).names):jl Q (Le c t wake i be b8 b6 bs B a.thread.pc) (Lf s t sy_ e be b8 b6 bs bt bc bf o tt B a.value a.cells a.futures):=by
 have hev:a.thread.ev=IntKind.i64.wrap ((aI s t).ev+1):=by rw[ha];exact oM.1
 have D:List.Nodup [B,be,b8,b6,bs,bt]:=by simp only[SH.names,ud,aai,abG,aaj,not_or]at hnd hb;obtain⟨⟨n1,n2,n3,n4,n5⟩,⟨n6,n7,n8,n9⟩,⟨n10,n11,n12⟩,⟨n13,Z⟩,Y,S⟩:=hnd;obtain⟨m1,m2,m3,m4,m5,m6⟩:=hb;clear n5 n9 n12 Z Y S m6;simp;omega
 have u:=λ(g1 g2:AV) (K A:SH) hA hg hg2 g1o g2o hn=>abb c s.threads t wake h1 hc sy_ {e with value:=a.value} a.thread (aI s t).ev (aI s t).pc a.cells a.futures g1 g2 K A hA B be b8 b6 bs bt bc bf hg hg2 hev g1o g2o hn th Q hq hse hth;obtain⟨J,hJ⟩:∃J,J=mq Q:=⟨_,rfl⟩;refine vw ?_;unfold mq at hJ u;rw[<-hJ]at u ⊢;clear hq hth hse hJ;by_cases O:e.kind=3\/e.kind=23
 .obtain⟨r0,r1⟩:=hra acN;have r2:i.a.toNat<(aI s t).regs.length:=by omega
  have r3:i.a.toNat<(aI s t).taint.length:=by omega
  have y1:=Mn r0 r1;have y2:=Rt (s:=aI s t) r0 acN;obtain⟨o,rfl⟩:∃b,o=some b:=by
   cases o with
   |some b=>exact⟨b,rfl⟩
   |none=>exfalso;rw[ho rfl]at r2;simp at r2
  obtain⟨tt,rfl⟩:∃b,tt=some b:=by
   cases tt with
   |some b=>exact⟨b,rfl⟩
   |none=>exfalso;rw[htt rfl]at r3;simp at r3
  have G:a.thread.regs=(aI s t).regs.set i.a.toNat a.value/\a.thread.taint=(aI s t).taint.set i.a.toNat [(aI s t).ev]:=by
   rw[ha];unfold fe;rcases O with k|k
   .rw[if_pos k];exact⟨rfl,rfl⟩
   .rw[if_neg acN,if_pos k];exact⟨rfl,rfl⟩
  have j:=λ(nb:Nat) (hnb:nb∉[B,be,b8,b6,bs,bt])=>u (.sl o 0 (aI s t).regs.length) (.sl tt 0 (aI s t).taint.length) [(o,⟨1,((aI s t).regs.map aa).set i.a.toNat [.acU a.value]⟩),(tt,⟨1,((aI s t).taint.map eX).set i.a.toNat [.sl nb 0 1]⟩)] [(nb,⟨1,[[.acU (aI s t).ev]]⟩)] (.inr ⟨_,rfl⟩)
   (λL N=>Fz.sls (size:=1) (l:=a.thread.regs) (f:=aa) (N _ (.tail _ (.head _))) (by rw[G.1,abT];rfl) acR (by rw[G.1];simp))
   (λL N=>by
    rw[G.2];exact Ru (n:=1) (f:=eX) acR rfl r3 (N _ (.tail _ (.tail _ (.head _)))) (.cons (Fz.sls (size:=1) (l:=[(aI s t).ev]) (f:=aa) (N _ (.head _)) rfl acR rfl) .nil)) rfl rfl (abG.2 ⟨hnb,D⟩)
  have M:=hnd;simp only[SH.names,ud,oU,ab,List.map_cons,List.map_nil,List.nodup_cons,List.mem_cons,not_or,List.not_mem_nil,or_false,List.cons_append,List.nil_append,not_false_eq_true,and_true]at M hb;obtain⟨⟨n1,n2,n3,n4,n5,n6,n7,n8⟩,⟨n9,n10,n11,n12,n13,Z,Y⟩,⟨S,n17,n18,n19,n20,n21⟩,⟨n22,n23,n24,n25,n26⟩,⟨n27,n28,n29,n30⟩,⟨n31,n32,n33⟩,⟨n34,n35⟩,n36,_⟩:=M;obtain⟨q1,q2,q3,q4,q5,q6,q7,q8,q9⟩:=hb;clear u G ho htt hra htl hnd D;unfold Le Lf ue at *;obtain⟨e1,ek,eo,ev,es,d,f⟩:=e;obtain⟨op,ia,ib,ic,im,E⟩:=i;dsimp only at *;rw[show cb.enc ⟨op,ia,ib,ic,im,E⟩=[.acU op,.acU ia,.acU ib,.acU ic,.acU im,.acU E]from rfl];rw[show∀k v,bA.enc ⟨e1,k,eo,v,es,d,f⟩=[.acU e1,.acU k,.acU eo,.acU v,.acU es,.lst (d.map aa),.lst (f.map aa)]from λ_ _=>rfl]at *;unfold sO oU cU ab at *;dsimp only[List.cons_append,List.nil_append]at *;rcases O with rfl|rfl
  all_goals
   repeat' (first|refine aw r0 r2 rp rfl ?_|refine aw r0 r3 rp rfl ?_|refine sx ?_|refine sb λnb_ hnb_=>?_|refine s2 ?_ ?_|intro)
   refine j _ ?_;simp only[aaj,abA,or_false,not_or];simp only[SH.names,aai,abF,aaj,not_or]at hnb_;refine⟨?_,?_,?_,?_,?_,?_⟩<;>omega
 .have G:a.thread.regs=(aI s t).regs/\a.thread.taint=(aI s t).taint:=by
   rw[ha];unfold fe;rw[if_neg (λh=>O (.inl h)),if_neg (λh=>O (.inr h))]
   repeat' split
   all_goals exact⟨rfl,rfl⟩
  have j:=u (cU o (aI s t).regs.length) (cU tt (aI s t).taint.length) (oU (aI s t) o tt) [] (.inl rfl) (λL N=>by rw[G.1];exact nu rfl ho λb e=>by subst e;exact N _ (by simp[oU,ab])) (λL N=>by rw[G.2];exact nu rfl htt λb e=>by subst e;exact N _ (by simp[oU,ab])) (i7 _ _) (i7 _ _) D;have e3:decide (e.kind=3)=false:=decide_eq_false (λh=>O (.inl h));have e23:decide (e.kind=23)=false:=decide_eq_false (λh=>O (.inr h));clear u G;unfold Le Lf ue at *;obtain⟨e1,ek,eo,ev,es,d,f⟩:=e;dsimp only at *;rw[show∀k v,bA.enc ⟨e1,k,eo,v,es,d,f⟩=[.acU e1,.acU k,.acU eo,.acU v,.acU es,.lst (d.map aa),.lst (f.map aa)]from λ_ _=>rfl]at *
  repeat' (first|refine sy ?_|refine s2 ?_ ?_|intro)
  exact j
end
end
