/- part -/
import Derived.Test.YtfcfhjadaknphaaGreatDoorQxAj
set_option linter.all false
set_option maxRecDepth 100000
set_option maxHeartbeats 0
namespace Go.Proofs.YtfcfhjadaknphaaGreatDoor.Am
section
section
variable (c:aL) (l:List aG) (t wake:Int) (h1:inB t l.length=true) (hc:inB t c.ts.length=true) (sy_:SyncD) (e:bH) (a:aG) (ev0 pc0:Int) (ce fu:List Int) (g1 g2:AV) (K A:SH) (hA:A=[]\/∃q,A=[q]) (b74 be b8 b6 bs bt bc bf:Nat)
 (hg:∀L:SH,(∀q∈A++K,q∈L)->Fz L g1 (.lst (a.regs.map ah))) (hg2:∀L:SH,(∀q∈A++K,q∈L)->Fz L g2 (.lst (a.taint.map bP))) (hev:a.ev=IntKind.i64.wrap (ev0+1)) (g1o:g1.one=true) (g2o:g2.one=true)
def sR(r:List AV)(ev:bH)(T:SH):SH:=(b74,⟨4,[r]⟩)::(be,⟨7,[ev.enc]⟩)::(b8,⟨7,[cy]⟩)::(b6,⟨7,[ay]⟩)::(bs,⟨7,[[.lst (sy_.locks.map LockD.enc),.YJ sy_.tx,.lst (sy_.done.map aD),.lst (sy_.threads.map ThrD.enc),.sl bc 0 ce.length,.sl bf 0 fu.length,.sl bt 0 l.length]]⟩)::(bt,⟨4,(l.map aG.enc).set t.toNat [.YJ pc0,g1,g2,.YJ ev0]⟩)::T
variable (hnd:(A++sR l t sy_ ev0 pc0 ce fu g1 g2 b74 be b8 b6 bs bt bc bf [] e ([]:SH)).names.Nodup) (th:aG) (Q:R)
 (hq:∀v L,Fz L v (jp (some (⟨sy_,ce,fu,l.set t.toNat th⟩,e)))->Q v L)
include h1 hA hnd hq
theorem VC(r:List AV)(T L:SH)(hL:L=A++sR l t sy_ ev0 pc0 ce fu g1 g2 b74 be b8 b6 bs bt bc bf r e (T++[(bf,⟨1,fu.map ah⟩),(bc,⟨1,ce.map ah⟩)]))(hr:∃x y z w,r=[x,y,z,w])(u:r.all AV.one=true)(Y:∀L,(∀q∈A++T,q∈L)->fi L r th.enc):
  gO Q [.ptr bs 0 0,.pptr [[.YJ t,.YJ wake]] 0 0,.ptr b6 0 0,.ptr b8 0 0,.ptr be 0 0,.ptr b74 0 0] L:=by
 subst hL;obtain⟨S,t1⟩:=aw.1 h1;have O:t.toNat<(l.map aG.enc).length:=by simp;omega
 have j:t.toNat<l.length:=by omega
 have x2:=eE [AV.YJ pc0,g1,g2,.YJ ev0] O;obtain⟨x,y,z,w,rfl⟩:=hr;have fin:∀L,(∀q∈A++T,q∈L)->(bf,(⟨1,fu.map ah⟩:Blk))∈L->(bc,(⟨1,ce.map ah⟩:Blk))∈L->(bt,(⟨4,((l.map aG.enc).set t.toNat [.YJ pc0,g1,g2,.YJ ev0]).set t.toNat [x,y,z,w]⟩:Blk))∈L->
   Q (.tup [.agg [.lst (sy_.locks.map LockD.enc),.YJ sy_.tx,.lst (sy_.done.map aD),.lst (sy_.threads.map ThrD.enc),.sl bc 0 ce.length,.sl bf 0 fu.length,.sl bt 0 l.length],.agg e.enc,.bool true]) L:=λL h1 h2 h3 Z=>by
  rw[List.set_set]at Z;exact hq _ _ (Fz.tups (.cons (Fz.aggs (.cons (.refl _) (.cons (.refl _) (.cons (.refl _) (.cons (.refl _) (.cons (Fz.sls h3 rfl YG rfl) (.cons (Fz.sls h2 rfl YG rfl) (.cons (I0 j Z (Y L h1)) .nil)))))))) (.cons (.refl _) (.cons (.refl _) .nil))))
 clear hq Y;refine vw ?_;unfold sR ay cy at *;obtain⟨e1,ek,eo,ev,es,d,f⟩:=e;rw[show∀k v,bH.enc ⟨e1,k,eo,v,es,d,f⟩=[.YJ e1,.YJ k,.YJ eo,.YJ v,.YJ es,.lst (d.map ah),.lst (f.map ah)]from λ_ _=>rfl]at *;rcases hA with rfl|⟨q,rfl⟩
 all_goals
  simp only[SH.names,WS,Xp,Xw,WX,Xv,or_false,not_or,XM,XS]at hnd
 .obtain⟨⟨n1,n2,n3,n4,n5⟩,⟨n6,n7,n8,n9⟩,⟨M,G,E⟩,⟨D,B⟩,n15,_⟩:=hnd;dsimp only[List.nil_append,List.cons_append]at fin ⊢
  repeat' (first|refine bz S j rp rfl ?_|refine sy ?_|refine cO rp YD rfl rfl u YF ?_|refine s2 ?_ ?_|intro)
  exact fin _ (λq hq=>by simp[hq]) YF YF mm
 .obtain⟨⟨m1,m2,m3,m4,m5,m6⟩,⟨n1,n2,n3,n4,n5⟩,⟨n6,n7,n8,n9⟩,⟨M,G,E⟩,⟨D,B⟩,n15,_⟩:=hnd;obtain⟨qb,qx⟩:=q;dsimp only[List.nil_append,List.cons_append]at fin m1 m2 m3 m4 m5 m6 ⊢
  repeat' (first|refine bz S j rp rfl ?_|refine sy ?_|refine cO rp YD rfl rfl u YF ?_|refine s2 ?_ ?_|intro)
  exact fin _ (λq hq=>by simp at hq ⊢;rcases hq with rfl|hq<;>simp[*]) YF YF mm
include hc hg hg2 hev g1o g2o
theorem Wv(u:ao Tryz.prog 123 [.agg (au c t).enc,.agg a.enc] (nR (bu (au c t) a)))(M:((e.kind=16\/e.kind=2)/\th=a)\/((e.kind≠16/\e.kind≠2)/\bu (au c t) a=(th,true))):
  lZ Q [.pptr [c.enc] 0 0,.ptr bs 0 0,.pptr [[.YJ t,.YJ wake]] 0 0,.ptr b6 0 0,.ptr b8 0 0,.ptr be 0 0,.ptr b74 0 0,.YJ a.pc] (A++sR l t sy_ ev0 pc0 ce fu g1 g2 b74 be b8 b6 bs bt bc bf [.YJ pc0,g1,g2,.YJ ev0] e (K++[(bf,⟨1,fu.map ah⟩),(bc,⟨1,ce.map ah⟩)])):=by
 have G:SH.names (([]:SH)++sR l t sy_ ev0 pc0 ce fu g1 g2 b74 be b8 b6 bs bt bc bf [] e ([]:SH)) |>.Nodup:=by have:=hnd;unfold SH.names at this ⊢;rw[WL]at this;exact(X1.1 this).2.1
 have j:th=a->∀L,L=A++sR l t sy_ ev0 pc0 ce fu g1 g2 b74 be b8 b6 bs bt bc bf [.YJ a.pc,g1,g2,.YJ a.ev] e (K++[(bf,⟨1,fu.map ah⟩),(bc,⟨1,ce.map ah⟩)])->gO Q [.ptr bs 0 0,.pptr [[.YJ t,.YJ wake]] 0 0,.ptr b6 0 0,.ptr b8 0 0,.ptr be 0 0,.ptr b74 0 0] L:=λS L Y=>
  VC l t wake h1 sy_ e ev0 pc0 ce fu g1 g2 A hA b74 be b8 b6 bs bt bc bf hnd th Q hq _ K L Y ⟨_,_,_,_,rfl⟩ (by show(true&&(g1.one&&(g2.one&&(true&&true))))=true;rw[g1o,g2o];rfl) λL2 h2=>by rw[S];exact .cons (.refl _) (.cons (hg L2 h2) (.cons (hg2 L2 h2) (.cons (.refl _) .nil)))
 have E:∀L,L=([]:SH)++sR l t sy_ ev0 pc0 ce fu g1 g2 b74 be b8 b6 bs bt bc bf th.enc e (([]:SH)++[(bf,⟨1,fu.map ah⟩),(bc,⟨1,ce.map ah⟩)])->gO Q [.ptr bs 0 0,.pptr [[.YJ t,.YJ wake]] 0 0,.ptr b6 0 0,.ptr b8 0 0,.ptr be 0 0,.ptr b74 0 0] L:=λL Y=>
  VC l t wake h1 sy_ e ev0 pc0 ce fu g1 g2 [] (.inl rfl) b74 be b8 b6 bs bt bc bf G th Q hq _ [] L Y ⟨_,_,_,_,rfl⟩ rfl λL Y=>fi.refl _ _
 obtain⟨u0,u1⟩:=aw.1 hc;have x1:(c.ts.map eG.enc)[t.toNat]? =some (au c t).enc:=iC hc;obtain⟨J,hJ⟩:∃J,J=gO Q:=⟨_,rfl⟩;refine vw ?_;unfold gO at hJ j E;rw[<-hJ]at j E ⊢;have O:∀B:SH,aE [.agg (au c t).enc,.agg [.YJ a.pc,g1,g2,.YJ a.ev]] (A++(B++(K++[(bf,⟨1,fu.map ah⟩),(bc,⟨1,ce.map ah⟩)]))) [.agg (au c t).enc,.agg a.enc] (B++[(bf,⟨1,fu.map ah⟩),(bc,⟨1,ce.map ah⟩)]):=λB=>
  aE.drop (K:=A++K) (by
   rw[WU];refine List.Perm.append_left A ?_;exact List.perm_append_comm_assoc _ _ _) rfl (fi.at_ (.cons (.refl _) (.cons (Fz.aggs (.cons (.refl _) (.cons (hg _ λq h=>h) (.cons (hg2 _ λq h=>h) (.cons (.refl _) .nil))))) .nil))).2
 clear hq hJ hg hg2 hc G h1;rw[hev]at j O;unfold sR ay cy at *;obtain⟨e1,Z,eo,ev,es,d,f⟩:=e;rw[show∀k v,bH.enc ⟨e1,k,eo,v,es,d,f⟩=[.YJ e1,.YJ k,.YJ eo,.YJ v,.YJ es,.lst (d.map ah),.lst (f.map ah)]from λ_ _=>rfl]at *;unfold aL.enc at *;dsimp only at M;have hnd2:=hnd;rcases hA with rfl|⟨q,rfl⟩
 all_goals
  simp only[SH.names,WS,Xp,Xw,WX,Xv,or_false,not_or,XM,XS]at hnd
 .obtain⟨⟨n1,n2,n3,n4,n5⟩,⟨n6,n7,n8,n9⟩,⟨n10,n11,n12⟩,⟨n13,n14⟩,n15,_⟩:=hnd;dsimp only[List.nil_append,List.cons_append]at j E O ⊢;rcases M with⟨D,S⟩|⟨D,hs⟩
  .have j:=j S;rcases D with rfl|rfl
   all_goals
    repeat' (first|refine sy ?_|refine s2 ?_ ?_|intro)
    exact j _ rfl
  .have d1:decide (Z≠16)=true:=decide_eq_true D.1;have d2:decide (Z≠2)=true:=decide_eq_true D.2;rw[hs]at u
   repeat' (first|refine sy ?_|refine s2 ?_ ?_|intro)
   refine nM (ac.pre (O [_,_,_,_,_,_]) (u.call (KL:=λv K'=>v=_/\K'=_) ⟨rfl,rfl⟩)) ?_;rintro _ _ ⟨rfl,rfl⟩;unfold nR;dsimp only[List.nil_append,List.cons_append];unfold aG.enc at E ⊢
   repeat' (first|refine sy ?_|refine s2 ?_ ?_|intro)
   exact E _ rfl
 .obtain⟨⟨m1,m2,m3,m4,m5,m6⟩,⟨n1,n2,n3,n4,n5⟩,⟨n6,n7,n8,n9⟩,⟨n10,n11,n12⟩,⟨n13,n14⟩,n15,_⟩:=hnd;obtain⟨qb,qx⟩:=q;dsimp only[List.nil_append,List.cons_append]at j E O m1 m2 m3 m4 m5 m6 ⊢;rcases M with⟨D,S⟩|⟨D,hs⟩
  .have j:=j S;rcases D with rfl|rfl
   all_goals
    repeat' (first|refine sy ?_|refine s2 ?_ ?_|intro)
    exact j _ rfl
  .have d1:decide (Z≠16)=true:=decide_eq_true D.1;have d2:decide (Z≠2)=true:=decide_eq_true D.2;rw[hs]at u
   repeat' (first|refine sy ?_|refine s2 ?_ ?_|intro)
   refine nM (ac.pre (O [_,_,_,_,_,_]) (u.call (KL:=λv K'=>v=_/\K'=_) ⟨rfl,rfl⟩)) ?_;rintro _ _ ⟨rfl,rfl⟩;unfold nR;dsimp only[List.nil_append,List.cons_append];unfold aG.enc at E ⊢
   repeat' (first|refine sy ?_|refine s2 ?_ ?_|intro)
   exact E _ rfl
end
end
section
section
variable (c:aL) (s:bU) (t wake:Int) (h1:inB t s.threads.length=true) (hc:inB t c.ts.length=true) (sy_:SyncD) (sv:Int) (e:bH) (i:az) (be b8 b6 bs bt bc bf:Nat) (o tt:Option Nat)
 (hnd:(sQ s t e be b8 b6 bs bt bc bf o tt).names.Nodup) (Q:R)
 (ho:o=none->(aB s t).regs=[]) (htt:tt=none->(aB s t).taint=[]) (htl:(aB s t).taint.length=(aB s t).regs.length)
 (hra:e.kind=3\/e.kind=23\/e.kind=5->0<=i.a/\i.a<(aB s t).regs.length) (th:aG) (a:P6) (ha:a=cG i e s (aB s t) sv)
 (hse:ao Tryz.prog 123 [.agg (au c t).enc,.agg a.thread.enc] (nR (bu (au c t) a.thread)))
 (hth:((e.kind=16\/e.kind=2)/\th=a.thread)\/((e.kind≠16/\e.kind≠2)/\bu (au c t) a.thread=(th,true)))
 (hq:∀v L,Fz L v (jp (some (⟨sy_,a.cells,a.futures,s.threads.set t.toNat th⟩,{e with value:=a.value})))->Q v L)
include h1 hc hnd ho htt htl hra ha hse hth hq
theorem Ww(B:Nat)(hb:B∉(sQ s t e be b8 b6 bs bt bc bf o tt).names):i7 Q (HO c t wake i be b8 b6 bs B a.thread.pc) (HP s t sy_ e be b8 b6 bs bt bc bf o tt B a.value a.cells a.futures):=by
 have hev:a.thread.ev=IntKind.i64.wrap ((aB s t).ev+1):=by rw[ha];exact nZ.1
 have D:List.Nodup [B,be,b8,b6,bs,bt]:=by simp only[SH.names,sQ,WS,Xw,WX,not_or]at hnd hb;obtain⟨⟨n1,n2,n3,n4,n5⟩,⟨n6,n7,n8,n9⟩,⟨n10,n11,n12⟩,⟨n13,n14⟩,Z,Y⟩:=hnd;obtain⟨m1,m2,m3,m4,m5,m6⟩:=hb;clear n5 n9 n12 n14 Z Y m6;simp;omega
 have u:=λ(g1 g2:AV) (K A:SH) hA hg hg2 g1o g2o hn=>Wv c s.threads t wake h1 hc sy_ {e with value:=a.value} a.thread (aB s t).ev (aB s t).pc a.cells a.futures g1 g2 K A hA B be b8 b6 bs bt bc bf hg hg2 hev g1o g2o hn th Q hq hse hth;obtain⟨J,hJ⟩:∃J,J=lZ Q:=⟨_,rfl⟩;refine vw ?_;unfold lZ at hJ u;rw[<-hJ]at u ⊢;clear hq hth hse hJ;by_cases S:e.kind=3\/e.kind=23
 .obtain⟨r0,r1⟩:=hra YC;have r2:i.a.toNat<(aB s t).regs.length:=by omega
  have r3:i.a.toNat<(aB s t).taint.length:=by omega
  have y1:=ky r0 r1;have y2:=nX (s:=aB s t) r0 YC;obtain⟨o,rfl⟩:∃b,o=some b:=by
   cases o with
   |some b=>exact⟨b,rfl⟩
   |none=>exfalso;rw[ho rfl]at r2;simp at r2
  obtain⟨tt,rfl⟩:∃b,tt=some b:=by
   cases tt with
   |some b=>exact⟨b,rfl⟩
   |none=>exfalso;rw[htt rfl]at r3;simp at r3
  have G:a.thread.regs=(aB s t).regs.set i.a.toNat a.value/\a.thread.taint=(aB s t).taint.set i.a.toNat [(aB s t).ev]:=by
   rw[ha];unfold cG;rcases S with k|k
   .rw[if_pos k];exact⟨rfl,rfl⟩
   .rw[if_neg YC,if_pos k];exact⟨rfl,rfl⟩
  have j:=λ(nb:Nat) (hnb:nb∉[B,be,b8,b6,bs,bt])=>u (.sl o 0 (aB s t).regs.length) (.sl tt 0 (aB s t).taint.length) [(o,⟨1,((aB s t).regs.map ah).set i.a.toNat [.YJ a.value]⟩),(tt,⟨1,((aB s t).taint.map bP).set i.a.toNat [.sl nb 0 1]⟩)] [(nb,⟨1,[[.YJ (aB s t).ev]]⟩)] (.inr ⟨_,rfl⟩)
   (λL O=>Fz.sls (size:=1) (l:=a.thread.regs) (f:=ah) (O _ (.tail _ (.head _))) (by rw[G.1,XI];rfl) YG (by rw[G.1];simp))
   (λL O=>by
    rw[G.2];exact E7 (n:=1) (f:=bP) YG rfl r3 (O _ (.tail _ (.tail _ (.head _)))) (.cons (Fz.sls (size:=1) (l:=[(aB s t).ev]) (f:=ah) (O _ (.head _)) rfl YG rfl) .nil)) rfl rfl (Xw.2 ⟨hnb,D⟩)
  have M:=hnd;simp only[SH.names,sQ,om,ab,List.map_cons,List.map_nil,List.nodup_cons,List.mem_cons,not_or,List.not_mem_nil,or_false,List.cons_append,List.nil_append,not_false_eq_true,and_true]at M hb;obtain⟨⟨n1,n2,n3,n4,n5,n6,n7,n8⟩,⟨n9,n10,n11,n12,n13,n14,Z⟩,⟨Y,n17,n18,n19,n20,n21⟩,⟨n22,n23,n24,n25,n26⟩,⟨n27,n28,n29,n30⟩,⟨n31,n32,n33⟩,⟨n34,n35⟩,n36,_⟩:=M;obtain⟨q1,q2,q3,q4,q5,q6,q7,q8,q9⟩:=hb;clear u G ho htt hra htl hnd D;unfold HO HP sR at *;obtain⟨e1,ek,eo,ev,es,d,f⟩:=e;obtain⟨op,ia,ib,ic,im,E⟩:=i;dsimp only at *;rw[show az.enc ⟨op,ia,ib,ic,im,E⟩=[.YJ op,.YJ ia,.YJ ib,.YJ ic,.YJ im,.YJ E]from rfl];rw[show∀k v,bH.enc ⟨e1,k,eo,v,es,d,f⟩=[.YJ e1,.YJ k,.YJ eo,.YJ v,.YJ es,.lst (d.map ah),.lst (f.map ah)]from λ_ _=>rfl]at *;unfold rN om aQ ab at *;dsimp only[List.cons_append,List.nil_append]at *;rcases S with rfl|rfl
  all_goals
   repeat' (first|refine bz r0 r2 rp rfl ?_|refine bz r0 r3 rp rfl ?_|refine sx ?_|refine sb λnb_ hnb_=>?_|refine s2 ?_ ?_|intro)
   refine j _ ?_;simp only[WX,Xv,or_false,not_or];simp only[SH.names,WS,Xp,WX,not_or]at hnb_;refine⟨?_,?_,?_,?_,?_,?_⟩<;>omega
 .have G:a.thread.regs=(aB s t).regs/\a.thread.taint=(aB s t).taint:=by
   rw[ha];unfold cG;rw[if_neg (λh=>S (.inl h)),if_neg (λh=>S (.inr h))]
   repeat' split
   all_goals exact⟨rfl,rfl⟩
  have j:=u (aQ o (aB s t).regs.length) (aQ tt (aB s t).taint.length) (om (aB s t) o tt) [] (.inl rfl) (λL O=>by rw[G.1];exact gL rfl ho λb e=>by subst e;exact O _ (by simp[om,ab])) (λL O=>by rw[G.2];exact gL rfl htt λb e=>by subst e;exact O _ (by simp[om,ab])) (iW _ _) (iW _ _) D;have e3:decide (e.kind=3)=false:=decide_eq_false (λh=>S (.inl h));have e23:decide (e.kind=23)=false:=decide_eq_false (λh=>S (.inr h));clear u G;unfold HO HP sR at *;obtain⟨e1,ek,eo,ev,es,d,f⟩:=e;dsimp only at *;rw[show∀k v,bH.enc ⟨e1,k,eo,v,es,d,f⟩=[.YJ e1,.YJ k,.YJ eo,.YJ v,.YJ es,.lst (d.map ah),.lst (f.map ah)]from λ_ _=>rfl]at *
  repeat' (first|refine sy ?_|refine s2 ?_ ?_|intro)
  exact j
end
end
