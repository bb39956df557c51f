/- part -/
import Derived.Test.YtfcfhjadaknphaaGreatDoorQxw
set_option linter.all false
set_option maxRecDepth 100000
set_option maxHeartbeats 0
namespace Go.Proofs.YtfcfhjadaknphaaGreatDoor.Am
def DY:RF:=nv (cg Tryz.prog Tryz.f9 [] [(0,[2]),(3,[7])])
abbrev Lr(a b:AV)(L:SH)(Q:R):Prop:=Pc DY 20 Q 0 [] [a,b] L
def IY(u j:AV)(L:SH)(Q:R)(h:Lr u j L Q):ac Tryz.prog 9 [u,j] L Q:=
 fv DY Tryz.func9 h
def SN(p:List bH×bU):AV:=.tup [.lst (p.1.map bH.enc),.agg p.2.enc]
def NR(c:aL)(hc:A9 c)(l:List bW)(hl:l.length<2^62)(E:bU)(h0:nY c 0 E)(b2 O:Nat)(Q:R)(hq:∀v L,Fz L v (SN (cf c l ([],E)))->Q v L):
  W.loop (sB (fF Q)) [.pptr [c.enc] 0 0,.ptr b2 0 0,.ptr O 0 0,.nils,.lst (l.map bW.enc),.YJ l.length,.YJ (0:Nat)] [(O,⟨7,[E.enc]⟩),(b2,⟨7,[ay]⟩)]:=by
 refine bF l.length (λk (o:Option Nat)=>([.pptr [c.enc] 0 0,.ptr b2 0 0,.ptr O 0 0,ai o (cf c (l.take k) ([],E)).1.length,.lst (l.map bW.enc),.YJ l.length,.YJ k],(O,⟨7,[(cf c (l.take k) ([],E)).2.enc]⟩)::(b2,⟨7,[ay]⟩)::ab o 7 ((cf c (l.take k) ([],E)).1.map bH.enc))) (λk o=>o=none->(cf c (l.take k) ([],E)).1=[]) none (λ_=>rfl) (aE.drop (K:=[]) (.refl _) rfl (fi.at_ (.cons (.refl _) (.cons (.refl _) (.cons (.refl _) (.cons .nile (.cons (.refl _) (.cons (.refl _) (.cons (.refl _) .nil)))))))).2) ?_;intro k o hk ho;dsimp only;have hiv:=Ku hc (l.take k) (p:=([],E)) h0 (Nat.zero_le _);have B:=wY c l k ([],E);have u:=λ(h:k<l.length)=>wZ c l k h ([],E);generalize hp:cf c (l.take k) ([],E)=p at *;obtain⟨ev,D⟩:=p;dsimp only at *;have fin:cf c l ([],E)=(ev,D)->∀L,(∀q∈ab o 7 (ev.map bH.enc),q∈L)->Q (.tup [ai o ev.length,.agg D.enc]) L:=λhe L hm=>by
  refine hq _ _ ?_;rw[he];refine Fz.tups (.cons ?_ (.cons (.refl _) .nil));cases o with
  |none=>rw[ho rfl];exact .emp
  |some b=>exact Fz.sls (hm _ (.head _)) rfl YG rfl
 refine vw ?_;obtain⟨J,hJ⟩:∃J,J=fF Q:=⟨_,rfl⟩;have Z:cf c l ([],E)=(ev,D)->J [.ptr b2 0 0,.ptr O 0 0,ai o ev.length] ((O,⟨7,[D.enc]⟩)::(b2,⟨7,[ay]⟩)::ab o 7 (ev.map bH.enc)):=λhe=>by
  have fin:=fin he;rw[hJ];unfold fF ay bU.enc at *;cases o
  all_goals
   dsimp only[ai,ab]at *
   repeat' (first|refine sy ?_|refine s2 ?_ ?_|intro)
   exact fin _ YF
 rw[<-hJ];clear fin hJ;rcases Fn k l.length with g1|g1
 .have hd:=a8 g1;have hx:=aq (f:=bW.enc) g1;have u:=u g1;generalize hch:l[k]=ch at *;obtain⟨ct,cw⟩:=ch;unfold bW.enc at hx;dsimp only at hx;by_cases G:400<=ev.length
  .have Z:=Z (by rw[B];exact qP c _ _ G);have d4:decide ((ev.length:Int)>=400)=true:=decide_eq_true YC;clear hq B u hp;cases o with
   |none=>rw[ho rfl]at G;simp at G
   |some bo=>
    dsimp only[ai,ab]at *
    repeat' (first|exact Z|refine sy ?_|refine s2 ?_ ?_|intro)
  .have d4:decide ((ev.length:Int)>=400)=false:=decide_eq_false YC;have S:=E8 U9 c D ct cw (u7 hiv.2 hiv.1 hc.ins hc.len hc.con);have M:zB c (ev,D) ⟨ct,cw⟩=match cB c D ct cw with
    |none=>(ev,D)
    |some (n,e)=>(ev++[e],n):=by unfold zB;rw[if_neg G];rfl
   clear hq B Z;cases hs:cB c D ct cw with
   |none=>
    rw[hs]at S M;dsimp only at M;unfold jp at S;have hz:bU.zero.enc=[.lst [],.YJ 0,.lst [],.lst [],.lst [],.lst [],.lst []]:=rfl;rw[hz,show bH.zero.enc=[.YJ 0,.YJ 0,.YJ 0,.YJ 0,.YJ 0,.lst [],.lst []]from rfl]at S;have fin2:∀L,L=(O,(⟨7,[D.enc]⟩:Blk))::(b2,⟨7,[ay]⟩)::ab o 7 (ev.map bH.enc)->∃(j:Nat) (Y:Option Nat),k<j/\j<=l.length/\(Y=none->(cf c (l.take j) ([],E)).1=[])/\aE [.pptr [c.enc] 0 0,.ptr b2 0 0,.ptr O 0 0,ai o ev.length,.lst (l.map bW.enc),.YJ l.length,.YJ (IntKind.i64.wrap ((k:Int)+1))] L
      [.pptr [c.enc] 0 0,.ptr b2 0 0,.ptr O 0 0,ai Y (cf c (l.take j) ([],E)).1.length,.lst (l.map bW.enc),.YJ l.length,.YJ j] ((O,⟨7,[(cf c (l.take j) ([],E)).2.enc]⟩)::(b2,⟨7,[ay]⟩)::ab Y 7 ((cf c (l.take j) ([],E)).1.map bH.enc)):=by
     rintro L rfl;refine⟨k+1,o,YC,YC,?_,?_⟩
     .rw[u,M];exact ho
     .rw[u,M,ax g1 hl];exact .refl _ _
    cases o
    all_goals
     dsimp only[ai,ab]at *
     repeat' (first|refine sy ?_|refine s2 ?_ ?_|intro)
     exact fin2 _ rfl
   |some r=>
    obtain⟨n,e⟩:=r;rw[hs]at S M;dsimp only at M;unfold jp at S;have hn:n.enc=[.lst (n.sync.locks.map LockD.enc),.YJ n.sync.tx,.lst (n.sync.done.map aD),.lst (n.sync.threads.map ThrD.enc),.lst (n.cells.map ah),.lst (n.futures.map ah),.lst (n.threads.map aG.enc)]:=rfl;have he:e.enc=[.YJ e.thread,.YJ e.kind,.YJ e.obj,.YJ e.value,.YJ e.site,.lst (e.deps.map ah),.lst (e.frm.map ah)]:=rfl;dsimp only at S;have fin3:∀(nb:Nat) (L:SH),dD L ((O,(⟨7,[n.enc]⟩:Blk))::(b2,⟨7,[ay]⟩)::ab (some nb) 7 (ev.map bH.enc++[e.enc]))->∃(j:Nat) (Y:Option Nat),k<j/\j<=l.length/\(Y=none->(cf c (l.take j) ([],E)).1=[])/\aE [.pptr [c.enc] 0 0,.ptr b2 0 0,.ptr O 0 0,.sl nb 0 (ev.length+1),.lst (l.map bW.enc),.YJ l.length,.YJ (IntKind.i64.wrap ((k:Int)+1))] L
      [.pptr [c.enc] 0 0,.ptr b2 0 0,.ptr O 0 0,ai Y (cf c (l.take j) ([],E)).1.length,.lst (l.map bW.enc),.YJ l.length,.YJ j] ((O,⟨7,[(cf c (l.take j) ([],E)).2.enc]⟩)::(b2,⟨7,[ay]⟩)::ab Y 7 ((cf c (l.take j) ([],E)).1.map bH.enc)):=by
     intro nb L hL;refine⟨k+1,some nb,YC,YC,nofun,?_⟩;rw[u,M,ax g1 hl];exact aE.pickE hL (by simp[ai]) YF
    rw[hn,he]at *;have hev400:ev.length<2^30:=by omega
    repeat' (first|refine sy ?_|refine bG rp rp YF (λe=>by first|simp[ho e]) YE YF YH YH YE (λnb_ hnb_=>?_)|refine uW ?_ (λe=>by rw[ho e];rfl)|refine s2 ?_ ?_|intro)
    exact fin3 _ _ rp
 .have hd:=bq g1;have hk0:k=l.length:=by omega
  subst hk0;have Z:=Z (by rw[B,Yn (Fd _)];rfl);clear hq B u hp
  repeat' (first|exact Z|refine sy ?_|refine s2 ?_ ?_|intro)
def Lv(c:aL)(M:A9 c)(l:List bW)(G:l.length<2^62)(D:ao Tryz.prog 57 [.agg c.enc] (.agg (bC c).enc))(O:nY c 0 (bC c)):ao Tryz.prog 29 [.agg c.enc,.lst (l.map bW.enc)] (SN (fN c l)):=by
 refine Rm λQ E=>sC _ _ _ _ ?_
 refine vw ?_;have B:=λY S=>NR c M l G (bC c) O Y S Q E
 have u:c.enc=[.lst (c.w.cells.map aH.enc),.lst (c.w.locks.map bv.enc),.lst (c.w.conds.map bO.enc),.lst (c.w.futures.map av),.lst (c.w.threads.map av),.lst (c.w.sites.map bM.enc),.lst (c.ts.map eG.enc)]:=rfl;generalize bC c=s0 at *;have j:s0.enc=[.lst (s0.sync.locks.map LockD.enc),.YJ s0.sync.tx,.lst (s0.sync.done.map aD),.lst (s0.sync.threads.map ThrD.enc),.lst (s0.cells.map ah),.lst (s0.futures.map ah),.lst (s0.threads.map aG.enc)]:=rfl;unfold ay at B;rw[u,j]at *
 repeat' (first|exact B _ _|refine sy ?_|refine s2 ?_ ?_|intro)
noncomputable def yV (c:aL) (l:List bW):fI×bU:=if iz (fy c)then(⟨c.w,(fN c l).1⟩,(fN c l).2)else(⟨⟨[],[],[],[],[],[]⟩,[]⟩,bU.zero)
def Qa(c:aL)(hl:∀t∈c.ts,t.ins.length<2^40)(l:List bW)(Z:l.length<2^62):ao Tryz.prog 9 [.agg c.enc,.lst (l.map bW.enc)] (.tup [.agg (yV c l).1.enc,.agg (yV c l).2.enc]):=by
 have hv:=AZ c λt ht=>by have:=hl t ht;omega
 refine ac.fz (IY _ _ _ _ ?_);refine vw ?_;generalize hQ:(λ(v:AV) (L:SH)=>∃v2 L2,aE [v] L [v2] L2/\v2=AV.tup [.agg (yV c l).1.enc,.agg (yV c l).2.enc]/\L2=[])=Q;have E:∀a b L,fi L a (yV c l).1.enc->fi L b (yV c l).2.enc->Q (.tup [.agg a,.agg b]) L:=λa b L h1 h2=>by subst hQ;exact⟨_,[],aE.all (Fz.tups (.cons (Fz.aggs h1) (.cons (Fz.aggs h2) .nil))),rfl,rfl⟩
 clear hQ;have B:c.enc=[.lst (c.w.cells.map aH.enc),.lst (c.w.locks.map bv.enc),.lst (c.w.conds.map bO.enc),.lst (c.w.futures.map av),.lst (c.w.threads.map av),.lst (c.w.sites.map bM.enc),.lst (c.ts.map eG.enc)]:=rfl;cases u:iz (fy c)with
 |false=>
  rw[u]at hv;have Y:yV c l=(⟨⟨[],[],[],[],[],[]⟩,[]⟩,bU.zero):=by unfold yV;rw[u];rfl
  rw[Y]at E;have G:∀L,Q (.tup [.agg [.nils,.nils,.nils,.nils,.nils,.nils,.nils],.agg [.nils,.YJ 0,.nils,.nils,.nils,.nils,.nils]]) L:=λL=>E _ _ L (by unfold fI.enc;exact fl) (by unfold bU.zero bU.enc Kk;exact fl)
  rw[B]at *
  repeat' (first|refine sy ?_|refine s2 ?_ ?_|intro)
  exact G _
 |true=>
  rw[u]at hv;have D:=fo.1 u;have j:=D.world;have Y:yV c l=(⟨c.w,(fN c l).1⟩,(fN c l).2):=by unfold yV;rw[u];rfl
  rw[Y]at E;have O:=D0 c (by have:=j.c12;omega) (by have:=j.l4;omega) (by have:=j.f2;omega) (by have:=j.t4;omega) (by have:=D.len;have:=j.t4;omega) (u9 D);have hf:=Lv c (jr D hl) l Z O (zC D);have hcw:=w5 c.w (by have:=j.c12;omega) (by have:=j.l4;omega) (by have:=j.d2;omega) (by have:=j.f2;omega) (by have:=j.t4;omega) (by have:=j.s60;omega);generalize fN c l=p at *;obtain⟨ev,s⟩:=p;unfold SN at hf;have M:c.w.enc=[.lst (c.w.cells.map aH.enc),.lst (c.w.locks.map bv.enc),.lst (c.w.conds.map bO.enc),.lst (c.w.futures.map av),.lst (c.w.threads.map av),.lst (c.w.sites.map bM.enc)]:=rfl;have S:s.enc=[.lst (s.sync.locks.map LockD.enc),.YJ s.sync.tx,.lst (s.sync.done.map aD),.lst (s.sync.threads.map ThrD.enc),.lst (s.cells.map ah),.lst (s.futures.map ah),.lst (s.threads.map aG.enc)]:=rfl;dsimp only at *;rw[B]at *;rw[M]at hcw;rw[S]at *;have G:∀L,Q (.tup [.agg [.lst (c.w.cells.map aH.enc),.lst (c.w.locks.map bv.enc),.lst (c.w.conds.map bO.enc),.lst (c.w.futures.map av),.lst (c.w.threads.map av),.lst (c.w.sites.map bM.enc),.lst (ev.map bH.enc)],.agg [.lst (s.sync.locks.map LockD.enc),.YJ s.sync.tx,.lst (s.sync.done.map aD),.lst (s.sync.threads.map ThrD.enc),.lst (s.cells.map ah),.lst (s.futures.map ah),.lst (s.threads.map aG.enc)]]) L:=λL=>E _ _ L (fi.refl _ _) (fi.refl _ _)
  repeat' (first|refine sy ?_|refine s2 ?_ ?_|intro)
  exact G _
def Qb{c:aL}(h4:c.w.threads.length<=4)(l:List bW):fN c ((aR c l).1.map jt)=aR c l:=
 (w7 h4 400 (w6 h4 l (xY c))).2
def kT:RF:=nv (cg Tryz.prog Tryz.f5 [] [(3,[5]),(4,[6,7]),(5,[8,9])])
abbrev t7(a b:AV)(L:SH)(Q:R):Prop:=Pc kT 20 Q 0 [] [a,b] L
def rW(u j:AV)(L:SH)(Q:R)(h:t7 u j L Q):ac Tryz.prog 5 [u,j] L Q:=
 fv kT Tryz.func5 h
def me:RF:=nv (cg Tryz.prog Tryz.f20 [(27022,⟨[3,6,10,11,12],[9],false,[]⟩),(9,⟨[3,10,11,12],[],true,[]⟩)] [(4,[5])])
abbrev Cg(Q:R):Vs->SH->Kn->Prop:=Lp me 19 Q 9 []
abbrev Dq(a:AV)(L:SH)(Q:R):Prop:=Pc me 20 Q 0 [] [a] L
def Ch(j:AV)(L:SH)(Q:R)(h:Dq j L Q):ac Tryz.prog 20 [j] L Q:=
 fv me Tryz.func20 h
def Ph(l:List bH)(hl:l.length<2^40)(S:Nat)(Q:R)(hq:∀(b:Nat) (L:SH),(b,(⟨2,(l.map jt).map bW.enc⟩:Blk))∈L->Q (.sl b 0 l.length) L):
  W.loop (Cg Q) [.sl S 0 0,.lst (l.map bH.enc),.YJ l.length,.YJ (0:Nat)] [(S,⟨2,[]⟩)]:=by
 refine bF l.length (λk (b:Nat)=>([.sl b 0 k,.lst (l.map bH.enc),.YJ l.length,.YJ k],[(b,⟨2,((l.take k).map jt).map bW.enc⟩)])) (λ_ _=>True) S trivial (.refl _ _) ?_;intro k b hk _;dsimp only;refine vw ?_;generalize hN:(λ(vs':List AV) (L':SH)=>∃(j:Nat) (o':Nat),k<j/\j<=l.length/\_)=N;rcases Nat.lt_or_ge k l.length with B|B
 .have hd:=a8 B;have hx:=aq (f:=bH.enc) B;have Y:l.take (k+1)=l.take k++[l[k]]:=LE B;have hX:(((l.take k).map jt).map bW.enc).length=k:=by simp;omega
  have E:((l.take (k+1)).map jt).map bW.enc=((l.take k).map jt).map bW.enc++[(jt l[k]).enc]:=by rw[Y,WL,WL];rfl
  have fin:∀(u:Nat) (L:SH),dD L [(u,(⟨2,((l.take k).map jt).map bW.enc++[(jt l[k]).enc]⟩:Blk))]->N [.sl u 0 (k+1),.lst (l.map bH.enc),.YJ l.length,.YJ (IntKind.i64.wrap ((k:Int)+1))] L:=λu L hL=>by subst hN;refine⟨k+1,u,YC,YC,trivial,?_⟩;rw[ax B YC];exact aE.pickE hL rfl (by rw[E])
  clear hq hN E;generalize((l.take k).map jt).map bW.enc=X at *;generalize l[k]=e at *;unfold bH.enc at hx;by_cases M:e.kind=18/\0<=e.value/\e.value<4
  .have G:(jt e).enc=[.YJ e.thread,.YJ e.value]:=by unfold jt;rw[if_pos M];rfl
   rw[G]at fin;obtain⟨q1,q2,q3⟩:=M;have d1:decide (e.kind=18)=true:=by simp[q1]
   have d2:decide (e.value>=0)=true:=by simp;omega
   have d3:decide (e.value<4)=true:=by simp;omega
   have w1:IntKind.i64.wrap e.value=e.value:=WY _ YC;clear G
   repeat' (first|refine sy ?_|refine bG (o:=some b) rp rp hX nofun YE YF YH YH YE (λO D=>?_)|refine s2 ?_ ?_|intro)
   exact fin _ _ rp
  .have G:(jt e).enc=[.YJ e.thread,.YJ (-1)]:=by unfold jt;rw[if_neg M];rfl
   rw[G]at fin
   repeat' (first|refine sy ?_|refine bG (o:=some b) rp rp hX nofun YE YF YH YH YE (λO D=>?_)|refine s2 ?_ ?_|intro)
   all_goals first
    |(exfalso;(refine M ⟨?_,?_,?_⟩<;>simp_all);done)
    |exact fin _ _ rp
 .have hd:=bq B;have Z:k=l.length:=by omega
  subst Z;rw[W9 (Fd _)];clear hN
  repeat' (first|refine sy ?_|refine s2 ?_ ?_|intro)
  exact hq _ _ (.head _)
def JM(l:List bH)(Y:l.length<2^40):ao Tryz.prog 20 [.lst (l.map bH.enc)] (.lst ((l.map jt).map bW.enc)):=by
 refine ac.fz (Ch _ _ _ ?_);refine vw ?_;generalize E:(λ(v:AV) (L:SH)=>∃u G,aE [v] L [u] G/\u=AV.lst ((l.map jt).map bW.enc)/\G=[])=Q;have B:∀(b:Nat) (L:SH),(b,(⟨2,(l.map jt).map bW.enc⟩:Blk))∈L->Q (.sl b 0 l.length) L:=λb L h=>by subst E;exact⟨_,[],aE.all (Fz.sls h rfl YG YF),rfl,rfl⟩
 clear E;have S:=λO=>Ph l Y O Q B
 clear B
 repeat' (first|refine sy ?_|refine fY (i:=0) (j:=l.length) YC YC YC (λM D=>?_)|refine s2 ?_ ?_|intro)
 exact S _
def JN(t s:List UInt8)(hc:t.length<2^40->∃c:aL,ao Tryz.prog 8 [.lst (t.map eJ)] (.agg c.enc)/\(∀x∈c.ts,x.ins.length<2^40)/\fy c):ao Tryz.prog 5 [.lst (t.map eJ),.lst (s.map eJ)] (.bool true):=by
 have u:=KC t s;refine Pi λQ S=>rW _ _ _ _ ?_
 refine vw ?_;by_cases Y:200<t.length\/100<s.length
 .rw[show(decide (200<t.length)||decide (100<s.length))=true by simpa using Y]at u
  repeat' (first|refine sy ?_|refine s2 ?_ ?_|intro)
  exact S _
 .rw[show(decide (200<t.length)||decide (100<s.length))=false by simpa using Y]at u;obtain⟨c,G,j,B⟩:=hc YC;have hch:=ym s YC;generalize M:s.map Mm=l at *;have hll:l.length<=100:=by rw[<-M];simp;omega
  have hr:=yj c B j l YC;obtain⟨hs1,hs2⟩:=sW c B j l;have hne:=gU B j l;have hle:=(l7 B j l).le;have hcc:=JM (aR c l).1 YC;have D:=Qa c j ((aR c l).1.map jt) (by rw[List.length_map];omega);rw[show yV c ((aR c l).1.map jt)=(⟨c.w,(aR c l).1⟩,(aR c l).2) by unfold yV;rw[show iz (fy c)=true from fo.2 B];simp only[if_true];rw[Qb B.world.t4 l]]at D;generalize aR c l=r at *;obtain⟨ev,Z⟩:=r;dsimp only at *;have d0:decide ((ev.length:Int) > 0)=true:=decide_eq_true YC;have E:∀s:bU,s.enc=[.lst (s.sync.locks.map LockD.enc),.YJ s.sync.tx,.lst (s.sync.done.map aD),.lst (s.sync.threads.map ThrD.enc),.lst (s.cells.map ah),.lst (s.futures.map ah),.lst (s.threads.map aG.enc)]:=λ_=>rfl
  unfold fI.enc at *;have O:c.enc=[.lst (c.w.cells.map aH.enc),.lst (c.w.locks.map bv.enc),.lst (c.w.conds.map bO.enc),.lst (c.w.futures.map av),.lst (c.w.threads.map av),.lst (c.w.sites.map bM.enc),.lst (c.ts.map eG.enc)]:=rfl;rw[E]at *;rw[O]at *;dsimp only at *
  repeat' (first|refine sy ?_|refine s2 ?_ ?_|intro)
  exact S _
def In(t s:List UInt8):ao Tryz.prog 5 [.lst (t.map eJ),.lst (s.map eJ)] (.bool true):=JN t s λh=>Cf t h
