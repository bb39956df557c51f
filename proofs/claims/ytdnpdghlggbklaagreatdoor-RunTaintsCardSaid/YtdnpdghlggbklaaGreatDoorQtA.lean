/- A part of the proof; the statement is proved in the last part. -/
import Derived.Test.YtdnpdghlggbklaaGreatDoorQtz
set_option linter.unusedSimpArgs false
set_option linter.unusedVariables false
namespace Go.Proofs.YtdnpdghlggbklaaGreatDoor.Am
section
set_option maxRecDepth 100000
set_option maxHeartbeats 8000000
section
variable (x1 x2 x3:AV) (Q:R) (nx:Kn)
theorem Q4(e e':aY)(hag:KP e e')(A B:List (List AV))(k i:Nat)(hx1:A[k]? =some e.enc)(hx2:B[k]? =some e'.enc)(hl2:az Tryz.prog 18 [.agg e.enc] (.lst ((e.deps++e.frm).map aj)))(n2:Kn)
  (go:(e.kind=5→e'.value=e.value)→n2 [x1,x2,x3,.ZO (i:Int),.lst A,.lst B,.ZO (IntKind.i64.wrap ((k:Int)+1))] []) (br:nx [x1,x2,x3,.ZO (IntKind.i64.wrap ((i:Int)+1))] []) :
  fU Q nx n2 [] (.lst A) (.ZO (k:Int)) (.lst B) (.ZO (i:Int)) x1 x2 x3:=by
 obtain⟨gk,gs,gd,gf,go1,gv⟩:=hag;obtain⟨th,kind,obj,value,site,deps,frm⟩:=e;obtain⟨th2,kind2,obj2,value2,site2,deps2,frm2⟩:=e';dsimp only at *;subst gk gs gd gf;unfold fU;obtain⟨M,hM⟩:∃M,M=(deps2++frm2).map aj:=⟨_,rfl⟩;have hMl:M.length=(deps2++frm2).length:=by rw[hM];simp
 rw[←hM]at hl2;have hee:∀t o v,aY.enc ⟨t,kind2,o,v,site2,deps2,frm2⟩=[.ZO t,.ZO kind2,.ZO o,.ZO v,.ZO site2,.lst (deps2.map aj),.lst (frm2.map aj)]:=λ_ _ _=>rfl
 rw[hee]at hx1 hx2 hl2;have dk:decide (kind2≠kind2)=false:=by simp
 have ds:decide (site2≠site2)=false:=by simp
 by_cases hm:deps2=[]∧frm2=[]
 ·obtain⟨m1,m2⟩:=hm;have:=go1 m1;subst this;have dM:decide ((M.length:Int)=0)=true:=decide_eq_true (by rw[hMl,m1,m2];rfl);have dO:decide (obj2≠obj2)=false:=by simp
  clear hM hMl hee go1;by_cases kk:kind2=4∨kind2=5∨kind2=22
  ·have:=gv m1 m2 kk;subst this;have dv:decide (value2≠value2)=false:=by simp
   have g:=go λ_=>rfl
   clear go br gv m1 m2;generalize deps2.map aj=D at *;generalize frm2.map aj=F at *;rcases kk with rfl|rfl|rfl
   ·repeat' (first|refine st ?_|(refine pf 18 ?_;refine pm (hl2) ?_)|refine sb λnb_ hnb_=>?_|refine s2 (λh=>?_) λh=>?_|fail)
    exact g
   ·repeat' (first|refine st ?_|(refine pf 18 ?_;refine pm (hl2) ?_)|refine sb λnb_ hnb_=>?_|refine s2 (λh=>?_) λh=>?_|fail)
    exact g
   ·repeat' (first|refine st ?_|(refine pf 18 ?_;refine pm (hl2) ?_)|refine sb λnb_ hnb_=>?_|refine s2 (λh=>?_) λh=>?_|fail)
    exact g
  ·have e4:decide (kind2=4)=false:=decide_eq_false ZJ;have e5:decide (kind2=5)=false:=decide_eq_false ZJ;have e22:decide (kind2=22)=false:=decide_eq_false ZJ;have g:=go λh=>absurd h ZJ
   clear go br gv m1 m2;generalize deps2.map aj=D at *;generalize frm2.map aj=F at *
   repeat' (first|refine st ?_|(refine pf 18 ?_;refine pm (hl2) ?_)|refine sb λnb_ hnb_=>?_|refine s2 (λh=>?_) λh=>?_|fail)
   exact g
 ·have dM:decide ((M.length:Int)=0)=false:=decide_eq_false (by
   rw[hMl,Yf];intro h;exact hm ⟨Y5.1 ZJ,Y5.1 ZJ⟩)
  clear hM hMl hee go1 gv hm;generalize deps2.map aj=D at *;generalize frm2.map aj=F at *;by_cases k5:kind2=5
  ·subst k5;by_cases v:value≠value2
   ·have dv:decide (value≠value2)=true:=decide_eq_true v;clear go
    repeat' (first|refine st ?_|(refine pf 18 ?_;refine pm (hl2) ?_)|refine sb λnb_ hnb_=>?_|refine s2 (λh=>?_) λh=>?_|fail)
    exact br
   ·have dv:decide (value≠value2)=false:=decide_eq_false v;have g:=go λ_=>by omega
    clear go br
    repeat' (first|refine st ?_|(refine pf 18 ?_;refine pm (hl2) ?_)|refine sb λnb_ hnb_=>?_|refine s2 (λh=>?_) λh=>?_|fail)
    exact g
  ·have e5:decide (kind2=5)=false:=decide_eq_false k5;have g:=go λh=>absurd h k5
   clear go br;by_cases k4:kind2=4
   ·subst k4
    repeat' (first|refine st ?_|(refine pf 18 ?_;refine pm (hl2) ?_)|refine sb λnb_ hnb_=>?_|refine s2 (λh=>?_) λh=>?_|fail)
    exact g
   ·have e4:decide (kind2=4)=false:=decide_eq_false k4;by_cases k22:kind2=22
    ·subst k22
     repeat' (first|refine st ?_|(refine pf 18 ?_;refine pm (hl2) ?_)|refine sb λnb_ hnb_=>?_|refine s2 (λh=>?_) λh=>?_|fail)
     exact g
    ·have e22:decide (kind2=22)=false:=decide_eq_false k22
     repeat' (first|refine st ?_|(refine pf 18 ?_;refine pm (hl2) ?_)|refine sb λnb_ hnb_=>?_|refine s2 (λh=>?_) λh=>?_|fail)
     exact g
theorem Q5(a b:List aY)(H:Mk a b)(i n:Nat)(hi:i<n)(hi2:n<2^62)(hn:nx [x1,x2,x3,.ZO ((i+1:Nat):Int)] []):
  W.loop (dZ Q nx) [x1,x2,x3,.ZO (i:Int),.lst (a.map aY.enc),.lst (b.map aY.enc),.ZO (0:Nat)] []:=by
 rw[←aA hi hi2]at hn;have hla:=H.la;have hlb:=H.lb;refine qf a.length (λk=>([x1,x2,x3,.ZO (i:Int),.lst (a.map aY.enc),.lst (b.map aY.enc),.ZO (k:Int)],[])) (λk=>∀j (hj:j<k) (g1:j<a.length) (g2:j<b.length),a[j].kind=5→b[j].value=a[j].value) (by intro j hj;omega) rfl rfl ?_;intro k hk hG;dsimp only;unfold dZ;generalize hnx:(λ(vs':List AV) (L':SH)=>∃j,k<j∧j≤a.length∧_)=n2;have len1:∀(K:AV→Prop),K (.ZO (a.length:Int))→W.len (.lst (a.map aY.enc)) K:=λK h=>by have:=xQ (rows:=a.map aY.enc) (K:=K) (by rw[List.length_map];exact h);exact this
 have len2:∀(K:AV→Prop),K (.ZO (b.length:Int))→W.len (.lst (b.map aY.enc)) K:=λK h=>by have:=xQ (rows:=b.map aY.enc) (K:=K) (by rw[Y9];exact h);exact this
 rcases X9 k a.length with g1|g1
 ·have d1:=bE g1;rcases X9 k b.length with g2|g2
  ·have d2:=bE g2;have hA:=H.ag k g1 g2 λj hj=>hG j hj ZJ ZJ
   have hE:=H.ev k g1;have l1:=hE.deps.len;have l2:=hE.frm.len;rw[Yx]at l1 l2;have z:=Q4 x1 x2 x3 Q nx a[k] b[k] hA (a.map aY.enc) (b.map aY.enc) k i (ay g1) (ay g2) (Xi _ ZJ ZJ) n2 (λh=>by
    rw[aA g1 ZJ];subst hnx;refine⟨k+1,ZJ,ZJ,λj hj p q=>?_,.refl _ _⟩;rcases X9 j k with h1|h1
    ·exact hG j h1 p q
    ·obtain rfl:j=k:=by omega
     exact h) hn
   clear hnx hG H hA hE l1 l2 hn;generalize a.map aY.enc=A at *;generalize b.map aY.enc=B at *
   repeat' (first|refine len1 _ ?_|refine len2 _ ?_|with_reducible exact z|refine st ?_|refine sb λnb_ hnb_=>?_|refine s2 (λh=>?_) λh=>?_|fail)
  ·have d2:=bI g2;clear hnx hG H;generalize a.map aY.enc=A at *;generalize b.map aY.enc=B at *
   repeat' (first|refine len1 _ ?_|refine len2 _ ?_|refine st ?_|refine sb λnb_ hnb_=>?_|refine s2 (λh=>?_) λh=>?_|fail)
   exact hn
 ·have d1:=bI g1;clear hnx hG H;generalize a.map aY.enc=A at *;generalize b.map aY.enc=B at *
  repeat' (first|refine len1 _ ?_|refine len2 _ ?_|refine st ?_|refine sb λnb_ hnb_=>?_|refine s2 (λh=>?_) λh=>?_|fail)
  exact hn
end
theorem Q6(c:bB)(hts:c.ts.length<2^40)(ev1 ev2:List aY)(hv1:ev1.length≤400)(hv2:ev2.length≤400)(hT:∀i:Nat,i<c.ts.length→Mk (co i ev1) (co i ev2))(a1 a2 a3 a4 a5 a6 b1 b2 b3 b4 b5 b6:AV)(Q:R)(hq:∀L,Q (.bool true) L)
  (haw:az Tryz.prog 10 [] (.bool true)) (L:SH):W.loop (fV Q) [.pptr [c.enc] 0 0,.pptr [[a1,a2,a3,a4,a5,a6,.lst (ev1.map aY.enc)]] 0 0,.pptr [[b1,b2,b3,b4,b5,b6,.lst (ev2.map aY.enc)]] 0 0,.ZO (0:Nat)] L:=by
 refine bW c.ts.length (λi (_:Unit)=>([.pptr [c.enc] 0 0,.pptr [[a1,a2,a3,a4,a5,a6,.lst (ev1.map aY.enc)]] 0 0,.pptr [[b1,b2,b3,b4,b5,b6,.lst (ev2.map aY.enc)]] 0 0,.ZO (i:Int)],[])) (λ_ _=>True) () trivial (aG.drop (K:=L) ZM rfl (iV.at_ (.cons (.refl _) (.cons (.refl _) (.cons (.refl _) (.cons (.refl _) .nil))))).2) ?_;intro i _ _ _;dsimp only;unfold fV;generalize hnx:(λ(vs':List AV) (L':SH)=>∃(q:Nat) (o':Unit),i<q∧q≤c.ts.length∧True∧_)=nx;rcases Nat.lt_or_ge i c.ts.length with g1|g1
 ·have hd:=bE g1;have H:=hT i g1;have o1:=Np ev1 i hv1;have o2:=Np ev2 i hv2;have lp:=Q3 (co i ev1) H.la H.ev (.pptr [c.enc] 0 0) (.pptr [[a1,a2,a3,a4,a5,a6,.lst (ev1.map aY.enc)]] 0 0) (.pptr [[b1,b2,b3,b4,b5,b6,.lst (ev2.map aY.enc)]] 0 0) (.ZO (i:Int)) (.lst ((co i ev2).map aY.enc)) Q nx
   (Q5 _ _ _ Q nx (co i ev1) (co i ev2) H i c.ts.length g1 ZJ (by subst hnx;exact⟨i+1,(),ZJ,ZJ,trivial,.refl _ _⟩))
  clear hnx hT H;generalize(co i ev1).map aY.enc=A at *;generalize(co i ev2).map aY.enc=B at *;generalize ev1.map aY.enc=E1 at *;generalize ev2.map aY.enc=E2 at *
  repeat' (first|exact lp|refine st ?_|(refine pf 15 ?_;refine pm (o1) ?_)|(refine pf 15 ?_;refine pm (o2) ?_)|refine sb λnb_ hnb_=>?_|refine s2 (λh=>?_) λh=>?_|fail)
 ·have hd:=bI g1;clear hnx
  repeat' (first|refine st ?_|(refine pf 10 ?_;refine pm (haw) ?_)|refine sb λnb_ hnb_=>?_|refine s2 (λh=>?_) λh=>?_|fail)
  exact hq _
theorem Ox(t s o:List UInt8)(hc:t.length<2^40→∃c:bB,az Tryz.prog 7 [.lst (t.map eX)] (.agg c.enc)∧(∀x∈c.ts,x.ins.length<2^40)∧c.ts.length<2^40):az Tryz.prog 5 [.lst (t.map eX),.lst (s.map eX),.lst (o.map eX)] (.bool true):=by
 have hlong:=SA t s;refine af.fz (uU _ _ _ _ _ ?_);unfold lf;generalize hQ:(λ(v:AV) (L:SH)=>∃v2 L2,aG [v] L [v2] L2∧v2=AV.bool true∧L2=[])=Q;have hq:∀L,Q (.bool true) L:=λL=>by subst hQ;exact⟨_,[],aG.all (.refl _),rfl,rfl⟩
 clear hQ;by_cases hl:200<t.length∨100<s.length
 ·rw[show(decide (200<t.length)||decide (100<s.length))=true by simpa using hl]at hlong
  repeat' (first|refine st ?_|(refine pf 6 ?_;refine pm (hlong) ?_)|refine sb λnb_ hnb_=>?_|refine s2 (λh=>?_) λh=>?_|fail)
  exact hq _
 ·rw[show(decide (200<t.length)||decide (100<s.length))=false by simpa using hl]at hlong;by_cases ho:100<o.length
  ·have d0:decide ((o.length:Int) > 100)=true:=decide_eq_true ZJ
   repeat' (first|refine st ?_|(refine pf 6 ?_;refine pm (hlong) ?_)|refine sb λnb_ hnb_=>?_|refine s2 (λh=>?_) λh=>?_|fail)
   exact hq _
  have d0:decide ((o.length:Int) > 100)=false:=decide_eq_false ZJ;obtain⟨c,hcode,hins,hts⟩:=hc ZJ;have hch:=Cx s ZJ;have hch2:=Cx o ZJ;generalize hcl:s.map Nn=l at *;generalize hcm:o.map Nn=m at *;have hll:l.length≤100:=by rw[←hcl];simp;omega
  have hlm:m.length≤100:=by rw[←hcm];simp;omega
  have hr:=Ni c hins l ZJ;have hr2:=Ni c hins m ZJ;have hs:=(rB c hins l).2;have hs2:=(rB c hins m).2;have hT:=SB c hins l m;generalize kI c l=r at *;generalize kI c m=r2 at *;obtain⟨⟨w1,ev⟩,st1⟩:=r;obtain⟨⟨w2,ev2⟩,st2⟩:=r2;dsimp only at *;have hse:∀s:dw,s.enc=[.lst (s.sync.locks.map LockD.enc),.ZO s.sync.tx,.lst (s.sync.done.map bj),.lst (s.sync.threads.map ThrD.enc),.lst (s.cells.map aj),.lst (s.futures.map aj),.lst (s.threads.map aH.enc)]:=λ_=>rfl
  unfold FH.enc at hr hr2;have ho:=λa1 a2 a3 a4 a5 a6 b1 b2 b3 b4 b5 b6=>Q6 c hts ev ev2 hs hs2 hT a1 a2 a3 a4 a5 a6 b1 b2 b3 b4 b5 b6 Q hq Ou
  have hce:c.enc=[.lst (c.w.cells.map bA.enc),.lst (c.w.locks.map cq.enc),.lst (c.w.conds.map db.enc),.lst (c.w.futures.map av),.lst (c.w.threads.map av),.lst (c.w.sites.map cQ.enc),.lst (c.ts.map hY.enc)]:=rfl;rw[hse]at hr hr2;rw[hce]at *;dsimp only at hr hr2
  repeat' (first|exact ho _ _ _ _ _ _ _ _ _ _ _ _ _|refine st ?_|(refine pf 6 ?_;refine pm (hlong) ?_)|(refine pf 7 ?_;refine pm (hcode) ?_)|(refine pf 9 ?_;refine pm (hch) ?_)|(refine pf 9 ?_;refine pm (hch2) ?_)|(refine pf 8 ?_;refine pm (hr) ?_)|(refine pf 8 ?_;refine pm (hr2) ?_)|refine sb λnb_ hnb_=>?_|refine s2 (λh=>?_) λh=>?_|fail)
end
section
set_option maxRecDepth 100000
def fL(Q:R)(e:Vs)(a:SH)(f:Kn):Prop:=tI 0 1 5 e λc d b=>W.len c λg=>wb .lss 3 b g λh=>wk h (fb 2 0 c b a λi=>wb .eql 9 i d λj=>wk j (Q b a) (wb .add 3 b (.ZO 1) λk=>f [c,d,k] a)) (Q (.ZO (-1)) a)
def ko(a b:AV)(L:SH)(Q:R):Prop:=W.loop (fL Q) [a,b,(.ZO 0)] L
theorem pi(t0 t1:AV)(L:SH)(Q:R)(h:ko t0 t1 L Q):af Tryz.prog 59 [t0,t1] L Q:=
 fs [] [(2,[0,1,5])] [] [] Tryz.func59 h
def pj(Q:R)(e:Vs)(a:SH)(f:Kn):Prop:=tI 1 2 5 e λd c b=>aC 0 c a λg=>W.len g λh=>wb .lss 3 b h λi=>wk i (aC 0 c a λj=>fb 5 0 j b a λk=>wb .eql 9 k d λl=>wk l (Q b a) (wb .add 3 b (.ZO 1) λm=>f [d,c,m] a)) (Q (.ZO (-1)) a)
def ri(a b:AV)(L:SH)(Q:R):Prop:=rF a L λc d=>W.loop (pj Q) [b,c,(.ZO 0)] d
theorem DO(t0 t1:AV)(L:SH)(Q:R)(h:ri t0 t1 L Q):af Tryz.prog 127 [t0,t1] L Q:=
 fs [] [(2,[1,2,5])] [(0,[2])] [] Tryz.func127 h
def Gb(b:Kn)(c d e a:AV)(f:SH):Prop:=W.ext 0 a λg=>W.ext 1 a λh=>wb .add 3 c (.ZO 1) λi=>b [g,d,h,e,i] f
def Gc(f:Kn)(a b c d:AV)(e:SH):Prop:=W.ext 0 d λg=>W.ext 1 d λh=>fb 11 10 a b e λi=>wc (.fn 60 []) [g,c,h,i] e (Gb f b c a)
def Gd(g:Kn)(d:SH)(a b c e h:AV):Prop:=fb 11 1 a b d λi=>W.build [(.ZO 0),(.ZO 0),(.ZO 0)] [(0,1,c),(1,1,e),(2,1,i)] λj=>W.bslice 3 [(.ZO 0),(.ZO 0),(.ZO 0)] 1 [(0,j)] d λk l=>W.append 3 24 h k l λm f=>wb .add 3 e (.ZO 1) λn=>fb 11 9 a b f λo=>wc (.fn 60 []) [m,c,n,o] f (Gc g a b c)
def rj(Q:R)(f:Vs)(a:SH)(g:Kn):Prop:=Jd 0 1 2 3 10 f λb h c d e=>W.len d λi=>wb .lss 3 e i λj=>wk j ((Gd g a d e h c b)) (Q (.tup [b,c]) a)
def tY(a b c d:AV)(L:SH)(Q:R):Prop:=W.loop (rj Q) [a,b,c,d,(.ZO 0)] L
theorem Ge(t0 t1 t2 t3:AV)(L:SH)(Q:R)(h:tY t0 t1 t2 t3 L Q):af Tryz.prog 60 [t0,t1,t2,t3] L Q:=
 fs [] [(2,[0,1,2,3,10])] [] [] Tryz.func60 h
def Gf(e:Kn)(a:SH)(c b d f g h:AV):Prop:=aC 0 c a λi=>aC 2 b a λj=>aC 3 b a λk=>aC 0 b a λl=>wb .eql 3 l (.ZO 2) λm=>aC 4 b a λn=>W.build [(.str []),(.ZO 0),(.ZO 0),(.bool false),(.ZO 0)] [(0,1,j),(1,1,d),(2,1,k),(3,1,m),(4,1,n)] λo=>W.bslice 5 [(.str []),(.ZO 0),(.ZO 0),(.bool false),(.ZO 0)] 1 [(0,o)] a λp q=>W.append 5 48 i p q λr s=>W.faddr 0 c λt=>W.store 1 t r s λu=>wb .add 3 d (.ZO 1) λv=>e [f,g,c,h,b,v] u
def kp(h:Kn)(i:Vs)(a:SH)(j:Kn):Prop:=J1 1 2 3 6 7 8 i λb c d e f g=>aC 3 f a λk=>W.mnx true k (.ZO 1) λl=>wb .lss 3 g l λm=>wk m ((Gf j a d f g b c e)) (wb .add 3 e (.ZO 1) λn=>h [b,c,d,n] a)
def Gg(d:Kn)(a:SH)(b c e f g:AV):Prop:=aC 1 b a λh=>aC 2 c a λi=>aC 0 c a λj=>wb .eql 3 j (.ZO 4) λk=>W.build [(.str []),(.bool false)] [(0,1,i),(1,1,k)] λl=>W.bslice 2 [(.str []),(.bool false)] 1 [(0,l)] a λm n=>W.append 2 24 h m n λo p=>W.faddr 1 b λq=>W.store 1 q o p λr=>wb .add 3 e (.ZO 1) λs=>d [f,g,b,s] r
def Gh(e:Kn)(f:SH)(g a c h i j:AV)(k:Fp)(l:AV)(m:SH)(n:Ns):Prop:=wn [] n [] f.names λu=>W.build [(.str []),(.ZO 0)] [(0,1,g),(1,1,l)] λo=>W.calm [rm 1 k] ⟨10,[],[],[],false,[]⟩ (W.bslice 2 [(.str []),(.ZO 0)] 1 [(0,o)] m λb p=>wn [] [] (aa b) [] λv=>W.calm [] ⟨11,(aa a++aa b),(aa a),[],false,[]⟩ (W.append 2 24 a b p λd q=>wn (aa a++aa b) (aa a) (aa d) [] λw=>W.faddr 2 c λr=>ds [] 13 1 r d q λs x=>wb .add 3 h (.ZO 1) λt=>e [i,j,c,t] s))
def Gi(f:Kn)(a:SH)(c e g h i:AV):Prop:=(true=true)∧(aN 2 c [] 1 a λj b=>aN 2 e [rm 1 b] 3 a λk d=>aN 1 c [rm 3 d,rm 1 b] 5 a λl m=>aN 5 e [rm 5 m,rm 3 d,rm 1 b] 7 a λn o=>wd [rm 3 d,rm 1 b] 8 (.fn 59 []) [l,n] a (Gh f a k j c g h i b))
def Gj(c:Kn)(a:SH)(b d e f g:AV):Prop:=aC 3 b a λh=>aC 2 d a λi=>W.bslice 1 [(.str [])] 1 [(0,i)] a λj k=>W.append 1 16 h j k λl m=>W.faddr 3 b λn=>W.store 1 n l m λo=>wb .add 3 e (.ZO 1) λp=>c [f,g,b,p] o
def Gk(a:Kn)(h:Vs)(b:SH):Prop:=NN 1 2 3 6 7 31 65 h λc d e f g i j=>wk j ((Gg a b e g f c d)) (wb .eql 3 i (.ZO 5) λk=>wk k ((Gi a b e g f c d)) ((Gj a b e g f c d)))
def Gl(j:Kn)(b:SH)(a c d e f g:AV):Prop:=W.join (Gk j) λh=>wb .eql 3 a (.ZO 3) λi=>wk i (h [c,d,e,f,g,a,i] b) (wb .eql 3 a (.ZO 4) λk=>h [c,d,e,f,g,a,k] b)
def Gm(a:Kn)(h:Vs)(b:SH):Prop:=NN 1 2 3 6 7 31 39 h λc d e f g i j=>wk j (W.loop (kp a) [c,d,e,f,g,(.ZO 0)] b) ((Gl a b i c d e f g))
def kq(k:Kn)(b:SH)(c d g h:AV):Prop:=aC 0 c b λl=>ma 6 l d b λm=>rE [(.ZO 0),(.ZO 0),(.str []),(.ZO 0),(.ZO 0),(.str [])] 6 m b λe f=>aC 0 e f λa=>W.join (Gm k) λi=>wb .eql 3 a (.ZO 1) λj=>wk j (i [c,g,h,d,e,a,j] f) (wb .eql 3 a (.ZO 2) λn=>i [c,g,h,d,e,a,n] f)
def Gn(c:Kn)(d:SH)(a e f g b:AV)(h:SH)(i:Ns):Prop:=wn [] i [] d.names λn=>W.ext 0 b λj=>W.ext 1 b λo=>W.faddr 5 a λk=>ds [] 14 1 k j h λl p=>wb .add 3 e (.ZO 1) λm=>c [f,g,a,m] l
def ku(k:Kn)(b:SH)(d h e l:AV):Prop:=(true=true)∧(aN 4 d [] 1 b λc f=>aN 1 h [rm 1 f] 3 b λm w=>di [rm 1 f] 5 4 m e b λn x=>aN 0 n [rm 1 f] 7 b λo y=>W.calm [rm 1 f] ⟨8,[],[],[],false,[]⟩ (W.bslice 1 [(.str [])] 1 [(0,o)] b λg p=>wn [] [] (aa g) [] λz=>W.calm [] ⟨9,(aa c++aa g),(aa c),[],false,[]⟩ (W.append 1 16 c g p λj q=>wn (aa c++aa g) (aa c) (aa j) [] λA=>W.faddr 4 d λr=>ds [] 11 1 r j q λa B=>(true=true)∧(aN 5 d [] 1 a λs i=>aN 1 h [rm 1 i] 4 a λt C=>di [rm 1 i] 6 4 t e a λu D=>aN 3 u [rm 1 i] 8 a λv E=>wd [] 9 (.fn 60 []) [s,e,(.ZO 0),v] a (Gn k a d e h l)))))
def kv(Q:R)(g:Vs)(a:SH)(h:Kn):Prop:=ug 1 2 3 9 g λc b d e=>aC 1 c a λi=>W.len i λj=>wb .lss 3 e j λk=>wk k ((ku h a d c e b)) (cp 6 d a λl=>W.store 6 b l a λf=>W.load true 6 b f λm=>Q m f)
def rk(Q:R)(f:Vs)(a:SH)(g:Kn):Prop:=ug 1 2 3 6 f λb c d e=>aC 0 b a λh=>W.len h λi=>wb .lss 3 e i λj=>wk j ((kq g a b e c d)) (W.loop (kv Q) [b,c,d,(.ZO 0)] a)
def Gp(Q:R)(c a f d:AV)(b:SH):Prop:=W.ext 0 d λg=>W.ext 1 d λk=>wb .neq 74 g (.ZO 0) λh=>wk h (cp 6 c b λi=>W.store 6 a i b λe=>W.load true 6 a e λj=>Q j e) (W.loop (rk Q) [f,a,c,(.ZO 0)] b)
def tZ(c:AV)(L:SH)(Q:R):Prop:=W.box c L λd e=>W.alloc [.nils,.nils,.nils,.nils,.nils,.nils] e λf g=>W.frz1 d g λa h=>W.alloc [.nils,.nils,.nils,.nils,.nils,.nils] h λi b=>cp 2 a b λj=>wc (.fn 28 []) [j] b (Gp Q i f a)
theorem Gq(t0:AV)(L:SH)(Q:R)(h:tZ t0 L Q):af Tryz.prog 29 [t0] L Q:=
 fs [(12,[1,2,3,6,7,31,39]),(18,[1,2,3,6,7,31,65])] [(14,[1,2,3,6,7,8]),(6,[1,2,3,6]),(23,[1,2,3,9])] [(0,[1]),(8,[7])] [(21,[0,1,0,4,0,16,0,64,240,508,1020,2047,4095,8191]),(25,[0,1,0,4,0,28,60,124,252,511,1023,2047]),(26,[0,1,0,0,8,0,56,120,248,511,1023,2047,2047,4095,12287])] Tryz.func29 h
def pk(c i:AV)(L:SH)(Q:R):Prop:=W.box i L λe f=>dV 8 c f λj=>W.faddr 5 e λk=>W.store 1 k j f λd=>(true=true)∧(W.nilchk c λl=>aN 7 l [] 4 d λa g=>dr [rm 4 g] 5 6 e d λm s=>W.calm [rm 4 g] ⟨6,[],[],[],false,[]⟩ (W.bslice 6 [(.ZO 0),(.ZO 0),(.ZO 0),(.ZO 0),(.ZO 0),(.ZO 0)] 1 [(0,m)] d λb n=>wn [] [] (aa b) [] λt=>W.calm [] ⟨7,(aa a++aa b),(aa a),[],false,[]⟩ (W.append 6 48 a b n λh o=>wn (aa a++aa b) (aa a) (aa h) [] λu=>W.nilchk c λp=>W.faddr 7 p λq=>ds [] 10 1 q h o λr v=>Q (.tup []) r)))
theorem BZ(t0 t1:AV)(L:SH)(Q:R)(h:pk t0 t1 L Q):af Tryz.prog 31 [t0,t1] L Q:=
 fs [] [] [] [(2,[0,0,2,6,14,0,32,126,255,511,1023])] Tryz.func31 h
def wH(Q:R)(a:SH)(b c d:AV):Prop:=aC 1 d a λe=>W.build [(.ZO 0),(.ZO 0),(.ZO 0),(.ZO 0),(.ZO 0),(.ZO 0)] [(0,1,(.ZO 1)),(1,1,b),(4,1,e)] λf=>wc (.fn 31 []) [c,f] a λh g=>Q (.tup []) g
def wI(Q:R)(a:SH)(b c d:AV):Prop:=W.build [(.ZO 0),(.ZO 0),(.ZO 0),(.ZO 0),(.ZO 0),(.ZO 0)] [(0,1,(.ZO 2)),(1,1,b),(2,1,d)] λe=>wc (.fn 31 []) [c,e] a λg f=>Q (.tup []) f
def wJ(Q:R)(a:SH)(d:AV)(b:SH)(c:Ns):Prop:=wn [] c [] a.names λe=>Q (.tup []) b
def wK(Q:R)(b:SH)(c d e:AV)(a:SH)(f:Ns):Prop:=wn [] f [] b.names λh=>W.build [(.ZO 0),(.ZO 0),(.ZO 0),(.ZO 0),(.ZO 0),(.ZO 0)] [(0,1,(.ZO 6)),(1,1,c),(2,1,e)] λg=>wd [] 10 (.fn 31 []) [d,g] a (wJ Q a)
def wL(Q:R)(a:SH)(b c d:AV):Prop:=(true=true)∧(W.nilchk b λe=>W.faddr 0 e λf=>dr [] 5 6 f a λg h=>aN 2 d [rm 5 h] 7 a λi j=>wd [] 8 (.fn 127 []) [g,i] a (wK Q a c b))
def wM(Q:R)(e:SH)(a b f c:AV)(d:SH)(g:Ns):Prop:=wn [] g [] e.names λi=>wb .geq 3 c (.ZO 0) λh=>wk h ((wI Q d a b c)) ((wL Q d b a f))
def wN(Q:R)(a:SH)(b d c:AV):Prop:=(true=true)∧(W.nilchk b λe=>aN 6 e [] 3 a λf g=>aN 2 c [rm 3 g] 5 a λh i=>wd [] 6 (.fn 90 []) [f,h] a (wM Q a d b c))
def wO(Q:R)(e:SH)(b c d:AV)(a:SH)(f:Ns):Prop:=wn [] f [] e.names λm=>W.nilchk b λg=>W.faddr 0 g λh=>aC 0 h a λi=>fb 5 2 i d a λj=>W.build [(.ZO 0),(.ZO 0),(.ZO 0),(.ZO 0),(.ZO 0),(.ZO 0)] [(0,1,(.ZO 7)),(1,1,c),(2,1,d),(3,1,c),(4,1,j)] λk=>wc (.fn 31 []) [b,k] a λn l=>Q (.tup []) l
def wP(Q:R)(b c d j:AV)(a:SH):Prop:=(true=true)∧(W.nilchk b λe=>W.faddr 0 e λf=>dr [] 3 6 f a λg h=>aN 2 d [rm 3 h] 5 a λi k=>wd [] 6 (.fn 127 []) [g,i] a (wO Q a b c))
def wQ(Q:R)(a c d h:AV)(b:SH):Prop:=aC 0 d b λe=>W.build [(.ZO 0),(.ZO 0),(.ZO 0),(.ZO 0),(.ZO 0),(.ZO 0)] [(0,1,(.ZO 3)),(1,1,a),(2,1,a),(4,1,e)] λf=>wc (.fn 31 []) [c,f] b λi g=>Q (.tup []) g
def wR(Q:R)(a c d i:AV)(b:SH):Prop:=wb .add 3 a (.ZO 1) λe=>aC 0 d b λf=>W.build [(.ZO 0),(.ZO 0),(.ZO 0),(.ZO 0),(.ZO 0),(.ZO 0)] [(0,1,(.ZO 4)),(1,1,a),(2,1,a),(3,1,e),(4,1,f)] λg=>wc (.fn 31 []) [c,g] b λj h=>Q (.tup []) h
def wS(Q:R)(b c d h:AV)(a:SH):Prop:=aC 3 d a λe=>ma 4 e (.ZO 1) a λf=>wb .add 3 b (.ZO 1) λg=>wc (.fn 96 []) [c,f,g] a (wR Q b c d)
def wT(Q:R)(a:SH)(c d b:AV):Prop:=aC 3 b a λe=>W.len e λf=>wb .eql 3 f (.ZO 1) λg=>wk g (aC 3 b a λh=>ma 4 h (.ZO 0) a λi=>wc (.fn 96 []) [c,i,d] a (wQ Q d c b)) (aC 3 b a λj=>ma 4 j (.ZO 0) a λk=>wc (.fn 96 []) [c,k,d] a (wS Q d c b))
def wU(Q:R)(a:SH)(c d b:AV):Prop:=aC 0 b a λe=>wb .eql 3 e (.ZO 3) λf=>wk f (aC 3 b a λg=>ma 4 g (.ZO 0) a λh=>wc (.fn 96 []) [c,h,d] a (wP Q c d b)) ((wT Q a c d b))
def lq(c e d:AV)(L:SH)(Q:R):Prop:=rF e L λa b=>aC 0 a b λf=>wb .eql 3 f (.ZO 1) λg=>wk g ((wH Q b d c a)) (aC 0 a b λh=>wb .eql 3 h (.ZO 2) λi=>wk i ((wN Q b c d a)) ((wU Q b c d a)))
theorem wV(t0 t1 t2:AV)(L:SH)(Q:R)(h:lq t0 t1 t2 L Q):af Tryz.prog 96 [t0,t1,t2] L Q:=
 fs [] [] [(0,[4])] [(7,[0,1,3,7,0,16,63,127]),(10,[0,0,0,4,12,28,0,64,252,510,1023]),(13,[0,1,3,7,0,16,63,127])] Tryz.func96 h
def s9(Q:R)(e:SH)(b c d:AV)(a:SH)(f:Ns):Prop:=wn [] f [] e.names λn=>wb .add 3 c (.ZO 1) λg=>W.nilchk b λh=>W.faddr 0 h λi=>aC 0 i a λj=>fb 5 2 j d a λk=>W.build [(.ZO 0),(.ZO 0),(.ZO 0),(.ZO 0),(.ZO 0),(.ZO 0)] [(0,1,(.ZO 9)),(1,1,d),(2,1,g),(3,1,c),(4,1,k)] λl=>wc (.fn 31 []) [b,l] a λo m=>Q (.tup []) m
def ta(Q:R)(b c d j:AV)(a:SH):Prop:=(true=true)∧(W.nilchk b λe=>W.faddr 0 e λf=>dr [] 3 6 f a λg h=>aN 2 c [rm 3 h] 5 a λi k=>wd [] 6 (.fn 127 []) [g,i] a (s9 Q a b d))
def td(Q:R)(a b c h:AV)(d:SH):Prop:=W.faddr 5 b λe=>cp 4 e d λf=>wb .add 3 c (.ZO 1) λg=>wc (.fn 96 []) [a,f,g] d (ta Q a b c)
def tf(Q:R)(a:SH)(b c d:AV):Prop:=W.build [(.ZO 0),(.ZO 0),(.ZO 0),(.ZO 0),(.ZO 0),(.ZO 0)] [(0,1,(.ZO 2)),(1,1,c),(2,1,d)] λe=>wc (.fn 31 []) [b,e] a λg f=>Q (.tup []) f
def tg(Q:R)(a:SH)(d:AV)(b:SH)(c:Ns):Prop:=wn [] c [] a.names λe=>Q (.tup []) b
def tj(Q:R)(b:SH)(c d e:AV)(a:SH)(f:Ns):Prop:=wn [] f [] b.names λh=>W.build [(.ZO 0),(.ZO 0),(.ZO 0),(.ZO 0),(.ZO 0),(.ZO 0)] [(0,1,(.ZO 8)),(1,1,e),(2,1,d)] λg=>wd [] 10 (.fn 31 []) [c,g] a (tg Q a)
def tm(Q:R)(a:SH)(b c d:AV):Prop:=(true=true)∧(W.nilchk b λe=>W.faddr 0 e λf=>dr [] 4 6 f a λg h=>aN 2 c [rm 4 h] 6 a λi j=>wd [] 7 (.fn 127 []) [g,i] a (tj Q a b d))
def tp(Q:R)(e:SH)(a b f c:AV)(d:SH)(g:Ns):Prop:=wn [] g [] e.names λi=>wb .geq 3 c (.ZO 0) λh=>wk h ((tf Q d a c b)) ((tm Q d a f b))
def tq(Q:R)(b c d i:AV)(a:SH):Prop:=(true=true)∧(W.nilchk b λe=>aN 6 e [] 3 a λf g=>aN 2 c [rm 3 g] 5 a λh j=>wd [] 6 (.fn 90 []) [f,h] a (tp Q a b d c))
def ky(b e:AV)(L:SH)(Q:R):Prop:=rF e L λc a=>dV 6 b a λf=>W.len f λd=>aC 4 c a λg=>W.len g λh=>wb .gtr 3 h (.ZO 0) λi=>wk i (aC 4 c a λj=>ma 4 j (.ZO 0) a λk=>wc (.fn 96 []) [b,k,d] a (td Q b c d)) (W.faddr 5 c λl=>cp 4 l a λm=>wc (.fn 96 []) [b,m,d] a (tq Q b c d))
theorem tu(t0 t1:AV)(L:SH)(Q:R)(h:ky t0 t1 L Q):af Tryz.prog 92 [t0,t1] L Q:=
 fs [] [] [(0,[3])] [(5,[0,1,3,7,0,16,63,127]),(8,[0,1,3,7,0,16,63,127]),(11,[0,0,2,6,14,0,32,126,0,510,1023])] Tryz.func92 h
def pL(Q:R)(b c m:AV)(a:SH):Prop:=(true=true)∧(W.nilchk b λd=>aN 7 d [] 3 a λe f=>W.nilchk b λg=>aN 7 g [rm 3 f] 8 a λh n=>W.len h λi=>di [] 10 6 e c a λj o=>W.faddr 2 j λk=>ds [] 12 1 k i a λl p=>Q (.tup []) l)
def pM(Q:R)(b:SH)(a c d:AV):Prop:=W.build [(.ZO 0),(.ZO 0),(.ZO 0),(.ZO 0),(.ZO 0),(.ZO 0)] [(0,1,(.ZO 5)),(1,1,c)] λe=>wc (.fn 31 []) [a,e] b (pL Q a d)
def pN(Q:R)(a:SH)(b c:AV):Prop:=(true=true)∧(W.nilchk b λd=>aN 7 d [] 3 a λe f=>W.nilchk b λg=>aN 7 g [rm 3 f] 8 a λh m=>W.len h λi=>di [] 10 6 e c a λj n=>W.faddr 2 j λk=>ds [] 12 1 k i a λl o=>Q (.tup []) l)
def pO(Q:R)(b c m:AV)(a:SH):Prop:=(true=true)∧(W.nilchk b λd=>aN 7 d [] 3 a λe f=>W.nilchk b λg=>aN 7 g [rm 3 f] 8 a λh n=>W.len h λi=>di [] 10 6 e c a λj o=>W.faddr 1 j λk=>ds [] 12 1 k i a λl p=>Q (.tup []) l)
def pP(Q:R)(a d e f p:AV)(b:SH):Prop:=(true=true)∧(W.nilchk a λg=>aN 7 g [] 3 b λh i=>W.nilchk a λj=>aN 7 j [rm 3 i] 8 b λk q=>W.len k λl=>di [] 10 6 h d b λm r=>W.faddr 2 m λn=>ds [] 12 1 n l b λc s=>aC 10 e c λo=>wc (.fn 30 []) [a,o] c (pO Q a f))
def pQ(Q:R)(b:SH)(a c d:AV):Prop:=dV 7 a b λe=>W.len e λf=>W.build [(.ZO 0),(.ZO 0),(.ZO 0),(.ZO 0),(.ZO 0),(.ZO 0)] [(0,1,(.ZO 5))] λg=>wc (.fn 31 []) [a,g] b (pP Q a c d f)
def pR(Q:R)(a:SH)(b c d:AV):Prop:=aC 10 c a λe=>W.len e λf=>wb .eql 3 f (.ZO 0) λg=>wk g ((pN Q a b d)) ((pQ Q a b d c))
def pS(Q:R)(a e c f d l:AV)(g:SH):Prop:=W.nilchk a λh=>W.faddr 8 h λi=>W.store 1 i e g λb=>aC 0 c b λj=>wb .eql 3 j (.ZO 3) λk=>wk k ((pM Q b a f d)) ((pR Q b a c d))
def pT(Q:R)(a b d e f h:AV)(c:SH):Prop:=aC 9 b c λg=>wc (.fn 30 []) [a,g] c (pS Q a d b e f)
def pU(Q:R)(c:SH)(a d e f m:AV)(b:SH)(g:Ns):Prop:=wn [] g [] c.names λn=>dV 7 a b λh=>W.len h λi=>dV 6 a b λj=>W.len j λk=>W.build [(.ZO 0),(.ZO 0),(.ZO 0),(.ZO 0),(.ZO 0),(.ZO 0)] [(0,1,(.ZO 10)),(1,1,k)] λl=>wc (.fn 31 []) [a,l] b (pT Q a d e f i)
def iF(b d:AV)(L:SH)(Q:R):Prop:=rF d L λc a=>dV 8 b a λe=>dV 7 b a λf=>W.len f λg=>(true=true)∧(W.faddr 5 c λh=>dr [] 2 4 h a λi j=>W.nilchk b λk=>aN 6 k [rm 2 j] 6 a λl n=>W.len l λm=>wd [] 8 (.fn 96 []) [b,i,m] a (pU Q a b c e g))
theorem pV(t0 t1:AV)(L:SH)(Q:R)(h:iF t0 t1 L Q):af Tryz.prog 93 [t0,t1] L Q:=
 fs [] [] [(0,[3])] [(3,[0,0,2,0,8,24,56,120,255]),(10,[0,1,3,7,0,0,32,96,224,480,1023,2047,4095]),(12,[0,1,3,7,0,0,32,96,224,480,1023,2047,4095]),(15,[0,1,3,7,0,0,32,96,224,480,1023,2047,4095]),(17,[0,1,3,7,0,0,32,96,224,480,1023,2047,4095])] Tryz.func93 h
def tv(Q:R)(a b c d k:AV)(e:SH):Prop:=W.nilchk a λf=>W.faddr 8 f λg=>W.store 1 g d e λh=>W.build [(.ZO 0),(.ZO 0),(.ZO 0),(.ZO 0),(.ZO 0),(.ZO 0)] [(0,1,b),(1,1,c)] λi=>wc (.fn 31 []) [a,i] h λl j=>Q (.tup []) j
def tw(Q:R)(a c d e f h:AV)(b:SH):Prop:=aC 9 e b λg=>wc (.fn 30 []) [a,g] b (tv Q a c d f)
def kz(a d e f b:AV)(L:SH)(Q:R):Prop:=rF d L λg c=>dV 8 a c λh=>W.build [(.ZO 0),(.ZO 0),(.ZO 0),(.ZO 0),(.ZO 0),(.ZO 0)] [(0,1,e),(1,1,b)] λi=>wc (.fn 31 []) [a,i] c (tw Q a f b g h)
theorem tz(t0 t1 t2 t3 t4:AV)(L:SH)(Q:R)(h:kz t0 t1 t2 t3 t4 L Q):af Tryz.prog 94 [t0,t1,t2,t3,t4] L Q:=
 fs [] [] [(0,[6])] [] Tryz.func94 h
def zZ(Q:R)(e:Kn)(a:SH)(c b d:AV):Prop:=W.nilchk c λf=>W.faddr 0 f λg=>aC 2 g a λh=>fb 2 0 h b a λi=>wb .eql 9 i d λj=>wk j (Q b a) (wb .add 3 b (.ZO 1) λk=>e [c,d,k] a)
def lr(Q:R)(d:Vs)(a:SH)(e:Kn):Prop:=tI 0 1 5 d λb f c=>W.nilchk b λg=>W.faddr 0 g λh=>aC 2 h a λi=>W.len i λj=>wb .lss 3 c j λk=>wk k ((zZ Q e a b c f)) (Q (.ZO (-1)) a)
def mZ(a b:AV)(L:SH)(Q:R):Prop:=W.loop (lr Q) [a,b,(.ZO 0)] L
theorem z7(t0 t1:AV)(L:SH)(Q:R)(h:mZ t0 t1 L Q):af Tryz.prog 95 [t0,t1] L Q:=
 fs [] [(2,[0,1,5])] [] [] Tryz.func95 h
def z8(Q:R)(a:SH)(d:AV)(b:SH)(c:Ns):Prop:=wn [] c [] a.names λe=>Q (.tup []) b
def Aa(Q:R)(b:SH)(c d e:AV)(a:SH)(f:Ns):Prop:=wn [] f [] b.names λg=>wd [] 10 (.fn 94 []) [c,d,(.ZO 11),(.ZO 12),e] a (z8 Q a)
def Ab(Q:R)(a:SH)(c d:AV):Prop:=(true=true)∧(dr [] 1 11 c a λe b=>W.nilchk d λf=>W.faddr 0 f λg=>aN 1 g [rm 1 b] 6 a λh i=>aN 2 c [rm 6 i,rm 1 b] 8 a λj k=>wd [rm 1 b] 9 (.fn 59 []) [h,j] a (Aa Q a d e))
def Ac(Q:R)(a:SH)(d:AV)(b:SH)(c:Ns):Prop:=wn [] c [] a.names λe=>Q (.tup []) b
def Ad(Q:R)(b:SH)(c d e:AV)(a:SH)(f:Ns):Prop:=wn [] f [] b.names λg=>wd [] 10 (.fn 94 []) [c,d,(.ZO 13),(.ZO 14),e] a (Ac Q a)
def Ae(Q:R)(a:SH)(c d:AV):Prop:=(true=true)∧(dr [] 1 11 c a λe b=>W.nilchk d λf=>W.faddr 0 f λg=>aN 1 g [rm 1 b] 6 a λh i=>aN 2 c [rm 6 i,rm 1 b] 8 a λj k=>wd [rm 1 b] 9 (.fn 59 []) [h,j] a (Ad Q a d e))
def Af(Q:R)(a:SH)(d:AV)(b:SH)(c:Ns):Prop:=wn [] c [] a.names λe=>Q (.tup []) b
def Ag(Q:R)(b:SH)(c d e:AV)(a:SH)(f:Ns):Prop:=wn [] f [] b.names λg=>wd [] 10 (.fn 94 []) [c,d,(.ZO 15),(.ZO 16),e] a (Af Q a)
def Ah(Q:R)(a:SH)(c d:AV):Prop:=(true=true)∧(dr [] 1 11 c a λe b=>W.nilchk d λf=>W.faddr 0 f λg=>aN 1 g [rm 1 b] 6 a λh i=>aN 2 c [rm 6 i,rm 1 b] 8 a λj k=>wd [rm 1 b] 9 (.fn 59 []) [h,j] a (Ag Q a d e))
def Ai(Q:R)(a b:AV)(c:SH):Prop:=W.build [(.ZO 0),(.ZO 0),(.ZO 0),(.ZO 0),(.ZO 0),(.ZO 0)] [(0,1,(.ZO 21)),(1,1,b)] λd=>wc (.fn 31 []) [a,d] c λf e=>Q (.tup []) e
def Aj(Q:R)(a b:AV)(c:SH):Prop:=W.build [(.ZO 0),(.ZO 0),(.ZO 0),(.ZO 0),(.ZO 0),(.ZO 0)] [(0,1,(.ZO 22)),(1,1,b)] λd=>wc (.fn 31 []) [a,d] c λf e=>Q (.tup []) e
def Ak(Q:R)(a b:AV)(c:SH):Prop:=W.build [(.ZO 0),(.ZO 0),(.ZO 0),(.ZO 0),(.ZO 0),(.ZO 0)] [(0,1,(.ZO 23)),(1,1,b)] λd=>wc (.fn 31 []) [a,d] c λf e=>Q (.tup []) e
def Al(Q:R)(a:SH)(d:AV)(b:SH)(c:Ns):Prop:=wn [] c [] a.names λe=>Q (.tup []) b
def wW(Q:R)(b:SH)(c d:AV)(a:SH)(e:Ns):Prop:=wn [] e [] b.names λg=>W.build [(.ZO 0),(.ZO 0),(.ZO 0),(.ZO 0),(.ZO 0),(.ZO 0)] [(0,1,(.ZO 24)),(1,1,d)] λf=>wd [] 10 (.fn 31 []) [c,f] a (Al Q a)
def An(Q:R)(a:SH)(b c:AV):Prop:=(true=true)∧(W.nilchk b λd=>W.faddr 0 d λe=>aN 4 e [] 5 a λf g=>aN 2 c [rm 5 g] 7 a λh i=>wd [] 8 (.fn 90 []) [f,h] a (wW Q a b))
def wX(Q:R)(a:SH)(d:AV)(b:SH)(c:Ns):Prop:=wn [] c [] a.names λe=>Q (.tup []) b
def wY(Q:R)(b:SH)(c d:AV)(a:SH)(e:Ns):Prop:=wn [] e [] b.names λg=>W.build [(.ZO 0),(.ZO 0),(.ZO 0),(.ZO 0),(.ZO 0),(.ZO 0)] [(0,1,(.ZO 25)),(1,1,d)] λf=>wd [] 10 (.fn 31 []) [c,f] a (wX Q a)
def Ao(Q:R)(a:SH)(b c:AV):Prop:=(true=true)∧(W.nilchk b λd=>W.faddr 0 d λe=>aN 4 e [] 5 a λf g=>aN 2 c [rm 5 g] 7 a λh i=>wd [] 8 (.fn 90 []) [f,h] a (wY Q a b))
def wZ(Q:R)(a:SH)(d:AV)(b:SH)(c:Ns):Prop:=wn [] c [] a.names λe=>Q (.tup []) b
def w6(Q:R)(b:SH)(c d e:AV)(a:SH)(f:Ns):Prop:=wn [] f [] b.names λh=>W.build [(.ZO 0),(.ZO 0),(.ZO 0),(.ZO 0),(.ZO 0),(.ZO 0)] [(0,1,(.ZO 26)),(1,1,e),(2,1,c)] λg=>wd [] 11 (.fn 31 []) [d,g] a (wZ Q a)
def w7(Q:R)(b c d j:AV)(a:SH):Prop:=(true=true)∧(W.nilchk b λe=>W.faddr 0 e λf=>aN 3 f [] 5 a λg h=>aN 2 c [rm 5 h] 7 a λi k=>wd [] 8 (.fn 90 []) [g,i] a (w6 Q a d b))
def w8(Q:R)(a:SH)(d:AV)(b:SH)(c:Ns):Prop:=wn [] c [] a.names λe=>Q (.tup []) b
def w9(Q:R)(b:SH)(c d e:AV)(a:SH)(f:Ns):Prop:=wn [] f [] b.names λh=>W.build [(.ZO 0),(.ZO 0),(.ZO 0),(.ZO 0),(.ZO 0),(.ZO 0)] [(0,1,(.ZO 27)),(1,1,c),(2,1,e)] λg=>wd [] 17 (.fn 31 []) [d,g] a (w8 Q a)
def xc(Q:R)(f:SH)(b g:AV)(c d:Fp)(h:AV)(a:SH)(i:Ns):Prop:=wn [] i [] f.names λe=>W.nilchk b λj=>W.faddr 0 j λk=>aN 3 k [rc 7 e,rm 6 c,rm 4 d] 12 a λl m=>aN 3 g [rm 12 m,rc 7 e,rm 6 c,rm 4 d] 14 a λn o=>wd [] 15 (.fn 90 []) [l,n] a (w9 Q a h b)
def Ap(Q:R)(a:SH)(b c:AV):Prop:=(true=true)∧(W.nilchk b λe=>aN 6 e [] 4 a λf d=>aN 2 c [rm 4 d] 6 a λg h=>wd [] 7 (.fn 90 []) [f,g] a (xc Q a b c h d))
def Aq(Q:R)(a:SH)(d b c e:AV):Prop:=wb .eql 3 d (.ZO 14) λf=>wk f (W.faddr 5 b λg=>cp 4 g a λh=>wc (.fn 96 []) [c,h,e] a (w7 Q c b e)) (wb .eql 3 d (.ZO 15) λi=>wk i ((Ap Q a c b)) (Q (.tup []) a))
def Ar(Q:R)(a:SH)(b c d e:AV):Prop:=wb .eql 3 b (.ZO 12) λf=>wk f ((An Q a c d)) (wb .eql 3 b (.ZO 13) λg=>wk g ((Ao Q a c d)) ((Aq Q a b d c e)))
def As(Q:R)(a:SH)(c d b e:AV):Prop:=wb .eql 3 c (.ZO 11) λf=>wk f (aC 2 d a λg=>wc (.fn 95 []) [b,g] a (Ak Q b)) ((Ar Q a c b d e))
def At(Q:R)(a:SH)(c d b e:AV):Prop:=wb .eql 3 c (.ZO 10) λf=>wk f (aC 2 d a λg=>wc (.fn 95 []) [b,g] a (Aj Q b)) ((As Q a c d b e))
def xd(Q:R)(a:SH)(c d b e:AV):Prop:=wb .eql 3 c (.ZO 9) λf=>wk f (aC 2 d a λg=>wc (.fn 95 []) [b,g] a (Ai Q b)) ((At Q a c d b e))
def xe(Q:R)(a:SH)(b c d e:AV):Prop:=wb .eql 3 b (.ZO 8) λf=>wk f (cp 11 c a λg=>wc (.fn 94 []) [d,g,(.ZO 19),(.ZO 20),(.ZO 0)] a λi h=>Q (.tup []) h) ((xd Q a b c d e))
def xf(Q:R)(a:SH)(b c d e:AV):Prop:=wb .eql 3 b (.ZO 7) λf=>wk f (cp 11 c a λg=>wc (.fn 94 []) [d,g,(.ZO 17),(.ZO 18),(.ZO 0)] a λi h=>Q (.tup []) h) ((xe Q a b c d e))
def xg(Q:R)(a:SH)(b c d e:AV):Prop:=wb .eql 3 b (.ZO 5) λf=>wk f ((Ae Q a c d)) (wb .eql 3 b (.ZO 6) λg=>wk g ((Ah Q a c d)) ((xf Q a b c d e)))
def xh(Q:R)(e:Vs)(a:SH):Prop:=Jd 0 3 4 25 31 e λb c f d g=>wk g (cp 11 c a λh=>wc (.fn 93 []) [b,h] a λk i=>Q (.tup []) i) (wb .eql 3 d (.ZO 4) λj=>wk j ((Ab Q a c b)) ((xg Q a d c b f)))
def xi(Q:R)(b:SH)(c a d e:AV):Prop:=W.join (xh Q) λf=>wb .eql 3 a (.ZO 2) λg=>wk g (f [c,d,e,a,g] b) (wb .eql 3 a (.ZO 3) λh=>f [c,d,e,a,h] b)
def ng(a g:AV)(L:SH)(Q:R):Prop:=rF g L λc d=>dV 9 a d λh=>W.nilchk a λi=>W.faddr 8 i λj=>W.store 1 j h d λe=>dV 9 a e λk=>wb .add 3 k (.ZO 1) λl=>W.nilchk a λm=>W.faddr 9 m λn=>W.store 1 n l e λb=>dV 6 a b λo=>W.len o λp=>aC 0 c b λf=>wb .eql 3 f (.ZO 1) λq=>wk q (cp 11 c b λr=>wc (.fn 92 []) [a,r] b λt s=>Q (.tup []) s) ((xi Q b a f c p))
theorem Au(t0 t1:AV)(L:SH)(Q:R)(h:ng t0 t1 L Q):af Tryz.prog 61 [t0,t1] L Q:=
 fs [(8,[0,3,4,25,31])] [] [(0,[3])] [(11,[0,0,0,4,12,28,60,0,128,508,1023]),(13,[0,0,0,4,12,28,60,0,128,508,1023]),(15,[0,0,0,4,12,28,60,0,128,508,1023]),(27,[0,0,2,6,14,30,0,64,254,510,1023]),(29,[0,0,2,6,14,30,0,64,254,510,1023]),(32,[0,0,2,6,14,30,0,64,254,0,1022,2047]),(34,[0,0,2,6,14,0,32,126,0,256,768,1792,3840,0,8192,32766,65534,131071])] Tryz.func61 h
def xj(a:Kn)(b c d g:AV)(e:SH):Prop:=wb .add 3 b (.ZO 1) λf=>a [c,d,f] e
def kB(Q:R)(e:Vs)(a:SH)(f:Kn):Prop:=tI 0 1 4 e λd b c=>W.len b λg=>wb .lss 3 c g λh=>wk h (ma 11 b c a λi=>wc (.fn 61 []) [d,i] a (xj f c d b)) (Q (.tup []) a)
def lu(a b:AV)(L:SH)(Q:R):Prop:=W.loop (kB Q) [a,b,(.ZO 0)] L
theorem xk(t0 t1:AV)(L:SH)(Q:R)(h:lu t0 t1 L Q):af Tryz.prog 30 [t0,t1] L Q:=
 fs [] [(1,[0,1,4])] [] [] Tryz.func30 h
def B0(Q:R)(c:SH)(a d e:AV):Prop:=W.build [.nils,.nils,.nils,.nils,.nils,.nils,.nils] [] λf=>W.store 7 a f c λb=>W.load true 7 a b λg=>Q (.tup [g,d,e]) b
def B1(f:Kn)(a:SH)(b c d g h i j k l m:AV):Prop:=(true=true)∧(aN 0 b [] 1 a λn e=>di [rm 1 e] 4 1 c d a λo v=>dl [rm 1 e] 5 o a λp w=>wb .add 3 p (.ZO 1) λq=>W.mnx true n q λr=>W.faddr 0 b λs=>ds [] 9 1 s r a λt x=>wb .add 3 d (.ZO 1) λu=>f [g,h,i,j,k,l,b,m,c,u] t)
def il(l:Kn)(m:Vs)(a:SH)(n:Kn):Prop:=RW 1 2 7 8 9 10 11 12 13 14 m λb c d e f g h i j k=>W.len j λo=>wb .lss 3 k o λp=>wk p ((B1 n a h j k b c d e f g i)) (wb .add 3 i (.ZO 1) λq=>l [b,c,d,e,f,g,h,q] a)
def B2(a:Kn)(b c d e f g h i j:AV)(k:SH):Prop:=W.loop (il a) [b,c,d,e,f,g,h,i,j,(.ZO 0)] k
def im(c:Kn)(a:SH)(b d e f g h:AV):Prop:=aC 6 b a λi=>cp 2 d a λj=>W.bslice 2 [(.ZO 0),.nils] 1 [(0,j)] a λk l=>W.append 2 32 i k l λm n=>W.faddr 6 b λo=>W.store 1 o m n λp=>wb .add 3 e (.ZO 1) λq=>c [f,g,b,h,q] p
def io(j:Kn)(k:Vs)(a:SH)(l:Kn):Prop:=Ua 1 2 7 8 9 10 11 12 k λd e f g h b i c=>dV 7 b a λm=>W.len m λn=>wb .lss 3 c n λo=>wk o (dV 7 b a λp=>ma 6 p c a λq=>wc (.fn 32 []) [q] a (B2 l d e f g h b i c)) ((im j a f i h d e g))
def B3(e:Kn)(a f g h i j t:AV)(b:SH):Prop:=(true=true)∧(W.nilchk a λk=>aN 6 k [] 3 b λl d=>W.len l λm=>W.nilchk a λn=>aN 7 n [rm 3 d] 8 b λo p=>W.build [(.ZO 0),.nils] [(0,1,m),(1,1,o)] λq=>W.calm [rm 8 p,rm 3 d] ⟨10,[],[],[],false,[]⟩ (W.alloc [(.ZO 0),.nils] b λc r=>wn [] [] (aa c) [] λu=>ds [] 11 2 c q r λs v=>W.loop (io e) [f,g,h,i,j,a,c,(.ZO 0)] s))
def B4(c:Kn)(a d e f g m:AV)(b:SH):Prop:=dV 9 a b λh=>W.nilchk a λi=>W.faddr 8 i λj=>W.store 1 j (.ZO (-1)) b λk=>W.build [(.ZO 0),(.ZO 0),(.ZO 0),(.ZO 0),(.ZO 0),(.ZO 0)] [(0,1,(.ZO 28))] λl=>wc (.fn 31 []) [a,l] k (B3 c a d e f h g)
def ip(h:Kn)(a:SH)(g b c i j:AV):Prop:=(true=true)∧(W.faddr 0 g λk=>dr [] 1 6 k a λl d=>aN 1 b [rm 1 d] 3 a λm s=>di [rm 1 d] 5 4 m c a λn t=>aN 2 n [rm 1 d] 7 a λo u=>W.build [.nils,.nils,.nils,.nils,.nils,.nils,.nils,.nils,(.ZO 0),(.ZO 0)] [(0,6,l),(6,1,o),(9,1,i)] λp=>W.calm [] ⟨10,[],[],[],false,[]⟩ (W.box p a λe f=>wn [] [] (aa e) [] λv=>aC 1 b f λq=>fb 4 3 q c f λr=>wc (.fn 30 []) [e,r] f (B4 h e b j g c)))
def np(Q:R)(g:Vs)(a:SH)(h:Kn):Prop:=Jd 1 2 7 8 9 g λc b d i e=>aC 1 c a λj=>W.len j λk=>wb .lss 3 e k λl=>wk l ((ip h a d c e i b)) (cp 7 d a λm=>W.store 7 b m a λf=>W.load true 7 b f λn=>Q (.tup [n,(.ZO 0),(.ZO 0)]) f)
def B5(Q:R)(b c d:AV)(e:SH):Prop:=W.build [.nils,.nils,.nils,.nils,.nils,.nils,.nils] [(0,6,d)] λf=>W.alloc [.nils,.nils,.nils,.nils,.nils,.nils,.nils] e λa g=>W.store 7 a f g λh=>W.loop (np Q) [b,c,a,(.ZO 0),(.ZO 0)] h
def B6(Q:R)(b c d:AV)(a:SH):Prop:=W.ext 0 d λe=>W.ext 1 d λf=>wb .neq 74 e (.ZO 0) λg=>wk g ((B0 Q a b e f)) (cp 2 c a λh=>wc (.fn 29 []) [h] a (B5 Q c b))
def pn(c:AV)(L:SH)(Q:R):Prop:=W.box c L λd e=>W.alloc [.nils,.nils,.nils,.nils,.nils,.nils,.nils] e λf g=>W.frz1 d g λa b=>cp 2 a b λh=>wc (.fn 28 []) [h] b (B6 Q f a)
theorem B7(t0:AV)(L:SH)(Q:R)(h:pn t0 L Q):af Tryz.prog 19 [t0] L Q:=
 fs [] [(20,[1,2,7,8,9,10,11,12,13,14]),(16,[1,2,7,8,9,10,11,12]),(7,[1,2,7,8,9])] [(0,[1])] [(9,[0,1,0,4,0,28,60,124,0,511,1023,2047]),(14,[0,1,3,7,15,0,32,96,224,511,0,2047]),(22,[0,1,0,0,12,28,60,127,255,511])] Tryz.func19 h
end
section
set_option maxRecDepth 100000
theorem Oy(l:List cq)(s:bC)(hl:l.length<2^62):az Tryz.prog 59 [.lst (l.map cq.enc),.str s] (.ZO (gt l s)):=by
 refine pi _ _ _ _ ?_;unfold ko;refine fH l (λx=>decide (x.name=s)) (λi=>[.lst (l.map cq.enc),.str s,.ZO i]) hl rfl (λi h1 hd hi hno nx hn=>?_) (λi h1 hd hno nx=>?_)
 all_goals unfold fL
 ·have hx:=ay (f:=cq.enc) h1
  repeat' (first|refine st ?_|refine sb λnb_ hnb_=>?_|refine s2 (λh=>?_) λh=>?_|fail)
  ·exact⟨by rw[gt,qo h1 hno h],rfl⟩
  ·exact hn h
 ·repeat' (first|refine st ?_|refine sb λnb_ hnb_=>?_|refine s2 (λh=>?_) λh=>?_|fail)
  exact⟨by rw[gt,hZ hno],rfl⟩
theorem HN(w:aO)(s:bC)(hl:w.cells.length<2^62):az Tryz.prog 127 [.agg w.enc,.str s] (.ZO (yu w.cells s)):=by
 refine DO _ _ _ _ ?_;unfold ri;refine Ii ?_;refine fH w.cells (λx=>decide (x.name=s)) (λi=>[.str s,.pptr [w.enc] 0 0,.ZO i]) hl rfl (λi h1 hd hi hno nx hn=>?_) (λi h1 hd hno nx=>?_)
 all_goals unfold pj
 ·have hx:=ay (f:=bA.enc) h1
  repeat' (first|refine st ?_|refine sb λnb_ hnb_=>?_|refine s2 (λh=>?_) λh=>?_|fail)
  ·exact⟨by rw[yu,qo h1 hno h],rfl⟩
  ·exact hn h
 ·repeat' (first|refine st ?_|refine sb λnb_ hnb_=>?_|refine s2 (λh=>?_) λh=>?_|fail)
  exact⟨by rw[yu,hZ hno],rfl⟩
end
section
set_option maxRecDepth 100000
set_option maxHeartbeats 2000000
def gI(w:aO)(loc:List bC)(v:AV)(site next:Int):Blk:=⟨10,[[.lst (w.cells.map bA.enc),.lst (w.locks.map cq.enc),.lst (w.conds.map db.enc),.lst (w.futures.map av),.lst (w.threads.map av),.lst (w.sites.map cQ.enc),.lst (loc.map av),v,.ZO site,.ZO next]]⟩
def bq.at_(i:bq)(s:Int):bq:={i with site:=s}
theorem U7(bg:Nat)(w:aO)(loc:List bC)(o:Option Nat)(out:List bq)(site next:Int)(i:bq)(h0:o=none→out=[])(hl:out.length<2^30):
  af Tryz.prog 31 [.ptr bg 0 0,.agg i.enc] ((bg,gI w loc (ao o out.length) site next)::ae o 6 (out.map bq.enc)) λu K=>∃(v:AV) (b:Nat),u=v∧v=.tup []∧K=(bg,gI w loc (ao (some b) (out.length+1)) site next)::ae (some b) 6 ((out++[i.at_ site]).map bq.enc):=by
 refine af.fz (BZ _ _ _ _ ?_);unfold pk;generalize hQ:(λ(v:AV) (L:SH)=>∃v2 L2,aG [v] L [v2] L2∧∃(v:AV) (b:Nat),v2=v∧v=AV.tup []∧L2=(bg,gI w loc (ao (some b) (out.length+1)) site next)::ae (some b) 6 ((out++[i.at_ site]).map bq.enc))=Q;have hq:∀(b:Nat) (L:SH),gJ L ((bg,gI w loc (ao (some b) (out.length+1)) site next)::ae (some b) 6 (out.map bq.enc++[(i.at_ site).enc]))→Q (.tup []) L:=λb L h=>by subst hQ;refine⟨_,_,aG.pickE h rfl (R2:=(bg,gI w loc (ao (some b) (out.length+1)) site next)::ae (some b) 6 ((out++[i.at_ site]).map bq.enc)) (by rw[Yc];rfl),_,b,rfl,rfl,rfl⟩
 clear hQ;unfold gI at *
 repeat' (first|refine st ?_|refine cx rp rp ZM (λe=>by first|simp[h0 e]) ZL ZM (by simp;omega) (by simp;omega) ZL (λnb_ hnb_=>?_)|refine sb λnb_ hnb_=>?_|refine s2 (λh=>?_) λh=>?_|fail)
 cases i;exact hq nb_ _ (.one (.there _ (.there _ (.there _ (.here _)))) (.one (.here _) (.nil _)))
section
variable {bg:Nat} {w:aO} {loc:List bC} {o:Option Nat} {out:List bq} {site next:Int} {L L1 L2:SH}
theorem U8{i:bq}{KL:R}(h1:eP bg (gI w loc (ao o out.length) site next) L L1)(h2:dW o 6 (out.map bq.enc) L1 L2)(h0:o=none→out=[])(hl:out.length<2^30)
  (hq:∀b:Nat,KL (.tup []) ((bg,gI w loc (ao (some b) (out++[i.at_ site]).length) site next)::(L2++ae (some b) 6 ((out++[i.at_ site]).map bq.enc)))):W.callM Tryz.prog 31 [.ptr bg 0 0,.agg i.enc] L KL:=by
 refine zn (M:=L2) (U7 bg w loc o out site next i h0 hl) (h1.perm.trans (h2.perm.cons _)) ?_;rintro _ _ ⟨v,b,rfl,rfl,rfl⟩;refine⟨_,.cons _ YD,?_⟩;have:=hq b;rw[Yf]at this;exact this
end
end
end Go.Proofs.YtdnpdghlggbklaaGreatDoor.Am
