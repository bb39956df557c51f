/- A part of the proof; the statement is proved in the last part. -/
import Derived.Test.YtenbpcngcicamaaGreatDoorQcv
set_option linter.unusedSimpArgs false
set_option linter.unusedVariables false
namespace Go.Proofs.YtenbpcngcicamaaGreatDoor.Am
section
set_option maxRecDepth 1000000
theorem Mk:aB Tryz.prog 10 [] (.bool true):=.of_ok (fM (n:=2000) (d:=50) UB (by kernel_rfl) (by kernel_rfl))
end
section
set_option maxRecDepth 100000
set_option maxHeartbeats 2000000
theorem P8(t s:List UInt8):aB Tryz.prog 5 [.lst (t.map fq),.lst (s.map fq)] (.bool (decide (200<t.length)||decide (100<s.length))):=by
 refine Fe _ _ _ _ ?_;unfold xL;by_cases p1:200<t.length
 ·have d1:decide ((t.length:Int) > 200)=true:=decide_eq_true W4
  repeat' (first|refine st ?_|refine sb λnb_ hnb_=>?_|refine s2 (λh=>?_) λh=>?_|fail)
  exact⟨by rw[decide_eq_true p1];rfl,rfl⟩
 ·have d1:decide ((t.length:Int) > 200)=false:=decide_eq_false W4;by_cases p2:100<s.length
  ·have d2:decide ((s.length:Int) > 100)=true:=decide_eq_true W4
   repeat' (first|refine st ?_|refine sb λnb_ hnb_=>?_|refine s2 (λh=>?_) λh=>?_|fail)
   exact⟨by rw[decide_eq_false p1,decide_eq_true p2];exact congrArg AV.bool d2,rfl⟩
  ·have d2:decide ((s.length:Int) > 100)=false:=decide_eq_false W4
   repeat' (first|refine st ?_|refine sb λnb_ hnb_=>?_|refine s2 (λh=>?_) λh=>?_|fail)
   exact⟨by rw[decide_eq_false p1,decide_eq_false p2];exact congrArg AV.bool d2,rfl⟩
end
section
set_option maxRecDepth 100000
set_option maxHeartbeats 2000000
theorem Ml(l:List cI)(k:Nat)(hk:k<l.length)(wk o d:Int):oL (l.take (k+1)) wk o d=if l[k].kind=wk∧l[k].obj=o then l[k].value else oL (l.take k) wk o d:=by rw[Vw hk,Af]
section
variable (ev:List cI) (hev:ev.length≤400) (x83:AV) (a1 a2 a3 a4 a5 a6:AV) (e:cI) (wk d:Int) (Q:R) (n36:Kn)
include hev
theorem OB(i:Nat)(hi:i<ev.length)(he:e.value=oL (ev.take i) wk e.obj d)(L:SH)(hn:n36 [x83,.pptr [[a1,a2,a3,a4,a5,a6,.lst (ev.map cI.enc)]] 0 0,.int .i64 ((i+1:Nat):Int)] L):
  W.loop (cY Q n36) [x83,.pptr [[a1,a2,a3,a4,a5,a6,.lst (ev.map cI.enc)]] 0 0,.int .i64 (i:Int),.pptr [e.enc] 0 0,.int .i64 wk,.int .i64 d,.int .i64 (0:Nat)] L:=by
 refine sP i (λk=>([x83,.pptr [[a1,a2,a3,a4,a5,a6,.lst (ev.map cI.enc)]] 0 0,.int .i64 (i:Int),.pptr [e.enc] 0 0,.int .i64 wk,.int .i64 (oL (ev.take k) wk e.obj d),.int .i64 (k:Int)],L)) (λ_=>True) trivial rfl rfl ?_;intro k hk _;dsimp only;unfold cY;rcases Nat.lt_or_ge k i with g1|g1
 ·have hd:decide ((k:Int)<i)=true:=decide_eq_true W4;have hx:=az (f:=cI.enc) (show k<ev.length by omega);have ht:=Ml ev k W4 wk e.obj d;generalize ev[k]=y at *;rw[show y.enc=[.int .i64 y.thread,.int .i64 y.kind,.int .i64 y.obj,.int .i64 y.value,.int .i64 y.site,.lst (y.deps.map ao),.lst (y.frm.map ao)]from rfl]at hx;have hee:e.enc=[.int .i64 e.thread,.int .i64 e.kind,.int .i64 e.obj,.int .i64 e.value,.int .i64 e.site,.lst (e.deps.map ao),.lst (e.frm.map ao)]:=rfl;have fin:∀v:Int,v=oL (ev.take (k+1)) wk e.obj d→∃j,k<j∧j≤i∧True∧aI [x83,.pptr [[a1,a2,a3,a4,a5,a6,.lst (ev.map cI.enc)]] 0 0,.int .i64 (i:Int),.pptr [e.enc] 0 0,.int .i64 wk,.int .i64 v,.int .i64 (IntKind.i64.wrap ((k:Int)+1))] L
    [x83,.pptr [[a1,a2,a3,a4,a5,a6,.lst (ev.map cI.enc)]] 0 0,.int .i64 (i:Int),.pptr [e.enc] 0 0,.int .i64 wk,.int .i64 (oL (ev.take j) wk e.obj d),.int .i64 (j:Int)] L:=λv hv=>⟨k+1,W4,W4,trivial,fU (by rw[hv,aE g1 W4]) rfl⟩
  rw[hee]at fin ⊢;by_cases p1:y.kind=wk
  ·have d1:decide (y.kind=wk)=true:=decide_eq_true p1;by_cases p2:y.obj=e.obj
   ·have d2:decide (y.obj=e.obj)=true:=decide_eq_true p2
    repeat' (first|refine st ?_|refine sb λnb_ hnb_=>?_|refine s2 (λh=>?_) λh=>?_|fail)
    exact fin _ (by rw[ht,if_pos ⟨p1,p2⟩])
   ·have d2:decide (y.obj=e.obj)=false:=decide_eq_false p2
    repeat' (first|refine st ?_|refine sb λnb_ hnb_=>?_|refine s2 (λh=>?_) λh=>?_|fail)
    exact fin _ (by rw[ht,if_neg (λh=>p2 h.2)])
  ·have d1:decide (y.kind=wk)=false:=decide_eq_false p1
   repeat' (first|refine st ?_|refine sb λnb_ hnb_=>?_|refine s2 (λh=>?_) λh=>?_|fail)
   exact fin _ (by rw[ht,if_neg (λh=>p1 h.1)])
 ·have hd:decide ((k:Int)<i)=false:=decide_eq_false W4;have hk0:k=i:=by omega
  subst hk0;have d1:decide (e.value≠oL (ev.take k) wk e.obj d)=false:=decide_eq_false (by rw[he];simp);have hn2:=hn;rw[←aE hi W4]at hn2;generalize oL (ev.take k) wk e.obj d=sv at *;rw[show e.enc=[.int .i64 e.thread,.int .i64 e.kind,.int .i64 e.obj,.int .i64 e.value,.int .i64 e.site,.lst (e.deps.map ao),.lst (e.frm.map ao)]from rfl]
  repeat' (first|refine st ?_|refine sb λnb_ hnb_=>?_|refine s2 (λh=>?_) λh=>?_|fail)
  exact hn2
end
theorem Mm(c:bP)(ev:List cI)(hev:ev.length≤400)(hok:∀(pre suf:List cI) (e:cI),ev=pre++e::suf→UQ c.w pre e)(a1 a2 a3 a4 a5 a6:AV)(Q:R)(hq:∀L,Q (.bool true) L)
  (haw:aB Tryz.prog 10 [] (.bool true)) (L:SH):W.loop (da Q) [.pptr [c.enc] 0 0,.pptr [[a1,a2,a3,a4,a5,a6,.lst (ev.map cI.enc)]] 0 0,.int .i64 (0:Nat)] L:=by
 refine sP ev.length (λi=>([.pptr [c.enc] 0 0,.pptr [[a1,a2,a3,a4,a5,a6,.lst (ev.map cI.enc)]] 0 0,.int .i64 (i:Int)],L)) (λ_=>True) trivial rfl rfl ?_;intro i _ _;dsimp only;unfold da;generalize hnx:(λ(vs':List AV) (L':SH)=>∃j,i<j∧j≤ev.length∧True∧_)=nx;rcases Nat.lt_or_ge i ev.length with g1|g1
 ·have hd:=bF g1;have hi1:=aE g1 W4;have hn:nx [.pptr [c.enc] 0 0,.pptr [[a1,a2,a3,a4,a5,a6,.lst (ev.map cI.enc)]] 0 0,.int .i64 ((i+1:Nat):Int)] L:=by subst hnx;exact⟨i+1,W4,W4,trivial,.refl _ _⟩
  clear hnx;have hx:=az (f:=cI.enc) g1;have hok1:=hok (ev.take i) (ev.drop (i+1)) ev[i] W7;have j1:∀(wk d:Int),ev[i].value=oL (ev.take i) wk ev[i].obj d→cZ Q nx [.pptr [c.enc] 0 0,.pptr [[a1,a2,a3,a4,a5,a6,.lst (ev.map cI.enc)]] 0 0,.int .i64 (i:Int),.pptr [ev[i].enc] 0 0,.int .i64 wk,.int .i64 d] L:=λwk d h=>by have:=OB ev hev (.pptr [c.enc] 0 0) a1 a2 a3 a4 a5 a6 ev[i] wk d Q nx i g1 h L hn;unfold cZ;exact Jy this
  clear hok;generalize ev[i]=e at *;obtain⟨th,kind,obj,value,site,deps,frm⟩:=e;unfold UQ at hok1;dsimp only at hok1 j1;have hE:(ev.map cI.enc).length=ev.length:=by simp
  generalize ev.map cI.enc=E at *;rw[←hE]at hd;by_cases k3:kind=3
  ·subst k3;have hv:=hok1.1 rfl;by_cases o0:0≤obj
   ·have d1:decide (obj≥0)=true:=decide_eq_true o0;obtain⟨k,rfl⟩:∃k:Nat,obj=(k:Int):=⟨obj.toNat,W4⟩;by_cases o1:k<c.w.cells.length
    ·have d2:=bF o1;have hcx:=az (f:=bb.enc) o1;have hi:GZ c.w (k:Int)=c.w.cells[k].init:=by unfold GZ;rw[if_pos ⟨W4,W4⟩];simp[o1]
     rw[hi]at hv;have j:=j1 4 _ hv
     repeat' (first|with_reducible exact j|refine st ?_|refine sb λnb_ hnb_=>?_|refine s2 (λh=>?_) λh=>?_|fail)
    ·have d2:=bM (i:=k) (n:=c.w.cells.length) W4;have hi:GZ c.w (k:Int)=0:=by unfold GZ;rw[if_neg W4]
     rw[hi]at hv;have j:=j1 4 _ hv
     repeat' (first|with_reducible exact j|refine st ?_|refine sb λnb_ hnb_=>?_|refine s2 (λh=>?_) λh=>?_|fail)
   ·have d1:decide (obj≥0)=false:=decide_eq_false o0;have hi:GZ c.w obj=0:=by unfold GZ;rw[if_neg W4]
    rw[hi]at hv;have j:=j1 4 _ hv
    repeat' (first|with_reducible exact j|refine st ?_|refine sb λnb_ hnb_=>?_|refine s2 (λh=>?_) λh=>?_|fail)
  ·have d1:decide (kind≠3)=true:=decide_eq_true k3;by_cases k23:kind=23
   ·subst k23;have hv:=hok1.2 rfl;have j:=j1 22 _ hv
    repeat' (first|with_reducible exact j|refine st ?_|refine sb λnb_ hnb_=>?_|refine s2 (λh=>?_) λh=>?_|fail)
   ·have d2:decide (kind≠23)=true:=decide_eq_true k23
    repeat' (first|refine st ?_|refine sb λnb_ hnb_=>?_|refine s2 (λh=>?_) λh=>?_|fail)
    exact hn
 ·have hd:=bM g1;clear hnx
  repeat' (first|refine st ?_|(refine pf 10 ?_;refine pm (haw) ?_)|refine sb λnb_ hnb_=>?_|refine s2 (λh=>?_) λh=>?_|fail)
  exact hq _
theorem OC(t s:List UInt8)(hc:t.length<2^40→∃c:bP,aB Tryz.prog 6 [.lst (t.map fq)] (.agg c.enc)∧∀x∈c.ts,x.ins.length<2^40):aB Tryz.prog 4 [.lst (t.map fq),.lst (s.map fq)] (.bool true):=by
 have hlong:=P8 t s;refine ai.fz (jL _ _ _ _ ?_);unfold eW;generalize hQ:(λ(v:AV) (L:SH)=>∃v2 L2,aI [v] L [v2] L2∧v2=AV.bool true∧L2=[])=Q;have hq:∀L,Q (.bool true) L:=λL=>by subst hQ;exact⟨_,[],aI.all (.refl _),rfl,rfl⟩
 clear hQ;by_cases hl:200<t.length∨100<s.length
 ·rw[show(decide (200<t.length)||decide (100<s.length))=true by simpa using hl]at hlong
  repeat' (first|refine st ?_|(refine pf 5 ?_;refine pm (hlong) ?_)|refine sb λnb_ hnb_=>?_|refine s2 (λh=>?_) λh=>?_|fail)
  exact hq _
 ·rw[show(decide (200<t.length)||decide (100<s.length))=false by simpa using hl]at hlong;obtain⟨c,hcode,hins⟩:=hc W4;have hch:=I0 s W4;generalize hcl:s.map Mh=l at *;have hll:l.length≤100:=by rw[←hcl];simp;omega
  have hr:=PU c hins l W4;have hs:=(Md c hins l).2;have hla:=Om c l;generalize qT c l=r at *;obtain⟨⟨w1,ev⟩,st1⟩:=r;dsimp only at *;have hse:∀s:el,s.enc=[.lst (s.sync.locks.map LockD.enc),.int .i64 s.sync.tx,.lst (s.sync.done.map aV),.lst (s.sync.threads.map ThrD.enc),.lst (s.cells.map ao),.lst (s.futures.map ao),.lst (s.threads.map aW.enc)]:=λ_=>rfl
  unfold D5.enc at hr;have ho:=λa1 a2 a3 a4 a5 a6=>Mm c ev hs hla a1 a2 a3 a4 a5 a6 Q hq Mk
  have hce:c.enc=[.lst (c.w.cells.map bb.enc),.lst (c.w.locks.map cb.enc),.lst (c.w.conds.map cX.enc),.lst (c.w.futures.map aw),.lst (c.w.threads.map aw),.lst (c.w.sites.map cM.enc),.lst (c.ts.map iD.enc)]:=rfl;rw[hse]at hr;rw[hce]at *;dsimp only at hr
  repeat' (first|exact ho _ _ _ _ _ _ _|refine st ?_|(refine pf 5 ?_;refine pm (hlong) ?_)|(refine pf 6 ?_;refine pm (hcode) ?_)|(refine pf 7 ?_;refine pm (hch) ?_)|(refine pf 8 ?_;refine pm (hr) ?_)|refine sb λnb_ hnb_=>?_|refine s2 (λh=>?_) λh=>?_|fail)
end
section
set_option maxRecDepth 100000
def fx(Q:R)(e:Vs)(a:SH)(f:Kn):Prop:=vO 0 1 5 e λc d b=>W.len c λg=>wb .lss 3 b g λh=>wk h (eE 2 0 c b a λi=>wb .eql 9 i d λj=>wk j (Q b a) (wb .add 3 b (.W9 1) λk=>f [c,d,k] a)) (Q (.W9 (-1)) a)
def jW(a b:AV)(L:SH)(Q:R):Prop:=W.loop (fx Q) [a,b,(.W9 0)] L
theorem nV(t0 t1:AV)(L:SH)(Q:R)(h:jW t0 t1 L Q):ai Tryz.prog 42 [t0,t1] L Q:=
 fs [] [(2,[0,1,5])] [] [] Tryz.func42 h
def nW(Q:R)(e:Vs)(a:SH)(f:Kn):Prop:=vO 1 2 5 e λd c b=>aC 0 c a λg=>W.len g λh=>wb .lss 3 b h λi=>wk i (aC 0 c a λj=>eE 5 0 j b a λk=>wb .eql 9 k d λl=>wk l (Q b a) (wb .add 3 b (.W9 1) λm=>f [d,c,m] a)) (Q (.W9 (-1)) a)
def qf(a b:AV)(L:SH)(Q:R):Prop:=sf a L λc d=>W.loop (nW Q) [b,c,(.W9 0)] d
theorem Cn(t0 t1:AV)(L:SH)(Q:R)(h:qf t0 t1 L Q):ai Tryz.prog 105 [t0,t1] L Q:=
 fs [] [(2,[1,2,5])] [(0,[2])] [] Tryz.func105 h
def Er(b:Kn)(c d e a:AV)(f:SH):Prop:=W.ext 0 a λg=>W.ext 1 a λh=>wb .add 3 c (.W9 1) λi=>b [g,d,h,e,i] f
def Es(f:Kn)(a b c d:AV)(e:SH):Prop:=W.ext 0 d λg=>W.ext 1 d λh=>eE 11 10 a b e λi=>wc (.fn 43 []) [g,c,h,i] e (Er f b c a)
def Et(g:Kn)(d:SH)(a b c e h:AV):Prop:=eE 11 1 a b d λi=>W.build [(.W9 0),(.W9 0),(.W9 0)] [(0,1,c),(1,1,e),(2,1,i)] λj=>W.bslice 3 [(.W9 0),(.W9 0),(.W9 0)] 1 [(0,j)] d λk l=>W.append 3 24 h k l λm f=>wb .add 3 e (.W9 1) λn=>eE 11 9 a b f λo=>wc (.fn 43 []) [m,c,n,o] f (Es g a b c)
def qg(Q:R)(f:Vs)(a:SH)(g:Kn):Prop:=He 0 1 2 3 10 f λb h c d e=>W.len d λi=>wb .lss 3 e i λj=>wk j ((Et g a d e h c b)) (Q (.tup [b,c]) a)
def sG(a b c d:AV)(L:SH)(Q:R):Prop:=W.loop (qg Q) [a,b,c,d,(.W9 0)] L
theorem Eu(t0 t1 t2 t3:AV)(L:SH)(Q:R)(h:sG t0 t1 t2 t3 L Q):ai Tryz.prog 43 [t0,t1,t2,t3] L Q:=
 fs [] [(2,[0,1,2,3,10])] [] [] Tryz.func43 h
def Ev(e:Kn)(a:SH)(c b d f g h:AV):Prop:=aC 0 c a λi=>aC 2 b a λj=>aC 3 b a λk=>aC 0 b a λl=>wb .eql 3 l (.W9 2) λm=>aC 4 b a λn=>W.build [(.str []),(.W9 0),(.W9 0),(.bool false),(.W9 0)] [(0,1,j),(1,1,d),(2,1,k),(3,1,m),(4,1,n)] λo=>W.bslice 5 [(.str []),(.W9 0),(.W9 0),(.bool false),(.W9 0)] 1 [(0,o)] a λp q=>W.append 5 48 i p q λr s=>W.faddr 0 c λt=>W.store 1 t r s λu=>wb .add 3 d (.W9 1) λv=>e [f,g,c,h,b,v] u
def jX(h:Kn)(i:Vs)(a:SH)(j:Kn):Prop:=Hf 1 2 3 6 7 8 i λb c d e f g=>aC 3 f a λk=>W.mnx true k (.W9 1) λl=>wb .lss 3 g l λm=>wk m ((Ev j a d f g b c e)) (wb .add 3 e (.W9 1) λn=>h [b,c,d,n] a)
def Ew(d:Kn)(a:SH)(b c e f g:AV):Prop:=aC 1 b a λh=>aC 2 c a λi=>aC 0 c a λj=>wb .eql 3 j (.W9 4) λk=>W.build [(.str []),(.bool false)] [(0,1,i),(1,1,k)] λl=>W.bslice 2 [(.str []),(.bool false)] 1 [(0,l)] a λm n=>W.append 2 24 h m n λo p=>W.faddr 1 b λq=>W.store 1 q o p λr=>wb .add 3 e (.W9 1) λs=>d [f,g,b,s] r
def Ey(e:Kn)(f:SH)(g a c h i j:AV)(k:Fp)(l:AV)(m:SH)(n:Ns):Prop:=wn [] n [] f.names λu=>W.build [(.str []),(.W9 0)] [(0,1,g),(1,1,l)] λo=>W.calm [rm 1 k] ⟨10,[],[],[],false,[]⟩ (W.bslice 2 [(.str []),(.W9 0)] 1 [(0,o)] m λb p=>wn [] [] (aa b) [] λv=>W.calm [] ⟨11,(aa a++aa b),(aa a),[],false,[]⟩ (W.append 2 24 a b p λd q=>wn (aa a++aa b) (aa a) (aa d) [] λw=>W.faddr 2 c λr=>ds [] 13 1 r d q λs x=>wb .add 3 h (.W9 1) λt=>e [i,j,c,t] s))
def Ez(f:Kn)(a:SH)(c e g h i:AV):Prop:=(true=true)∧(aO 2 c [] 1 a λj b=>aO 2 e [rm 1 b] 3 a λk d=>aO 1 c [rm 3 d,rm 1 b] 5 a λl m=>aO 5 e [rm 5 m,rm 3 d,rm 1 b] 7 a λn o=>wd [rm 3 d,rm 1 b] 8 (.fn 42 []) [l,n] a (Ey f a k j c g h i b))
def EA(c:Kn)(a:SH)(b d e f g:AV):Prop:=aC 3 b a λh=>aC 2 d a λi=>W.bslice 1 [(.str [])] 1 [(0,i)] a λj k=>W.append 1 16 h j k λl m=>W.faddr 3 b λn=>W.store 1 n l m λo=>wb .add 3 e (.W9 1) λp=>c [f,g,b,p] o
def EB(a:Kn)(h:Vs)(b:SH):Prop:=Mw 1 2 3 6 7 31 65 h λc d e f g i j=>wk j ((Ew a b e g f c d)) (wb .eql 3 i (.W9 5) λk=>wk k ((Ez a b e g f c d)) ((EA a b e g f c d)))
def EC(j:Kn)(b:SH)(a c d e f g:AV):Prop:=W.join (EB j) λh=>wb .eql 3 a (.W9 3) λi=>wk i (h [c,d,e,f,g,a,i] b) (wb .eql 3 a (.W9 4) λk=>h [c,d,e,f,g,a,k] b)
def ED(a:Kn)(h:Vs)(b:SH):Prop:=Mw 1 2 3 6 7 31 39 h λc d e f g i j=>wk j (W.loop (jX a) [c,d,e,f,g,(.W9 0)] b) ((EC a b i c d e f g))
def jY(k:Kn)(b:SH)(c d g h:AV):Prop:=aC 0 c b λl=>lE 6 l d b λm=>qn [(.W9 0),(.W9 0),(.str []),(.W9 0),(.W9 0),(.str [])] 6 m b λe f=>aC 0 e f λa=>W.join (ED k) λi=>wb .eql 3 a (.W9 1) λj=>wk j (i [c,g,h,d,e,a,j] f) (wb .eql 3 a (.W9 2) λn=>i [c,g,h,d,e,a,n] f)
def EE(c:Kn)(d:SH)(a e f g b:AV)(h:SH)(i:Ns):Prop:=wn [] i [] d.names λn=>W.ext 0 b λj=>W.ext 1 b λo=>W.faddr 5 a λk=>ds [] 14 1 k j h λl p=>wb .add 3 e (.W9 1) λm=>c [f,g,a,m] l
def jZ(k:Kn)(b:SH)(d h e l:AV):Prop:=(true=true)∧(aO 4 d [] 1 b λc f=>aO 1 h [rm 1 f] 3 b λm w=>di [rm 1 f] 5 4 m e b λn x=>aO 0 n [rm 1 f] 7 b λo y=>W.calm [rm 1 f] ⟨8,[],[],[],false,[]⟩ (W.bslice 1 [(.str [])] 1 [(0,o)] b λg p=>wn [] [] (aa g) [] λz=>W.calm [] ⟨9,(aa c++aa g),(aa c),[],false,[]⟩ (W.append 1 16 c g p λj q=>wn (aa c++aa g) (aa c) (aa j) [] λA=>W.faddr 4 d λr=>ds [] 11 1 r j q λa B=>(true=true)∧(aO 5 d [] 1 a λs i=>aO 1 h [rm 1 i] 4 a λt C=>di [rm 1 i] 6 4 t e a λu D=>aO 3 u [rm 1 i] 8 a λv E=>wd [] 9 (.fn 43 []) [s,e,(.W9 0),v] a (EE k a d e h l)))))
def j0(Q:R)(g:Vs)(a:SH)(h:Kn):Prop:=yO 1 2 3 9 g λc b d e=>aC 1 c a λi=>W.len i λj=>wb .lss 3 e j λk=>wk k ((jZ h a d c e b)) (ca 6 d a λl=>W.store 6 b l a λf=>W.load true 6 b f λm=>Q m f)
def qh(Q:R)(f:Vs)(a:SH)(g:Kn):Prop:=yO 1 2 3 6 f λb c d e=>aC 0 b a λh=>W.len h λi=>wb .lss 3 e i λj=>wk j ((jY g a b e c d)) (W.loop (j0 Q) [b,c,d,(.W9 0)] a)
def EF(Q:R)(c a f d:AV)(b:SH):Prop:=W.ext 0 d λg=>W.ext 1 d λk=>wb .neq 59 g (.W9 0) λh=>wk h (ca 6 c b λi=>W.store 6 a i b λe=>W.load true 6 a e λj=>Q j e) (W.loop (qh Q) [f,a,c,(.W9 0)] b)
def sH(c:AV)(L:SH)(Q:R):Prop:=W.box c L λd e=>W.alloc [.nils,.nils,.nils,.nils,.nils,.nils] e λf g=>W.frz1 d g λa h=>W.alloc [.nils,.nils,.nils,.nils,.nils,.nils] h λi b=>ca 2 a b λj=>wc (.fn 17 []) [j] b (EF Q i f a)
theorem EG(t0:AV)(L:SH)(Q:R)(h:sH t0 L Q):ai Tryz.prog 18 [t0] L Q:=
 fs [(12,[1,2,3,6,7,31,39]),(18,[1,2,3,6,7,31,65])] [(14,[1,2,3,6,7,8]),(6,[1,2,3,6]),(23,[1,2,3,9])] [(0,[1]),(8,[7])] [(21,[0,1,0,4,0,16,0,64,240,508,1020,2047,4095,8191]),(25,[0,1,0,4,0,28,60,124,252,511,1023,2047]),(26,[0,1,0,0,8,0,56,120,248,511,1023,2047,2047,4095,12287])] Tryz.func18 h
def nX(c i:AV)(L:SH)(Q:R):Prop:=W.box i L λe f=>dP 8 c f λj=>W.faddr 5 e λk=>W.store 1 k j f λd=>(true=true)∧(W.nilchk c λl=>aO 7 l [] 4 d λa g=>dr [rm 4 g] 5 6 e d λm s=>W.calm [rm 4 g] ⟨6,[],[],[],false,[]⟩ (W.bslice 6 [(.W9 0),(.W9 0),(.W9 0),(.W9 0),(.W9 0),(.W9 0)] 1 [(0,m)] d λb n=>wn [] [] (aa b) [] λt=>W.calm [] ⟨7,(aa a++aa b),(aa a),[],false,[]⟩ (W.append 6 48 a b n λh o=>wn (aa a++aa b) (aa a) (aa h) [] λu=>W.nilchk c λp=>W.faddr 7 p λq=>ds [] 10 1 q h o λr v=>Q (.tup []) r)))
theorem Az(t0 t1:AV)(L:SH)(Q:R)(h:nX t0 t1 L Q):ai Tryz.prog 20 [t0,t1] L Q:=
 fs [] [] [] [(2,[0,0,2,6,14,0,32,126,255,511,1023])] Tryz.func20 h
def uW(Q:R)(a:SH)(b c d:AV):Prop:=aC 1 d a λe=>W.build [(.W9 0),(.W9 0),(.W9 0),(.W9 0),(.W9 0),(.W9 0)] [(0,1,(.W9 1)),(1,1,b),(4,1,e)] λf=>wc (.fn 20 []) [c,f] a λh g=>Q (.tup []) g
def uX(Q:R)(a:SH)(b c d:AV):Prop:=W.build [(.W9 0),(.W9 0),(.W9 0),(.W9 0),(.W9 0),(.W9 0)] [(0,1,(.W9 2)),(1,1,b),(2,1,d)] λe=>wc (.fn 20 []) [c,e] a λg f=>Q (.tup []) f
def uY(Q:R)(a:SH)(d:AV)(b:SH)(c:Ns):Prop:=wn [] c [] a.names λe=>Q (.tup []) b
def uZ(Q:R)(b:SH)(c d e:AV)(a:SH)(f:Ns):Prop:=wn [] f [] b.names λh=>W.build [(.W9 0),(.W9 0),(.W9 0),(.W9 0),(.W9 0),(.W9 0)] [(0,1,(.W9 6)),(1,1,c),(2,1,e)] λg=>wd [] 10 (.fn 20 []) [d,g] a (uY Q a)
def u0(Q:R)(a:SH)(b c d:AV):Prop:=(true=true)∧(W.nilchk b λe=>W.faddr 0 e λf=>dr [] 5 6 f a λg h=>aO 2 d [rm 5 h] 7 a λi j=>wd [] 8 (.fn 105 []) [g,i] a (uZ Q a c b))
def u1(Q:R)(e:SH)(a b f c:AV)(d:SH)(g:Ns):Prop:=wn [] g [] e.names λi=>wb .geq 3 c (.W9 0) λh=>wk h ((uX Q d a b c)) ((u0 Q d b a f))
def u2(Q:R)(a:SH)(b d c:AV):Prop:=(true=true)∧(W.nilchk b λe=>aO 6 e [] 3 a λf g=>aO 2 c [rm 3 g] 5 a λh i=>wd [] 6 (.fn 64 []) [f,h] a (u1 Q a d b c))
def u3(Q:R)(e:SH)(b c d:AV)(a:SH)(f:Ns):Prop:=wn [] f [] e.names λm=>W.nilchk b λg=>W.faddr 0 g λh=>aC 0 h a λi=>eE 5 2 i d a λj=>W.build [(.W9 0),(.W9 0),(.W9 0),(.W9 0),(.W9 0),(.W9 0)] [(0,1,(.W9 7)),(1,1,c),(2,1,d),(3,1,c),(4,1,j)] λk=>wc (.fn 20 []) [b,k] a λn l=>Q (.tup []) l
def u4(Q:R)(b c d j:AV)(a:SH):Prop:=(true=true)∧(W.nilchk b λe=>W.faddr 0 e λf=>dr [] 3 6 f a λg h=>aO 2 d [rm 3 h] 5 a λi k=>wd [] 6 (.fn 105 []) [g,i] a (u3 Q a b c))
def u5(Q:R)(a c d h:AV)(b:SH):Prop:=aC 0 d b λe=>W.build [(.W9 0),(.W9 0),(.W9 0),(.W9 0),(.W9 0),(.W9 0)] [(0,1,(.W9 3)),(1,1,a),(2,1,a),(4,1,e)] λf=>wc (.fn 20 []) [c,f] b λi g=>Q (.tup []) g
def u6(Q:R)(a c d i:AV)(b:SH):Prop:=wb .add 3 a (.W9 1) λe=>aC 0 d b λf=>W.build [(.W9 0),(.W9 0),(.W9 0),(.W9 0),(.W9 0),(.W9 0)] [(0,1,(.W9 4)),(1,1,a),(2,1,a),(3,1,e),(4,1,f)] λg=>wc (.fn 20 []) [c,g] b λj h=>Q (.tup []) h
def u7(Q:R)(b c d h:AV)(a:SH):Prop:=aC 3 d a λe=>lE 4 e (.W9 1) a λf=>wb .add 3 b (.W9 1) λg=>wc (.fn 70 []) [c,f,g] a (u6 Q b c d)
def u9(Q:R)(a:SH)(c d b:AV):Prop:=aC 3 b a λe=>W.len e λf=>wb .eql 3 f (.W9 1) λg=>wk g (aC 3 b a λh=>lE 4 h (.W9 0) a λi=>wc (.fn 70 []) [c,i,d] a (u5 Q d c b)) (aC 3 b a λj=>lE 4 j (.W9 0) a λk=>wc (.fn 70 []) [c,k,d] a (u7 Q d c b))
def vc(Q:R)(a:SH)(c d b:AV):Prop:=aC 0 b a λe=>wb .eql 3 e (.W9 3) λf=>wk f (aC 3 b a λg=>lE 4 g (.W9 0) a λh=>wc (.fn 70 []) [c,h,d] a (u4 Q c d b)) ((u9 Q a c d b))
def kK(c e d:AV)(L:SH)(Q:R):Prop:=sf e L λa b=>aC 0 a b λf=>wb .eql 3 f (.W9 1) λg=>wk g ((uW Q b d c a)) (aC 0 a b λh=>wb .eql 3 h (.W9 2) λi=>wk i ((u2 Q b c d a)) ((vc Q b c d a)))
theorem vd(t0 t1 t2:AV)(L:SH)(Q:R)(h:kK t0 t1 t2 L Q):ai Tryz.prog 70 [t0,t1,t2] L Q:=
 fs [] [] [(0,[4])] [(7,[0,1,3,7,0,16,63,127]),(10,[0,0,0,4,12,28,0,64,252,510,1023]),(13,[0,1,3,7,0,16,63,127])] Tryz.func70 h
def rN(Q:R)(e:SH)(b c d:AV)(a:SH)(f:Ns):Prop:=wn [] f [] e.names λn=>wb .add 3 c (.W9 1) λg=>W.nilchk b λh=>W.faddr 0 h λi=>aC 0 i a λj=>eE 5 2 j d a λk=>W.build [(.W9 0),(.W9 0),(.W9 0),(.W9 0),(.W9 0),(.W9 0)] [(0,1,(.W9 9)),(1,1,d),(2,1,g),(3,1,c),(4,1,k)] λl=>wc (.fn 20 []) [b,l] a λo m=>Q (.tup []) m
def rO(Q:R)(b c d j:AV)(a:SH):Prop:=(true=true)∧(W.nilchk b λe=>W.faddr 0 e λf=>dr [] 3 6 f a λg h=>aO 2 c [rm 3 h] 5 a λi k=>wd [] 6 (.fn 105 []) [g,i] a (rN Q a b d))
def rP(Q:R)(a b c h:AV)(d:SH):Prop:=W.faddr 5 b λe=>ca 4 e d λf=>wb .add 3 c (.W9 1) λg=>wc (.fn 70 []) [a,f,g] d (rO Q a b c)
def rQ(Q:R)(a:SH)(b c d:AV):Prop:=W.build [(.W9 0),(.W9 0),(.W9 0),(.W9 0),(.W9 0),(.W9 0)] [(0,1,(.W9 2)),(1,1,c),(2,1,d)] λe=>wc (.fn 20 []) [b,e] a λg f=>Q (.tup []) f
def rR(Q:R)(a:SH)(d:AV)(b:SH)(c:Ns):Prop:=wn [] c [] a.names λe=>Q (.tup []) b
def rS(Q:R)(b:SH)(c d e:AV)(a:SH)(f:Ns):Prop:=wn [] f [] b.names λh=>W.build [(.W9 0),(.W9 0),(.W9 0),(.W9 0),(.W9 0),(.W9 0)] [(0,1,(.W9 8)),(1,1,e),(2,1,d)] λg=>wd [] 10 (.fn 20 []) [c,g] a (rR Q a)
def rT(Q:R)(a:SH)(b c d:AV):Prop:=(true=true)∧(W.nilchk b λe=>W.faddr 0 e λf=>dr [] 4 6 f a λg h=>aO 2 c [rm 4 h] 6 a λi j=>wd [] 7 (.fn 105 []) [g,i] a (rS Q a b d))
def rU(Q:R)(e:SH)(a b f c:AV)(d:SH)(g:Ns):Prop:=wn [] g [] e.names λi=>wb .geq 3 c (.W9 0) λh=>wk h ((rQ Q d a c b)) ((rT Q d a f b))
def rV(Q:R)(b c d i:AV)(a:SH):Prop:=(true=true)∧(W.nilchk b λe=>aO 6 e [] 3 a λf g=>aO 2 c [rm 3 g] 5 a λh j=>wd [] 6 (.fn 64 []) [f,h] a (rU Q a b d c))
def j4(b e:AV)(L:SH)(Q:R):Prop:=sf e L λc a=>dP 6 b a λf=>W.len f λd=>aC 4 c a λg=>W.len g λh=>wb .gtr 3 h (.W9 0) λi=>wk i (aC 4 c a λj=>lE 4 j (.W9 0) a λk=>wc (.fn 70 []) [b,k,d] a (rP Q b c d)) (W.faddr 5 c λl=>ca 4 l a λm=>wc (.fn 70 []) [b,m,d] a (rV Q b c d))
theorem rW(t0 t1:AV)(L:SH)(Q:R)(h:j4 t0 t1 L Q):ai Tryz.prog 66 [t0,t1] L Q:=
 fs [] [] [(0,[3])] [(5,[0,1,3,7,0,16,63,127]),(8,[0,1,3,7,0,16,63,127]),(11,[0,0,2,6,14,0,32,126,0,510,1023])] Tryz.func66 h
def oM(Q:R)(b c m:AV)(a:SH):Prop:=(true=true)∧(W.nilchk b λd=>aO 7 d [] 3 a λe f=>W.nilchk b λg=>aO 7 g [rm 3 f] 8 a λh n=>W.len h λi=>di [] 10 6 e c a λj o=>W.faddr 2 j λk=>ds [] 12 1 k i a λl p=>Q (.tup []) l)
def oN(Q:R)(b:SH)(a c d:AV):Prop:=W.build [(.W9 0),(.W9 0),(.W9 0),(.W9 0),(.W9 0),(.W9 0)] [(0,1,(.W9 5)),(1,1,c)] λe=>wc (.fn 20 []) [a,e] b (oM Q a d)
def oO(Q:R)(a:SH)(b c:AV):Prop:=(true=true)∧(W.nilchk b λd=>aO 7 d [] 3 a λe f=>W.nilchk b λg=>aO 7 g [rm 3 f] 8 a λh m=>W.len h λi=>di [] 10 6 e c a λj n=>W.faddr 2 j λk=>ds [] 12 1 k i a λl o=>Q (.tup []) l)
def oP(Q:R)(b c m:AV)(a:SH):Prop:=(true=true)∧(W.nilchk b λd=>aO 7 d [] 3 a λe f=>W.nilchk b λg=>aO 7 g [rm 3 f] 8 a λh n=>W.len h λi=>di [] 10 6 e c a λj o=>W.faddr 1 j λk=>ds [] 12 1 k i a λl p=>Q (.tup []) l)
def oQ(Q:R)(a d e f p:AV)(b:SH):Prop:=(true=true)∧(W.nilchk a λg=>aO 7 g [] 3 b λh i=>W.nilchk a λj=>aO 7 j [rm 3 i] 8 b λk q=>W.len k λl=>di [] 10 6 h d b λm r=>W.faddr 2 m λn=>ds [] 12 1 n l b λc s=>aC 10 e c λo=>wc (.fn 19 []) [a,o] c (oP Q a f))
def oR(Q:R)(b:SH)(a c d:AV):Prop:=dP 7 a b λe=>W.len e λf=>W.build [(.W9 0),(.W9 0),(.W9 0),(.W9 0),(.W9 0),(.W9 0)] [(0,1,(.W9 5))] λg=>wc (.fn 20 []) [a,g] b (oQ Q a c d f)
def oS(Q:R)(a:SH)(b c d:AV):Prop:=aC 10 c a λe=>W.len e λf=>wb .eql 3 f (.W9 0) λg=>wk g ((oO Q a b d)) ((oR Q a b d c))
def oU(Q:R)(a e c f d l:AV)(g:SH):Prop:=W.nilchk a λh=>W.faddr 8 h λi=>W.store 1 i e g λb=>aC 0 c b λj=>wb .eql 3 j (.W9 3) λk=>wk k ((oN Q b a f d)) ((oS Q b a c d))
def oV(Q:R)(a b d e f h:AV)(c:SH):Prop:=aC 9 b c λg=>wc (.fn 19 []) [a,g] c (oU Q a d b e f)
def oW(Q:R)(c:SH)(a d e f m:AV)(b:SH)(g:Ns):Prop:=wn [] g [] c.names λn=>dP 7 a b λh=>W.len h λi=>dP 6 a b λj=>W.len j λk=>W.build [(.W9 0),(.W9 0),(.W9 0),(.W9 0),(.W9 0),(.W9 0)] [(0,1,(.W9 10)),(1,1,k)] λl=>wc (.fn 20 []) [a,l] b (oV Q a d e f i)
def ii(b d:AV)(L:SH)(Q:R):Prop:=sf d L λc a=>dP 8 b a λe=>dP 7 b a λf=>W.len f λg=>(true=true)∧(W.faddr 5 c λh=>dr [] 2 4 h a λi j=>W.nilchk b λk=>aO 6 k [rm 2 j] 6 a λl n=>W.len l λm=>wd [] 8 (.fn 70 []) [b,i,m] a (oW Q a b c e g))
theorem oX(t0 t1:AV)(L:SH)(Q:R)(h:ii t0 t1 L Q):ai Tryz.prog 67 [t0,t1] L Q:=
 fs [] [] [(0,[3])] [(3,[0,0,2,0,8,24,56,120,255]),(10,[0,1,3,7,0,0,32,96,224,480,1023,2047,4095]),(12,[0,1,3,7,0,0,32,96,224,480,1023,2047,4095]),(15,[0,1,3,7,0,0,32,96,224,480,1023,2047,4095]),(17,[0,1,3,7,0,0,32,96,224,480,1023,2047,4095])] Tryz.func67 h
def rX(Q:R)(a b c d k:AV)(e:SH):Prop:=W.nilchk a λf=>W.faddr 8 f λg=>W.store 1 g d e λh=>W.build [(.W9 0),(.W9 0),(.W9 0),(.W9 0),(.W9 0),(.W9 0)] [(0,1,b),(1,1,c)] λi=>wc (.fn 20 []) [a,i] h λl j=>Q (.tup []) j
def rY(Q:R)(a c d e f h:AV)(b:SH):Prop:=aC 9 e b λg=>wc (.fn 19 []) [a,g] b (rX Q a c d f)
def j5(a d e f b:AV)(L:SH)(Q:R):Prop:=sf d L λg c=>dP 8 a c λh=>W.build [(.W9 0),(.W9 0),(.W9 0),(.W9 0),(.W9 0),(.W9 0)] [(0,1,e),(1,1,b)] λi=>wc (.fn 20 []) [a,i] c (rY Q a f b g h)
theorem rZ(t0 t1 t2 t3 t4:AV)(L:SH)(Q:R)(h:j5 t0 t1 t2 t3 t4 L Q):ai Tryz.prog 68 [t0,t1,t2,t3,t4] L Q:=
 fs [] [] [(0,[6])] [] Tryz.func68 h
def yp(Q:R)(e:Kn)(a:SH)(c b d:AV):Prop:=W.nilchk c λf=>W.faddr 0 f λg=>aC 2 g a λh=>eE 2 0 h b a λi=>wb .eql 9 i d λj=>wk j (Q b a) (wb .add 3 b (.W9 1) λk=>e [c,d,k] a)
def kL(Q:R)(d:Vs)(a:SH)(e:Kn):Prop:=vO 0 1 5 d λb f c=>W.nilchk b λg=>W.faddr 0 g λh=>aC 2 h a λi=>W.len i λj=>wb .lss 3 c j λk=>wk k ((yp Q e a b c f)) (Q (.W9 (-1)) a)
def ms(a b:AV)(L:SH)(Q:R):Prop:=W.loop (kL Q) [a,b,(.W9 0)] L
theorem yq(t0 t1:AV)(L:SH)(Q:R)(h:ms t0 t1 L Q):ai Tryz.prog 69 [t0,t1] L Q:=
 fs [] [(2,[0,1,5])] [] [] Tryz.func69 h
def yr(Q:R)(a:SH)(d:AV)(b:SH)(c:Ns):Prop:=wn [] c [] a.names λe=>Q (.tup []) b
def yu(Q:R)(b:SH)(c d e:AV)(a:SH)(f:Ns):Prop:=wn [] f [] b.names λg=>wd [] 10 (.fn 68 []) [c,d,(.W9 11),(.W9 12),e] a (yr Q a)
def yv(Q:R)(a:SH)(c d:AV):Prop:=(true=true)∧(dr [] 1 11 c a λe b=>W.nilchk d λf=>W.faddr 0 f λg=>aO 1 g [rm 1 b] 6 a λh i=>aO 2 c [rm 6 i,rm 1 b] 8 a λj k=>wd [rm 1 b] 9 (.fn 42 []) [h,j] a (yu Q a d e))
def yw(Q:R)(a:SH)(d:AV)(b:SH)(c:Ns):Prop:=wn [] c [] a.names λe=>Q (.tup []) b
def yx(Q:R)(b:SH)(c d e:AV)(a:SH)(f:Ns):Prop:=wn [] f [] b.names λg=>wd [] 10 (.fn 68 []) [c,d,(.W9 13),(.W9 14),e] a (yw Q a)
def yy(Q:R)(a:SH)(c d:AV):Prop:=(true=true)∧(dr [] 1 11 c a λe b=>W.nilchk d λf=>W.faddr 0 f λg=>aO 1 g [rm 1 b] 6 a λh i=>aO 2 c [rm 6 i,rm 1 b] 8 a λj k=>wd [rm 1 b] 9 (.fn 42 []) [h,j] a (yx Q a d e))
def yz(Q:R)(a:SH)(d:AV)(b:SH)(c:Ns):Prop:=wn [] c [] a.names λe=>Q (.tup []) b
def yA(Q:R)(b:SH)(c d e:AV)(a:SH)(f:Ns):Prop:=wn [] f [] b.names λg=>wd [] 10 (.fn 68 []) [c,d,(.W9 15),(.W9 16),e] a (yz Q a)
def yB(Q:R)(a:SH)(c d:AV):Prop:=(true=true)∧(dr [] 1 11 c a λe b=>W.nilchk d λf=>W.faddr 0 f λg=>aO 1 g [rm 1 b] 6 a λh i=>aO 2 c [rm 6 i,rm 1 b] 8 a λj k=>wd [rm 1 b] 9 (.fn 42 []) [h,j] a (yA Q a d e))
def yC(Q:R)(a b:AV)(c:SH):Prop:=W.build [(.W9 0),(.W9 0),(.W9 0),(.W9 0),(.W9 0),(.W9 0)] [(0,1,(.W9 21)),(1,1,b)] λd=>wc (.fn 20 []) [a,d] c λf e=>Q (.tup []) e
def yD(Q:R)(a b:AV)(c:SH):Prop:=W.build [(.W9 0),(.W9 0),(.W9 0),(.W9 0),(.W9 0),(.W9 0)] [(0,1,(.W9 22)),(1,1,b)] λd=>wc (.fn 20 []) [a,d] c λf e=>Q (.tup []) e
def yE(Q:R)(a b:AV)(c:SH):Prop:=W.build [(.W9 0),(.W9 0),(.W9 0),(.W9 0),(.W9 0),(.W9 0)] [(0,1,(.W9 23)),(1,1,b)] λd=>wc (.fn 20 []) [a,d] c λf e=>Q (.tup []) e
def yF(Q:R)(a:SH)(d:AV)(b:SH)(c:Ns):Prop:=wn [] c [] a.names λe=>Q (.tup []) b
def vf(Q:R)(b:SH)(c d:AV)(a:SH)(e:Ns):Prop:=wn [] e [] b.names λg=>W.build [(.W9 0),(.W9 0),(.W9 0),(.W9 0),(.W9 0),(.W9 0)] [(0,1,(.W9 24)),(1,1,d)] λf=>wd [] 10 (.fn 20 []) [c,f] a (yF Q a)
def yG(Q:R)(a:SH)(b c:AV):Prop:=(true=true)∧(W.nilchk b λd=>W.faddr 0 d λe=>aO 4 e [] 5 a λf g=>aO 2 c [rm 5 g] 7 a λh i=>wd [] 8 (.fn 64 []) [f,h] a (vf Q a b))
def vg(Q:R)(a:SH)(d:AV)(b:SH)(c:Ns):Prop:=wn [] c [] a.names λe=>Q (.tup []) b
def vh(Q:R)(b:SH)(c d:AV)(a:SH)(e:Ns):Prop:=wn [] e [] b.names λg=>W.build [(.W9 0),(.W9 0),(.W9 0),(.W9 0),(.W9 0),(.W9 0)] [(0,1,(.W9 25)),(1,1,d)] λf=>wd [] 10 (.fn 20 []) [c,f] a (vg Q a)
def yH(Q:R)(a:SH)(b c:AV):Prop:=(true=true)∧(W.nilchk b λd=>W.faddr 0 d λe=>aO 4 e [] 5 a λf g=>aO 2 c [rm 5 g] 7 a λh i=>wd [] 8 (.fn 64 []) [f,h] a (vh Q a b))
def vj(Q:R)(a:SH)(d:AV)(b:SH)(c:Ns):Prop:=wn [] c [] a.names λe=>Q (.tup []) b
def vk(Q:R)(b:SH)(c d e:AV)(a:SH)(f:Ns):Prop:=wn [] f [] b.names λh=>W.build [(.W9 0),(.W9 0),(.W9 0),(.W9 0),(.W9 0),(.W9 0)] [(0,1,(.W9 26)),(1,1,e),(2,1,c)] λg=>wd [] 11 (.fn 20 []) [d,g] a (vj Q a)
def vl(Q:R)(b c d j:AV)(a:SH):Prop:=(true=true)∧(W.nilchk b λe=>W.faddr 0 e λf=>aO 3 f [] 5 a λg h=>aO 2 c [rm 5 h] 7 a λi k=>wd [] 8 (.fn 64 []) [g,i] a (vk Q a d b))
def vm(Q:R)(a:SH)(d:AV)(b:SH)(c:Ns):Prop:=wn [] c [] a.names λe=>Q (.tup []) b
def vn(Q:R)(b:SH)(c d e:AV)(a:SH)(f:Ns):Prop:=wn [] f [] b.names λh=>W.build [(.W9 0),(.W9 0),(.W9 0),(.W9 0),(.W9 0),(.W9 0)] [(0,1,(.W9 27)),(1,1,c),(2,1,e)] λg=>wd [] 17 (.fn 20 []) [d,g] a (vm Q a)
def vp(Q:R)(f:SH)(b g:AV)(c d:Fp)(h:AV)(a:SH)(i:Ns):Prop:=wn [] i [] f.names λe=>W.nilchk b λj=>W.faddr 0 j λk=>aO 3 k [rc 7 e,rm 6 c,rm 4 d] 12 a λl m=>aO 3 g [rm 12 m,rc 7 e,rm 6 c,rm 4 d] 14 a λn o=>wd [] 15 (.fn 64 []) [l,n] a (vn Q a h b)
def yI(Q:R)(a:SH)(b c:AV):Prop:=(true=true)∧(W.nilchk b λe=>aO 6 e [] 4 a λf d=>aO 2 c [rm 4 d] 6 a λg h=>wd [] 7 (.fn 64 []) [f,g] a (vp Q a b c h d))
def yJ(Q:R)(a:SH)(d b c e:AV):Prop:=wb .eql 3 d (.W9 14) λf=>wk f (W.faddr 5 b λg=>ca 4 g a λh=>wc (.fn 70 []) [c,h,e] a (vl Q c b e)) (wb .eql 3 d (.W9 15) λi=>wk i ((yI Q a c b)) (Q (.tup []) a))
def yK(Q:R)(a:SH)(b c d e:AV):Prop:=wb .eql 3 b (.W9 12) λf=>wk f ((yG Q a c d)) (wb .eql 3 b (.W9 13) λg=>wk g ((yH Q a c d)) ((yJ Q a b d c e)))
def yL(Q:R)(a:SH)(c d b e:AV):Prop:=wb .eql 3 c (.W9 11) λf=>wk f (aC 2 d a λg=>wc (.fn 69 []) [b,g] a (yE Q b)) ((yK Q a c b d e))
def yM(Q:R)(a:SH)(c d b e:AV):Prop:=wb .eql 3 c (.W9 10) λf=>wk f (aC 2 d a λg=>wc (.fn 69 []) [b,g] a (yD Q b)) ((yL Q a c d b e))
def vq(Q:R)(a:SH)(c d b e:AV):Prop:=wb .eql 3 c (.W9 9) λf=>wk f (aC 2 d a λg=>wc (.fn 69 []) [b,g] a (yC Q b)) ((yM Q a c d b e))
def vt(Q:R)(a:SH)(b c d e:AV):Prop:=wb .eql 3 b (.W9 8) λf=>wk f (ca 11 c a λg=>wc (.fn 68 []) [d,g,(.W9 19),(.W9 20),(.W9 0)] a λi h=>Q (.tup []) h) ((vq Q a b c d e))
def vu(Q:R)(a:SH)(b c d e:AV):Prop:=wb .eql 3 b (.W9 7) λf=>wk f (ca 11 c a λg=>wc (.fn 68 []) [d,g,(.W9 17),(.W9 18),(.W9 0)] a λi h=>Q (.tup []) h) ((vt Q a b c d e))
def vv(Q:R)(a:SH)(b c d e:AV):Prop:=wb .eql 3 b (.W9 5) λf=>wk f ((yy Q a c d)) (wb .eql 3 b (.W9 6) λg=>wk g ((yB Q a c d)) ((vu Q a b c d e)))
def vw(Q:R)(e:Vs)(a:SH):Prop:=He 0 3 4 25 31 e λb c f d g=>wk g (ca 11 c a λh=>wc (.fn 67 []) [b,h] a λk i=>Q (.tup []) i) (wb .eql 3 d (.W9 4) λj=>wk j ((yv Q a c b)) ((vv Q a d c b f)))
def vx(Q:R)(b:SH)(c a d e:AV):Prop:=W.join (vw Q) λf=>wb .eql 3 a (.W9 2) λg=>wk g (f [c,d,e,a,g] b) (wb .eql 3 a (.W9 3) λh=>f [c,d,e,a,h] b)
def mt(a g:AV)(L:SH)(Q:R):Prop:=sf g L λc d=>dP 9 a d λh=>W.nilchk a λi=>W.faddr 8 i λj=>W.store 1 j h d λe=>dP 9 a e λk=>wb .add 3 k (.W9 1) λl=>W.nilchk a λm=>W.faddr 9 m λn=>W.store 1 n l e λb=>dP 6 a b λo=>W.len o λp=>aC 0 c b λf=>wb .eql 3 f (.W9 1) λq=>wk q (ca 11 c b λr=>wc (.fn 66 []) [a,r] b λt s=>Q (.tup []) s) ((vx Q b a f c p))
theorem yN(t0 t1:AV)(L:SH)(Q:R)(h:mt t0 t1 L Q):ai Tryz.prog 44 [t0,t1] L Q:=
 fs [(8,[0,3,4,25,31])] [] [(0,[3])] [(11,[0,0,0,4,12,28,60,0,128,508,1023]),(13,[0,0,0,4,12,28,60,0,128,508,1023]),(15,[0,0,0,4,12,28,60,0,128,508,1023]),(27,[0,0,2,6,14,30,0,64,254,510,1023]),(29,[0,0,2,6,14,30,0,64,254,510,1023]),(32,[0,0,2,6,14,30,0,64,254,0,1022,2047]),(34,[0,0,2,6,14,0,32,126,0,256,768,1792,3840,0,8192,32766,65534,131071])] Tryz.func44 h
def vy(a:Kn)(b c d g:AV)(e:SH):Prop:=wb .add 3 b (.W9 1) λf=>a [c,d,f] e
def j6(Q:R)(e:Vs)(a:SH)(f:Kn):Prop:=vO 0 1 4 e λd b c=>W.len b λg=>wb .lss 3 c g λh=>wk h (lE 11 b c a λi=>wc (.fn 44 []) [d,i] a (vy f c d b)) (Q (.tup []) a)
def kM(a b:AV)(L:SH)(Q:R):Prop:=W.loop (j6 Q) [a,b,(.W9 0)] L
theorem vz(t0 t1:AV)(L:SH)(Q:R)(h:kM t0 t1 L Q):ai Tryz.prog 19 [t0,t1] L Q:=
 fs [] [(1,[0,1,4])] [] [] Tryz.func19 h
def AA(Q:R)(c:SH)(a d e:AV):Prop:=W.build [.nils,.nils,.nils,.nils,.nils,.nils,.nils] [] λf=>W.store 7 a f c λb=>W.load true 7 a b λg=>Q (.tup [g,d,e]) b
def AB(f:Kn)(a:SH)(b c d g h i j k l m:AV):Prop:=(true=true)∧(aO 0 b [] 1 a λn e=>di [rm 1 e] 4 1 c d a λo v=>dl [rm 1 e] 5 o a λp w=>wb .add 3 p (.W9 1) λq=>W.mnx true n q λr=>W.faddr 0 b λs=>ds [] 9 1 s r a λt x=>wb .add 3 d (.W9 1) λu=>f [g,h,i,j,k,l,b,m,c,u] t)
def gR(l:Kn)(m:Vs)(a:SH)(n:Kn):Prop:=Pw 1 2 7 8 9 10 11 12 13 14 m λb c d e f g h i j k=>W.len j λo=>wb .lss 3 k o λp=>wk p ((AB n a h j k b c d e f g i)) (wb .add 3 i (.W9 1) λq=>l [b,c,d,e,f,g,h,q] a)
def AC(a:Kn)(b c d e f g h i j:AV)(k:SH):Prop:=W.loop (gR a) [b,c,d,e,f,g,h,i,j,(.W9 0)] k
def gS(c:Kn)(a:SH)(b d e f g h:AV):Prop:=aC 6 b a λi=>ca 2 d a λj=>W.bslice 2 [(.W9 0),.nils] 1 [(0,j)] a λk l=>W.append 2 32 i k l λm n=>W.faddr 6 b λo=>W.store 1 o m n λp=>wb .add 3 e (.W9 1) λq=>c [f,g,b,h,q] p
def gT(j:Kn)(k:Vs)(a:SH)(l:Kn):Prop:=RB 1 2 7 8 9 10 11 12 k λd e f g h b i c=>dP 7 b a λm=>W.len m λn=>wb .lss 3 c n λo=>wk o (dP 7 b a λp=>lE 6 p c a λq=>wc (.fn 21 []) [q] a (AC l d e f g h b i c)) ((gS j a f i h d e g))
def AD(e:Kn)(a f g h i j t:AV)(b:SH):Prop:=(true=true)∧(W.nilchk a λk=>aO 6 k [] 3 b λl d=>W.len l λm=>W.nilchk a λn=>aO 7 n [rm 3 d] 8 b λo p=>W.build [(.W9 0),.nils] [(0,1,m),(1,1,o)] λq=>W.calm [rm 8 p,rm 3 d] ⟨10,[],[],[],false,[]⟩ (W.alloc [(.W9 0),.nils] b λc r=>wn [] [] (aa c) [] λu=>ds [] 11 2 c q r λs v=>W.loop (gT e) [f,g,h,i,j,a,c,(.W9 0)] s))
def AE(c:Kn)(a d e f g m:AV)(b:SH):Prop:=dP 9 a b λh=>W.nilchk a λi=>W.faddr 8 i λj=>W.store 1 j (.W9 (-1)) b λk=>W.build [(.W9 0),(.W9 0),(.W9 0),(.W9 0),(.W9 0),(.W9 0)] [(0,1,(.W9 28))] λl=>wc (.fn 20 []) [a,l] k (AD c a d e f h g)
def gU(h:Kn)(a:SH)(g b c i j:AV):Prop:=(true=true)∧(W.faddr 0 g λk=>dr [] 1 6 k a λl d=>aO 1 b [rm 1 d] 3 a λm s=>di [rm 1 d] 5 4 m c a λn t=>aO 2 n [rm 1 d] 7 a λo u=>W.build [.nils,.nils,.nils,.nils,.nils,.nils,.nils,.nils,(.W9 0),(.W9 0)] [(0,6,l),(6,1,o),(9,1,i)] λp=>W.calm [] ⟨10,[],[],[],false,[]⟩ (W.box p a λe f=>wn [] [] (aa e) [] λv=>aC 1 b f λq=>eE 4 3 q c f λr=>wc (.fn 19 []) [e,r] f (AE h e b j g c)))
def mu(Q:R)(g:Vs)(a:SH)(h:Kn):Prop:=He 1 2 7 8 9 g λc b d i e=>aC 1 c a λj=>W.len j λk=>wb .lss 3 e k λl=>wk l ((gU h a d c e i b)) (ca 7 d a λm=>W.store 7 b m a λf=>W.load true 7 b f λn=>Q (.tup [n,(.W9 0),(.W9 0)]) f)
def AF(Q:R)(b c d:AV)(e:SH):Prop:=W.build [.nils,.nils,.nils,.nils,.nils,.nils,.nils] [(0,6,d)] λf=>W.alloc [.nils,.nils,.nils,.nils,.nils,.nils,.nils] e λa g=>W.store 7 a f g λh=>W.loop (mu Q) [b,c,a,(.W9 0),(.W9 0)] h
def AG(Q:R)(b c d:AV)(a:SH):Prop:=W.ext 0 d λe=>W.ext 1 d λf=>wb .neq 59 e (.W9 0) λg=>wk g ((AA Q a b e f)) (ca 2 c a λh=>wc (.fn 18 []) [h] a (AF Q c b))
def nY(c:AV)(L:SH)(Q:R):Prop:=W.box c L λd e=>W.alloc [.nils,.nils,.nils,.nils,.nils,.nils,.nils] e λf g=>W.frz1 d g λa b=>ca 2 a b λh=>wc (.fn 17 []) [h] b (AG Q f a)
theorem AH(t0:AV)(L:SH)(Q:R)(h:nY t0 L Q):ai Tryz.prog 11 [t0] L Q:=
 fs [] [(20,[1,2,7,8,9,10,11,12,13,14]),(16,[1,2,7,8,9,10,11,12]),(7,[1,2,7,8,9])] [(0,[1])] [(9,[0,1,0,4,0,28,60,124,0,511,1023,2047]),(14,[0,1,3,7,15,0,32,96,224,511,0,2047]),(22,[0,1,0,0,12,28,60,127,255,511])] Tryz.func11 h
end
section
set_option maxRecDepth 100000
theorem Mn(l:List cb)(s:bj)(hl:l.length<2^62):aB Tryz.prog 42 [.lst (l.map cb.enc),.str s] (.W9 (fV l s)):=by
 refine nV _ _ _ _ ?_;unfold jW;refine fp l (λx=>decide (x.name=s)) (λi=>[.lst (l.map cb.enc),.str s,.W9 i]) hl rfl (λi h1 hd hi hno nx hn=>?_) (λi h1 hd hno nx=>?_)
 all_goals unfold fx
 ·have hx:=az (f:=cb.enc) h1
  repeat' (first|refine st ?_|refine sb λnb_ hnb_=>?_|refine s2 (λh=>?_) λh=>?_|fail)
  ·exact⟨by rw[fV,pr h1 hno h],rfl⟩
  ·exact hn h
 ·repeat' (first|refine st ?_|refine sb λnb_ hnb_=>?_|refine s2 (λh=>?_) λh=>?_|fail)
  exact⟨by rw[fV,gL hno],rfl⟩
theorem FZ(w:aN)(s:bj)(hl:w.cells.length<2^62):aB Tryz.prog 105 [.agg w.enc,.str s] (.W9 (w6 w.cells s)):=by
 refine Cn _ _ _ _ ?_;unfold qf;refine Gs ?_;refine fp w.cells (λx=>decide (x.name=s)) (λi=>[.str s,.pptr [w.enc] 0 0,.W9 i]) hl rfl (λi h1 hd hi hno nx hn=>?_) (λi h1 hd hno nx=>?_)
 all_goals unfold nW
 ·have hx:=az (f:=bb.enc) h1
  repeat' (first|refine st ?_|refine sb λnb_ hnb_=>?_|refine s2 (λh=>?_) λh=>?_|fail)
  ·exact⟨by rw[w6,pr h1 hno h],rfl⟩
  ·exact hn h
 ·repeat' (first|refine st ?_|refine sb λnb_ hnb_=>?_|refine s2 (λh=>?_) λh=>?_|fail)
  exact⟨by rw[w6,gL hno],rfl⟩
end
section
set_option maxRecDepth 100000
set_option maxHeartbeats 2000000
def gm(w:aN)(loc:List bj)(v:AV)(site next:Int):Blk:=⟨10,[[.lst (w.cells.map bb.enc),.lst (w.locks.map cb.enc),.lst (w.conds.map cX.enc),.lst (w.futures.map aw),.lst (w.threads.map aw),.lst (w.sites.map cM.enc),.lst (loc.map aw),v,.W9 site,.W9 next]]⟩
def bn.at_(i:bn)(s:Int):bn:={i with site:=s}
theorem Sx(bg:Nat)(w:aN)(loc:List bj)(o:Option Nat)(out:List bn)(site next:Int)(i:bn)(h0:o=none→out=[])(hl:out.length<2^30):
  ai Tryz.prog 20 [.ptr bg 0 0,.agg i.enc] ((bg,gm w loc (aq o out.length) site next)::ah o 6 (out.map bn.enc)) λu K=>∃(v:AV) (b:Nat),u=v∧v=.tup []∧K=(bg,gm w loc (aq (some b) (out.length+1)) site next)::ah (some b) 6 ((out++[i.at_ site]).map bn.enc):=by
 refine ai.fz (Az _ _ _ _ ?_);unfold nX;generalize hQ:(λ(v:AV) (L:SH)=>∃v2 L2,aI [v] L [v2] L2∧∃(v:AV) (b:Nat),v2=v∧v=AV.tup []∧L2=(bg,gm w loc (aq (some b) (out.length+1)) site next)::ah (some b) 6 ((out++[i.at_ site]).map bn.enc))=Q;have hq:∀(b:Nat) (L:SH),gI L ((bg,gm w loc (aq (some b) (out.length+1)) site next)::ah (some b) 6 (out.map bn.enc++[(i.at_ site).enc]))→Q (.tup []) L:=λb L h=>by subst hQ;refine⟨_,_,aI.pickE h rfl (R2:=(bg,gm w loc (aq (some b) (out.length+1)) site next)::ah (some b) 6 ((out++[i.at_ site]).map bn.enc)) (by rw[Vr];rfl),_,b,rfl,rfl,rfl⟩
 clear hQ;unfold gm at *
 repeat' (first|refine st ?_|refine cy rp rp W7 (λe=>by first|simp[h0 e]) W6 W7 (by simp;omega) (by simp;omega) W6 (λnb_ hnb_=>?_)|refine sb λnb_ hnb_=>?_|refine s2 (λh=>?_) λh=>?_|fail)
 cases i;exact hq nb_ _ (.one (.there _ (.there _ (.there _ (.here _)))) (.one (.here _) (.nil _)))
section
variable {bg:Nat} {w:aN} {loc:List bj} {o:Option Nat} {out:List bn} {site next:Int} {L L1 L2:SH}
theorem Sy{i:bn}{KL:R}(h1:eN bg (gm w loc (aq o out.length) site next) L L1)(h2:dQ o 6 (out.map bn.enc) L1 L2)(h0:o=none→out=[])(hl:out.length<2^30)
  (hq:∀b:Nat,KL (.tup []) ((bg,gm w loc (aq (some b) (out++[i.at_ site]).length) site next)::(L2++ah (some b) 6 ((out++[i.at_ site]).map bn.enc)))):W.callM Tryz.prog 20 [.ptr bg 0 0,.agg i.enc] L KL:=by
 refine xM (M:=L2) (Sx bg w loc o out site next i h0 hl) (h1.perm.trans (h2.perm.cons _)) ?_;rintro _ _ ⟨v,b,rfl,rfl,rfl⟩;refine⟨_,.cons _ VT,?_⟩;have:=hq b;rw[Vy]at this;exact this
end
end
section
set_option maxRecDepth 100000
set_option maxHeartbeats 4000000
theorem an{P:Prop}(h:P:=by first|assumption|exact nofun|fail):P:=h
theorem om{P:Prop}(h:P:=by omega):P:=h
def mv(f:FuncId)(args:List AV)(w:aN)(loc:List bj)(k:Nat):Prop:=∀(bg:Nat) (o:Option Nat) (out:List bn) (site next:Int),(o=none→out=[])→out.length+k<2^30→
 ai Tryz.prog f (.ptr bg 0 0::args) ((bg,gm w loc (aq o out.length) site next)::ah o 6 (out.map bn.enc)) λu K=>∃(o':Option Nat) (out':List bn) (site' next':Int),u=.tup []∧(o'=none→out'=[])∧out.length≤out'.length∧out'.length≤out.length+k∧K=(bg,gm w loc (aq o' out'.length) site' next')::ah o' 6 (out'.map bn.enc)
section
variable {f:FuncId} {args:List AV} {w:aN} {loc:List bj} {k m bg:Nat} {o:Option Nat} {out:List bn} {site next:Int} {L L1 L2:SH} {KL:R}
theorem db(h:mv f args w loc k)(h1:eN bg (gm w loc (aq o m) site next) L L1)(h2:dQ o 6 (out.map bn.enc) L1 L2)(hm:m=out.length)(h0:o=none→out=[])(hl:out.length+k<2^30)
  (hq:∀(o':Option Nat) (out':List bn) (site' next':Int),(o'=none→out'=[])→out.length≤out'.length→out'.length≤out.length+k→KL (.tup []) ((bg,gm w loc (aq o' out'.length) site' next')::(L2++ah o' 6 (out'.map bn.enc)))):W.callM Tryz.prog f (.ptr bg 0 0::args) L KL:=by
 subst hm;refine xM (M:=L2) (h bg o out site next h0 hl) (h1.perm.trans (h2.perm.cons _)) ?_;rintro _ _ ⟨o',out',s',n',rfl,h3,h4,h5,rfl⟩;exact⟨_,.cons _ VT,hq o' out' s' n' h3 h4 h5⟩
theorem qi{b:Nat}(h:mv f args w loc k)(h1:eN bg (gm w loc (aq (some b) m) site next) L L1)(h2:dQ (some b) 6 (out.map bn.enc) L1 L2)(hm:m=out.length)(hp:0<out.length)(hl:out.length+k<2^30)
  (hq:∀(b':Nat) (out':List bn) (site' next':Int),out.length≤out'.length→out'.length≤out.length+k→KL (.tup []) ((bg,gm w loc (aq (some b') out'.length) site' next')::(L2++ah (some b') 6 (out'.map bn.enc)))):W.callM Tryz.prog f (.ptr bg 0 0::args) L KL:=by
 refine db h h1 h2 hm nofun hl λo' out' s' n' h3 h4 h5=>?_
 rcases o' with _|b'
 ·have:=h3 rfl;subst this;have h6:out.length≤0:=h4;omega
 ·exact hq b' out' s' n' h4 h5
theorem dD{a0 a1 a2 a3 a4 a5:Int}(h1:eN bg (gm w loc (aq o m) site next) L L1)(h2:dQ o 6 (out.map bn.enc) L1 L2)(hm:m=out.length)(h0:o=none→out=[])(hl:out.length<2^30)
  (hq:∀(b:Nat) (out':List bn),out'.length=out.length+1→KL (.tup []) ((bg,gm w loc (aq (some b) out'.length) site next)::(L2++ah (some b) 6 (out'.map bn.enc)))):W.callM Tryz.prog 20 [.ptr bg 0 0,.agg [.W9 a0,.W9 a1,.W9 a2,.W9 a3,.W9 a4,.W9 a5]] L KL:=by
 subst hm;exact Sy (i:=⟨a0,a1,a2,a3,a4,a5⟩) h1 h2 h0 hl λb=>hq b _ W7
theorem AI{Q:R}
  (hQ:(λ(v:AV) (L:SH)=>∃v2 L2,aI [v] L [v2] L2∧∃(o':Option Nat) (out':List bn) (site' next':Int),v2=.tup []∧(o'=none→out'=[])∧out.length≤out'.length∧out'.length≤out.length+k∧L2=(bg,gm w loc (aq o' out'.length) site' next')::ah o' 6 (out'.map bn.enc))=Q)
  (o':Option Nat) (out':List bn) (site' next':Int) (j:Nat) (L:SH) (h:gI L ((bg,gm w loc (aq o' j) site' next')::ah o' 6 (out'.map bn.enc))) (hj:j=out'.length) (hn:o'=none→out'=[]) (h1:out.length≤out'.length) (h2:out'.length≤out.length+k):Q (.tup []) L:=by
 subst hQ hj;exact⟨_,_,aI.pick h rfl,o',out',site',next',rfl,hn,h1,h2,rfl⟩
theorem mv.mono{k2:Nat}(h:mv f args w loc k)(hk:k≤k2):mv f args w loc k2:=λbg o out site next h0 hl=>(h bg o out site next h0 W4).mono λu K ⟨o',out',s',n',a,b,c,d,e⟩=>⟨o',out',s',n',a,b,c,W4,e⟩
theorem G9{K:AV→Prop}(h:K (.W9 (out.length:Int)))(h0:o=none→out=[]:=by assumption):W.len (aq o out.length) K:=Cs h λe=>by rw[h0 e];rfl
end
theorem Sz{op:Int}{name:bj}{n:Nat}(h:Df op name n+z0 op<2^50):op≠0∧(n=0→op=1∨op=2)∧(op=3→name=[113]):=by
 unfold Df z0 z3 at h;refine⟨λe=>?_,λe=>?_,λe=>?_⟩
 ·rw[if_pos e]at h;omega
 ·rw[if_pos e]at h;by_cases g:op=0∨op=1∨op=2
  ·rcases g with g|g|g
   ·rw[if_pos g]at h;omega
   ·exact .inl g
   ·exact .inr g
  ·rw[if_neg g]at h;omega
 ·by_cases g:name=[113]
  ·exact g
  ·rw[if_neg g,if_pos e]at h;omega
theorem P9:∀(l:List au) (h:1<l.length),(l[0]'W4).wt+l[1].wt≤au.wts l
 |x::y::l,_=>by simp only[au.wts,List.getElem_cons_zero,List.getElem_cons_succ];omega
structure WQ(w:aN):Prop where
 c:w.cells.length<2^40
 l:w.locks.length<2^40
 d:w.conds.length<2^40
 f:w.futures.length<2^40
 t:w.threads.length<2^40
 q:∃b:Nat,b<w.cells.length∧w6 w.cells [113]=b
section
variable {w:aN} {loc:List bj} (hw:WQ w) (hlo:loc.length<2^40)
include hw hlo
theorem Cx:∀(n:Nat) (e:au) (d:Int),e.wt+z0 e.op≤n→n<2^29→mv 70 [.agg e.row,.W9 d] w loc e.wt:=by
 intro n
 induction n using Nat.strongRecOn with
 |_ n ih=>
 intro e d hn hn2 bg o out site next h0 hl
 have hwe:=e.wt_eq;have kids:∀(i:Nat) (h:i<e.l.length) (d:Int),mv 70 [.agg e.l[i].row,.W9 d] w loc e.l[i].wt:=λi h d=>ih _ (by have:=au.wts_get0 e.l i h;omega) e.l[i] d (Vo _) (by have:=au.wts_get0 e.l i h;omega)
 have kw:=au.wts_get0 e.l;have kw2:=P9 e.l;have hx:=λ(i:Nat) (h:i<e.l.length)=>De h;obtain⟨b1,b2,b3⟩:=Sz (op:=e.op) (name:=e.name) (n:=e.l.length) W4;have ha:=IX loc e.name W4;have hc:=FZ w e.name (by have:=hw.c;omega);refine ai.fz (vd _ _ _ _ _ ?_);unfold kK;generalize hQ:(λ(v:AV) (L:SH)=>∃v2 L2,aI [v] L [v2] L2∧∃(o':Option Nat) (out':List bn) (site' next':Int),_)=Q;have fin:=AI hQ;clear hQ;unfold au.row;clear ih hn;generalize e.l=l at *;generalize e.op=op at *;generalize e.name=name at *;by_cases p1:op=1
 ·subst p1
  repeat' (first|refine st ?_|((with_reducible refine aZ 20 ?_);(refine dD rp rp om an om (λb_ out_ hl_=>?_)))|refine sb λnb_ hnb_=>?_|refine s2 (λh=>?_) λh=>?_|fail)
  exact fin _ _ _ _ _ _ (.one (.here _) (.slotl .last)) om an om om
 by_cases p2:op=2
 ·subst p2
  repeat' (first|refine st ?_|((with_reducible refine aZ 20 ?_);(refine dD rp rp om an om (λb_ out_ hl_=>?_)))|((with_reducible refine ef 20 ?_);refine ng ?_;refine dD rp rp om an om (λb_ out_ hl_ ks_=>?_))|(refine pf 64 ?_;refine pm (ha) ?_)|(refine pf 105 ?_;refine pm (hc) ?_)|refine sb λnb_ hnb_=>?_|refine s2 (λh=>?_) λh=>?_|fail)
  all_goals exact fin _ _ _ _ _ _ (.one (.here _) (.slotl .last)) om an om om
 have d1:decide (op=1)=false:=decide_eq_false p1;have d2:decide (op=2)=false:=decide_eq_false p2;have hl0:0<l.length:=by
  rcases Wi l.length with h|h
  ·rcases b2 h with h|h
   ·exact absurd h p1
   ·exact absurd h p2
  ·exact h
 have k0:=kids 0 hl0;have x0:=hx 0 hl0;have g0:=kw 0 hl0;by_cases p3:op=3
 ·subst p3;obtain⟨b,hb,hcb⟩:=hw.q;rw[b3 rfl,hcb]at hc;have e3:=b3 rfl;subst e3;have hxc:=az (f:=bb.enc) hb;clear kids kw kw2 hx b1 b2 b3;generalize l[0]=a at *
  repeat' (first|refine st ?_|((with_reducible refine aZ 70 ?_);(refine db (k0 _) rp rp om an om (λo_ out_ s_ n_ ho_ hl_ hm_=>?_)))|(refine pf 105 ?_;refine pm (hc) ?_)|((with_reducible refine aZ 20 ?_);(refine dD rp rp om an om (λb_ out_ hl_=>?_)))|refine sb λnb_ hnb_=>?_|refine s2 (λh=>?_) λh=>?_|fail)
  exact fin _ _ _ _ _ _ (.one (.here _) (.slotl .last)) om an om om
 have d3:decide (op=3)=false:=decide_eq_false p3;by_cases p4:l.length=1
 ·have d4:decide ((l.length:Int)=1)=true:=decide_eq_true W4;clear kids kw kw2 hx b1 b2 b3;generalize l[0]=a at *
  repeat' (first|refine st ?_|((with_reducible refine aZ 70 ?_);(refine db (k0 _) rp rp om an om (λo_ out_ s_ n_ ho_ hl_ hm_=>?_)))|((with_reducible refine aZ 20 ?_);(refine dD rp rp om an om (λb_ out_ hl_=>?_)))|refine sb λnb_ hnb_=>?_|refine s2 (λh=>?_) λh=>?_|fail)
  exact fin _ _ _ _ _ _ (.one (.here _) (.slotl .last)) om an om om
 ·have d4:decide ((l.length:Int)=1)=false:=decide_eq_false W4;have hl1:1<l.length:=by omega
  have k1:=kids 1 hl1;have x1:=hx 1 hl1;have g1:=kw2 hl1;clear kids kw kw2 hx b1 b2 b3;generalize l[0]=a at *;generalize l[1]=c at *
  repeat' (first|refine st ?_|((with_reducible refine aZ 70 ?_);(refine db (k0 _) rp rp om an om (λo_ out_ s_ n_ ho_ hl_ hm_=>?_)))|((with_reducible refine aZ 70 ?_);(refine db (k1 _) rp rp om an om (λo_ out_ s_ n_ ho_ hl_ hm_=>?_)))|((with_reducible refine aZ 20 ?_);(refine dD rp rp om an om (λb_ out_ hl_=>?_)))|refine sb λnb_ hnb_=>?_|refine s2 (λh=>?_) λh=>?_|fail)
  exact fin _ _ _ _ _ _ (.one (.here _) (.slotl .last)) om an om om
end
end
end Go.Proofs.YtenbpcngcicamaaGreatDoor.Am
