/- A part of the proof; the statement is proved in the last part. -/
import Derived.Test.YtenbpcngcicamaaGreatDoorQbu
set_option linter.unusedSimpArgs false
set_option linter.unusedVariables false
namespace Go.Proofs.YtenbpcngcicamaaGreatDoor.Am
section
set_option maxRecDepth 1000000
theorem Mt:az Tryz.prog 10 [] (.bool true):=.of_ok (fI (n:=2000) (d:=50) Uz (by kernel_rfl) (by kernel_rfl))
end
section
set_option maxRecDepth 100000
set_option maxHeartbeats 2000000
theorem P6(t s:List UInt8):az Tryz.prog 5 [.lst (t.map fk),.lst (s.map fk)] (.bool (decide (200<t.length)||decide (100<s.length))):=by
 refine Fj _ _ _ _ ?_;unfold xM;by_cases p1:200<t.length
 ·have d1:decide ((t.length:Int) > 200)=true:=decide_eq_true W1
  repeat' (first|refine st ?_|refine sb λnb_ hnb_=>?_|refine s2 (λh=>?_) λh=>?_|fail)
  exact⟨by rw[decide_eq_true p1];rfl,rfl⟩
 ·have d1:decide ((t.length:Int) > 200)=false:=decide_eq_false W1;by_cases p2:100<s.length
  ·have d2:decide ((s.length:Int) > 100)=true:=decide_eq_true W1
   repeat' (first|refine st ?_|refine sb λnb_ hnb_=>?_|refine s2 (λh=>?_) λh=>?_|fail)
   exact⟨by rw[decide_eq_false p1,decide_eq_true p2];exact congrArg AV.bool d2,rfl⟩
  ·have d2:decide ((s.length:Int) > 100)=false:=decide_eq_false W1
   repeat' (first|refine st ?_|refine sb λnb_ hnb_=>?_|refine s2 (λh=>?_) λh=>?_|fail)
   exact⟨by rw[decide_eq_false p1,decide_eq_false p2];exact congrArg AV.bool d2,rfl⟩
theorem Jc(t s:List UInt8)(b:UInt8)(hc:t.length<2^40→∃c:bN,az Tryz.prog 6 [.lst (t.map fk)] (.agg c.enc)∧∀x∈c.ts,x.ins.length<2^40):az Tryz.prog 3 [.lst (t.map fk),.lst (s.map fk),.int .u8 (b.toNat:Int)] (.bool true):=by
 have hlong:=P6 t s;refine af.fz (p7 _ _ _ _ _ ?_);unfold iG;generalize hQ:(λ(v:AV) (L:SH)=>∃v2 L2,aG [v] L [v2] L2∧v2=AV.bool true∧L2=[])=Q;have hq:∀L,Q (.bool true) L:=λL=>by subst hQ;exact⟨_,[],aG.all (.refl _),rfl,rfl⟩
 clear hQ;by_cases hl:200<t.length∨100<s.length
 ·rw[show(decide (200<t.length)||decide (100<s.length))=true by simpa using hl]at hlong
  repeat' (first|refine st ?_|(refine pf 5 ?_;refine pm (hlong) ?_)|refine sb λnb_ hnb_=>?_|refine s2 (λh=>?_) λh=>?_|fail)
  exact hq _
 ·rw[show(decide (200<t.length)||decide (100<s.length))=false by simpa using hl]at hlong;obtain⟨c,hcode,hins⟩:=hc W1;have hch:=I7 s W1;have haw:=Mt;generalize hcl:s.map Mq=l at *;have hll:l.length≤100:=by rw[←hcl];simp;omega
  have hce:c.enc=[.lst (c.w.cells.map aY.enc),.lst (c.w.locks.map bZ.enc),.lst (c.w.conds.map cS.enc),.lst (c.w.futures.map au),.lst (c.w.threads.map au),.lst (c.w.sites.map cI.enc),.lst (c.ts.map iy.enc)]:=rfl;have main:∀k:Nat,k≤l.length→∀L,eG Q [.pptr [c.enc] 0 0,.lst (l.map cU.enc),.int .i64 (k:Int)] L:=by
   intro k hk L;have hr1:=Lp c hins l W1;have hr2:=Lp c hins (l.take k) (by simp;omega);obtain⟨r,hr⟩:=J9 c l k;obtain⟨s1,s2⟩:=F1 c hins (l.take k);have s3:=(F1 c hins l).2;generalize oE c l=r1 at *;generalize oE c (l.take k)=r2 at *;obtain⟨⟨w1,ev1⟩,st1⟩:=r1;obtain⟨⟨w2,ev2⟩,st2⟩:=r2;dsimp only at *;subst hr;have hs:=Ka ev2 s1 W1;have d1:decide ((ev2.length:Int)≤(ev2++r).length)=true:=decide_eq_true (by simp;omega);unfold eG;unfold D8.enc at hr1 hr2;have hse:∀s:eh,s.enc=[.lst (s.sync.locks.map LockD.enc),.int .i64 s.sync.tx,.lst (s.sync.done.map aT),.lst (s.sync.threads.map ThrD.enc),.lst (s.cells.map aj),.lst (s.futures.map aj),.lst (s.threads.map aV.enc)]:=λ_=>rfl
   rw[hse]at hr1 hr2;rw[hce]at *;dsimp only at hr1 hr2;have sl1:∀(L:SH) (K:AV→Prop),K (.lst ((l.take k).map cU.enc))→W.slice 2 (.lst (l.map cU.enc)) none (some (.int .i64 (k:Int))) none L K:=λL K h=>by
    refine zd (l:=0) (h:=k) rfl (by simp[cq,jX]) (VX _) (by simpa using hk) (λr hr=>?_) ?_
    ·cases l with
     |nil=>simp at hr
     |cons x l=>simp at hr;rw[←hr];rfl
    ·rw[List.drop_zero,Nat.sub_zero,←List.map_take];exact h
   have sl2:∀(L:SH) (K:AV→Prop),K (.lst (ev2.map da.enc))→W.slice 7 (.lst ((ev2++r).map da.enc)) none (some (.int .i64 (ev2.length:Int))) none L K:=λL K h=>by
    refine zd (l:=0) (h:=ev2.length) rfl (by simp[cq,jX]) (VX _) W4 (λx hx=>?_) ?_
    ·rcases hev:ev2++r with _|⟨y,l2⟩
     ·rw[hev]at hx;simp at hx
     ·rw[hev]at hx;simp at hx;rw[←hx];rfl
    ·rw[List.drop_zero,Nat.sub_zero,←List.map_take,List.take_left' rfl];exact h
   have len1:∀(K:AV→Prop),K (.int .i64 ((ev2++r).length:Int))→W.len (.lst ((ev2++r).map da.enc)) K:=λK h=>by have:=KT (rows:=(ev2++r).map da.enc) (K:=K) (by rw[Wq];exact h);exact this
   generalize(ev2++r).map da.enc=E at *
   repeat' (first|refine len1 _ ?_|refine st ?_|(refine pf 8 ?_;refine pm (hr1) ?_)|(refine pf 8 ?_;refine pm (hr2) ?_)|(refine pf 9 ?_;refine pm (hs) ?_)|(refine pf 10 ?_;refine pm (haw) ?_)|refine sl1 _ _ ?_|refine sl2 _ _ ?_|refine sb λnb_ hnb_=>?_|refine s2 (λh=>?_) λh=>?_|fail)
   exact hq _
  rw[hce]at *;by_cases h0:l.length=0
  ·have d1:decide ((l.length:Int) > 0)=false:=decide_eq_false W1;have m0:=main 0 (VX _)
   repeat' (first|exact m0 _|refine st ?_|(refine pf 5 ?_;refine pm (hlong) ?_)|(refine pf 6 ?_;refine pm (hcode) ?_)|(refine pf 7 ?_;refine pm (hch) ?_)|refine sb λnb_ hnb_=>?_|refine s2 (λh=>?_) λh=>?_|fail)
  ·have d1:decide ((l.length:Int) > 0)=true:=decide_eq_true W1;have hb:(b.toNat:Int)<256:=by have:=b.toNat_lt;omega
   have w1:IntKind.i64.wrap (b.toNat:Int)=(b.toNat:Int):=V9 _ W1;have hn0:(l.length:Int)≠0:=by omega
   have e1:(IntKind.i64.wrap (b.toNat:Int)).tmod (l.length:Int)=((b.toNat % l.length:Nat):Int):=by rw[w1,Int.tmod_eq_emod_of_nonneg W1];rfl
   have m1:=main (b.toNat % l.length) (Nat.le_of_lt (Nat.mod_lt _ W1));rw[←e1]at m1
   repeat' (first|exact m1 _|refine st ?_|(refine pf 5 ?_;refine pm (hlong) ?_)|(refine pf 6 ?_;refine pm (hcode) ?_)|(refine pf 7 ?_;refine pm (hch) ?_)|refine lH (KM hn0 ?_)|refine sb λnb_ hnb_=>?_|refine s2 (λh=>?_) λh=>?_|fail)
end
section
set_option maxRecDepth 100000
def fq(Q:R)(e:Vs)(a:SH)(f:Kn):Prop:=sg 0 1 5 e λc d b=>W.len c λg=>wb .lss 3 b g λh=>wk h (eW 2 0 c b a λi=>wb .eql 9 i d λj=>wk j (Q b a) (wb .add 3 b (.W6 1) λk=>f [c,d,k] a)) (Q (.W6 (-1)) a)
def jJ(a b:AV)(L:SH)(Q:R):Prop:=W.loop (fq Q) [a,b,(.W6 0)] L
theorem nO(t0 t1:AV)(L:SH)(Q:R)(h:jJ t0 t1 L Q):af Tryz.prog 42 [t0,t1] L Q:=
 fs [] [(2,[0,1,5])] [] [] Tryz.func42 h
def nP(Q:R)(e:Vs)(a:SH)(f:Kn):Prop:=sg 1 2 5 e λd c b=>aA 0 c a λg=>W.len g λh=>wb .lss 3 b h λi=>wk i (aA 0 c a λj=>eW 5 0 j b a λk=>wb .eql 9 k d λl=>wk l (Q b a) (wb .add 3 b (.W6 1) λm=>f [d,c,m] a)) (Q (.W6 (-1)) a)
def qd(a b:AV)(L:SH)(Q:R):Prop:=sf a L λc d=>W.loop (nP Q) [b,c,(.W6 0)] d
theorem Co(t0 t1:AV)(L:SH)(Q:R)(h:qd t0 t1 L Q):af Tryz.prog 105 [t0,t1] L Q:=
 fs [] [(2,[1,2,5])] [(0,[2])] [] Tryz.func105 h
def Eu(b:Kn)(c d e a:AV)(f:SH):Prop:=W.ext 0 a λg=>W.ext 1 a λh=>wb .add 3 c (.W6 1) λi=>b [g,d,h,e,i] f
def Ev(f:Kn)(a b c d:AV)(e:SH):Prop:=W.ext 0 d λg=>W.ext 1 d λh=>eW 11 10 a b e λi=>wc (.fn 43 []) [g,c,h,i] e (Eu f b c a)
def Ew(g:Kn)(d:SH)(a b c e h:AV):Prop:=eW 11 1 a b d λi=>W.build [(.W6 0),(.W6 0),(.W6 0)] [(0,1,c),(1,1,e),(2,1,i)] λj=>W.bslice 3 [(.W6 0),(.W6 0),(.W6 0)] 1 [(0,j)] d λk l=>W.append 3 24 h k l λm f=>wb .add 3 e (.W6 1) λn=>eW 11 9 a b f λo=>wc (.fn 43 []) [m,c,n,o] f (Ev g a b c)
def qe(Q:R)(f:Vs)(a:SH)(g:Kn):Prop:=Hl 0 1 2 3 10 f λb h c d e=>W.len d λi=>wb .lss 3 e i λj=>wk j ((Ew g a d e h c b)) (Q (.tup [b,c]) a)
def sH(a b c d:AV)(L:SH)(Q:R):Prop:=W.loop (qe Q) [a,b,c,d,(.W6 0)] L
theorem Ey(t0 t1 t2 t3:AV)(L:SH)(Q:R)(h:sH t0 t1 t2 t3 L Q):af Tryz.prog 43 [t0,t1,t2,t3] L Q:=
 fs [] [(2,[0,1,2,3,10])] [] [] Tryz.func43 h
def Ez(e:Kn)(a:SH)(c b d f g h:AV):Prop:=aA 0 c a λi=>aA 2 b a λj=>aA 3 b a λk=>aA 0 b a λl=>wb .eql 3 l (.W6 2) λm=>aA 4 b a λn=>W.build [(.str []),(.W6 0),(.W6 0),(.bool false),(.W6 0)] [(0,1,j),(1,1,d),(2,1,k),(3,1,m),(4,1,n)] λo=>W.bslice 5 [(.str []),(.W6 0),(.W6 0),(.bool false),(.W6 0)] 1 [(0,o)] a λp q=>W.append 5 48 i p q λr s=>W.faddr 0 c λt=>W.store 1 t r s λu=>wb .add 3 d (.W6 1) λv=>e [f,g,c,h,b,v] u
def jK(h:Kn)(i:Vs)(a:SH)(j:Kn):Prop:=Ig 1 2 3 6 7 8 i λb c d e f g=>aA 3 f a λk=>W.mnx true k (.W6 1) λl=>wb .lss 3 g l λm=>wk m ((Ez j a d f g b c e)) (wb .add 3 e (.W6 1) λn=>h [b,c,d,n] a)
def EA(d:Kn)(a:SH)(b c e f g:AV):Prop:=aA 1 b a λh=>aA 2 c a λi=>aA 0 c a λj=>wb .eql 3 j (.W6 4) λk=>W.build [(.str []),(.bool false)] [(0,1,i),(1,1,k)] λl=>W.bslice 2 [(.str []),(.bool false)] 1 [(0,l)] a λm n=>W.append 2 24 h m n λo p=>W.faddr 1 b λq=>W.store 1 q o p λr=>wb .add 3 e (.W6 1) λs=>d [f,g,b,s] r
def EB(e:Kn)(f:SH)(g a c h i j:AV)(k:Fp)(l:AV)(m:SH)(n:Ns):Prop:=wn [] n [] f.names λu=>W.build [(.str []),(.W6 0)] [(0,1,g),(1,1,l)] λo=>W.calm [rm 1 k] ⟨10,[],[],[],false,[]⟩ (W.bslice 2 [(.str []),(.W6 0)] 1 [(0,o)] m λb p=>wn [] [] (aa b) [] λv=>W.calm [] ⟨11,(aa a++aa b),(aa a),[],false,[]⟩ (W.append 2 24 a b p λd q=>wn (aa a++aa b) (aa a) (aa d) [] λw=>W.faddr 2 c λr=>ds [] 13 1 r d q λs x=>wb .add 3 h (.W6 1) λt=>e [i,j,c,t] s))
def EC(f:Kn)(a:SH)(c e g h i:AV):Prop:=(true=true)∧(aL 2 c [] 1 a λj b=>aL 2 e [rm 1 b] 3 a λk d=>aL 1 c [rm 3 d,rm 1 b] 5 a λl m=>aL 5 e [rm 5 m,rm 3 d,rm 1 b] 7 a λn o=>wd [rm 3 d,rm 1 b] 8 (.fn 42 []) [l,n] a (EB f a k j c g h i b))
def ED(c:Kn)(a:SH)(b d e f g:AV):Prop:=aA 3 b a λh=>aA 2 d a λi=>W.bslice 1 [(.str [])] 1 [(0,i)] a λj k=>W.append 1 16 h j k λl m=>W.faddr 3 b λn=>W.store 1 n l m λo=>wb .add 3 e (.W6 1) λp=>c [f,g,b,p] o
def EE(a:Kn)(h:Vs)(b:SH):Prop:=Nt 1 2 3 6 7 31 65 h λc d e f g i j=>wk j ((EA a b e g f c d)) (wb .eql 3 i (.W6 5) λk=>wk k ((EC a b e g f c d)) ((ED a b e g f c d)))
def EF(j:Kn)(b:SH)(a c d e f g:AV):Prop:=W.join (EE j) λh=>wb .eql 3 a (.W6 3) λi=>wk i (h [c,d,e,f,g,a,i] b) (wb .eql 3 a (.W6 4) λk=>h [c,d,e,f,g,a,k] b)
def EG(a:Kn)(h:Vs)(b:SH):Prop:=Nt 1 2 3 6 7 31 39 h λc d e f g i j=>wk j (W.loop (jK a) [c,d,e,f,g,(.W6 0)] b) ((EF a b i c d e f g))
def jL(k:Kn)(b:SH)(c d g h:AV):Prop:=aA 0 c b λl=>lG 6 l d b λm=>qr [(.W6 0),(.W6 0),(.str []),(.W6 0),(.W6 0),(.str [])] 6 m b λe f=>aA 0 e f λa=>W.join (EG k) λi=>wb .eql 3 a (.W6 1) λj=>wk j (i [c,g,h,d,e,a,j] f) (wb .eql 3 a (.W6 2) λn=>i [c,g,h,d,e,a,n] f)
def EH(c:Kn)(d:SH)(a e f g b:AV)(h:SH)(i:Ns):Prop:=wn [] i [] d.names λn=>W.ext 0 b λj=>W.ext 1 b λo=>W.faddr 5 a λk=>ds [] 14 1 k j h λl p=>wb .add 3 e (.W6 1) λm=>c [f,g,a,m] l
def jM(k:Kn)(b:SH)(d h e l:AV):Prop:=(true=true)∧(aL 4 d [] 1 b λc f=>aL 1 h [rm 1 f] 3 b λm w=>di [rm 1 f] 5 4 m e b λn x=>aL 0 n [rm 1 f] 7 b λo y=>W.calm [rm 1 f] ⟨8,[],[],[],false,[]⟩ (W.bslice 1 [(.str [])] 1 [(0,o)] b λg p=>wn [] [] (aa g) [] λz=>W.calm [] ⟨9,(aa c++aa g),(aa c),[],false,[]⟩ (W.append 1 16 c g p λj q=>wn (aa c++aa g) (aa c) (aa j) [] λA=>W.faddr 4 d λr=>ds [] 11 1 r j q λa B=>(true=true)∧(aL 5 d [] 1 a λs i=>aL 1 h [rm 1 i] 4 a λt C=>di [rm 1 i] 6 4 t e a λu D=>aL 3 u [rm 1 i] 8 a λv E=>wd [] 9 (.fn 43 []) [s,e,(.W6 0),v] a (EH k a d e h l)))))
def jN(Q:R)(g:Vs)(a:SH)(h:Kn):Prop:=yP 1 2 3 9 g λc b d e=>aA 1 c a λi=>W.len i λj=>wb .lss 3 e j λk=>wk k ((jM h a d c e b)) (bY 6 d a λl=>W.store 6 b l a λf=>W.load true 6 b f λm=>Q m f)
def qf(Q:R)(f:Vs)(a:SH)(g:Kn):Prop:=yP 1 2 3 6 f λb c d e=>aA 0 b a λh=>W.len h λi=>wb .lss 3 e i λj=>wk j ((jL g a b e c d)) (W.loop (jN Q) [b,c,d,(.W6 0)] a)
def EI(Q:R)(c a f d:AV)(b:SH):Prop:=W.ext 0 d λg=>W.ext 1 d λk=>wb .neq 59 g (.W6 0) λh=>wk h (bY 6 c b λi=>W.store 6 a i b λe=>W.load true 6 a e λj=>Q j e) (W.loop (qf Q) [f,a,c,(.W6 0)] b)
def sI(c:AV)(L:SH)(Q:R):Prop:=W.box c L λd e=>W.alloc [.nils,.nils,.nils,.nils,.nils,.nils] e λf g=>W.frz1 d g λa h=>W.alloc [.nils,.nils,.nils,.nils,.nils,.nils] h λi b=>bY 2 a b λj=>wc (.fn 17 []) [j] b (EI Q i f a)
theorem EJ(t0:AV)(L:SH)(Q:R)(h:sI t0 L Q):af Tryz.prog 18 [t0] L Q:=
 fs [(12,[1,2,3,6,7,31,39]),(18,[1,2,3,6,7,31,65])] [(14,[1,2,3,6,7,8]),(6,[1,2,3,6]),(23,[1,2,3,9])] [(0,[1]),(8,[7])] [(21,[0,1,0,4,0,16,0,64,240,508,1020,2047,4095,8191]),(25,[0,1,0,4,0,28,60,124,252,511,1023,2047]),(26,[0,1,0,0,8,0,56,120,248,511,1023,2047,2047,4095,12287])] Tryz.func18 h
def nQ(c i:AV)(L:SH)(Q:R):Prop:=W.box i L λe f=>dK 8 c f λj=>W.faddr 5 e λk=>W.store 1 k j f λd=>(true=true)∧(W.nilchk c λl=>aL 7 l [] 4 d λa g=>dr [rm 4 g] 5 6 e d λm s=>W.calm [rm 4 g] ⟨6,[],[],[],false,[]⟩ (W.bslice 6 [(.W6 0),(.W6 0),(.W6 0),(.W6 0),(.W6 0),(.W6 0)] 1 [(0,m)] d λb n=>wn [] [] (aa b) [] λt=>W.calm [] ⟨7,(aa a++aa b),(aa a),[],false,[]⟩ (W.append 6 48 a b n λh o=>wn (aa a++aa b) (aa a) (aa h) [] λu=>W.nilchk c λp=>W.faddr 7 p λq=>ds [] 10 1 q h o λr v=>Q (.tup []) r)))
theorem AA(t0 t1:AV)(L:SH)(Q:R)(h:nQ t0 t1 L Q):af Tryz.prog 20 [t0,t1] L Q:=
 fs [] [] [] [(2,[0,0,2,6,14,0,32,126,255,511,1023])] Tryz.func20 h
def uW(Q:R)(a:SH)(b c d:AV):Prop:=aA 1 d a λe=>W.build [(.W6 0),(.W6 0),(.W6 0),(.W6 0),(.W6 0),(.W6 0)] [(0,1,(.W6 1)),(1,1,b),(4,1,e)] λf=>wc (.fn 20 []) [c,f] a λh g=>Q (.tup []) g
def uX(Q:R)(a:SH)(b c d:AV):Prop:=W.build [(.W6 0),(.W6 0),(.W6 0),(.W6 0),(.W6 0),(.W6 0)] [(0,1,(.W6 2)),(1,1,b),(2,1,d)] λe=>wc (.fn 20 []) [c,e] a λg f=>Q (.tup []) f
def uY(Q:R)(a:SH)(d:AV)(b:SH)(c:Ns):Prop:=wn [] c [] a.names λe=>Q (.tup []) b
def uZ(Q:R)(b:SH)(c d e:AV)(a:SH)(f:Ns):Prop:=wn [] f [] b.names λh=>W.build [(.W6 0),(.W6 0),(.W6 0),(.W6 0),(.W6 0),(.W6 0)] [(0,1,(.W6 6)),(1,1,c),(2,1,e)] λg=>wd [] 10 (.fn 20 []) [d,g] a (uY Q a)
def u0(Q:R)(a:SH)(b c d:AV):Prop:=(true=true)∧(W.nilchk b λe=>W.faddr 0 e λf=>dr [] 5 6 f a λg h=>aL 2 d [rm 5 h] 7 a λi j=>wd [] 8 (.fn 105 []) [g,i] a (uZ Q a c b))
def u1(Q:R)(e:SH)(a b f c:AV)(d:SH)(g:Ns):Prop:=wn [] g [] e.names λi=>wb .geq 3 c (.W6 0) λh=>wk h ((uX Q d a b c)) ((u0 Q d b a f))
def u2(Q:R)(a:SH)(b d c:AV):Prop:=(true=true)∧(W.nilchk b λe=>aL 6 e [] 3 a λf g=>aL 2 c [rm 3 g] 5 a λh i=>wd [] 6 (.fn 64 []) [f,h] a (u1 Q a d b c))
def u3(Q:R)(e:SH)(b c d:AV)(a:SH)(f:Ns):Prop:=wn [] f [] e.names λm=>W.nilchk b λg=>W.faddr 0 g λh=>aA 0 h a λi=>eW 5 2 i d a λj=>W.build [(.W6 0),(.W6 0),(.W6 0),(.W6 0),(.W6 0),(.W6 0)] [(0,1,(.W6 7)),(1,1,c),(2,1,d),(3,1,c),(4,1,j)] λk=>wc (.fn 20 []) [b,k] a λn l=>Q (.tup []) l
def u4(Q:R)(b c d j:AV)(a:SH):Prop:=(true=true)∧(W.nilchk b λe=>W.faddr 0 e λf=>dr [] 3 6 f a λg h=>aL 2 d [rm 3 h] 5 a λi k=>wd [] 6 (.fn 105 []) [g,i] a (u3 Q a b c))
def u5(Q:R)(a c d h:AV)(b:SH):Prop:=aA 0 d b λe=>W.build [(.W6 0),(.W6 0),(.W6 0),(.W6 0),(.W6 0),(.W6 0)] [(0,1,(.W6 3)),(1,1,a),(2,1,a),(4,1,e)] λf=>wc (.fn 20 []) [c,f] b λi g=>Q (.tup []) g
def u6(Q:R)(a c d i:AV)(b:SH):Prop:=wb .add 3 a (.W6 1) λe=>aA 0 d b λf=>W.build [(.W6 0),(.W6 0),(.W6 0),(.W6 0),(.W6 0),(.W6 0)] [(0,1,(.W6 4)),(1,1,a),(2,1,a),(3,1,e),(4,1,f)] λg=>wc (.fn 20 []) [c,g] b λj h=>Q (.tup []) h
def u7(Q:R)(b c d h:AV)(a:SH):Prop:=aA 3 d a λe=>lG 4 e (.W6 1) a λf=>wb .add 3 b (.W6 1) λg=>wc (.fn 70 []) [c,f,g] a (u6 Q b c d)
def u9(Q:R)(a:SH)(c d b:AV):Prop:=aA 3 b a λe=>W.len e λf=>wb .eql 3 f (.W6 1) λg=>wk g (aA 3 b a λh=>lG 4 h (.W6 0) a λi=>wc (.fn 70 []) [c,i,d] a (u5 Q d c b)) (aA 3 b a λj=>lG 4 j (.W6 0) a λk=>wc (.fn 70 []) [c,k,d] a (u7 Q d c b))
def vc(Q:R)(a:SH)(c d b:AV):Prop:=aA 0 b a λe=>wb .eql 3 e (.W6 3) λf=>wk f (aA 3 b a λg=>lG 4 g (.W6 0) a λh=>wc (.fn 70 []) [c,h,d] a (u4 Q c d b)) ((u9 Q a c d b))
def kB(c e d:AV)(L:SH)(Q:R):Prop:=sf e L λa b=>aA 0 a b λf=>wb .eql 3 f (.W6 1) λg=>wk g ((uW Q b d c a)) (aA 0 a b λh=>wb .eql 3 h (.W6 2) λi=>wk i ((u2 Q b c d a)) ((vc Q b c d a)))
theorem vd(t0 t1 t2:AV)(L:SH)(Q:R)(h:kB t0 t1 t2 L Q):af Tryz.prog 70 [t0,t1,t2] L Q:=
 fs [] [] [(0,[4])] [(7,[0,1,3,7,0,16,63,127]),(10,[0,0,0,4,12,28,0,64,252,510,1023]),(13,[0,1,3,7,0,16,63,127])] Tryz.func70 h
def rN(Q:R)(e:SH)(b c d:AV)(a:SH)(f:Ns):Prop:=wn [] f [] e.names λn=>wb .add 3 c (.W6 1) λg=>W.nilchk b λh=>W.faddr 0 h λi=>aA 0 i a λj=>eW 5 2 j d a λk=>W.build [(.W6 0),(.W6 0),(.W6 0),(.W6 0),(.W6 0),(.W6 0)] [(0,1,(.W6 9)),(1,1,d),(2,1,g),(3,1,c),(4,1,k)] λl=>wc (.fn 20 []) [b,l] a λo m=>Q (.tup []) m
def rO(Q:R)(b c d j:AV)(a:SH):Prop:=(true=true)∧(W.nilchk b λe=>W.faddr 0 e λf=>dr [] 3 6 f a λg h=>aL 2 c [rm 3 h] 5 a λi k=>wd [] 6 (.fn 105 []) [g,i] a (rN Q a b d))
def rP(Q:R)(a b c h:AV)(d:SH):Prop:=W.faddr 5 b λe=>bY 4 e d λf=>wb .add 3 c (.W6 1) λg=>wc (.fn 70 []) [a,f,g] d (rO Q a b c)
def rQ(Q:R)(a:SH)(b c d:AV):Prop:=W.build [(.W6 0),(.W6 0),(.W6 0),(.W6 0),(.W6 0),(.W6 0)] [(0,1,(.W6 2)),(1,1,c),(2,1,d)] λe=>wc (.fn 20 []) [b,e] a λg f=>Q (.tup []) f
def rR(Q:R)(a:SH)(d:AV)(b:SH)(c:Ns):Prop:=wn [] c [] a.names λe=>Q (.tup []) b
def rS(Q:R)(b:SH)(c d e:AV)(a:SH)(f:Ns):Prop:=wn [] f [] b.names λh=>W.build [(.W6 0),(.W6 0),(.W6 0),(.W6 0),(.W6 0),(.W6 0)] [(0,1,(.W6 8)),(1,1,e),(2,1,d)] λg=>wd [] 10 (.fn 20 []) [c,g] a (rR Q a)
def rT(Q:R)(a:SH)(b c d:AV):Prop:=(true=true)∧(W.nilchk b λe=>W.faddr 0 e λf=>dr [] 4 6 f a λg h=>aL 2 c [rm 4 h] 6 a λi j=>wd [] 7 (.fn 105 []) [g,i] a (rS Q a b d))
def rU(Q:R)(e:SH)(a b f c:AV)(d:SH)(g:Ns):Prop:=wn [] g [] e.names λi=>wb .geq 3 c (.W6 0) λh=>wk h ((rQ Q d a c b)) ((rT Q d a f b))
def rV(Q:R)(b c d i:AV)(a:SH):Prop:=(true=true)∧(W.nilchk b λe=>aL 6 e [] 3 a λf g=>aL 2 c [rm 3 g] 5 a λh j=>wd [] 6 (.fn 64 []) [f,h] a (rU Q a b d c))
def jO(b e:AV)(L:SH)(Q:R):Prop:=sf e L λc a=>dK 6 b a λf=>W.len f λd=>aA 4 c a λg=>W.len g λh=>wb .gtr 3 h (.W6 0) λi=>wk i (aA 4 c a λj=>lG 4 j (.W6 0) a λk=>wc (.fn 70 []) [b,k,d] a (rP Q b c d)) (W.faddr 5 c λl=>bY 4 l a λm=>wc (.fn 70 []) [b,m,d] a (rV Q b c d))
theorem rW(t0 t1:AV)(L:SH)(Q:R)(h:jO t0 t1 L Q):af Tryz.prog 66 [t0,t1] L Q:=
 fs [] [] [(0,[3])] [(5,[0,1,3,7,0,16,63,127]),(8,[0,1,3,7,0,16,63,127]),(11,[0,0,2,6,14,0,32,126,0,510,1023])] Tryz.func66 h
def oF(Q:R)(b c m:AV)(a:SH):Prop:=(true=true)∧(W.nilchk b λd=>aL 7 d [] 3 a λe f=>W.nilchk b λg=>aL 7 g [rm 3 f] 8 a λh n=>W.len h λi=>di [] 10 6 e c a λj o=>W.faddr 2 j λk=>ds [] 12 1 k i a λl p=>Q (.tup []) l)
def oG(Q:R)(b:SH)(a c d:AV):Prop:=W.build [(.W6 0),(.W6 0),(.W6 0),(.W6 0),(.W6 0),(.W6 0)] [(0,1,(.W6 5)),(1,1,c)] λe=>wc (.fn 20 []) [a,e] b (oF Q a d)
def oH(Q:R)(a:SH)(b c:AV):Prop:=(true=true)∧(W.nilchk b λd=>aL 7 d [] 3 a λe f=>W.nilchk b λg=>aL 7 g [rm 3 f] 8 a λh m=>W.len h λi=>di [] 10 6 e c a λj n=>W.faddr 2 j λk=>ds [] 12 1 k i a λl o=>Q (.tup []) l)
def oI(Q:R)(b c m:AV)(a:SH):Prop:=(true=true)∧(W.nilchk b λd=>aL 7 d [] 3 a λe f=>W.nilchk b λg=>aL 7 g [rm 3 f] 8 a λh n=>W.len h λi=>di [] 10 6 e c a λj o=>W.faddr 1 j λk=>ds [] 12 1 k i a λl p=>Q (.tup []) l)
def oJ(Q:R)(a d e f p:AV)(b:SH):Prop:=(true=true)∧(W.nilchk a λg=>aL 7 g [] 3 b λh i=>W.nilchk a λj=>aL 7 j [rm 3 i] 8 b λk q=>W.len k λl=>di [] 10 6 h d b λm r=>W.faddr 2 m λn=>ds [] 12 1 n l b λc s=>aA 10 e c λo=>wc (.fn 19 []) [a,o] c (oI Q a f))
def oK(Q:R)(b:SH)(a c d:AV):Prop:=dK 7 a b λe=>W.len e λf=>W.build [(.W6 0),(.W6 0),(.W6 0),(.W6 0),(.W6 0),(.W6 0)] [(0,1,(.W6 5))] λg=>wc (.fn 20 []) [a,g] b (oJ Q a c d f)
def oL(Q:R)(a:SH)(b c d:AV):Prop:=aA 10 c a λe=>W.len e λf=>wb .eql 3 f (.W6 0) λg=>wk g ((oH Q a b d)) ((oK Q a b d c))
def oM(Q:R)(a e c f d l:AV)(g:SH):Prop:=W.nilchk a λh=>W.faddr 8 h λi=>W.store 1 i e g λb=>aA 0 c b λj=>wb .eql 3 j (.W6 3) λk=>wk k ((oG Q b a f d)) ((oL Q b a c d))
def oN(Q:R)(a b d e f h:AV)(c:SH):Prop:=aA 9 b c λg=>wc (.fn 19 []) [a,g] c (oM Q a d b e f)
def oO(Q:R)(c:SH)(a d e f m:AV)(b:SH)(g:Ns):Prop:=wn [] g [] c.names λn=>dK 7 a b λh=>W.len h λi=>dK 6 a b λj=>W.len j λk=>W.build [(.W6 0),(.W6 0),(.W6 0),(.W6 0),(.W6 0),(.W6 0)] [(0,1,(.W6 10)),(1,1,k)] λl=>wc (.fn 20 []) [a,l] b (oN Q a d e f i)
def hY(b d:AV)(L:SH)(Q:R):Prop:=sf d L λc a=>dK 8 b a λe=>dK 7 b a λf=>W.len f λg=>(true=true)∧(W.faddr 5 c λh=>dr [] 2 4 h a λi j=>W.nilchk b λk=>aL 6 k [rm 2 j] 6 a λl n=>W.len l λm=>wd [] 8 (.fn 70 []) [b,i,m] a (oO Q a b c e g))
theorem oP(t0 t1:AV)(L:SH)(Q:R)(h:hY t0 t1 L Q):af Tryz.prog 67 [t0,t1] L Q:=
 fs [] [] [(0,[3])] [(3,[0,0,2,0,8,24,56,120,255]),(10,[0,1,3,7,0,0,32,96,224,480,1023,2047,4095]),(12,[0,1,3,7,0,0,32,96,224,480,1023,2047,4095]),(15,[0,1,3,7,0,0,32,96,224,480,1023,2047,4095]),(17,[0,1,3,7,0,0,32,96,224,480,1023,2047,4095])] Tryz.func67 h
def rX(Q:R)(a b c d k:AV)(e:SH):Prop:=W.nilchk a λf=>W.faddr 8 f λg=>W.store 1 g d e λh=>W.build [(.W6 0),(.W6 0),(.W6 0),(.W6 0),(.W6 0),(.W6 0)] [(0,1,b),(1,1,c)] λi=>wc (.fn 20 []) [a,i] h λl j=>Q (.tup []) j
def rY(Q:R)(a c d e f h:AV)(b:SH):Prop:=aA 9 e b λg=>wc (.fn 19 []) [a,g] b (rX Q a c d f)
def jP(a d e f b:AV)(L:SH)(Q:R):Prop:=sf d L λg c=>dK 8 a c λh=>W.build [(.W6 0),(.W6 0),(.W6 0),(.W6 0),(.W6 0),(.W6 0)] [(0,1,e),(1,1,b)] λi=>wc (.fn 20 []) [a,i] c (rY Q a f b g h)
theorem rZ(t0 t1 t2 t3 t4:AV)(L:SH)(Q:R)(h:jP t0 t1 t2 t3 t4 L Q):af Tryz.prog 68 [t0,t1,t2,t3,t4] L Q:=
 fs [] [] [(0,[6])] [] Tryz.func68 h
def yq(Q:R)(e:Kn)(a:SH)(c b d:AV):Prop:=W.nilchk c λf=>W.faddr 0 f λg=>aA 2 g a λh=>eW 2 0 h b a λi=>wb .eql 9 i d λj=>wk j (Q b a) (wb .add 3 b (.W6 1) λk=>e [c,d,k] a)
def kC(Q:R)(d:Vs)(a:SH)(e:Kn):Prop:=sg 0 1 5 d λb f c=>W.nilchk b λg=>W.faddr 0 g λh=>aA 2 h a λi=>W.len i λj=>wb .lss 3 c j λk=>wk k ((yq Q e a b c f)) (Q (.W6 (-1)) a)
def mh(a b:AV)(L:SH)(Q:R):Prop:=W.loop (kC Q) [a,b,(.W6 0)] L
theorem yr(t0 t1:AV)(L:SH)(Q:R)(h:mh t0 t1 L Q):af Tryz.prog 69 [t0,t1] L Q:=
 fs [] [(2,[0,1,5])] [] [] Tryz.func69 h
def yu(Q:R)(a:SH)(d:AV)(b:SH)(c:Ns):Prop:=wn [] c [] a.names λe=>Q (.tup []) b
def yv(Q:R)(b:SH)(c d e:AV)(a:SH)(f:Ns):Prop:=wn [] f [] b.names λg=>wd [] 10 (.fn 68 []) [c,d,(.W6 11),(.W6 12),e] a (yu Q a)
def yw(Q:R)(a:SH)(c d:AV):Prop:=(true=true)∧(dr [] 1 11 c a λe b=>W.nilchk d λf=>W.faddr 0 f λg=>aL 1 g [rm 1 b] 6 a λh i=>aL 2 c [rm 6 i,rm 1 b] 8 a λj k=>wd [rm 1 b] 9 (.fn 42 []) [h,j] a (yv Q a d e))
def yx(Q:R)(a:SH)(d:AV)(b:SH)(c:Ns):Prop:=wn [] c [] a.names λe=>Q (.tup []) b
def yy(Q:R)(b:SH)(c d e:AV)(a:SH)(f:Ns):Prop:=wn [] f [] b.names λg=>wd [] 10 (.fn 68 []) [c,d,(.W6 13),(.W6 14),e] a (yx Q a)
def yz(Q:R)(a:SH)(c d:AV):Prop:=(true=true)∧(dr [] 1 11 c a λe b=>W.nilchk d λf=>W.faddr 0 f λg=>aL 1 g [rm 1 b] 6 a λh i=>aL 2 c [rm 6 i,rm 1 b] 8 a λj k=>wd [rm 1 b] 9 (.fn 42 []) [h,j] a (yy Q a d e))
def yA(Q:R)(a:SH)(d:AV)(b:SH)(c:Ns):Prop:=wn [] c [] a.names λe=>Q (.tup []) b
def yB(Q:R)(b:SH)(c d e:AV)(a:SH)(f:Ns):Prop:=wn [] f [] b.names λg=>wd [] 10 (.fn 68 []) [c,d,(.W6 15),(.W6 16),e] a (yA Q a)
def yC(Q:R)(a:SH)(c d:AV):Prop:=(true=true)∧(dr [] 1 11 c a λe b=>W.nilchk d λf=>W.faddr 0 f λg=>aL 1 g [rm 1 b] 6 a λh i=>aL 2 c [rm 6 i,rm 1 b] 8 a λj k=>wd [rm 1 b] 9 (.fn 42 []) [h,j] a (yB Q a d e))
def yD(Q:R)(a b:AV)(c:SH):Prop:=W.build [(.W6 0),(.W6 0),(.W6 0),(.W6 0),(.W6 0),(.W6 0)] [(0,1,(.W6 21)),(1,1,b)] λd=>wc (.fn 20 []) [a,d] c λf e=>Q (.tup []) e
def yE(Q:R)(a b:AV)(c:SH):Prop:=W.build [(.W6 0),(.W6 0),(.W6 0),(.W6 0),(.W6 0),(.W6 0)] [(0,1,(.W6 22)),(1,1,b)] λd=>wc (.fn 20 []) [a,d] c λf e=>Q (.tup []) e
def yF(Q:R)(a b:AV)(c:SH):Prop:=W.build [(.W6 0),(.W6 0),(.W6 0),(.W6 0),(.W6 0),(.W6 0)] [(0,1,(.W6 23)),(1,1,b)] λd=>wc (.fn 20 []) [a,d] c λf e=>Q (.tup []) e
def yG(Q:R)(a:SH)(d:AV)(b:SH)(c:Ns):Prop:=wn [] c [] a.names λe=>Q (.tup []) b
def vf(Q:R)(b:SH)(c d:AV)(a:SH)(e:Ns):Prop:=wn [] e [] b.names λg=>W.build [(.W6 0),(.W6 0),(.W6 0),(.W6 0),(.W6 0),(.W6 0)] [(0,1,(.W6 24)),(1,1,d)] λf=>wd [] 10 (.fn 20 []) [c,f] a (yG Q a)
def yH(Q:R)(a:SH)(b c:AV):Prop:=(true=true)∧(W.nilchk b λd=>W.faddr 0 d λe=>aL 4 e [] 5 a λf g=>aL 2 c [rm 5 g] 7 a λh i=>wd [] 8 (.fn 64 []) [f,h] a (vf Q a b))
def vg(Q:R)(a:SH)(d:AV)(b:SH)(c:Ns):Prop:=wn [] c [] a.names λe=>Q (.tup []) b
def vh(Q:R)(b:SH)(c d:AV)(a:SH)(e:Ns):Prop:=wn [] e [] b.names λg=>W.build [(.W6 0),(.W6 0),(.W6 0),(.W6 0),(.W6 0),(.W6 0)] [(0,1,(.W6 25)),(1,1,d)] λf=>wd [] 10 (.fn 20 []) [c,f] a (vg Q a)
def yI(Q:R)(a:SH)(b c:AV):Prop:=(true=true)∧(W.nilchk b λd=>W.faddr 0 d λe=>aL 4 e [] 5 a λf g=>aL 2 c [rm 5 g] 7 a λh i=>wd [] 8 (.fn 64 []) [f,h] a (vh Q a b))
def vj(Q:R)(a:SH)(d:AV)(b:SH)(c:Ns):Prop:=wn [] c [] a.names λe=>Q (.tup []) b
def vk(Q:R)(b:SH)(c d e:AV)(a:SH)(f:Ns):Prop:=wn [] f [] b.names λh=>W.build [(.W6 0),(.W6 0),(.W6 0),(.W6 0),(.W6 0),(.W6 0)] [(0,1,(.W6 26)),(1,1,e),(2,1,c)] λg=>wd [] 11 (.fn 20 []) [d,g] a (vj Q a)
def vl(Q:R)(b c d j:AV)(a:SH):Prop:=(true=true)∧(W.nilchk b λe=>W.faddr 0 e λf=>aL 3 f [] 5 a λg h=>aL 2 c [rm 5 h] 7 a λi k=>wd [] 8 (.fn 64 []) [g,i] a (vk Q a d b))
def vm(Q:R)(a:SH)(d:AV)(b:SH)(c:Ns):Prop:=wn [] c [] a.names λe=>Q (.tup []) b
def vn(Q:R)(b:SH)(c d e:AV)(a:SH)(f:Ns):Prop:=wn [] f [] b.names λh=>W.build [(.W6 0),(.W6 0),(.W6 0),(.W6 0),(.W6 0),(.W6 0)] [(0,1,(.W6 27)),(1,1,c),(2,1,e)] λg=>wd [] 17 (.fn 20 []) [d,g] a (vm Q a)
def vp(Q:R)(f:SH)(b g:AV)(c d:Fp)(h:AV)(a:SH)(i:Ns):Prop:=wn [] i [] f.names λe=>W.nilchk b λj=>W.faddr 0 j λk=>aL 3 k [rc 7 e,rm 6 c,rm 4 d] 12 a λl m=>aL 3 g [rm 12 m,rc 7 e,rm 6 c,rm 4 d] 14 a λn o=>wd [] 15 (.fn 64 []) [l,n] a (vn Q a h b)
def yJ(Q:R)(a:SH)(b c:AV):Prop:=(true=true)∧(W.nilchk b λe=>aL 6 e [] 4 a λf d=>aL 2 c [rm 4 d] 6 a λg h=>wd [] 7 (.fn 64 []) [f,g] a (vp Q a b c h d))
def yK(Q:R)(a:SH)(d b c e:AV):Prop:=wb .eql 3 d (.W6 14) λf=>wk f (W.faddr 5 b λg=>bY 4 g a λh=>wc (.fn 70 []) [c,h,e] a (vl Q c b e)) (wb .eql 3 d (.W6 15) λi=>wk i ((yJ Q a c b)) (Q (.tup []) a))
def yL(Q:R)(a:SH)(b c d e:AV):Prop:=wb .eql 3 b (.W6 12) λf=>wk f ((yH Q a c d)) (wb .eql 3 b (.W6 13) λg=>wk g ((yI Q a c d)) ((yK Q a b d c e)))
def yM(Q:R)(a:SH)(c d b e:AV):Prop:=wb .eql 3 c (.W6 11) λf=>wk f (aA 2 d a λg=>wc (.fn 69 []) [b,g] a (yF Q b)) ((yL Q a c b d e))
def yN(Q:R)(a:SH)(c d b e:AV):Prop:=wb .eql 3 c (.W6 10) λf=>wk f (aA 2 d a λg=>wc (.fn 69 []) [b,g] a (yE Q b)) ((yM Q a c d b e))
def vq(Q:R)(a:SH)(c d b e:AV):Prop:=wb .eql 3 c (.W6 9) λf=>wk f (aA 2 d a λg=>wc (.fn 69 []) [b,g] a (yD Q b)) ((yN Q a c d b e))
def vt(Q:R)(a:SH)(b c d e:AV):Prop:=wb .eql 3 b (.W6 8) λf=>wk f (bY 11 c a λg=>wc (.fn 68 []) [d,g,(.W6 19),(.W6 20),(.W6 0)] a λi h=>Q (.tup []) h) ((vq Q a b c d e))
def vu(Q:R)(a:SH)(b c d e:AV):Prop:=wb .eql 3 b (.W6 7) λf=>wk f (bY 11 c a λg=>wc (.fn 68 []) [d,g,(.W6 17),(.W6 18),(.W6 0)] a λi h=>Q (.tup []) h) ((vt Q a b c d e))
def vv(Q:R)(a:SH)(b c d e:AV):Prop:=wb .eql 3 b (.W6 5) λf=>wk f ((yz Q a c d)) (wb .eql 3 b (.W6 6) λg=>wk g ((yC Q a c d)) ((vu Q a b c d e)))
def vw(Q:R)(e:Vs)(a:SH):Prop:=Hl 0 3 4 25 31 e λb c f d g=>wk g (bY 11 c a λh=>wc (.fn 67 []) [b,h] a λk i=>Q (.tup []) i) (wb .eql 3 d (.W6 4) λj=>wk j ((yw Q a c b)) ((vv Q a d c b f)))
def vx(Q:R)(b:SH)(c a d e:AV):Prop:=W.join (vw Q) λf=>wb .eql 3 a (.W6 2) λg=>wk g (f [c,d,e,a,g] b) (wb .eql 3 a (.W6 3) λh=>f [c,d,e,a,h] b)
def mi(a g:AV)(L:SH)(Q:R):Prop:=sf g L λc d=>dK 9 a d λh=>W.nilchk a λi=>W.faddr 8 i λj=>W.store 1 j h d λe=>dK 9 a e λk=>wb .add 3 k (.W6 1) λl=>W.nilchk a λm=>W.faddr 9 m λn=>W.store 1 n l e λb=>dK 6 a b λo=>W.len o λp=>aA 0 c b λf=>wb .eql 3 f (.W6 1) λq=>wk q (bY 11 c b λr=>wc (.fn 66 []) [a,r] b λt s=>Q (.tup []) s) ((vx Q b a f c p))
theorem yO(t0 t1:AV)(L:SH)(Q:R)(h:mi t0 t1 L Q):af Tryz.prog 44 [t0,t1] L Q:=
 fs [(8,[0,3,4,25,31])] [] [(0,[3])] [(11,[0,0,0,4,12,28,60,0,128,508,1023]),(13,[0,0,0,4,12,28,60,0,128,508,1023]),(15,[0,0,0,4,12,28,60,0,128,508,1023]),(27,[0,0,2,6,14,30,0,64,254,510,1023]),(29,[0,0,2,6,14,30,0,64,254,510,1023]),(32,[0,0,2,6,14,30,0,64,254,0,1022,2047]),(34,[0,0,2,6,14,0,32,126,0,256,768,1792,3840,0,8192,32766,65534,131071])] Tryz.func44 h
def vy(a:Kn)(b c d g:AV)(e:SH):Prop:=wb .add 3 b (.W6 1) λf=>a [c,d,f] e
def jQ(Q:R)(e:Vs)(a:SH)(f:Kn):Prop:=sg 0 1 4 e λd b c=>W.len b λg=>wb .lss 3 c g λh=>wk h (lG 11 b c a λi=>wc (.fn 44 []) [d,i] a (vy f c d b)) (Q (.tup []) a)
def kD(a b:AV)(L:SH)(Q:R):Prop:=W.loop (jQ Q) [a,b,(.W6 0)] L
theorem vz(t0 t1:AV)(L:SH)(Q:R)(h:kD t0 t1 L Q):af Tryz.prog 19 [t0,t1] L Q:=
 fs [] [(1,[0,1,4])] [] [] Tryz.func19 h
def AB(Q:R)(c:SH)(a d e:AV):Prop:=W.build [.nils,.nils,.nils,.nils,.nils,.nils,.nils] [] λf=>W.store 7 a f c λb=>W.load true 7 a b λg=>Q (.tup [g,d,e]) b
def AC(f:Kn)(a:SH)(b c d g h i j k l m:AV):Prop:=(true=true)∧(aL 0 b [] 1 a λn e=>di [rm 1 e] 4 1 c d a λo v=>dl [rm 1 e] 5 o a λp w=>wb .add 3 p (.W6 1) λq=>W.mnx true n q λr=>W.faddr 0 b λs=>ds [] 9 1 s r a λt x=>wb .add 3 d (.W6 1) λu=>f [g,h,i,j,k,l,b,m,c,u] t)
def gM(l:Kn)(m:Vs)(a:SH)(n:Kn):Prop:=Px 1 2 7 8 9 10 11 12 13 14 m λb c d e f g h i j k=>W.len j λo=>wb .lss 3 k o λp=>wk p ((AC n a h j k b c d e f g i)) (wb .add 3 i (.W6 1) λq=>l [b,c,d,e,f,g,h,q] a)
def AD(a:Kn)(b c d e f g h i j:AV)(k:SH):Prop:=W.loop (gM a) [b,c,d,e,f,g,h,i,j,(.W6 0)] k
def gN(c:Kn)(a:SH)(b d e f g h:AV):Prop:=aA 6 b a λi=>bY 2 d a λj=>W.bslice 2 [(.W6 0),.nils] 1 [(0,j)] a λk l=>W.append 2 32 i k l λm n=>W.faddr 6 b λo=>W.store 1 o m n λp=>wb .add 3 e (.W6 1) λq=>c [f,g,b,h,q] p
def gO(j:Kn)(k:Vs)(a:SH)(l:Kn):Prop:=Ry 1 2 7 8 9 10 11 12 k λd e f g h b i c=>dK 7 b a λm=>W.len m λn=>wb .lss 3 c n λo=>wk o (dK 7 b a λp=>lG 6 p c a λq=>wc (.fn 21 []) [q] a (AD l d e f g h b i c)) ((gN j a f i h d e g))
def AE(e:Kn)(a f g h i j t:AV)(b:SH):Prop:=(true=true)∧(W.nilchk a λk=>aL 6 k [] 3 b λl d=>W.len l λm=>W.nilchk a λn=>aL 7 n [rm 3 d] 8 b λo p=>W.build [(.W6 0),.nils] [(0,1,m),(1,1,o)] λq=>W.calm [rm 8 p,rm 3 d] ⟨10,[],[],[],false,[]⟩ (W.alloc [(.W6 0),.nils] b λc r=>wn [] [] (aa c) [] λu=>ds [] 11 2 c q r λs v=>W.loop (gO e) [f,g,h,i,j,a,c,(.W6 0)] s))
def AF(c:Kn)(a d e f g m:AV)(b:SH):Prop:=dK 9 a b λh=>W.nilchk a λi=>W.faddr 8 i λj=>W.store 1 j (.W6 (-1)) b λk=>W.build [(.W6 0),(.W6 0),(.W6 0),(.W6 0),(.W6 0),(.W6 0)] [(0,1,(.W6 28))] λl=>wc (.fn 20 []) [a,l] k (AE c a d e f h g)
def gP(h:Kn)(a:SH)(g b c i j:AV):Prop:=(true=true)∧(W.faddr 0 g λk=>dr [] 1 6 k a λl d=>aL 1 b [rm 1 d] 3 a λm s=>di [rm 1 d] 5 4 m c a λn t=>aL 2 n [rm 1 d] 7 a λo u=>W.build [.nils,.nils,.nils,.nils,.nils,.nils,.nils,.nils,(.W6 0),(.W6 0)] [(0,6,l),(6,1,o),(9,1,i)] λp=>W.calm [] ⟨10,[],[],[],false,[]⟩ (W.box p a λe f=>wn [] [] (aa e) [] λv=>aA 1 b f λq=>eW 4 3 q c f λr=>wc (.fn 19 []) [e,r] f (AF h e b j g c)))
def mj(Q:R)(g:Vs)(a:SH)(h:Kn):Prop:=Hl 1 2 7 8 9 g λc b d i e=>aA 1 c a λj=>W.len j λk=>wb .lss 3 e k λl=>wk l ((gP h a d c e i b)) (bY 7 d a λm=>W.store 7 b m a λf=>W.load true 7 b f λn=>Q (.tup [n,(.W6 0),(.W6 0)]) f)
def AG(Q:R)(b c d:AV)(e:SH):Prop:=W.build [.nils,.nils,.nils,.nils,.nils,.nils,.nils] [(0,6,d)] λf=>W.alloc [.nils,.nils,.nils,.nils,.nils,.nils,.nils] e λa g=>W.store 7 a f g λh=>W.loop (mj Q) [b,c,a,(.W6 0),(.W6 0)] h
def AH(Q:R)(b c d:AV)(a:SH):Prop:=W.ext 0 d λe=>W.ext 1 d λf=>wb .neq 59 e (.W6 0) λg=>wk g ((AB Q a b e f)) (bY 2 c a λh=>wc (.fn 18 []) [h] a (AG Q c b))
def nR(c:AV)(L:SH)(Q:R):Prop:=W.box c L λd e=>W.alloc [.nils,.nils,.nils,.nils,.nils,.nils,.nils] e λf g=>W.frz1 d g λa b=>bY 2 a b λh=>wc (.fn 17 []) [h] b (AH Q f a)
theorem AI(t0:AV)(L:SH)(Q:R)(h:nR t0 L Q):af Tryz.prog 11 [t0] L Q:=
 fs [] [(20,[1,2,7,8,9,10,11,12,13,14]),(16,[1,2,7,8,9,10,11,12]),(7,[1,2,7,8,9])] [(0,[1])] [(9,[0,1,0,4,0,28,60,124,0,511,1023,2047]),(14,[0,1,3,7,15,0,32,96,224,511,0,2047]),(22,[0,1,0,0,12,28,60,127,255,511])] Tryz.func11 h
end
section
set_option maxRecDepth 100000
theorem Mu(l:List bZ)(s:aZ)(hl:l.length<2^62):az Tryz.prog 42 [.lst (l.map bZ.enc),.str s] (.W6 (fQ l s)):=by
 refine nO _ _ _ _ ?_;unfold jJ;refine ez l (λx=>decide (x.name=s)) (λi=>[.lst (l.map bZ.enc),.str s,.W6 i]) hl rfl (λi h1 hd hi hno nx hn=>?_) (λi h1 hd hno nx=>?_)
 all_goals unfold fq
 ·have hx:=aw (f:=bZ.enc) h1
  repeat' (first|refine st ?_|refine sb λnb_ hnb_=>?_|refine s2 (λh=>?_) λh=>?_|fail)
  ·exact⟨by rw[fQ,ph h1 hno h],rfl⟩
  ·exact hn h
 ·repeat' (first|refine st ?_|refine sb λnb_ hnb_=>?_|refine s2 (λh=>?_) λh=>?_|fail)
  exact⟨by rw[fQ,gG hno],rfl⟩
theorem F6(w:aM)(s:aZ)(hl:w.cells.length<2^62):az Tryz.prog 105 [.agg w.enc,.str s] (.W6 (wZ w.cells s)):=by
 refine Co _ _ _ _ ?_;unfold qd;refine Gy ?_;refine ez w.cells (λx=>decide (x.name=s)) (λi=>[.str s,.pptr [w.enc] 0 0,.W6 i]) hl rfl (λi h1 hd hi hno nx hn=>?_) (λi h1 hd hno nx=>?_)
 all_goals unfold nP
 ·have hx:=aw (f:=aY.enc) h1
  repeat' (first|refine st ?_|refine sb λnb_ hnb_=>?_|refine s2 (λh=>?_) λh=>?_|fail)
  ·exact⟨by rw[wZ,ph h1 hno h],rfl⟩
  ·exact hn h
 ·repeat' (first|refine st ?_|refine sb λnb_ hnb_=>?_|refine s2 (λh=>?_) λh=>?_|fail)
  exact⟨by rw[wZ,gG hno],rfl⟩
end
section
set_option maxRecDepth 100000
set_option maxHeartbeats 2000000
def gg(w:aM)(loc:List aZ)(v:AV)(site next:Int):Blk:=⟨10,[[.lst (w.cells.map aY.enc),.lst (w.locks.map bZ.enc),.lst (w.conds.map cS.enc),.lst (w.futures.map au),.lst (w.threads.map au),.lst (w.sites.map cI.enc),.lst (loc.map au),v,.W6 site,.W6 next]]⟩
def bj.at_(i:bj)(s:Int):bj:={i with site:=s}
theorem Sv(bg:Nat)(w:aM)(loc:List aZ)(o:Option Nat)(out:List bj)(site next:Int)(i:bj)(h0:o=none→out=[])(hl:out.length<2^30):
  af Tryz.prog 20 [.ptr bg 0 0,.agg i.enc] ((bg,gg w loc (am o out.length) site next)::ae o 6 (out.map bj.enc)) λu K=>∃(v:AV) (b:Nat),u=v∧v=.tup []∧K=(bg,gg w loc (am (some b) (out.length+1)) site next)::ae (some b) 6 ((out++[i.at_ site]).map bj.enc):=by
 refine af.fz (AA _ _ _ _ ?_);unfold nQ;generalize hQ:(λ(v:AV) (L:SH)=>∃v2 L2,aG [v] L [v2] L2∧∃(v:AV) (b:Nat),v2=v∧v=AV.tup []∧L2=(bg,gg w loc (am (some b) (out.length+1)) site next)::ae (some b) 6 ((out++[i.at_ site]).map bj.enc))=Q;have hq:∀(b:Nat) (L:SH),gD L ((bg,gg w loc (am (some b) (out.length+1)) site next)::ae (some b) 6 (out.map bj.enc++[(i.at_ site).enc]))→Q (.tup []) L:=λb L h=>by subst hQ;refine⟨_,_,aG.pickE h rfl (R2:=(bg,gg w loc (am (some b) (out.length+1)) site next)::ae (some b) 6 ((out++[i.at_ site]).map bj.enc)) (by rw[Vo];rfl),_,b,rfl,rfl,rfl⟩
 clear hQ;unfold gg at *
 repeat' (first|refine st ?_|refine cx rp rp W4 (λe=>by first|simp[h0 e]) W3 W4 (by simp;omega) (by simp;omega) W3 (λnb_ hnb_=>?_)|refine sb λnb_ hnb_=>?_|refine s2 (λh=>?_) λh=>?_|fail)
 cases i;exact hq nb_ _ (.one (.there _ (.there _ (.there _ (.here _)))) (.one (.here _) (.nil _)))
section
variable {bg:Nat} {w:aM} {loc:List aZ} {o:Option Nat} {out:List bj} {site next:Int} {L L1 L2:SH}
theorem Sw{i:bj}{KL:R}(h1:eJ bg (gg w loc (am o out.length) site next) L L1)(h2:dL o 6 (out.map bj.enc) L1 L2)(h0:o=none→out=[])(hl:out.length<2^30)
  (hq:∀b:Nat,KL (.tup []) ((bg,gg w loc (am (some b) (out++[i.at_ site]).length) site next)::(L2++ae (some b) 6 ((out++[i.at_ site]).map bj.enc)))):W.callM Tryz.prog 20 [.ptr bg 0 0,.agg i.enc] L KL:=by
 refine xN (M:=L2) (Sv bg w loc o out site next i h0 hl) (h1.perm.trans (h2.perm.cons _)) ?_;rintro _ _ ⟨v,b,rfl,rfl,rfl⟩;refine⟨_,.cons _ VQ,?_⟩;have:=hq b;rw[Vu]at this;exact this
end
end
section
set_option maxRecDepth 100000
set_option maxHeartbeats 4000000
theorem an{P:Prop}(h:P:=by first|assumption|exact nofun|fail):P:=h
theorem om{P:Prop}(h:P:=by omega):P:=h
def ml(f:FuncId)(args:List AV)(w:aM)(loc:List aZ)(k:Nat):Prop:=∀(bg:Nat) (o:Option Nat) (out:List bj) (site next:Int),(o=none→out=[])→out.length+k<2^30→
 af Tryz.prog f (.ptr bg 0 0::args) ((bg,gg w loc (am o out.length) site next)::ae o 6 (out.map bj.enc)) λu K=>∃(o':Option Nat) (out':List bj) (site' next':Int),u=.tup []∧(o'=none→out'=[])∧out.length≤out'.length∧out'.length≤out.length+k∧K=(bg,gg w loc (am o' out'.length) site' next')::ae o' 6 (out'.map bj.enc)
section
variable {f:FuncId} {args:List AV} {w:aM} {loc:List aZ} {k m bg:Nat} {o:Option Nat} {out:List bj} {site next:Int} {L L1 L2:SH} {KL:R}
theorem cT(h:ml f args w loc k)(h1:eJ bg (gg w loc (am o m) site next) L L1)(h2:dL o 6 (out.map bj.enc) L1 L2)(hm:m=out.length)(h0:o=none→out=[])(hl:out.length+k<2^30)
  (hq:∀(o':Option Nat) (out':List bj) (site' next':Int),(o'=none→out'=[])→out.length≤out'.length→out'.length≤out.length+k→KL (.tup []) ((bg,gg w loc (am o' out'.length) site' next')::(L2++ae o' 6 (out'.map bj.enc)))):W.callM Tryz.prog f (.ptr bg 0 0::args) L KL:=by
 subst hm;refine xN (M:=L2) (h bg o out site next h0 hl) (h1.perm.trans (h2.perm.cons _)) ?_;rintro _ _ ⟨o',out',s',n',rfl,h3,h4,h5,rfl⟩;exact⟨_,.cons _ VQ,hq o' out' s' n' h3 h4 h5⟩
theorem qg{b:Nat}(h:ml f args w loc k)(h1:eJ bg (gg w loc (am (some b) m) site next) L L1)(h2:dL (some b) 6 (out.map bj.enc) L1 L2)(hm:m=out.length)(hp:0<out.length)(hl:out.length+k<2^30)
  (hq:∀(b':Nat) (out':List bj) (site' next':Int),out.length≤out'.length→out'.length≤out.length+k→KL (.tup []) ((bg,gg w loc (am (some b') out'.length) site' next')::(L2++ae (some b') 6 (out'.map bj.enc)))):W.callM Tryz.prog f (.ptr bg 0 0::args) L KL:=by
 refine cT h h1 h2 hm nofun hl λo' out' s' n' h3 h4 h5=>?_
 rcases o' with _|b'
 ·have:=h3 rfl;subst this;have h6:out.length≤0:=h4;omega
 ·exact hq b' out' s' n' h4 h5
theorem dx{a0 a1 a2 a3 a4 a5:Int}(h1:eJ bg (gg w loc (am o m) site next) L L1)(h2:dL o 6 (out.map bj.enc) L1 L2)(hm:m=out.length)(h0:o=none→out=[])(hl:out.length<2^30)
  (hq:∀(b:Nat) (out':List bj),out'.length=out.length+1→KL (.tup []) ((bg,gg w loc (am (some b) out'.length) site next)::(L2++ae (some b) 6 (out'.map bj.enc)))):W.callM Tryz.prog 20 [.ptr bg 0 0,.agg [.W6 a0,.W6 a1,.W6 a2,.W6 a3,.W6 a4,.W6 a5]] L KL:=by
 subst hm;exact Sw (i:=⟨a0,a1,a2,a3,a4,a5⟩) h1 h2 h0 hl λb=>hq b _ W4
theorem AJ{Q:R}
  (hQ:(λ(v:AV) (L:SH)=>∃v2 L2,aG [v] L [v2] L2∧∃(o':Option Nat) (out':List bj) (site' next':Int),v2=.tup []∧(o'=none→out'=[])∧out.length≤out'.length∧out'.length≤out.length+k∧L2=(bg,gg w loc (am o' out'.length) site' next')::ae o' 6 (out'.map bj.enc))=Q)
  (o':Option Nat) (out':List bj) (site' next':Int) (j:Nat) (L:SH) (h:gD L ((bg,gg w loc (am o' j) site' next')::ae o' 6 (out'.map bj.enc))) (hj:j=out'.length) (hn:o'=none→out'=[]) (h1:out.length≤out'.length) (h2:out'.length≤out.length+k):Q (.tup []) L:=by
 subst hQ hj;exact⟨_,_,aG.pick h rfl,o',out',site',next',rfl,hn,h1,h2,rfl⟩
theorem ml.mono{k2:Nat}(h:ml f args w loc k)(hk:k≤k2):ml f args w loc k2:=λbg o out site next h0 hl=>(h bg o out site next h0 W1).mono λu K ⟨o',out',s',n',a,b,c,d,e⟩=>⟨o',out',s',n',a,b,c,W1,e⟩
theorem Hf{K:AV→Prop}(h:K (.W6 (out.length:Int)))(h0:o=none→out=[]:=by assumption):W.len (am o out.length) K:=Ct h λe=>by rw[h0 e];rfl
end
theorem Sx{op:Int}{name:aZ}{n:Nat}(h:Dh op name n+z0 op<2^50):op≠0∧(n=0→op=1∨op=2)∧(op=3→name=[113]):=by
 unfold Dh z0 z3 at h;refine⟨λe=>?_,λe=>?_,λe=>?_⟩
 ·rw[if_pos e]at h;omega
 ·rw[if_pos e]at h;by_cases g:op=0∨op=1∨op=2
  ·rcases g with g|g|g
   ·rw[if_pos g]at h;omega
   ·exact .inl g
   ·exact .inr g
  ·rw[if_neg g]at h;omega
 ·by_cases g:name=[113]
  ·exact g
  ·rw[if_neg g,if_pos e]at h;omega
theorem P7:∀(l:List ao) (h:1<l.length),(l[0]'W1).wt+l[1].wt≤ao.wts l
 |x::y::l,_=>by simp only[ao.wts,List.getElem_cons_zero,List.getElem_cons_succ];omega
structure WQ(w:aM):Prop where
 c:w.cells.length<2^40
 l:w.locks.length<2^40
 d:w.conds.length<2^40
 f:w.futures.length<2^40
 t:w.threads.length<2^40
 q:∃b:Nat,b<w.cells.length∧wZ w.cells [113]=b
section
variable {w:aM} {loc:List aZ} (hw:WQ w) (hlo:loc.length<2^40)
include hw hlo
theorem Cy:∀(n:Nat) (e:ao) (d:Int),e.wt+z0 e.op≤n→n<2^29→ml 70 [.agg e.row,.W6 d] w loc e.wt:=by
 intro n
 induction n using Nat.strongRecOn with
 |_ n ih=>
 intro e d hn hn2 bg o out site next h0 hl
 have hwe:=e.wt_eq;have kids:∀(i:Nat) (h:i<e.l.length) (d:Int),ml 70 [.agg e.l[i].row,.W6 d] w loc e.l[i].wt:=λi h d=>ih _ (by have:=ao.wts_get0 e.l i h;omega) e.l[i] d (Vl _) (by have:=ao.wts_get0 e.l i h;omega)
 have kw:=ao.wts_get0 e.l;have kw2:=P7 e.l;have hx:=λ(i:Nat) (h:i<e.l.length)=>Dg h;obtain⟨b1,b2,b3⟩:=Sx (op:=e.op) (name:=e.name) (n:=e.l.length) W1;have ha:=I4 loc e.name W1;have hc:=F6 w e.name (by have:=hw.c;omega);refine af.fz (vd _ _ _ _ _ ?_);unfold kB;generalize hQ:(λ(v:AV) (L:SH)=>∃v2 L2,aG [v] L [v2] L2∧∃(o':Option Nat) (out':List bj) (site' next':Int),_)=Q;have fin:=AJ hQ;clear hQ;unfold ao.row;clear ih hn;generalize e.l=l at *;generalize e.op=op at *;generalize e.name=name at *;by_cases p1:op=1
 ·subst p1
  repeat' (first|refine st ?_|((with_reducible refine aX 20 ?_);(refine dx rp rp om an om (λb_ out_ hl_=>?_)))|refine sb λnb_ hnb_=>?_|refine s2 (λh=>?_) λh=>?_|fail)
  exact fin _ _ _ _ _ _ (.one (.here _) (.slotl .last)) om an om om
 by_cases p2:op=2
 ·subst p2
  repeat' (first|refine st ?_|((with_reducible refine aX 20 ?_);(refine dx rp rp om an om (λb_ out_ hl_=>?_)))|((with_reducible refine dZ 20 ?_);refine m4 ?_;refine dx rp rp om an om (λb_ out_ hl_ ks_=>?_))|(refine pf 64 ?_;refine pm (ha) ?_)|(refine pf 105 ?_;refine pm (hc) ?_)|refine sb λnb_ hnb_=>?_|refine s2 (λh=>?_) λh=>?_|fail)
  all_goals exact fin _ _ _ _ _ _ (.one (.here _) (.slotl .last)) om an om om
 have d1:decide (op=1)=false:=decide_eq_false p1;have d2:decide (op=2)=false:=decide_eq_false p2;have hl0:0<l.length:=by
  rcases We l.length with h|h
  ·rcases b2 h with h|h
   ·exact absurd h p1
   ·exact absurd h p2
  ·exact h
 have k0:=kids 0 hl0;have x0:=hx 0 hl0;have g0:=kw 0 hl0;by_cases p3:op=3
 ·subst p3;obtain⟨b,hb,hcb⟩:=hw.q;rw[b3 rfl,hcb]at hc;have e3:=b3 rfl;subst e3;have hxc:=aw (f:=aY.enc) hb;clear kids kw kw2 hx b1 b2 b3;generalize l[0]=a at *
  repeat' (first|refine st ?_|((with_reducible refine aX 70 ?_);(refine cT (k0 _) rp rp om an om (λo_ out_ s_ n_ ho_ hl_ hm_=>?_)))|(refine pf 105 ?_;refine pm (hc) ?_)|((with_reducible refine aX 20 ?_);(refine dx rp rp om an om (λb_ out_ hl_=>?_)))|refine sb λnb_ hnb_=>?_|refine s2 (λh=>?_) λh=>?_|fail)
  exact fin _ _ _ _ _ _ (.one (.here _) (.slotl .last)) om an om om
 have d3:decide (op=3)=false:=decide_eq_false p3;by_cases p4:l.length=1
 ·have d4:decide ((l.length:Int)=1)=true:=decide_eq_true W1;clear kids kw kw2 hx b1 b2 b3;generalize l[0]=a at *
  repeat' (first|refine st ?_|((with_reducible refine aX 70 ?_);(refine cT (k0 _) rp rp om an om (λo_ out_ s_ n_ ho_ hl_ hm_=>?_)))|((with_reducible refine aX 20 ?_);(refine dx rp rp om an om (λb_ out_ hl_=>?_)))|refine sb λnb_ hnb_=>?_|refine s2 (λh=>?_) λh=>?_|fail)
  exact fin _ _ _ _ _ _ (.one (.here _) (.slotl .last)) om an om om
 ·have d4:decide ((l.length:Int)=1)=false:=decide_eq_false W1;have hl1:1<l.length:=by omega
  have k1:=kids 1 hl1;have x1:=hx 1 hl1;have g1:=kw2 hl1;clear kids kw kw2 hx b1 b2 b3;generalize l[0]=a at *;generalize l[1]=c at *
  repeat' (first|refine st ?_|((with_reducible refine aX 70 ?_);(refine cT (k0 _) rp rp om an om (λo_ out_ s_ n_ ho_ hl_ hm_=>?_)))|((with_reducible refine aX 70 ?_);(refine cT (k1 _) rp rp om an om (λo_ out_ s_ n_ ho_ hl_ hm_=>?_)))|((with_reducible refine aX 20 ?_);(refine dx rp rp om an om (λb_ out_ hl_=>?_)))|refine sb λnb_ hnb_=>?_|refine s2 (λh=>?_) λh=>?_|fail)
  exact fin _ _ _ _ _ _ (.one (.here _) (.slotl .last)) om an om om
end
end
section
set_option maxRecDepth 100000
set_option maxHeartbeats 4000000
theorem Lu{b N off m m2 k:Nat}{kd:IntKind}{out:List bj}{v:AV}{L:SH}{g:Nat×Blk}{KS:SH→Fp→Prop}(hk:k<out.length)(hL:L=g::ae (some b) 6 (out.map bj.enc))(hN:N=out.length)(f:bj→bj)(he:∀i:bj,i.enc.set off v=(f i).enc)(ho:off<6)(hv:v.cells? =some [v])(h1:v.one=true)
  (kk:∀(out2:List bj) (r:Fp),out2.length=out.length→KS (g::ae (some b) 6 (out2.map bj.enc)) r):di [] m 6 (am (some b) N) (.int kd (k:Int)) L λx r=>W.faddr off x λy=>ds [] m2 1 y v L KS:=by
 subst hN hL;refine Ro (Gz (dy (sP (yZ (TH (Gz ?_)))) hk (.tail _ (.head _)) rfl));refine AW (x:=⟨6,out.map bj.enc⟩) (r:=out[k].enc) (x':=⟨6,(out.set k (f out[k])).map bj.enc⟩) (.there _ (.here _)) (aw hk) hv h1 (by rw[Wg];exact ho) ?_ (sP (kk _ _ W4));rw[Wh,Wg,he]
theorem Ve{b N m m2 k:Nat}{kd:IntKind}{n:Int}{out:List bj}{L:SH}{g:Nat×Blk}{KS:SH→Fp→Prop}(hL:L=g::ae (some b) 6 (out.map bj.enc))(hN:N=out.length)(hk:k<out.length)
  (kk:∀(out2:List bj) (r:Fp),out2.length=out.length→KS (g::ae (some b) 6 (out2.map bj.enc)) r):di [] m 6 (am (some b) N) (.int kd (k:Int)) L λx r=>W.faddr 2 x λy=>ds [] m2 1 y (.W6 n) L KS:=
 Lu hk hL hN (λi=>{i with b:=n}) (λ_=>rfl) W5 rfl rfl kk
theorem Vf{b N m m2 k:Nat}{kd:IntKind}{n:Int}{out:List bj}{L:SH}{g:Nat×Blk}{KS:SH→Fp→Prop}(hL:L=g::ae (some b) 6 (out.map bj.enc))(hN:N=out.length)(hk:k<out.length)
  (kk:∀(out2:List bj) (r:Fp),out2.length=out.length→KS (g::ae (some b) 6 (out2.map bj.enc)) r):di [] m 6 (am (some b) N) (.int kd (k:Int)) L λx r=>W.faddr 1 x λy=>ds [] m2 1 y (.W6 n) L KS:=
 Lu hk hL hN (λi=>{i with a:=n}) (λ_=>rfl) W5 rfl rfl kk
theorem Sy(bg:Nat)(w:aM)(loc:List aZ)(v:AV)(site next:Int)(s:aZ)(hl:w.conds.length<2^62):
  af Tryz.prog 69 [.ptr bg 0 0,.str s] [(bg,gg w loc v site next)] λu K=>∃n:Int,u=.W6 n∧K=[(bg,gg w loc v site next)]:=by
 refine yr _ _ _ _ ?_;unfold mh;refine l7 w.conds.length (λi=>[.ptr bg 0 0,.str s,.W6 i]) hl rfl (λi h1 hd hi nx hn=>?_) (λi h1 hd nx=>?_)
 all_goals unfold kC
 ·have hx:=aw (f:=cS.enc) h1;unfold gg at *
  repeat' (first|refine st ?_|refine sb λnb_ hnb_=>?_|refine s2 (λh=>?_) λh=>?_|fail)
  all_goals first|exact⟨_,rfl,rfl⟩|exact hn
 ·unfold gg at *
  repeat' (first|refine st ?_|refine sb λnb_ hnb_=>?_|refine s2 (λh=>?_) λh=>?_|fail)
  exact⟨_,rfl,rfl⟩
section
variable {w:aM} {loc:List aZ} (hw:WQ w) (hlo:loc.length<2^40)
include hw hlo
theorem OF(x:ab)(hx:x.wt<2^29)(h1:x.op=1):ml 66 [.agg x.row] w loc (ao.wts x.index+x.expr.wt+1):=by
 intro bg o out site next h0 hl
 have hwe:=x.wt_eq;rw[h1,show zv 1 x.expr.op=z0 x.expr.op from rfl]at hwe;have ve:=λd=>Cy hw hlo _ x.expr d (Vl _) W1
 have vi:=λ(i:Nat) (h:i<x.index.length) d=>Cy hw hlo _ x.index[i] d (Vl _) (by have:=ao.wts_get0 x.index i h;omega);have gi:=ao.wts_get0 x.index;have hxi:=λ(i:Nat) (h:i<x.index.length)=>Dg h;have ha:=I4 loc x.name W1;have hc:=F6 w x.name (by have:=hw.c;omega);refine af.fz (rW _ _ _ _ ?_);unfold jO;generalize hQ:(λ(v:AV) (L:SH)=>∃v2 L2,aG [v] L [v2] L2∧∃(o':Option Nat) (out':List bj) (site' next':Int),_)=Q;have fin:=AJ hQ;clear hQ;unfold ab.row ao.row at *;by_cases p:x.index.length=0
 ·have d1:decide ((0:Int)<(x.index.length:Int))=false:=decide_eq_false W1;clear vi gi hxi
  repeat' (first|refine st ?_|((with_reducible refine aX 70 ?_);(refine cT (ve _) rp rp om an om (λo_ out_ s_ n_ ho_ hl_ hm_=>?_)))|(refine pf 64 ?_;refine pm (ha) ?_)|(refine pf 105 ?_;refine pm (hc) ?_)|((with_reducible refine aX 20 ?_);(refine dx rp rp om an om (λb_ out_ hl_=>?_)))|((with_reducible refine dZ 20 ?_);refine m4 ?_;refine dx rp rp om an om (λb_ out_ hl_ ks_=>?_))|refine sb λnb_ hnb_=>?_|refine s2 (λh=>?_) λh=>?_|fail)
  all_goals exact fin _ _ _ _ _ _ (.one (.here _) (.slotl .last)) om an om om
 ·have d1:decide ((0:Int)<(x.index.length:Int))=true:=decide_eq_true W1;have p0:0<x.index.length:=by omega
  have v0:=vi 0 p0;have g0:=gi 0 p0;have x0:=hxi 0 p0;obtain⟨b,hb,hcb⟩:=hw.q;have e3:x.name=[113]:=by
   by_cases g:x.name=[113]
   ·exact g
   ·unfold zi at hwe;rw[if_neg (by rintro(h|h);exact p h;exact g h)]at hwe;omega
  rw[e3,hcb]at hc;rw[e3];have hxc:=aw (f:=aY.enc) hb;clear vi gi hxi;generalize x.index[0]=a at *
  repeat' (first|refine st ?_|((with_reducible refine aX 70 ?_);(refine cT (v0 _) rp rp om an om (λo_ out_ s_ n_ ho_ hl_ hm_=>?_)))|((with_reducible refine aX 70 ?_);(refine cT (ve _) rp rp om an om (λo_ out_ s_ n_ ho_ hl_ hm_=>?_)))|(refine pf 105 ?_;refine pm (hc) ?_)|((with_reducible refine aX 20 ?_);(refine dx rp rp om an om (λb_ out_ hl_=>?_)))|refine sb λnb_ hnb_=>?_|refine s2 (λh=>?_) λh=>?_|fail)
  exact fin _ _ _ _ _ _ (.one (.here _) (.slotl .last)) om an om om
theorem Ki(x:ab){kb ke:Nat}(hx:x.wt<2^29)(h1:x.op=2∨x.op=3)(hB:ml 19 [.lst (x.body.map ab.enc)] w loc kb)(hE:ml 19 [.lst (x.els.map ab.enc)] w loc ke):ml 67 [.agg x.row] w loc (x.expr.wt+kb+ke+2):=by
 intro bg o out site next h0 hl
 have hwe:=x.wt_eq;have hz:zv x.op x.expr.op=z0 x.expr.op:=if_pos W1;have ve:=λd=>Cy hw hlo _ x.expr d (Vl _) W1
 refine af.fz (oP _ _ _ _ ?_);unfold hY;generalize hQ:(λ(v:AV) (L:SH)=>∃v2 L2,aG [v] L [v2] L2∧∃(o':Option Nat) (out':List bj) (site' next':Int),_)=Q;have fin:=AJ hQ;clear hQ;unfold ab.row ao.row at *;clear hwe hz hx;generalize x.op=op at *;have h9:decide (op=3)=true∨decide (op=3)=false:=by cases decide (op=3)<;>simp
 have e9:decide ((x.els.length:Int)=0)=true∨decide ((x.els.length:Int)=0)=false:=by cases decide ((x.els.length:Int)=0)<;>simp
 clear h1;rcases h9 with h9|h9
 ·repeat' (first|refine Ve W3 om om (λout_ r_ hp_=>?_)|refine Vf W3 om om (λout_ r_ hp_=>?_)|refine st ?_|refine Hf ?_|((with_reducible refine dZ 70 ?_);refine m4 ?_;refine cT (ve _) rp rp om an om (λo_ out_ s_ n_ ho_ hl_ hm_ ks_=>?_))|((with_reducible refine aX 20 ?_);(refine dx rp rp om an om (λb_ out_ hl_=>?_)))|((with_reducible refine aX 19 ?_);(refine qg hB rp rp om om om (λb_ out_ s_ n_ hl_ hm_=>?_)))|refine sb λnb_ hnb_=>?_|fail)
  exact fin _ _ _ _ _ _ (.one (.here _) (.slotl .last)) om an om om
 rcases e9 with e9|e9
 ·repeat' (first|refine Ve W3 om om (λout_ r_ hp_=>?_)|refine Vf W3 om om (λout_ r_ hp_=>?_)|refine st ?_|refine Hf ?_|((with_reducible refine dZ 70 ?_);refine m4 ?_;refine cT (ve _) rp rp om an om (λo_ out_ s_ n_ ho_ hl_ hm_ ks_=>?_))|((with_reducible refine aX 20 ?_);(refine dx rp rp om an om (λb_ out_ hl_=>?_)))|((with_reducible refine aX 19 ?_);(refine qg hB rp rp om om om (λb_ out_ s_ n_ hl_ hm_=>?_)))|refine sb λnb_ hnb_=>?_|fail)
  exact fin _ _ _ _ _ _ (.one (.here _) (.slotl .last)) om an om om
 ·repeat' (first|refine Ve W3 om om (λout_ r_ hp_=>?_)|refine Vf W3 om om (λout_ r_ hp_=>?_)|refine st ?_|refine Hf ?_|((with_reducible refine dZ 70 ?_);refine m4 ?_;refine cT (ve _) rp rp om an om (λo_ out_ s_ n_ ho_ hl_ hm_ ks_=>?_))|((with_reducible refine aX 20 ?_);(refine dx rp rp om an om (λb_ out_ hl_=>?_)))|((with_reducible refine aX 19 ?_);(refine qg hB rp rp om om om (λb_ out_ s_ n_ hl_ hm_=>?_)))|((with_reducible refine aX 19 ?_);(refine qg hE rp rp om om om (λb_ out_ s_ n_ hl_ hm_=>?_)))|refine sb λnb_ hnb_=>?_|fail)
  exact fin _ _ _ _ _ _ (.one (.here _) (.slotl .last)) om an om om
omit hw hlo in
theorem OG(x:ab){kb:Nat}{f l ob:Int}(hB:ml 19 [.lst (x.body.map ab.enc)] w loc kb):ml 68 [.agg x.row,.W6 f,.W6 l,.W6 ob] w loc (kb+2):=by
 intro bg o out site next h0 hl
 refine af.fz (rZ _ _ _ _ _ _ _ ?_);unfold jP;generalize hQ:(λ(v:AV) (L:SH)=>∃v2 L2,aG [v] L [v2] L2∧∃(o':Option Nat) (out':List bj) (site' next':Int),_)=Q;have fin:=AJ hQ;clear hQ;unfold ab.row at *
 repeat' (first|refine st ?_|((with_reducible refine aX 20 ?_);(refine dx rp rp om an om (λb_ out_ hl_=>?_)))|((with_reducible refine aX 19 ?_);(refine qg hB rp rp om om om (λb_ out_ s_ n_ hl_ hm_=>?_)))|refine sb λnb_ hnb_=>?_|fail)
 exact fin _ _ _ _ _ _ (.one (.here _) (.slotl .last)) om an om om
theorem Sz(x:ab){kb ke:Nat}(hx:x.wt<2^29)(hB:ml 19 [.lst (x.body.map ab.enc)] w loc kb)(hE:ml 19 [.lst (x.els.map ab.enc)] w loc ke):ml 44 [.agg x.row] w loc (ao.wts x.index+x.expr.wt+kb+ke+2):=by
 intro bg o out site next h0 hl
 have hwe:=x.wt_eq;have c1:=Mu w.locks x.name (by have:=hw.l;omega);have c2:=I4 w.threads x.name (by have:=hw.t;omega);have c3:=I4 w.futures x.name (by have:=hw.f;omega);have c4:=I4 w.futures x.arg (by have:=hw.f;omega);have c5:=I4 loc x.name W1;have cc:=λ(v:AV) (site next:Int)=>Sy bg w loc v site next x.name (by have:=hw.d;omega)
 have ve:=λ(h:x.op=14) d=>Cy hw hlo _ x.expr d (Vl _) (by rw[h,show zv 14 x.expr.op=z0 x.expr.op from rfl]at hwe;omega);have va:=OF hw hlo x hx;have vb:=λh=>Ki hw hlo x hx h hB hE
 have vr:=λ(f l ob:Int)=>OG x (f:=f) (l:=l) (ob:=ob) hB;refine af.fz (yO _ _ _ _ ?_);unfold mi;generalize hQ:(λ(v:AV) (L:SH)=>∃v2 L2,aG [v] L [v2] L2∧∃(o':Option Nat) (out':List bj) (site' next':Int),_)=Q;have fin:=AJ hQ;clear hQ;clear hB hE hwe hx;obtain⟨op,line,name,arg,index,e,body,els⟩:=x;unfold ab.row ao.row at *;dsimp only[ab.op,ab.line,ab.name,ab.arg,ab.index,ab.expr,ab.body,ab.els]at *
 repeat' (first|refine st ?_|((with_reducible refine aX 66 ?_);(refine cT (va (of_decide_eq_true W2)) rp rp om an om (λo_ out_ s_ n_ ho_ hl_ hm_=>?_)))|((with_reducible refine aX 67 ?_);(refine cT (vb (by first|exact .inl (of_decide_eq_true W2)|exact .inr (of_decide_eq_true W2))) rp rp om an om (λo_ out_ s_ n_ ho_ hl_ hm_=>?_)))|((with_reducible refine dZ 68 ?_);refine m4 ?_;refine cT (vr _ _ _) rp rp om an om (λo_ out_ s_ n_ ho_ hl_ hm_ ks_=>?_))|((with_reducible refine aX 68 ?_);(refine cT (vr _ _ _) rp rp om an om (λo_ out_ s_ n_ ho_ hl_ hm_=>?_)))|((with_reducible refine aX 69 ?_);(refine j7 (cc _ _ _) rp ?_;rintro _ _ ⟨n_,rfl,rfl⟩;dsimp only[List.cons_append,List.nil_append]))|((with_reducible refine dZ 69 ?_);refine m4 ?_;refine j7 (cc _ _ _) rp ?_;rintro _ _ ⟨n_,rfl,rfl⟩ ks_;dsimp only[List.cons_append,List.nil_append])|(refine pf 42 ?_;refine pm (c1) ?_)|(refine pf 64 ?_;refine pm (c2) ?_)|(refine pf 64 ?_;refine pm (c3) ?_)|(refine pf 64 ?_;refine pm (c4) ?_)|(refine pf 64 ?_;refine pm (c5) ?_)|((with_reducible refine aX 70 ?_);(refine cT (ve (of_decide_eq_true W2) _) rp rp om an om (λo_ out_ s_ n_ ho_ hl_ hm_=>?_)))|((with_reducible refine aX 20 ?_);(refine dx rp rp om an om (λb_ out_ hl_=>?_)))|((with_reducible refine dZ 20 ?_);refine m4 ?_;refine dx rp rp om an om (λb_ out_ hl_ ks_=>?_))|refine sb λnb_ hnb_=>?_|refine s2 (λh=>?_) λh=>?_|fail)
 all_goals exact fin _ _ _ _ _ _ (.one (.here _) (.slotl .last)) om an om om
end
end
mutual
def Kj(t:Nat):Nat→ab→List cI
 |n,.mk _ line _ _ _ _ body els=>⟨t,n,line⟩::(sitL t (n+1) body++sitL t (n+1+ab.cnts body) els)
def sitL(t:Nat):Nat→List ab→List cI
 |_,[]=>[]
 |n,x::l=>Kj t n x++sitL t (n+1+x.cnt) l
end
theorem P8(t n:Nat)(x:ab):Kj t n x=⟨t,n,x.line⟩::(sitL t (n+1) x.body++sitL t (n+1+ab.cnts x.body) x.els):=by cases x;rw[Kj];rfl
mutual
theorem OH(t:Nat):∀(n:Nat) (x:ab),(Kj t n x).length=1+x.cnt
 |n,.mk a b c d e f body els=>by rw[Kj];simp only[VI,Vu,sitL_len t _ body,sitL_len t _ els,ab.cnt];omega
theorem sitL_len(t:Nat):∀(n:Nat) (l:List ab),(sitL t n l).length=ab.cnts l
 |n,[]=>rfl
 |n,x::l=>by rw[sitL];simp only[Vu,OH t _ x,sitL_len t _ l,ab.cnts]
end
theorem ab.cnts_append:∀l m:List ab,ab.cnts (l++m)=ab.cnts l+ab.cnts m
 |[],m=>by simp[ab.cnts]
 |x::l,m=>by simp only[Ww,ab.cnts,ab.cnts_append l m];omega
theorem A8(t:Nat):∀(n:Nat) (l m:List ab),sitL t n (l++m)=sitL t n l++sitL t (n+ab.cnts l) m
 |n,[],m=>by simp[sitL,ab.cnts]
 | n,x::l,m=>by simp only[Ww,sitL,A8 t _ l m,ab.cnts,VZ];rw[show n+1+x.cnt+ab.cnts l=n+(1+x.cnt+ab.cnts l) by omega]
def aF.celW(d:aF):List aY:=(List.range (max d.size 1).toNat).map λk=>⟨d.name,(k:Nat),d.size,decide (d.kind=2),d.init⟩
def bR(w:aM)(d:aF):aM:=
 if d.kind=1∨d.kind=2 then {w with cells:=w.cells++d.celW} else
 if d.kind=3∨d.kind=4 then {w with locks:=w.locks++[⟨d.name,decide (d.kind=4)⟩]} else
 if d.kind=5 then {w with conds:=w.conds++[⟨d.name,fQ w.locks d.on⟩]} else {w with futures:=w.futures++[d.name]}
def aM.zero:aM:=⟨[],[],[],[],[],[]⟩
def dm(w:aM)(t:ah):aM:={w with threads:=w.threads++[t.name],sites:=w.sites++sitL w.threads.length 0 t.body}
def lq(p:bL):aM:=p.threads.foldl dm (p.decls.foldl bR aM.zero)
theorem vA{α β:Type}{f:β→α→β}{l:List α}{a:β}{i:Nat}(h:i<l.length):(l.take (i+1)).foldl f a=f ((l.take i).foldl f a) l[i]:=by rw[Vw h,List.foldl_append];rfl
section
set_option maxRecDepth 100000
set_option maxHeartbeats 2000000
def UA(t:Nat)(l:List ab):Prop:=∀(o:Option Nat) (out:List cI) (n:Nat),(o=none→out=[])→out.length+ab.cnts l<2^30→n+ab.cnts l<2^30→
 af Tryz.prog 43 [am o out.length,.W6 t,.W6 n,.lst (l.map ab.enc)] (ae o 3 (out.map cI.enc)) λu K=>∃(v:AV) (o':Option Nat),u=v∧v=.tup [am o' (out++sitL t n l).length,.W6 ((n+ab.cnts l:Nat):Int)]∧(o'=none→out++sitL t n l=[])∧K=ae o' 3 ((out++sitL t n l).map cI.enc)
theorem Kk{t n k:Nat}{l:List ab}{o:Option Nat}{out:List cI}{rows:List (List AV)}{L L2:SH}{KL:R}(h:UA t l)(h2:dL o 3 rows L L2)(hr:rows=out.map cI.enc)(hk:k=out.length)(h0:o=none→out=[])(hl:out.length+ab.cnts l<2^30)(hn:n+ab.cnts l<2^30)
  (hq:∀o':Option Nat,(o'=none→out++sitL t n l=[])→KL (.tup [am o' (out++sitL t n l).length,.W6 ((n+ab.cnts l:Nat):Int)]) (L2++ae o' 3 ((out++sitL t n l).map cI.enc))):W.callM Tryz.prog 43 [am o k,.W6 t,.W6 n,.lst (l.map ab.enc)] L KL:=by
 subst hr hk;refine xN (M:=L2) (h o out n h0 hl hn) h2.perm ?_;rintro _ _ ⟨v,o',rfl,rfl,h3,rfl⟩;exact⟨_,VQ,hq o' h3⟩
theorem OI(t:Nat):∀(k:Nat) (l:List ab),ab.wts l≤k→k<2^40→UA t l:=by
 intro k
 induction k using Nat.strongRecOn with
 |_ k ih=>
  intro l hl hk o out n h0 h1 h2;have hlen:=ab.wts_len l;refine af.fz (Ey _ _ _ _ _ _ ?_);unfold sH;generalize hQ:(λ(v:AV) (L:SH)=>∃v2 L2,aG [v] L [v2] L2∧∃(v:AV) (o':Option Nat),_)=Q;have fin:∀o':Option Nat,(o'=none→out++sitL t n l=[])→Q (.tup [am o' (out++sitL t n l).length,.W6 ((n+ab.cnts l:Nat):Int)]) (ae o' 3 ((out++sitL t n l).map cI.enc)):=λo' h=>by subst hQ;exact⟨_,_,.refl _ _,_,o',rfl,rfl,h,rfl⟩
  clear hQ;refine cb l.length (λi o'=>([am o' (out++sitL t n (l.take i)).length,.W6 t,.W6 ((n+ab.cnts (l.take i):Nat):Int),.lst (l.map ab.enc),.W6 i],ae o' 3 ((out++sitL t n (l.take i)).map cI.enc))) (λi o'=>o'=none→out++sitL t n (l.take i)=[]) o (by simpa[sitL]using h0) (by simpa[sitL,ab.cnts]using aG.refl _ _) ?_;rintro i o1 hi hG;dsimp only;unfold qe;generalize hnx:(λ(vs':List AV) (L':SH)=>∃j o',i<j∧j≤l.length∧_)=nx;rcases Nat.lt_or_ge i l.length with g1|g1
  ·have hd:=bI g1;have hi1:=aD g1 W1;have hx:=FJ g1;have hwi:=ab.wts_get l i g1;have hwe:=(l[i]).wt_eq;have hce:=(l[i]).cnt_eq;have c1:=ih _ W1 l[i].body (Vl _) W1;have c2:=ih _ W1 l[i].els (Vl _) W1;have e1:l=l.take i++(l[i]::l.drop (i+1)):=by rw[List.getElem_cons_drop,List.take_append_drop]
   have e2:ab.cnts l=ab.cnts (l.take i)+(1+l[i].cnt+ab.cnts (l.drop (i+1))):=by
    conv=>lhs;rw[e1]
    rw[ab.cnts_append];rfl
   have e3:sitL t n (l.take (i+1))=sitL t n (l.take i)++Kj t (n+ab.cnts (l.take i)) l[i]:=by rw[Vw g1,A8];simp[sitL]
   have e4:ab.cnts (l.take (i+1))=ab.cnts (l.take i)+(1+l[i].cnt):=by rw[Vw g1,ab.cnts_append];simp[ab.cnts]
   have hn:∀(o':Option Nat) (out':List cI) (m:Nat),out'=out++sitL t n (l.take i)++Kj t (n+ab.cnts (l.take i)) l[i]→m=n+ab.cnts (l.take i)+(1+l[i].cnt)→(o'=none→out'=[])→∀L':SH,gD L' (ae o' 3 (out'.map cI.enc))→nx [am o' out'.length,.W6 t,.W6 (m:Nat),.lst (l.map ab.enc),.W6 ((i+1:Nat):Int)] L':=by
    intro o' out' m q1 q2 q3 L' q4;subst hnx;refine⟨i+1,o',W1,W1,?_,?_⟩
    ·rw[e3,←VZ,←q1];exact q3
    ·rw[e3,←VZ,←q1,e4,←Wd,←q2];exact .pick q4 rfl
   clear hnx;have hlo:(out++sitL t n (l.take i)).length=out.length+ab.cnts (l.take i):=by rw[Vu,sitL_len]
   generalize out++sitL t n (l.take i)=OUT at *;generalize hN:n+ab.cnts (l.take i)=N at *;generalize l[i]=x at *;have a1:IntKind.i64.wrap ((N:Int)+1)=((N+1:Nat):Int):=by rw[V9 _ W1];omega
   have ho':o1=none→OUT.map cI.enc=[]:=λe=>by rw[hG e];rfl
   repeat' (first|refine st ?_|refine cx rp rp W4 (λe=>by first|simp[ho' e]) W3 W4 (by simp;omega) (by simp;omega) W3 (λnb_ hnb_=>?_)|((with_reducible refine aX 43 ?_);(refine Kk c1 (o:=some _) (out:=OUT++[⟨t,N,x.line⟩]) rp (by rw[List.map_append];rfl) W4 nofun (by simp;omega) W1 (λo_ ho_=>?_);dsimp only[List.cons_append,List.nil_append]))|((with_reducible refine aX 43 ?_);(refine Kk c2 rp rfl rfl ho_ (by simp[sitL_len];omega) W1 (λo_ ho_=>?_);dsimp only[List.cons_append,List.nil_append]))|refine sb λnb_ hnb_=>?_|refine s2 (λh=>?_) λh=>?_|fail)
   exact hn o_ _ _ (by simp[P8,VZ]) W1 ho_ _ (.slotl rp)
  ·have hd:=bO g1;have:i=l.length:=by omega
   subst this;rw[List.take_length]at *
   repeat' (first|refine st ?_|refine sb λnb_ hnb_=>?_|refine s2 (λh=>?_) λh=>?_|fail)
   exact fin _ hG
end
end Go.Proofs.YtenbpcngcicamaaGreatDoor.Am
