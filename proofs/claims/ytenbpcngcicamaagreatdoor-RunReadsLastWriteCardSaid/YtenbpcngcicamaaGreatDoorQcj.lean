/- A part of the proof; the statement is proved in the last part. -/
import Derived.Test.YtenbpcngcicamaaGreatDoorQci
set_option linter.unusedSimpArgs false
set_option linter.unusedVariables false
namespace Go.Proofs.YtenbpcngcicamaaGreatDoor.Am
section
set_option maxRecDepth 100000
def w9(a:AV)(L:SH)(Q:R):Prop:=wk a (Q (.W9 1) L) (Q (.W9 0) L)
theorem EW(t0:AV)(L:SH)(Q:R)(h:w9 t0 L Q):ai Tryz.prog 107 [t0] L Q:=
 fs [] [] [] [] Tryz.func107 h
def EX(Q:R)(L:SH)(a b:AV):Prop:=wb .eql 3 a (.W9 5) λc=>wk c (wb .eql 2 b (.W9 0) λd=>wc (.fn 107 []) [d] L λe f=>Q (.tup [e,(.bool true)]) f) (Q (.tup [(.W9 0),(.bool false)]) L)
def xc(a b:AV)(L:SH)(Q:R):Prop:=wb .eql 3 a (.W9 4) λc=>wk c (W.un .neg b λd=>Q (.tup [d,(.bool true)]) L) ((EX Q L a b))
theorem EY(t0 t1:AV)(L:SH)(Q:R)(h:xc t0 t1 L Q):ai Tryz.prog 77 [t0,t1] L Q:=
 fs [] [] [] [] Tryz.func77 h
def Dj(Q:R)(L:SH)(b c:AV):Prop:=wb .neq 2 b (.W9 0) λa=>bH a true c L λd e=>wg a true (wb .neq 2 d (.W9 0)) e λf g=>W.pick a f (.bool false) λh=>wc (.fn 107 []) [h] g λi j=>Q (.tup [i,(.bool true)]) j
def Dk(Q:R)(L:SH)(b c:AV):Prop:=wb .neq 2 b (.W9 0) λa=>bH a false c L λd e=>wg a false (wb .neq 2 d (.W9 0)) e λf g=>W.pick a (.bool true) f λh=>wc (.fn 107 []) [h] g λi j=>Q (.tup [i,(.bool true)]) j
def Dl(Q:R)(L:SH)(a b c:AV):Prop:=wb .eql 3 a (.W9 17) λd=>wk d ((Dj Q L b c)) (wb .eql 3 a (.W9 18) λe=>wk e ((Dk Q L b c)) (Q (.tup [(.W9 0),(.bool false)]) L))
def Dm(Q:R)(L:SH)(a b c:AV):Prop:=wb .eql 3 a (.W9 16) λd=>wk d (wb .geq 2 b c λe=>wc (.fn 107 []) [e] L λf g=>Q (.tup [f,(.bool true)]) g) ((Dl Q L a b c))
def Dn(Q:R)(L:SH)(a b c:AV):Prop:=wb .eql 3 a (.W9 15) λd=>wk d (wb .gtr 2 b c λe=>wc (.fn 107 []) [e] L λf g=>Q (.tup [f,(.bool true)]) g) ((Dm Q L a b c))
def Do(Q:R)(L:SH)(a b c:AV):Prop:=wb .eql 3 a (.W9 14) λd=>wk d (wb .leq 2 b c λe=>wc (.fn 107 []) [e] L λf g=>Q (.tup [f,(.bool true)]) g) ((Dn Q L a b c))
def Dp(Q:R)(L:SH)(a b c:AV):Prop:=wb .eql 3 a (.W9 13) λd=>wk d (wb .lss 2 b c λe=>wc (.fn 107 []) [e] L λf g=>Q (.tup [f,(.bool true)]) g) ((Do Q L a b c))
def Dq(Q:R)(L:SH)(a b c:AV):Prop:=wb .eql 3 a (.W9 12) λd=>wk d (wb .neq 2 b c λe=>wc (.fn 107 []) [e] L λf g=>Q (.tup [f,(.bool true)]) g) ((Dp Q L a b c))
def Dr(Q:R)(L:SH)(a b c:AV):Prop:=wb .eql 3 a (.W9 11) λd=>wk d (wb .eql 2 b c λe=>wc (.fn 107 []) [e] L λf g=>Q (.tup [f,(.bool true)]) g) ((Dq Q L a b c))
def Ds(Q:R)(L:SH)(b a c:AV):Prop:=wb .eql 3 b (.W9 10) λd=>wk d (wb .eql 2 a (.W9 0) λe=>wk e (Q (.tup [(.W9 0),(.bool true)]) L) (wb .rem 2 c a λf=>Q (.tup [f,(.bool true)]) L)) ((Dr Q L b c a))
def BO(Q:R)(L:SH)(b a c:AV):Prop:=wb .eql 3 b (.W9 9) λd=>wk d (wb .eql 2 a (.W9 0) λe=>wk e (Q (.tup [(.W9 0),(.bool true)]) L) (wb .quo 2 c a λf=>Q (.tup [f,(.bool true)]) L)) ((Ds Q L b a c))
def BP(Q:R)(L:SH)(a b c:AV):Prop:=wb .eql 3 a (.W9 7) λd=>wk d (wb .sub 2 b c λe=>Q (.tup [e,(.bool true)]) L) (wb .eql 3 a (.W9 8) λf=>wk f (wb .mul 2 b c λg=>Q (.tup [g,(.bool true)]) L) ((BO Q L a c b)))
def sh(a b c:AV)(L:SH)(Q:R):Prop:=wb .eql 3 a (.W9 6) λd=>wk d (wb .add 2 b c λe=>Q (.tup [e,(.bool true)]) L) ((BP Q L a b c))
theorem Dt(t0 t1 t2:AV)(L:SH)(Q:R)(h:sh t0 t1 t2 L Q):ai Tryz.prog 78 [t0,t1,t2] L Q:=
 fs [] [] [] [] Tryz.func78 h
def pu(a b:AV)(L:SH)(Q:R):Prop:=W.len a λd=>W.len b λe=>wb .add 3 d e λf=>W.mslice 1 8 [(.W9 0)] (.W9 0) f L λg h=>W.append 1 8 g a h λi j=>W.append 1 8 i b j λc k=>wc (.fn 86 []) [c] k λo l=>wc (.fn 87 []) [c] l λm n=>Q m n
theorem BQ(t0 t1:AV)(L:SH)(Q:R)(h:pu t0 t1 L Q):ai Tryz.prog 120 [t0,t1] L Q:=
 fs [] [] [] [] Tryz.func120 h
def iq(d:Kn)(a b e f g h i:AV)(c:SH):Prop:=W.idx 1 a b c λj=>W.store 1 j i c λk=>wb .add 3 b (.W9 1) λl=>d [e,f,a,g,h,l] k
def ir(Q:R)(j:Vs)(a:SH)(k:Kn):Prop:=Hf 1 2 3 15 16 17 j λb c e f g d=>wb .lss 3 d g λl=>wk l (wx 1 f d a λm=>wc (.fn 93 []) [m] a (iq k e d b c f g)) (W.faddr 2 b λn=>W.store 1 n e a λh=>ca 4 b h λo=>W.store 4 c o h λi=>W.load true 4 c i λp=>Q p i)
def nC(Q:R)(a f g:AV)(h:SH):Prop:=W.faddr 1 a λi=>W.store 1 i g h λb=>aC 2 a b λj=>W.len j λc=>W.mslice 1 24 [.nils] c c b λk d=>aC 2 a d λe=>W.len e λl=>W.loop (ir Q) [a,f,k,e,l,(.W9 0)] d
def pw(c:AV)(L:SH)(Q:R):Prop:=W.box c L λa d=>W.alloc [(.W9 0),.nils,.nils,(.W9 0)] d λe b=>aC 1 a b λf=>wc (.fn 92 []) [f] b (nC Q a e)
theorem BR(t0:AV)(L:SH)(Q:R)(h:pw t0 L Q):ai Tryz.prog 94 [t0] L Q:=
 fs [] [(4,[1,2,3,15,16,17])] [] [] Tryz.func94 h
def jk(b e:AV)(L:SH)(Q:R):Prop:=wb .geq 3 b (.W9 0) λa=>bH a true b L λf c=>wg a true (wl e c) c λg h=>wg a true (W.nilchk g) h λi j=>wg a true (W.faddr 1 i) j λk d=>wg a true (wl k d) d λl m=>wg a true (W.len l) m λn o=>wg a true (wb .lss 3 f n) o λp q=>W.pick a p (.bool false) λr=>Q r q
theorem qz(t0 t1:AV)(L:SH)(Q:R)(h:jk t0 t1 L Q):ai Tryz.prog 119 [t0,t1] L Q:=
 fs [] [] [] [] Tryz.func119 h
def xd(Q:R)(c:Vs)(a:SH):Prop:=vO 2 4 6 c λd k e=>wl d a λb=>dP 0 b a λf=>wb .add 3 f (.W9 1) λg=>W.nilchk b λh=>W.faddr 0 h λi=>W.store 1 i g a λj=>Q e j
def xe(k:Kn)(a:SH)(e f:AV):Prop:=(true=true)∧(dl [] 0 e a λl b=>W.nilchk l λm=>aO 1 m [] 3 a λn c=>aO 1 f [rm 3 c,rm 0 b] 5 a λo d=>dl [rm 5 d,rm 3 c,rm 0 b] 6 e a λp h=>W.nilchk p λq=>aO 2 q [rm 5 d,rm 3 c,rm 0 b] 9 a λr i=>aO 1 f [rm 9 i,rm 6 h,rm 5 d,rm 3 c,rm 0 b] 11 a λs g=>aO 4 f [rm 11 g,rm 9 i,rm 6 h,rm 5 d,rm 3 c,rm 0 b] 13 a λt x=>di [rm 11 g] 14 1 n o a λu y=>ds [rm 11 g] 15 1 u t a λj z=>di [] 16 1 r s j λv A=>ds [] 17 1 v .nils j λw B=>k [e,(.bool false),(.bool true)] w)
def xf(Q:R)(b:Kn)(c d e:AV)(a:SH):Prop:=W.un .not e λf=>wk f (Q (.bool false) a) ((xe b a c d))
def xg(d:Kn)(e:SH)(f g h i j k:AV)(a:Fp)(l:AV)(b:SH)(m:Ns):Prop:=wn [] m [] e.names λq=>di [rm 11 a] 29 1 f g b λn r=>ds [rm 11 a] 30 1 n h b λc s=>di [] 31 1 i j c λo t=>ds [] 32 1 o l c λp u=>d [k,(.bool false),(.bool true)] p
def xh(o:Kn)(a:SH)(m n:AV):Prop:=(true=true)∧(dl [] 0 m a λp b=>W.nilchk p λq=>aO 1 q [] 3 a λr c=>aO 1 n [rm 3 c,rm 0 b] 5 a λs d=>dl [rm 5 d,rm 3 c,rm 0 b] 6 m a λt e=>W.nilchk t λu=>aO 2 u [rm 5 d,rm 3 c,rm 0 b] 9 a λv f=>aO 1 n [rm 9 f,rm 6 e,rm 5 d,rm 3 c,rm 0 b] 11 a λw g=>dl [rm 11 g,rm 9 f,rm 6 e,rm 5 d,rm 3 c,rm 0 b] 12 m a λx h=>W.nilchk x λy=>aO 1 y [rm 11 g,rm 9 f,rm 6 e,rm 5 d,rm 3 c,rm 0 b] 15 a λz i=>aO 2 n [rm 15 i,rm 12 h,rm 11 g,rm 9 f,rm 6 e,rm 5 d,rm 3 c,rm 0 b] 17 a λA j=>di [rm 11 g,rm 9 f,rm 6 e,rm 5 d,rm 3 c,rm 0 b] 18 1 z A a λB k=>dl [rm 11 g,rm 9 f,rm 6 e,rm 5 d,rm 3 c,rm 0 b] 19 B a λC l=>dl [rm 19 l,rm 18 k,rm 17 j,rm 15 i,rm 12 h,rm 11 g,rm 9 f,rm 6 e,rm 5 d,rm 3 c,rm 0 b] 20 m a λD E=>W.nilchk D λF=>aO 2 F [rm 19 l,rm 18 k,rm 17 j,rm 15 i,rm 12 h,rm 11 g,rm 9 f,rm 6 e,rm 5 d,rm 3 c,rm 0 b] 23 a λG H=>aO 2 n [rm 23 H,rm 20 E,rm 19 l,rm 18 k,rm 17 j,rm 15 i,rm 12 h,rm 11 g,rm 9 f,rm 6 e,rm 5 d,rm 3 c,rm 0 b] 25 a λI N=>di [rm 19 l,rm 18 k,rm 17 j,rm 15 i,rm 12 h,rm 11 g,rm 9 f,rm 6 e,rm 5 d,rm 3 c,rm 0 b] 26 1 G I a λJ O=>dl [rm 19 l,rm 18 k,rm 17 j,rm 15 i,rm 12 h,rm 11 g,rm 9 f,rm 6 e,rm 5 d,rm 3 c,rm 0 b] 27 J a λM P=>wd [rm 19 l,rm 18 k,rm 17 j,rm 15 i,rm 12 h,rm 11 g,rm 9 f,rm 6 e,rm 5 d,rm 3 c,rm 0 b] 28 (.fn 93 []) [M] a (xg o a r s C v w m g))
def xi(Q:R)(g:Kn)(b c h:AV)(i:SH):Prop:=W.un .not h λa=>bH a false (.fn 119 [b]) i λj k=>wg a false (W.faddr 2 c) k λl d=>wg a false (wl l d) d λm e=>W.grd a false (λn=>wc j [m] e λo p=>n o p) e λq r=>wg a false (W.un .not q) r λs f=>W.pick a (.bool true) s λt=>wk t (Q (.bool false) f) ((xh g f b c))
def xj(b:Kn)(c:SH)(d e f g h:AV)(a:SH)(i:Ns):Prop:=wn [] i [] c.names λl=>di [] 15 1 d e a λj m=>ds [] 16 1 j h a λk n=>b [f,(.bool false),g] k
def xk(i:Kn)(j:SH)(k l e f g:AV)(h:SH)(m:Ns):Prop:=wn [] m [] j.names λC=>W.ext 0 g λn=>W.ext 1 g λo=>di [] 20 1 k l h λp D=>ds [] 21 1 p n h λa E=>(true=true)∧(dl [] 0 e a λq b=>W.nilchk q λr=>aO 2 r [] 3 a λs c=>aO 1 f [rm 3 c,rm 0 b] 5 a λt d=>dl [rm 5 d,rm 3 c,rm 0 b] 6 e a λu v=>W.nilchk u λw=>aO 2 w [rm 5 d,rm 3 c,rm 0 b] 9 a λx y=>aO 2 f [rm 9 y,rm 6 v,rm 5 d,rm 3 c,rm 0 b] 11 a λz F=>di [rm 5 d,rm 3 c,rm 0 b] 12 1 x z a λA G=>dl [rm 5 d,rm 3 c,rm 0 b] 13 A a λB H=>wd [rm 5 d,rm 3 c,rm 0 b] 14 (.fn 93 []) [B] a (xj i a s t e o))
def xl(h:Kn)(a:SH)(g f:AV):Prop:=(true=true)∧(dl [] 0 g a λi b=>W.nilchk i λj=>aO 1 j [] 3 a λk c=>aO 1 f [rm 3 c,rm 0 b] 5 a λl d=>aO 4 f [rm 5 d,rm 3 c,rm 0 b] 7 a λm e=>dl [rm 7 e,rm 5 d,rm 3 c,rm 0 b] 8 g a λn o=>W.nilchk n λp=>aO 1 p [rm 7 e,rm 5 d,rm 3 c,rm 0 b] 11 a λq r=>aO 2 f [rm 11 r,rm 8 o,rm 7 e,rm 5 d,rm 3 c,rm 0 b] 13 a λs v=>di [rm 7 e,rm 5 d,rm 3 c,rm 0 b] 14 1 q s a λt w=>dl [rm 7 e,rm 5 d,rm 3 c,rm 0 b] 15 t a λu x=>wd [rm 5 d,rm 3 c,rm 0 b] 16 (.fn 77 []) [m,u] a (xk h a k l g f))
def xm(Q:R)(g:Kn)(b c h:AV)(i:SH):Prop:=W.un .not h λa=>bH a false (.fn 119 [b]) i λj k=>wg a false (W.faddr 2 c) k λl d=>wg a false (wl l d) d λm e=>W.grd a false (λn=>wc j [m] e λo p=>n o p) e λq r=>wg a false (W.un .not q) r λs f=>W.pick a (.bool true) s λt=>wk t (Q (.bool false) f) ((xl g f b c))
def xn(b:Kn)(c:SH)(d e f g h:AV)(a:SH)(i:Ns):Prop:=wn [] i [] c.names λl=>di [] 23 1 d e a λj m=>ds [] 24 1 j h a λk n=>b [f,(.bool false),g] k
def xo(n:Kn)(o:SH)(p q j k l:AV)(m:SH)(r:Ns):Prop:=wn [] r [] o.names λP=>W.ext 0 l λs=>W.ext 1 l λt=>di [] 28 1 p q m λu S=>ds [] 29 1 u s m λa T=>(true=true)∧(dl [] 0 j a λv b=>W.nilchk v λw=>aO 2 w [] 3 a λx c=>aO 1 k [rm 3 c,rm 0 b] 5 a λy d=>dl [rm 5 d,rm 3 c,rm 0 b] 6 j a λz e=>W.nilchk z λA=>aO 2 A [rm 5 d,rm 3 c,rm 0 b] 9 a λB f=>aO 2 k [rm 9 f,rm 6 e,rm 5 d,rm 3 c,rm 0 b] 11 a λC g=>di [rm 5 d,rm 3 c,rm 0 b] 12 1 B C a λD h=>dl [rm 5 d,rm 3 c,rm 0 b] 13 D a λE i=>dl [rm 13 i,rm 12 h,rm 11 g,rm 9 f,rm 6 e,rm 5 d,rm 3 c,rm 0 b] 14 j a λF G=>W.nilchk F λH=>aO 2 H [rm 13 i,rm 12 h,rm 11 g,rm 9 f,rm 6 e,rm 5 d,rm 3 c,rm 0 b] 17 a λI J=>aO 3 k [rm 17 J,rm 14 G,rm 13 i,rm 12 h,rm 11 g,rm 9 f,rm 6 e,rm 5 d,rm 3 c,rm 0 b] 19 a λM U=>di [rm 13 i,rm 12 h,rm 11 g,rm 9 f,rm 6 e,rm 5 d,rm 3 c,rm 0 b] 20 1 I M a λN V=>dl [rm 13 i,rm 12 h,rm 11 g,rm 9 f,rm 6 e,rm 5 d,rm 3 c,rm 0 b] 21 N a λO X=>wd [rm 5 d,rm 3 c,rm 0 b] 22 (.fn 120 []) [E,O] a (xn n a x y j t))
def xp(m:Kn)(a:SH)(l h:AV):Prop:=(true=true)∧(dl [] 0 l a λn b=>W.nilchk n λo=>aO 1 o [] 3 a λp c=>aO 1 h [rm 3 c,rm 0 b] 5 a λq d=>aO 4 h [rm 5 d,rm 3 c,rm 0 b] 7 a λr e=>dl [rm 7 e,rm 5 d,rm 3 c,rm 0 b] 8 l a λs f=>W.nilchk s λt=>aO 1 t [rm 7 e,rm 5 d,rm 3 c,rm 0 b] 11 a λu g=>aO 2 h [rm 11 g,rm 8 f,rm 7 e,rm 5 d,rm 3 c,rm 0 b] 13 a λv i=>di [rm 7 e,rm 5 d,rm 3 c,rm 0 b] 14 1 u v a λw j=>dl [rm 7 e,rm 5 d,rm 3 c,rm 0 b] 15 w a λx k=>dl [rm 15 k,rm 14 j,rm 13 i,rm 11 g,rm 8 f,rm 7 e,rm 5 d,rm 3 c,rm 0 b] 16 l a λy z=>W.nilchk y λA=>aO 1 A [rm 15 k,rm 14 j,rm 13 i,rm 11 g,rm 8 f,rm 7 e,rm 5 d,rm 3 c,rm 0 b] 19 a λB C=>aO 3 h [rm 19 C,rm 16 z,rm 15 k,rm 14 j,rm 13 i,rm 11 g,rm 8 f,rm 7 e,rm 5 d,rm 3 c,rm 0 b] 21 a λD G=>di [rm 15 k,rm 14 j,rm 13 i,rm 11 g,rm 8 f,rm 7 e,rm 5 d,rm 3 c,rm 0 b] 22 1 B D a λE H=>dl [rm 15 k,rm 14 j,rm 13 i,rm 11 g,rm 8 f,rm 7 e,rm 5 d,rm 3 c,rm 0 b] 23 E a λF I=>wd [rm 5 d,rm 3 c,rm 0 b] 24 (.fn 78 []) [r,x,F] a (xo m a p q l h))
def xq(Q:R)(j:Kn)(c d k:AV)(l:SH):Prop:=W.un .not k λa=>bH a false (.fn 119 [c]) l λm n=>wg a false (W.faddr 2 d) n λo e=>wg a false (wl o e) e λp f=>W.grd a false (λq=>wc m [p] f λr s=>q r s) f λt u=>wg a false (W.un .not t) u λv w=>W.pick a (.bool true) v λb=>bH b false (.fn 119 [c]) w λx y=>wg b false (W.faddr 3 d) y λz g=>wg b false (wl z g) g λA h=>W.grd b false (λB=>wc x [A] h λC D=>B C D) h λE F=>wg b false (W.un .not E) F λG i=>W.pick b (.bool true) G λH=>wk H (Q (.bool false) i) ((xp j i c d))
def sS(Q:R)(a:Vs)(b:SH):Prop:=vO 2 4 6 a λd c e=>Q c b
def xr(Q:R)(a:SH)(b c:AV):Prop:=wl b a λd=>aC 1 c a λe=>W.nilchk d λf=>W.faddr 0 f λg=>W.store 1 g e a λh=>W.join (sS Q) λi=>i [b,(.bool true),(.bool true)] h
def xt(Q:R)(d:Kn)(a:SH)(e c b:AV):Prop:=wb .eql 3 e (.W9 4) λf=>wk f (aC 1 c a λg=>wc (.fn 119 [b]) [g] a (xq Q d b c)) (wb .eql 3 e (.W9 5) λh=>wk h ((xr Q a b c)) (d [b,(.bool false),(.bool true)] a))
def xu(Q:R)(d:Kn)(a:SH)(e b c:AV):Prop:=wb .eql 3 e (.W9 3) λf=>wk f (aC 1 b a λg=>wc (.fn 119 [c]) [g] a (xm Q d c b)) ((xt Q d a e b c))
def xv(Q:R)(d:Kn)(a:SH)(e b c:AV):Prop:=wb .eql 3 e (.W9 2) λf=>wk f (aC 1 b a λg=>wc (.fn 119 [c]) [g] a (xi Q d c b)) ((xu Q d a e b c))
def cU(f g:AV)(L:SH)(Q:R):Prop:=W.box f L λh i=>W.box g i λj k=>W.frz1 h k λc l=>W.frz1 j l λa b=>W.join (xd Q) λd=>aC 0 a b λe=>wb .eql 3 e (.W9 1) λm=>wk m (aC 1 a b λn=>wc (.fn 119 [c]) [n] b (xf Q d c a)) ((xv Q d b e a c))
theorem dh(t0 t1:AV)(L:SH)(Q:R)(h:cU t0 t1 L Q):ai Tryz.prog 95 [t0,t1] L Q:=
 fs [(24,[2,4,6])] [] [(0,[2,3])] [(7,[0,1,3,7,0,16,0,64,192,448,0,1024,0,4096,13311,29695,65535,131071]),(11,[0,1,3,7,0,16,0,64,192,448,0,1024,0,4096,12288,28672,0,65536,258048,520192,0,1048576,3145728,7340032,0,16777216,66060288,133169152,267386880,536867839,1073738751,2147483647,4294967295]),(15,[0,1,3,7,0,16,0,64,0,256,768,1792,0,4096,16128,32512,65472,131008,262080,262080,524287,1572863,4194303]),(16,[0,1,3,7,0,16,0,64,192,448,0,1024,4032,8128,16320,32767,65535]),(20,[0,1,3,7,0,16,0,64,0,256,768,1792,0,4096,16128,32512,0,65536,196608,458752,0,1048576,4128768,8323072,16777152,33554368,67108800,67108800,134217727,402653183,1073741823]),(21,[0,1,3,7,0,16,0,64,192,448,0,1024,4032,8128,0,16384,49152,114688,0,262144,1032192,2080768,4194240,8388607,16777215])] Tryz.func95 h
def zG(Q:R)(c:SH)(a:AV):Prop:=W.build [(.W9 0),.nils,.nils,(.W9 0)] [] λd=>W.store 4 a d c λb=>W.load true 4 a b λe=>Q (.tup [e,(.bool false)]) b
def zH(Q:R)(c:SH)(a:AV):Prop:=W.build [(.W9 0),.nils,.nils,(.W9 0)] [] λd=>W.store 4 a d c λb=>W.load true 4 a b λe=>Q (.tup [e,(.bool false)]) b
def zI(Q:R)(c:SH)(a:AV):Prop:=W.build [(.W9 0),.nils,.nils,(.W9 0)] [] λd=>W.store 4 a d c λb=>W.load true 4 a b λe=>Q (.tup [e,(.bool false)]) b
def zJ(Q:R)(i:Kn)(b:SH)(c d j e f:AV):Prop:=aC 1 c b λk=>W.len k λl=>wb .eql 3 d l λa=>wg a false (ca 6 j b) b λm g=>W.grd a false (λn=>wc (.fn 95 []) [e,m] g λo p=>n o p) g λq r=>wg a false (W.un .not q) r λs h=>W.pick a (.bool true) s λt=>wk t ((zI Q h f)) (wb .add 3 d (.W9 1) λu=>i [c,e,f,u] h)
def zK(Q:R)(k:Kn)(a:SH)(g c d l:AV):Prop:=aC 1 g a λm=>aC 0 c a λn=>lE 6 m n a λo=>qn [(.W9 0),(.W9 0),(.W9 0),(.W9 0),(.W9 0),(.W9 0)] 6 o a λe h=>aC 0 e h λp=>wb .lss 3 p (.W9 1) λb=>wg b false (W.faddr 0 e) h λq i=>wg b false (wl q i) i λr s=>wg b false (wb .gtr 3 r (.W9 5)) s λt f=>W.pick b (.bool true) t λu=>wk u (ca 4 c f λv=>W.store 4 d v f λj=>W.load true 4 d j λw=>Q (.tup [w,(.bool true)]) j) ((zJ Q k f g l e c d))
def gN(Q:R)(i:Vs)(c:SH)(j:Kn):Prop:=yO 2 3 4 6 i λd b e k=>aC 0 b c λl=>wb .lss 3 l (.W9 0) λa=>wg a false (W.faddr 0 b) c λm f=>wg a false (wl m f) f λn o=>wg a false (W.faddr 1 d) o λp g=>wg a false (wl p g) g λq r=>wg a false (W.len q) r λs t=>wg a false (wb .geq 3 n s) t λu h=>W.pick a (.bool true) u λv=>wk v ((zH Q h e)) ((zK Q j h d b e k))
def zL(Q:R)(a b c d:AV)(e:SH):Prop:=W.store 4 a d e λf=>W.loop (gN Q) [b,a,c,(.W9 0)] f
def nD(i j:AV)(L:SH)(Q:R):Prop:=W.box i L λk l=>W.box j l λb m=>W.alloc [(.W9 0),.nils,.nils,(.W9 0)] m λf n=>W.frz1 k n λc d=>aC 1 b d λo=>W.len o λp=>aC 0 c d λq=>wb .neq 3 p q λa=>wg a false (W.faddr 2 b) d λr g=>wg a false (wl r g) g λs t=>wg a false (W.len s) t λu v=>wg a false (W.faddr 0 c) v λw h=>wg a false (wl w h) h λx y=>wg a false (wb .neq 3 u x) y λz e=>W.pick a (.bool true) z λA=>wk A ((zG Q e f)) (ca 4 b e λB=>wc (.fn 94 []) [B] e (zL Q b c f))
theorem zM(t0 t1:AV)(L:SH)(Q:R)(h:nD t0 t1 L Q):ai Tryz.prog 58 [t0,t1] L Q:=
 fs [] [(6,[2,3,4,6])] [(0,[2]),(8,[7])] [] Tryz.func58 h
end
section
set_option maxRecDepth 100000
set_option linter.unusedSimpArgs false
set_option linter.unusedSectionVars false
theorem qq(xs:List Int)(hl:xs.length*8≤140737488355328):ai Tryz.prog 92 [.lst (xs.map ao)] [] λv L=>∃o,v=aQ o xs.length∧L=ah o 1 (xs.map ao)∧(o=none→xs=[]):=by refine(fI (λA n c xs w hf h1 hn hA=>cloneJ_any A n c xs w hf h1 hn hA) ⟨_,_,Tryz.func92,rfl⟩ (xs.map ao) (by simp[ao,AV.one]) (λr hr=>by obtain⟨x,_,rfl⟩:=V0.1 hr;rfl) (by simpa using hl)).mono ?_;rintro v L ⟨o,rfl,rfl,h⟩;exact⟨o,W7,rfl,λe=>by simpa using h e⟩
theorem cS(xs:List Int)(hl:xs.length*8≤140737488355328):aB Tryz.prog 93 [.lst (xs.map ao)] (.lst (xs.map ao)):=by refine ai.fz ((FC xs hl).mono ?_);rintro v L ⟨o,rfl,rfl,ho⟩;exact⟨_,[],aI.all (Fz.slot (f:=ao) rfl (λe=>by rw[ho e];rfl) W8 (λy _=>rfl) (λy _ q a a2 h1 h2=>by rw[h1]at h2;cases h2;exact .refl _)),rfl,rfl⟩
def K4(s:aW)(v:AV)(L:SH):Prop:=
 ∃(o t:Option Nat),v=.agg [.W9 s.pc,aQ o s.regs.length,aQ t s.taint.length,.W9 s.ev]∧L=ah o 1 (s.regs.map ao)++ah t 1 (s.taint.map cp)∧(o=none→s.regs=[])∧(t=none→s.taint=[])
def nE(t:List (List Int))(k:Nat):List (List AV):=(t.take k).map cp++List.replicate (t.length-k) [.nils]
theorem LM(t:List (List Int))(k:Nat)(hk:k≤t.length):(nE t k).length=t.length:=by simp[nE];omega
theorem NL(t:List (List Int))(k:Nat)(hk:k<t.length):(nE t k)[k]? =some [.nils]:=by
 unfold nE;have hl:((t.take k).map cp).length=k:=by simp;omega
 rw[Vx W4,hl,Nat.sub_self];obtain⟨m,hm⟩:∃m,t.length-k=m+1:=⟨t.length-k-1,W4⟩;rw[hm];rfl
theorem FN(t:List (List Int))(k:Nat)(hk:k<t.length):(nE t k).set k (cp t[k])=nE t (k+1):=by
 unfold nE;have hl:((t.take k).map cp).length=k:=by simp;omega
 rw[List.set_append_right _ _ W4,hl,Nat.sub_self];obtain⟨m,hm⟩:∃m,t.length-k=m+1:=⟨t.length-k-1,W4⟩;rw[hm,List.replicate_succ,List.set_cons_zero,Vw hk,show t.length-(k+1)=m by omega,Vr,V4];rfl
theorem JL(s:aW)(h1:s.regs.length<2^40)(h2:s.taint.length<2^40)(h3:∀l∈s.taint,l.length≤2^30):ai Tryz.prog 94 [.agg s.enc] [] (K4 s):=by
 refine ai.fz (BR _ _ _ ?_);unfold pw;generalize hQ:(λ(v:AV) (L:SH)=>∃v2 L2,aI [v] L [v2] L2∧K4 s v2 L2)=Q
 repeat' (first|refine st ?_|refine sb λnb_ hnb_=>?_|refine s2 (λh=>?_) λh=>?_|fail)
 rename_i b1 _;revert nb_;intro b2 _;refine pi (qq s.regs W4) ?_;rintro v K ⟨o,rfl,rfl,ho⟩;unfold nC;have fin:∀(bt:Nat) (L:SH),(∃x y:Blk,L=(bt,⟨1,s.taint.map cp⟩)::(b2,x)::(b1,y)::ah o 1 (s.regs.map ao))→Q (.agg [.W9 s.pc,aQ o s.regs.length,.sl bt 0 s.taint.length,.W9 s.ev]) L:=by rintro bt L ⟨x,y,rfl⟩;subst hQ;refine⟨_,_,aI.forget (K:=[(b2,x),(b1,y)]) (R:=ah o 1 (s.regs.map ao)++[(bt,⟨1,s.taint.map cp⟩)]) ?_,o,some bt,rfl,rfl,ho,nofun⟩;refine(List.Perm.trans (List.Perm.swap _ _ _) ?_);refine List.Perm.cons _ ((List.Perm.swap _ _ _).trans (List.Perm.cons _ ?_));exact(VT (l₁:=[(bt,(⟨1,s.taint.map cp⟩:Blk))]) (l₂:=ah o 1 (s.regs.map ao)))
 have loop:∀(bt:Nat) (y:Blk),y=⟨4,[[.W9 s.pc,aQ o s.regs.length,.lst (s.taint.map cp),.W9 s.ev]]⟩→W.loop (ir Q) [.ptr b1 0 0,.ptr b2 0 0,.sl bt 0 s.taint.length,.lst (s.taint.map cp),.W9 s.taint.length,.W9 (0:Nat)] ((bt,⟨1,List.replicate s.taint.length [.nils]⟩)::(b2,⟨4,[[.W9 0,.nils,.nils,.W9 0]]⟩)::(b1,y)::ah o 1 (s.regs.map ao)):=by
  intro bt y hy;subst hy;refine cg s.taint.length (λk (_:Unit)=>([.ptr b1 0 0,.ptr b2 0 0,.sl bt 0 s.taint.length,.lst (s.taint.map cp),.W9 s.taint.length,.W9 k],(bt,⟨1,nE s.taint k⟩)::(b2,⟨4,[[.W9 0,.nils,.nils,.W9 0]]⟩)::(b1,⟨4,[[.W9 s.pc,aQ o s.regs.length,.lst (s.taint.map cp),.W9 s.ev]]⟩)::ah o 1 (s.regs.map ao))) (λ_ _=>True) () trivial (fU rfl (by simp[nE])) ?_;intro k _ hk _;dsimp only;unfold ir;rcases Nat.lt_or_ge k s.taint.length with g1|g1
  ·have hd:=bF g1;have hx:=az (f:=cp) g1;have hz:=NL s.taint k g1;have hkl:k<(nE s.taint k).length:=by rw[LM _ _ hk];exact g1
   have hrk:(s.taint[k]).length*8≤140737488355328:=by have:=h3 _ (VI g1);omega
   cases o with
   |none=>
    dsimp only[ah,aQ]
    repeat' (first|refine st ?_|(refine pf 93 ?_;refine pm (cS _ hrk) ?_)|unfold iq|refine sb λnb_ hnb_=>?_|refine s2 (λh=>?_) λh=>?_|fail)
    exact⟨k+1,(),W4,W4,trivial,fU (by rw[aE g1 W4]<;>rfl) (by rw[←FN _ _ g1];rfl)⟩
   |some b'=>
    dsimp only[ah,aQ]
    repeat' (first|refine st ?_|(refine pf 93 ?_;refine pm (cS _ hrk) ?_)|unfold iq|refine sb λnb_ hnb_=>?_|refine s2 (λh=>?_) λh=>?_|fail)
    exact⟨k+1,(),W4,W4,trivial,fU (by rw[aE g1 W4]<;>rfl) (by rw[←FN _ _ g1];rfl)⟩
  ·have hd:=bM g1;have hk0:k=s.taint.length:=by omega
   subst hk0;have e:nE s.taint s.taint.length=s.taint.map cp:=by simp[nE]
   rw[e];cases o with
   |none=>
    dsimp only[ah,aQ]at fin ⊢
    repeat' (first|refine st ?_|refine sb λnb_ hnb_=>?_|refine s2 (λh=>?_) λh=>?_|fail)
    exact fin _ _ ⟨_,_,rfl⟩
   |some b'=>
    dsimp only[ah,aQ]at fin ⊢
    repeat' (first|refine st ?_|refine sb λnb_ hnb_=>?_|refine s2 (λh=>?_) λh=>?_|fail)
    exact fin _ _ ⟨_,_,rfl⟩
 cases o with
 |none=>
  dsimp only[ah,aQ]at loop ⊢
  repeat' (first|refine st ?_|refine sb λnb_ hnb_=>?_|refine s2 (λh=>?_) λh=>?_|fail)
  exact loop _ _ rfl
 |some b'=>
  dsimp only[ah,aQ]at loop ⊢
  repeat' (first|refine st ?_|refine sb λnb_ hnb_=>?_|refine s2 (λh=>?_) λh=>?_|fail)
  exact loop _ _ rfl
end
section
set_option maxRecDepth 100000
set_option linter.unusedSimpArgs false
set_option linter.unusedSectionVars false
theorem NM(a b:List Int)(ha:a.length≤2^30)(hb:b.length≤2^30):aB Tryz.prog 120 [.lst (a.map ao),.lst (b.map ao)] (.lst ((JK (a++b)).map ao)):=by
 refine ai.fz (BQ _ _ _ _ ?_);unfold pu;generalize hQ:(λ(v:AV) (L:SH)=>∃v2 L2,aI [v] L [v2] L2∧v2=AV.lst ((JK (a++b)).map ao)∧L2=[])=Q;have hsum:IntKind.i64.wrap ((a.length:Int)+b.length)=((a.length+b.length:Nat):Int):=by rw[We _ W4];omega
 have fin:∀(bk:Nat) (L:SH),(bk,(⟨1,(Lib.compact (zp (a++b))++List.replicate ((a++b).length-(Lib.compact (zp (a++b))).length) 0).map ao⟩:Blk))∈L→Q (.sl bk 0 (Lib.compact (zp (a++b))).length) L:=λbk L hm=>by subst hQ;refine⟨_,[],aI.all ?_,rfl,rfl⟩;show Fz _ (.sl bk 0 (JK (a++b)).length) (.lst ((JK (a++b)).map ao));rw[show(JK (a++b)).map ao=((((Lib.compact (zp (a++b))++List.replicate ((a++b).length-(Lib.compact (zp (a++b))).length) 0).map ao).drop 0).take (JK (a++b)).length)from(C8 (List.take_left' rfl)).symm];exact Fz.rows (x:=⟨1,_⟩) hm W7 (by simp[JK])
 have h2:=λbk:Nat=>KT bk (a++b) (by simp;omega)
 have h3:=λbk:Nat=>C9 bk (zp (a++b)) (by rw[qo];simp;omega)
 simp only[qo]at h3
 repeat' (first|refine st ?_|refine sb λnb_ hnb_=>?_|refine s2 (λh=>?_) λh=>?_|fail)
 refine fT (i:=0) (j:=a.length+b.length) W4 W4 W4 (λnb_ hnb_=>?_)
 repeat' (first|refine st ?_|refine Np rp (λ_=>rfl) W7 (by simp;omega) (by simp;omega) (λ_=>rfl) (λnb_ hnb_=>?_)|refine sb λnb_ hnb_=>?_|refine s2 (λh=>?_) λh=>?_|fail)
 simp only[List.replicate,Wp,←Vr,Wj,←Vy]
 repeat' (first|refine st ?_|((with_reducible refine aZ 86 ?_);(refine kq (h2 _) (.here _) ?_;rintro _ _ ⟨rfl,rfl⟩))|((with_reducible refine aZ 87 ?_);(refine kq (h3 _) (.here _) ?_;rintro _ _ ⟨rfl,rfl⟩))|refine sb λnb_ hnb_=>?_|refine s2 (λh=>?_) λh=>?_|fail)
 exact fin _ _ rp
end
section
set_option maxRecDepth 100000
set_option linter.unusedSimpArgs false
def GB(p:Int×Bool):AV:=.tup [.W9 p.1,.bool p.2]
theorem In(b:Bool):aB Tryz.prog 107 [.bool b] (.W9 (kV b)):=by
 refine EW _ _ _ ?_;unfold w9;cases b
 all_goals
  repeat' (first|refine st ?_|refine sb λnb_ hnb_=>?_|refine s2 (λh=>?_) λh=>?_|fail)
  exact⟨rfl,rfl⟩
theorem Io(op a:Int):aB Tryz.prog 77 [.W9 op,.W9 a] (GB (OZ op a)):=by
 refine EY _ _ _ _ ?_;unfold xc;generalize hQ:(λ(u:AV) (K:SH)=>u=GB (OZ op a)∧K=[])=Q
 repeat' (first|refine st ?_|(refine pf 107 ?_;refine pm (In _) ?_)|refine sb λnb_ hnb_=>?_|refine s2 (λh=>?_) λh=>?_|fail)
 all_goals
  subst hQ;refine⟨?_,rfl⟩;simp_all[OZ,GB]
theorem FO(op a b:Int):aB Tryz.prog 78 [.W9 op,.W9 a,.W9 b] (GB (Dd op a b)):=by
 refine Dt _ _ _ _ _ ?_;unfold sh;generalize hQ:(λ(u:AV) (K:SH)=>u=GB (Dd op a b)∧K=[])=Q
 repeat' (first|refine st ?_|(refine pf 107 ?_;refine pm (In _) ?_)|refine sb λnb_ hnb_=>?_|refine s2 (λh=>?_) λh=>?_|fail)
 all_goals
  subst hQ;refine⟨?_,rfl⟩;simp_all[Dd,GB]
end
section
set_option maxRecDepth 100000
set_option linter.unusedSimpArgs false
set_option linter.unusedSectionVars false
theorem ft{P:Program}{KL:AV→SH→Prop}{g:FuncId}{cs args:List AV}{L L':SH}{b:Nat}{x:Blk}{R:AV→SH→Prop}(h:ai P g (args++cs) [(b,x)] R)(hd:eN b x L L')(hk:∀v K,R v K→KL v (K++L')):W.call P (.fn g cs) args L KL:=
 ⟨h.frame (K:=[(b,x)]) (R:=L') hd.perm λu K hu=>hk u K hu⟩
def mP(s:aW)(o t:Option Nat):List AV:=[.W9 s.pc,aQ o s.regs.length,aQ t s.taint.length,.W9 s.ev]
def oa(s:aW)(bs:Nat)(o t:Option Nat):SH:=(bs,⟨4,[mP s o t]⟩)::(ah o 1 (s.regs.map ao)++ah t 1 (s.taint.map cp))
def zN(r:Option aW)(bs:Nat)(o t:Option Nat)(v:AV)(L:SH):Prop:=
 match r with
 |none=>v=.bool false
 |some s2=>v=.bool true∧L=oa s2 bs o t
theorem K5(s:aW)(bs:Nat)(o t:Option Nat)(ho:o=none→s.regs=[])(r:Int):ai Tryz.prog 119 [.W9 r,.pptr [[.ptr bs 0 0]] 0 0] [(bs,⟨4,[mP s o t]⟩)] λv L=>v=.bool (s.has r)∧L=[(bs,⟨4,[mP s o t]⟩)]:=by
 refine qz _ _ _ _ ?_;unfold jk;generalize hQ:(λ(v:AV) (L:SH)=>v=.bool (s.has r)∧L=[(bs,(⟨4,[mP s o t]⟩:Blk))])=Q;cases o with
 |none=>
  have h0:=ho rfl;unfold mP at hQ ⊢;dsimp only[aQ]at hQ ⊢
  repeat' (first|refine st ?_|refine sb λnb_ hnb_=>?_|refine s2 (λh=>?_) λh=>?_|fail)
  all_goals
   subst hQ;refine⟨?_,rfl⟩;simp_all[aW.has,inB]<;>omega
 |some b=>
  unfold mP at hQ ⊢;dsimp only[aQ]at hQ ⊢
  repeat' (first|refine st ?_|refine sb λnb_ hnb_=>?_|refine s2 (λh=>?_) λh=>?_|fail)
  all_goals
   subst hQ;refine⟨?_,rfl⟩;simp_all[aW.has,inB]<;>omega
theorem kv{s:aW}{r:Int}:s.has r=true↔∃k:Nat,r=k∧k<s.regs.length:=by unfold aW.has;rw[ay];exact⟨λ⟨h1,h2⟩=>⟨r.toNat,W4,W4⟩,λ⟨k,h1,h2⟩=>by omega⟩
theorem ky{o:Option Nat}{α:Type}{l:List α}{k:Nat}(h:o=none→l=[])(hk:k<l.length):∃b,o=some b:=by
 cases o with
 |none=>rw[h rfl]at hk;simp at hk
 |some b=>exact⟨b,rfl⟩
section
variable (s:aW) (bs:Nat) (o t:Option Nat) (ho:o=none→s.regs=[]) (ht:t=none→s.taint=[]) (hlen:s.taint.length=s.regs.length) (hsm:s.regs.length<2^40) (hsh:∀l∈s.taint,l.length≤2^30) (ia ib ic n site:Int)
include ho ht hlen hsm hsh
theorem RY:ai Tryz.prog 95 [.ptr bs 0 0,.agg (bn.mk 5 ia ib ic n site).enc] (oa s bs o t) (zN (bS ⟨5,ia,ib,ic,n,site⟩ s) bs o t):=by
 refine dh _ _ _ _ ?_;unfold cU;generalize hQ:zN (bS ⟨5,ia,ib,ic,n,site⟩ s) bs o t=Q;unfold oa
 repeat' (first|refine st ?_|refine sb λnb_ hnb_=>?_|refine s2 (λh=>?_) λh=>?_|fail)
 subst hQ;exact⟨rfl,rfl⟩
theorem R0:ai Tryz.prog 95 [.ptr bs 0 0,.agg (bn.mk 1 ia ib ic n site).enc] (oa s bs o t) (zN (bS ⟨1,ia,ib,ic,n,site⟩ s) bs o t):=by
 have hex:=λr=>K5 s bs o t ho r
 refine ai.fz (dh _ _ _ _ ?_);unfold cU;generalize hQ:(λ(v:AV) (L:SH)=>∃v2 L2,aI [v] L [v2] L2∧zN (bS ⟨1,ia,ib,ic,n,site⟩ s) bs o t v2 L2)=Q;cases ha:s.has ia with
 |false=>
  have e:bS ⟨1,ia,ib,ic,n,site⟩ s=none:=by simp[bS,ha]
  unfold oa
  repeat' (first|refine st ?_|(refine ph (ft (hex _) (.here _) ?_);rintro _ _ ⟨rfl,rfl⟩;(try rw[ha]))|refine sb λnb_ hnb_=>?_|refine s2 (λh=>?_) λh=>?_|fail)
  subst hQ;rw[e];exact⟨_,[],aI.all (.refl _),rfl⟩
 |true=>
  have e:bS ⟨1,ia,ib,ic,n,site⟩ s=some (s.put ia n []):=by simp[bS,ha]
  rw[e]at hQ;obtain⟨a,rfl,hal⟩:=kv.1 ha;obtain⟨b1,rfl⟩:=ky ho hal;obtain⟨b2,rfl⟩:=ky ht (k:=a) W4;have hal2:a<s.taint.length:=by omega
  have hxa:=az (f:=ao) hal;have hya:=az (f:=cp) hal2;unfold oa;dsimp only[ah,List.cons_append,List.nil_append]
  repeat' (first|refine st ?_|(refine ph (ft (hex _) (.here _) ?_);rintro _ _ ⟨rfl,rfl⟩;first|rw[ha])|refine sb λnb_ hnb_=>?_|refine s2 (λh=>?_) λh=>?_|fail)
  subst hQ;refine⟨_,_,?_,rfl,rfl⟩;have e1:(s.put a n []).regs.map ao=(s.regs.map ao).set a [.W9 n]:=by simp[aW.put,Wk,ao]
  have e2:(s.put a n []).taint.map cp=(s.taint.map cp).set a [.lst []]:=by simp[aW.put,Wk,cp]
  have e3:mP (s.put a n []) (some b1) (some b2)=[.W9 (IntKind.i64.wrap (s.pc+1)),.sl b1 0 s.regs.length,.sl b2 0 s.taint.length,.W9 s.ev]:=by simp[mP,aW.put,aQ]
  unfold oa;rw[e1,e2,e3];dsimp only[ah,List.cons_append,List.nil_append];refine aI.rowA (K:=[]) (A:=[(bs,_),(b1,_)]) (b:=b2) (R:=[]) (rows:=(s.taint.map cp).set a [.nils]) (rows':=(s.taint.map cp).set a [.lst []]) rp W7 (λj r r' q1 q2=>?_) rfl;rw[List.getElem?_set]at q1 q2;by_cases hj:a=j
  ·rw[if_pos hj]at q1 q2;rw[if_pos (by simp;omega)]at q1 q2;cases q1;cases q2;exact .cons .nils .nil
  ·rw[if_neg hj]at q1 q2;rw[q1]at q2;cases q2;exact jd.refl _ _
theorem R3:ai Tryz.prog 95 [.ptr bs 0 0,.agg (bn.mk 2 ia ib ic n site).enc] (oa s bs o t) (zN (bS ⟨2,ia,ib,ic,n,site⟩ s) bs o t):=by
 have hex:=λr=>K5 s bs o t ho r
 refine dh _ _ _ _ ?_;unfold cU;generalize hQ:zN (bS ⟨2,ia,ib,ic,n,site⟩ s) bs o t=Q;cases ha:s.has ia with
 |false=>
  have e:bS ⟨2,ia,ib,ic,n,site⟩ s=none:=by simp[bS,ha]
  unfold oa
  repeat' (first|refine st ?_|(refine ph (ft (hex _) (.here _) ?_);rintro _ _ ⟨rfl,rfl⟩;first|rw[ha])|refine sb λnb_ hnb_=>?_|refine s2 (λh=>?_) λh=>?_|fail)
  subst hQ;rw[e];rfl
 |true=>
  cases hb:s.has ib with
  |false=>
   have e:bS ⟨2,ia,ib,ic,n,site⟩ s=none:=by simp[bS,hb]
   unfold oa
   repeat' (first|refine st ?_|(refine ph (ft (hex _) (.here _) ?_);rintro _ _ ⟨rfl,rfl⟩;first|rw[ha]|rw[hb])|refine sb λnb_ hnb_=>?_|refine s2 (λh=>?_) λh=>?_|fail)
   subst hQ;rw[e];rfl
  |true=>
   have e:bS ⟨2,ia,ib,ic,n,site⟩ s=some (s.put ia (s.reg ib) (s.tnt ib)):=by simp[bS,ha,hb]
   rw[e]at hQ;obtain⟨a,rfl,hal⟩:=kv.1 ha;obtain⟨b,rfl,hbl⟩:=kv.1 hb;obtain⟨b1,rfl⟩:=ky ho hal;obtain⟨b2,rfl⟩:=ky ht (k:=a) W4;have hal2:a<s.taint.length:=by omega
   have hxa:=az (f:=ao) hal;have hya:=az (f:=cp) hal2;have hbl2:b<s.taint.length:=by omega
   have hxb:=az (f:=ao) hbl;have hyb:=az (f:=cp) hbl2;have hcl:=cS s.taint[b] (by have:=hsh _ (List.getElem_mem hbl2);omega);unfold oa;dsimp only[ah,List.cons_append,List.nil_append]
   repeat' (first|refine st ?_|(refine ph (ft (hex _) (.here _) ?_);rintro _ _ ⟨rfl,rfl⟩;first|rw[ha]|rw[hb])|(refine pf 93 ?_;refine pm (hcl) ?_)|refine sb λnb_ hnb_=>?_|refine s2 (λh=>?_) λh=>?_|fail)
   subst hQ;refine⟨rfl,?_⟩;simp[oa,aW.put,mP,aW.reg,aW.tnt,ah,List.getD,hbl,hbl2,Wk,ao,cp]
theorem R4:ai Tryz.prog 95 [.ptr bs 0 0,.agg (bn.mk 3 ia ib ic n site).enc] (oa s bs o t) (zN (bS ⟨3,ia,ib,ic,n,site⟩ s) bs o t):=by
 have hex:=λr=>K5 s bs o t ho r
 refine dh _ _ _ _ ?_;unfold cU;generalize hQ:zN (bS ⟨3,ia,ib,ic,n,site⟩ s) bs o t=Q;cases ha:s.has ia with
 |false=>
  have e:bS ⟨3,ia,ib,ic,n,site⟩ s=none:=by simp[bS,ha]
  unfold oa
  repeat' (first|refine st ?_|(refine ph (ft (hex _) (.here _) ?_);rintro _ _ ⟨rfl,rfl⟩;first|rw[ha])|refine sb λnb_ hnb_=>?_|refine s2 (λh=>?_) λh=>?_|fail)
  subst hQ;rw[e];rfl
 |true=>
  cases hb:s.has ib with
  |false=>
   have e:bS ⟨3,ia,ib,ic,n,site⟩ s=none:=by simp[bS,hb]
   unfold oa
   repeat' (first|refine st ?_|(refine ph (ft (hex _) (.here _) ?_);rintro _ _ ⟨rfl,rfl⟩;first|rw[ha]|rw[hb])|refine sb λnb_ hnb_=>?_|refine s2 (λh=>?_) λh=>?_|fail)
   subst hQ;rw[e];rfl
  |true=>
   have e:bS ⟨3,ia,ib,ic,n,site⟩ s=if(OZ n (s.reg ib)).2 then some (s.put ia (OZ n (s.reg ib)).1 (s.tnt ib))else none:=by simp[bS,ha,hb]
   rw[e]at hQ;obtain⟨a,rfl,hal⟩:=kv.1 ha;obtain⟨b,rfl,hbl⟩:=kv.1 hb;obtain⟨b1,rfl⟩:=ky ho hal;obtain⟨b2,rfl⟩:=ky ht (k:=a) W4;have hal2:a<s.taint.length:=by omega
   have hxa:=az (f:=ao) hal;have hya:=az (f:=cp) hal2;have hbl2:b<s.taint.length:=by omega
   have hxb:=az (f:=ao) hbl;have hyb:=az (f:=cp) hbl2;have hcl:=cS s.taint[b] (by have:=hsh _ (VI hbl2);omega);have hun:=Io n s.regs[b];have hrb:s.reg b=s.regs[b]:=by simp[aW.reg,List.getD,hbl]
   have htb:s.tnt b=s.taint[b]:=by simp[aW.tnt,List.getD,hbl2]
   rw[hrb,htb]at hQ;generalize OZ n s.regs[b]=p at hun hQ;unfold GB at hun;unfold oa;dsimp only[ah,List.cons_append,List.nil_append]
   repeat' (first|refine st ?_|(refine ph (ft (hex _) (.here _) ?_);rintro _ _ ⟨rfl,rfl⟩;first|rw[ha]|rw[hb])|(refine pf 93 ?_;refine pm (hcl) ?_)|(refine pf 77 ?_;refine pm (hun) ?_)|refine sb λnb_ hnb_=>?_|refine s2 (λh=>?_) λh=>?_|fail)
   subst hQ;unfold zN;cases hp:p.2 with
   |false=>rfl
   |true=>refine⟨rfl,?_⟩;simp[oa,aW.put,mP,ah,Wk,ao,cp]
theorem R5:ai Tryz.prog 95 [.ptr bs 0 0,.agg (bn.mk 4 ia ib ic n site).enc] (oa s bs o t) (zN (bS ⟨4,ia,ib,ic,n,site⟩ s) bs o t):=by
 have hex:=λr=>K5 s bs o t ho r
 refine dh _ _ _ _ ?_;unfold cU;generalize hQ:zN (bS ⟨4,ia,ib,ic,n,site⟩ s) bs o t=Q;cases ha:s.has ia with
 |false=>
  have e:bS ⟨4,ia,ib,ic,n,site⟩ s=none:=by simp[bS,ha]
  unfold oa
  repeat' (first|refine st ?_|(refine ph (ft (hex _) (.here _) ?_);rintro _ _ ⟨rfl,rfl⟩;first|rw[ha])|refine sb λnb_ hnb_=>?_|refine s2 (λh=>?_) λh=>?_|fail)
  subst hQ;rw[e];rfl
 |true=>
  cases hb:s.has ib with
  |false=>
   have e:bS ⟨4,ia,ib,ic,n,site⟩ s=none:=by simp[bS,hb]
   unfold oa
   repeat' (first|refine st ?_|(refine ph (ft (hex _) (.here _) ?_);rintro _ _ ⟨rfl,rfl⟩;first|rw[ha]|rw[hb])|refine sb λnb_ hnb_=>?_|refine s2 (λh=>?_) λh=>?_|fail)
   subst hQ;rw[e];rfl
  |true=>
   cases hc:s.has ic with
   |false=>
    have e:bS ⟨4,ia,ib,ic,n,site⟩ s=none:=by simp[bS,hc]
    unfold oa
    repeat' (first|refine st ?_|(refine ph (ft (hex _) (.here _) ?_);rintro _ _ ⟨rfl,rfl⟩;first|rw[ha]|rw[hb]|rw[hc])|refine sb λnb_ hnb_=>?_|refine s2 (λh=>?_) λh=>?_|fail)
    subst hQ;rw[e];rfl
   |true=>
    have e:bS ⟨4,ia,ib,ic,n,site⟩ s=if(Dd n (s.reg ib) (s.reg ic)).2 then some (s.put ia (Dd n (s.reg ib) (s.reg ic)).1 (JK (s.tnt ib++s.tnt ic)))else none:=by simp[bS,ha,hb,hc]
    rw[e]at hQ;obtain⟨a,rfl,hal⟩:=kv.1 ha;obtain⟨b,rfl,hbl⟩:=kv.1 hb;obtain⟨c,rfl,hcl⟩:=kv.1 hc;obtain⟨b1,rfl⟩:=ky ho hal;obtain⟨b2,rfl⟩:=ky ht (k:=a) W4;have hal2:a<s.taint.length:=by omega
    have hxa:=az (f:=ao) hal;have hya:=az (f:=cp) hal2;have hbl2:b<s.taint.length:=by omega
    have hxb:=az (f:=ao) hbl;have hyb:=az (f:=cp) hbl2;have hcl2:c<s.taint.length:=by omega
    have hxc:=az (f:=ao) hcl;have hyc:=az (f:=cp) hcl2;have hun2:=NM s.taint[b] s.taint[c] (hsh _ (VI hbl2)) (hsh _ (VI hcl2));have hun:=FO n s.regs[b] s.regs[c];have hrb:s.reg b=s.regs[b]:=by simp[aW.reg,List.getD,hbl]
    have htb:s.tnt b=s.taint[b]:=by simp[aW.tnt,List.getD,hbl2]
    have hrc:s.reg c=s.regs[c]:=by simp[aW.reg,List.getD,hcl]
    have htc:s.tnt c=s.taint[c]:=by simp[aW.tnt,List.getD,hcl2]
    rw[hrb,htb,hrc,htc]at hQ;generalize Dd n s.regs[b] s.regs[c]=p at hun hQ;generalize JK (s.taint[b]++s.taint[c])=u at hun2 hQ;unfold GB at hun;unfold oa;dsimp only[ah,List.cons_append,List.nil_append]
    repeat' (first|refine st ?_|(refine ph (ft (hex _) (.here _) ?_);rintro _ _ ⟨rfl,rfl⟩;first|rw[ha]|rw[hb]|rw[hc])|(refine pf 120 ?_;refine pm (hun2) ?_)|(refine pf 78 ?_;refine pm (hun) ?_)|refine sb λnb_ hnb_=>?_|refine s2 (λh=>?_) λh=>?_|fail)
    subst hQ;unfold zN;cases hp:p.2 with
    |false=>rfl
    |true=>refine⟨rfl,?_⟩;simp[oa,aW.put,mP,ah,Wk,ao,cp]
end
end
section
set_option maxRecDepth 100000
set_option linter.unusedSimpArgs false
set_option linter.unusedSectionVars false
def K6:List AV:=[.W9 0,.nils,.nils,.W9 0]
theorem GC{P:Program}{KL R1:AV→SH→Prop}{g:FuncId}{args:List AV}{L K R:SH}(h:ai P g args K R1)(hL:L.Perm (K++R))(hq:∀v K',R1 v K'→KL v (R++K')):W.callM P g args L KL:=
 ⟨.perm (h.frame hL λu K' hu=>⟨R++K',VT,hq u K' hu⟩)⟩
theorem NN(s:aW)(bs:Nat)(o t:Option Nat)(ho:o=none→s.regs=[])(ht:t=none→s.taint=[])(hlen:s.taint.length=s.regs.length)(hsm:s.regs.length<2^40)(hsh:∀l∈s.taint,l.length≤2^30)(i:bn)(h1:1≤i.op)(h5:i.op≤5):
  ai Tryz.prog 95 [.ptr bs 0 0,.agg i.enc] (oa s bs o t) (zN (bS i s) bs o t):=by
 obtain⟨op,ia,ib,ic,n,site⟩:=i;dsimp only at h1 h5;obtain rfl|rfl|rfl|rfl|rfl:op=1∨op=2∨op=3∨op=4∨op=5:=by omega
 ·exact R0 s bs o t ho ht hlen hsm hsh ia ib ic n site
 ·exact R3 s bs o t ho ht hlen hsm hsh ia ib ic n site
 ·exact R4 s bs o t ho ht hlen hsm hsh ia ib ic n site
 ·exact R5 s bs o t ho ht hlen hsm hsh ia ib ic n site
 ·exact RY s bs o t ho ht hlen hsm hsh ia ib ic n site
theorem xw(s:aW)(a v:Int)(t:List Int):(s.put a v t).regs.length=s.regs.length∧(s.put a v t).taint.length=s.taint.length:=by simp[aW.put]
theorem FP{s s2:aW}{i:bn}(he:bS i s=some s2):s2.regs.length=s.regs.length∧s2.taint.length=s.taint.length:=by
 unfold bS at he;split at he
 ·split at he
  ·cases he;exact xw _ _ _ _
  ·cases he
 ·split at he
  ·split at he
   ·cases he;exact xw _ _ _ _
   ·cases he
  ·split at he
   ·split at he
    ·cases he;exact xw _ _ _ _
    ·cases he
   ·split at he
    ·split at he
     ·cases he;exact xw _ _ _ _
     ·cases he
    ·cases he;exact⟨rfl,rfl⟩
theorem lX{α:Type}{K:SH}{f:α→List AV}{l:List α}{o:Option Nat}{n:Nat}(hn:n=l.length)(h0:o=none→l=[])(hm:∀b,o=some b→(b,(⟨1,l.map f⟩:Blk))∈K):Fz K (aQ o n) (.lst (l.map f)):=by
 cases o with
 |none=>rw[h0 rfl];exact .refl _
 |some b=>exact Fz.sls (hm b rfl) rfl W8 hn
theorem PJ{K:SH}{s:aW}{o t:Option Nat}(ho:o=none→s.regs=[])(ht:t=none→s.taint=[])(h:∀p∈ah o 1 (s.regs.map ao)++ah t 1 (s.taint.map cp),p∈K):Fz K (.agg (mP s o t)) (.agg s.enc):=
 Fz.aggs (.cons (.refl _) (.cons (lX rfl ho λb e=>h _ (by subst e;simp[ah])) (.cons (lX rfl ht λb e=>h _ (by subst e;simp[ah])) (.cons (.refl _) .nil))))
theorem GD(K:SH):Fz K (.agg K6) (.agg aW.zero.enc):=Fz.aggs (.cons (.refl _) (.cons .nils (.cons .nils (.cons (.refl _) .nil))))
theorem GE{K:SH}{a b:AV}{ok:Bool}(h:Fz K a b):Fz K (.tup [a,.bool ok]) (.tup [b,.bool ok]):=.tup _ _ rfl λi x y h1 h2=>by
 match i with
 |0=>cases h1;cases h2;exact h
 |1=>cases h1;cases h2;exact .refl _
 |i+2=>simp at h1
theorem K7{ins:List bn}{k:Nat}{s:aW}(h:inB s.pc ins.length=false):hM ins k s=(aW.zero,false):=by cases k<;>simp[hM,h]
theorem NO{ins:List bn}{k:Nat}{s:aW}(h:inB s.pc ins.length=true)(h2:(ins.getD s.pc.toNat default).op<1∨5<(ins.getD s.pc.toNat default).op):hM ins k s=(s,true):=by cases k<;>simp only[hM,h,if_true,if_pos h2]
theorem NP{ins:List bn}{k:Nat}{s:aW}(h:inB s.pc ins.length=true)(h2:¬((ins.getD s.pc.toNat default).op<1∨5<(ins.getD s.pc.toNat default).op))(h3:bS (ins.getD s.pc.toNat default) s=none):hM ins k s=(aW.zero,false):=by cases k<;>simp only[hM,h,if_true,if_neg h2,h3]
theorem NQ{ins:List bn}{s:aW}(h:inB s.pc ins.length=true)(h2:¬((ins.getD s.pc.toNat default).op<1∨5<(ins.getD s.pc.toNat default).op)):hM ins 0 s=(aW.zero,false):=by simp only[hM,h,if_true,if_neg h2]
theorem NR{ins:List bn}{k:Nat}{s s2:aW}(h:inB s.pc ins.length=true)(h2:¬((ins.getD s.pc.toNat default).op<1∨5<(ins.getD s.pc.toNat default).op))(h3:bS (ins.getD s.pc.toNat default) s=some s2):hM ins (k+1) s=hM ins k s2:=by simp only[hM,h,if_true,if_neg h2,h3]
section
variable (c:iD) (s:aW) (U:List Int) (hU:U.length≤2^30) (hT:jj U s) (hc:c.ins.length<2^40) (o t:Option Nat) (ho:o=none→s.regs=[]) (ht:t=none→s.taint=[])
include hU hT hc ho ht
theorem Ip(b3 b4:Nat)(Q:AV→SH→Prop)(hq:∀v L,Fz L v (Di (hM c.ins c.ins.length s))→Q v L):
  W.loop (gN Q) [.pptr [c.enc] 0 0,.ptr b3 0 0,.ptr b4 0 0,.W9 (0:Nat)] ((b4,⟨4,[K6]⟩)::oa s b3 o t):=by
 refine cg c.ins.length (λk (e:aW)=>([.pptr [c.enc] 0 0,.ptr b3 0 0,.ptr b4 0 0,.W9 k],(b4,⟨4,[K6]⟩)::oa e b3 o t)) (λk e=>jj U e∧(e.regs.length=s.regs.length∧e.taint.length=s.taint.length)∧hM c.ins (c.ins.length-k) e=hM c.ins c.ins.length s) s ⟨hT,⟨rfl,rfl⟩,rfl⟩ (.refl _ _) ?_;intro k e hk ⟨he,⟨hl1,hl2⟩,hrun⟩;rw[←hrun]at hq;have ho':o=none→e.regs=[]:=λx=>Wr.1 (by rw[hl1,ho x];rfl)
 have ht':t=none→e.taint=[]:=λx=>Wr.1 (by rw[hl2,ht x];rfl)
 dsimp only;unfold gN;have zero:hM c.ins (c.ins.length-k) e=(aW.zero,false)→∀L,Q (.tup [.agg K6,.bool false]) L:=λh L=>hq _ _ (by rw[h];exact GE (GD _))
 by_cases p1:e.pc<0
 ·have hd1:decide (e.pc<0)=true:=by simpa using p1
  have hz:=zero (K7 (by simp[inB];omega));unfold oa mP
  repeat' (first|refine st ?_|refine sb λnb_ hnb_=>?_|refine s2 (λh=>?_) λh=>?_|fail)
  exact hz _
 ·have hd1:decide (e.pc<0)=false:=by simpa using p1
  by_cases p2:(c.ins.length:Int)≤e.pc
  ·have hd2:decide ((c.ins.length:Int)≤e.pc)=true:=by simpa using p2
   have hz:=zero (K7 (by simp[inB];omega));unfold oa mP
   repeat' (first|refine st ?_|refine sb λnb_ hnb_=>?_|refine s2 (λh=>?_) λh=>?_|fail)
   exact hz _
  ·have hd2:decide ((c.ins.length:Int)≤e.pc)=false:=by simpa using p2
   have hin:inB e.pc c.ins.length=true:=by simp[inB];omega
   have hx:=dO (f:=bn.enc) hin;generalize hi:c.ins.getD e.pc.toNat default=i at hx;by_cases p3:i.op<1∨5<i.op
   ·have hr:=NO (k:=c.ins.length-k) hin (by rw[hi];exact p3);rw[hr]at hq;have fin:∀x,Q (.tup [.agg (mP e o t),.bool true]) ((b4,x)::oa e b3 o t):=λx=>hq _ _ (GE (PJ ho' ht' λp hp=>by unfold oa;exact .tail _ (.tail _ hp)))
    unfold oa mP at fin ⊢;by_cases p4:i.op<1
    ·have q1:decide (i.op<1)=true:=by simpa using p4
     rcases o with _|b1<;>rcases t with _|b2
     all_goals
      dsimp only[aQ,ah,List.cons_append,List.nil_append]at fin ⊢
      repeat' (first|refine st ?_|refine sb λnb_ hnb_=>?_|refine s2 (λh=>?_) λh=>?_|fail)
      exact fin _
    ·have q1:decide (i.op<1)=false:=by simpa using p4
     have q2:decide (5<i.op)=true:=by simp;omega
     rcases o with _|b1<;>rcases t with _|b2
     all_goals
      dsimp only[aQ,ah,List.cons_append,List.nil_append]at fin ⊢
      repeat' (first|refine st ?_|refine sb λnb_ hnb_=>?_|refine s2 (λh=>?_) λh=>?_|fail)
      exact fin _
   ·have q1:decide (i.op<1)=false:=by simp;omega
    have q2:decide (5<i.op)=false:=by simp;omega
    by_cases p5:k=c.ins.length
    ·have q3:decide ((k:Int)=(c.ins.length:Int))=true:=by simp[p5]
     have hz:=zero (by rw[p5,Nat.sub_self];exact NQ hin (by rw[hi];exact p3));unfold oa mP
     repeat' (first|refine st ?_|refine sb λnb_ hnb_=>?_|refine s2 (λh=>?_) λh=>?_|fail)
     exact hz _
    ·have q3:decide ((k:Int)=(c.ins.length:Int))=false:=by simp;omega
     have hex:=NN e b3 o t ho' ht' he.len he.small he.short i W4 W4;obtain⟨m,hm⟩:∃m,c.ins.length-k=m+1:=⟨c.ins.length-k-1,W4⟩;cases hst:bS i e with
     |none=>
      have hz:=zero (NP hin (by rw[hi];exact p3) (by rw[hi];exact hst));rw[hst]at hex;change ai _ _ _ _ (λv L=>v=AV.bool false)at hex;unfold oa mP
      repeat' (first|refine st ?_|((with_reducible refine aZ 95 ?_);(refine GC hex (VT (l₁:=[(b4,_)]) (l₂:=oa e b3 o t)) ?_;rintro _ K' rfl))|refine sb λnb_ hnb_=>?_|refine s2 (λh=>?_) λh=>?_|fail)
      exact hz _
     |some s2=>
      rw[hst]at hex;change ai _ _ _ _ (λv L=>v=AV.bool true∧L=oa s2 b3 o t)at hex;have hrun2:hM c.ins (c.ins.length-(k+1)) s2=hM c.ins c.ins.length s:=by rw[←hrun,hm,NR hin (by rw[hi];exact p3) (by rw[hi];exact hst),show c.ins.length-(k+1)=m by omega]
      have hls:=FP hst;unfold oa mP
      repeat' (first|refine st ?_|((with_reducible refine aZ 95 ?_);(refine GC hex (VT (l₁:=[(b4,_)]) (l₂:=oa e b3 o t)) ?_;rintro _ _ ⟨rfl,rfl⟩))|refine sb λnb_ hnb_=>?_|refine s2 (λh=>?_) λh=>?_|fail)
      exact⟨k+1,s2,W4,W4,⟨he.step hU hst,⟨W4,W4⟩,hrun2⟩,fU (by rw[aE (by omega:k<c.ins.length) W4]<;>rfl) rfl⟩
end
end
section
set_option maxRecDepth 100000
set_option linter.unusedSimpArgs false
set_option linter.unusedSectionVars false
theorem NS{U:List Int}(hU:U.length≤2^30){ins:List bn}:∀(k:Nat) {s:aW},jj U s→jj U (hM ins k s).1:=by
 have hz:jj U aW.zero:=⟨rfl,W8,nofun,nofun⟩;intro k
 induction k with
 |zero=>
  intro s h;unfold hM;split
  ·split
   ·exact h
   ·exact hz
  ·exact hz
 |succ k ih=>
  intro s h;unfold hM;split
  ·split
   ·exact h
   ·split
    ·exact hz
    ·rename_i s2 he;exact ih (h.step hU he)
  ·exact hz
theorem Iq{U:List Int}(hU:U.length≤2^30){c:iD}{s:aW}(h:jj U s):jj U (bY c s).1:=by
 unfold bY;split
 ·exact NS hU _ h
 ·exact⟨rfl,W8,nofun,nofun⟩
section
variable (c:iD) (s:aW) (U:List Int) (hU:U.length≤2^30) (hr:s.regs.length<2^40) (ht:s.taint.length<2^40) (hsh:∀l∈s.taint,l.length≤2^30) (hsub:∀l∈s.taint,∀x∈l,x∈U) (hc:c.ins.length<2^40)
include hU hr ht hsh hsub hc
theorem LN:aB Tryz.prog 58 [.agg c.enc,.agg s.enc] (Di (bY c s)):=by
 refine ai.fz (zM _ _ _ _ ?_);unfold nD;generalize hQ:(λ(v:AV) (L:SH)=>∃v2 L2,aI [v] L [v2] L2∧v2=Di (bY c s)∧L2=[])=Q;have hq:∀v L,Fz L v (Di (bY c s))→Q v L:=λv L h=>by subst hQ;exact⟨_,[],aI.all h,rfl,rfl⟩
 clear hQ;by_cases p1:(s.regs.length:Int)=c.regs
 ·have d1:decide ((s.regs.length:Int)≠c.regs)=false:=by simpa using p1
  by_cases p2:(s.taint.length:Int)=c.regs
  ·have d2:decide ((s.taint.length:Int)≠c.regs)=false:=by simpa using p2
   have hT:jj U s:=⟨W4,hr,hsh,hsub⟩;have e:bY c s=hM c.ins c.ins.length s:=by unfold bY;rw[if_pos ⟨p1,p2⟩]
   rw[e]at hq;have hcl:=JL s hr ht hsh
   repeat' (first|refine st ?_|((with_reducible refine aZ 94 ?_);(refine GC (K:=[]) hcl (List.Perm.refl _) ?_;rintro _ _ ⟨o,t,rfl,rfl,ho,ht2⟩))|refine sb λnb_ hnb_=>?_|refine s2 (λh=>?_) λh=>?_|fail)
   rename_i b3 _;rcases o with _|b1<;>rcases t with _|b2
   all_goals
    repeat' (first|refine st ?_|refine sb λnb_ hnb_=>?_|refine s2 (λh=>?_) λh=>?_|fail)
    exact Ip c s U hU hT hc _ _ ho ht2 b3 nb_ Q hq
  ·have d2:decide ((s.taint.length:Int)≠c.regs)=true:=by simpa using p2
   have e:bY c s=(aW.zero,false):=by unfold bY;rw[if_neg (λh=>p2 h.2)]
   rw[e]at hq
   repeat' (first|refine st ?_|refine sb λnb_ hnb_=>?_|refine s2 (λh=>?_) λh=>?_|fail)
   exact hq _ _ (GE (GD _))
 ·have d1:decide ((s.regs.length:Int)≠c.regs)=true:=by simpa using p1
  have e:bY c s=(aW.zero,false):=by unfold bY;rw[if_neg (λh=>p1 h.1)]
  rw[e]at hq
  repeat' (first|refine st ?_|refine sb λnb_ hnb_=>?_|refine s2 (λh=>?_) λh=>?_|fail)
  exact hq _ _ (GE (GD _))
end
end
section
set_option maxRecDepth 100000
set_option linter.unusedSimpArgs false
def dk(w:aN):SyncD:=⟨List.replicate w.locks.length ⟨-1,[]⟩,-1,List.replicate w.futures.length false,(List.replicate w.threads.length (⟨0,0,false⟩:ThrD)).set 0 ⟨1,0,false⟩⟩
theorem NT(w:aN)(h1:w.locks.length≤100)(h2:w.futures.length≤100)(h3:w.threads.length≤100):aB Tryz.prog 54 [.agg w.enc] (.agg (dk w).enc):=by
 refine ai.fz (Bx _ _ _ ?_);unfold pn;generalize hQ:(λ(v:AV) (L:SH)=>∃v2 L2,aI [v] L [v2] L2∧v2=AV.agg (dk w).enc∧L2=[])=Q
 repeat' (first|refine st ?_|refine sb λnb_ hnb_=>?_|refine s2 (λh=>?_) λh=>?_|fail)
 rename_i b2 _ b3 _ b4 _ b5 _ b6 _;refine sP w.locks.length (λi=>([.ptr b3 0 0,.pptr [[.sl b4 0 w.locks.length,.W9 (-1),.sl b5 0 w.futures.length,.sl b6 0 w.threads.length]] 0 0,.W9 w.locks.length,.W9 i],
  [(b6,⟨3,List.replicate w.threads.length [.W9 0,.W9 0,.bool false]⟩),(b5,⟨1,List.replicate w.futures.length [.bool false]⟩),(b4,⟨2,List.replicate i [.W9 (-1),.nils]++List.replicate (w.locks.length-i) [.W9 0,.nils]⟩),(b3,⟨4,[[.nils,.W9 0,.nils,.nils]]⟩)])) (λ_=>True) trivial rfl W7 ?_
 intro i hi _;dsimp only;unfold nv;rcases Nat.lt_or_ge i w.locks.length with g1|g1
 ·have hd:=bF g1;have hx:=Pj i w.locks.length (α:=List AV) [.W9 (-1),.nils] [.W9 0,.nils] g1
  repeat' (first|refine st ?_|refine sb λnb_ hnb_=>?_|refine s2 (λh=>?_) λh=>?_|fail)
  refine⟨i+1,W4,W4,trivial,fU (by rw[aE g1 W4]<;>rfl) ?_⟩;rw[←Pi i w.locks.length _ _ g1];rfl
 ·have hd:=bM g1;have fin:∀(T:List ThrD) (L:SH),T=(dk w).threads→L=[(b6,⟨3,T.map ThrD.enc⟩),(b5,⟨1,List.replicate w.futures.length [.bool false]⟩),(b4,⟨2,List.replicate i [.W9 (-1),.nils]++List.replicate (w.locks.length-i) [.W9 0,.nils]⟩),(b3,⟨4,[[.sl b4 0 w.locks.length,.W9 (-1),.sl b5 0 w.futures.length,.sl b6 0 w.threads.length]]⟩)]→
    Q (.agg [.sl b4 0 w.locks.length,.W9 (-1),.sl b5 0 w.futures.length,.sl b6 0 w.threads.length]) L:=by
   intro T L hT hL;subst hL;subst hQ;have hi0:i=w.locks.length:=by omega
   subst hi0;refine⟨_,[],aI.all (Fz.aggs (.cons ?_ (.cons (.refl _) (.cons ?_ (.cons ?_ .nil))))),rfl,rfl⟩
   ·refine Fz.slm (f:=λ_=>[.W9 (-1),.nils]) (.tail _ (.tail _ (.head _))) (by simp[dk]) W8 (by simp[dk]) (λy hy=>rfl) (λy hy q a a2 q1 q2=>?_);have:y=⟨-1,[]⟩:=by simp[dk]at hy;exact hy.2
    subst this
    match q with
    |0=>cases q1;cases q2;exact .refl _
    |1=>cases q1;cases q2;exact .nils
    |q+2=>simp at q1
   ·exact Fz.sls (.tail _ (.head _)) (by simp[dk,aV]) W8 (by simp[dk])
   ·exact Fz.sls (.head _) (by rw[hT]) W8 (by simp[dk])
  rcases Wi w.threads.length with g2|g2
  ·have hd2:decide ((0:Int)<(w.threads.length:Int))=false:=by simp[g2]
   repeat' (first|refine st ?_|refine sb λnb_ hnb_=>?_|refine s2 (λh=>?_) λh=>?_|fail)
   exact fin [] _ (by simp[dk,g2]) (by simp[g2])
  ·have hd2:decide ((0:Int)<(w.threads.length:Int))=true:=by simpa using g2
   have hx0:(List.replicate w.threads.length ([.W9 0,.W9 0,.bool false]:List AV))[0]? =some [.W9 0,.W9 0,.bool false]:=by simp[g2]
   repeat' (first|refine st ?_|refine sb λnb_ hnb_=>?_|refine s2 (λh=>?_) λh=>?_|fail)
   refine fin _ _ rfl ?_;simp[dk,ThrD.enc,Wk]
end
section
set_option maxRecDepth 100000
def zO(Q:R)(b:Kn)(c d e f g:AV)(a:SH):Prop:=W.un .not g λh=>wk h (Q (.bool false) a) (wb .add 3 c (.W9 1) λi=>b [d,e,f,i] a)
def zP(Q:R)(f:Kn)(c:SH)(d a e g:AV):Prop:=lE 2 d a c λh=>qn [(.W9 0),.nils] 2 h c λi b=>W.faddr 0 e λj=>ca 6 j b λk=>ca 2 i b λl=>wc (.fn 28 []) [k,a,l] b (zO Q f a e d g)
def lY(Q:R)(d:Vs)(a:SH)(e:Kn):Prop:=yO 1 20 21 22 d λf g b c=>wb .lss 3 c b λh=>wk h ((zP Q e a g c f b)) (Q (.bool true) a)
def zQ(Q:R)(b g:AV)(h:SH):Prop:=W.un .not g λa=>wg a false (W.faddr 6 b) h λi d=>wg a false (wl i d) d λj k=>wg a false (W.len j) k λl m=>wg a false (W.faddr 0 b) m λn o=>wg a false (W.faddr 4 n) o λp e=>wg a false (wl p e) e λq r=>wg a false (W.len q) r λs t=>wg a false (wb .neq 3 l s) t λu c=>W.pick a (.bool true) u λv=>wk v (Q (.bool false) c) (aC 6 b c λf=>W.len f λw=>W.loop (lY Q) [b,f,w,(.W9 0)] c)
def nF(c:AV)(L:SH)(Q:R):Prop:=sf c L λa b=>W.faddr 0 a λd=>ca 6 d b λe=>wc (.fn 27 []) [e] b (zQ Q a)
theorem zR(t0:AV)(L:SH)(Q:R)(h:nF t0 L Q):ai Tryz.prog 13 [t0] L Q:=
 fs [] [(4,[1,20,21,22])] [(0,[1]),(5,[4])] [] Tryz.func13 h
def mQ(Q:R)(b:Kn)(c d e f g h i j k l m:AV)(a:SH):Prop:=W.un .not m λn=>wk n (Q (.bool false) a) (wb .add 3 c (.W9 1) λo=>b [d,e,f,g,h,i,j,k,l,o] a)
def mR(Q:R)(e:Kn)(a:SH)(b c d f g h i j k l:AV):Prop:=wx 1 b c a λm=>aC 0 d a λn=>wc (.fn 50 []) [m,n] a (mQ Q e c f g d h i j k b l)
def mS(Q:R)(b:Kn)(c d e f g h i:AV)(a:SH):Prop:=W.un .not i λj=>wk j (Q (.bool false) a) (wb .add 3 c (.W9 1) λk=>b [d,e,f,g,h,k] a)
def mT(Q:R)(d:Kn)(a:SH)(b c e f g h i:AV):Prop:=ca 6 b a λj=>aC 1 c a λk=>W.len k λl=>ca 6 e a λm=>wc (.fn 52 []) [j,l,m] a (mS Q d f g b c h i)
def fX(Q:R)(k:Kn)(l:Vs)(a:SH)(m:Kn):Prop:=Pw 1 3 5 8 26 27 28 78 79 80 l λb c d e f g h n i j=>wb .lss 3 j i λo=>wk o ((mR Q m a n j d b c e f g h i)) ((mT Q k a c d e h b f g))
def mU(Q:R)(b:Kn)(c d e f g h i a:AV)(j:SH):Prop:=W.len a λk=>W.loop (fX Q b) [c,d,e,f,g,h,i,a,k,(.W9 0)] j
def dR(Q:R)(c:Kn)(d:Vs)(a:SH):Prop:=RB 1 3 5 6 8 26 27 28 d λe f g l b h i j=>ca 6 b a λk=>wc (.fn 51 []) [k] a (mU Q c e f g b h i j)
def mV(Q:R)(c:Kn)(d:Vs)(a:SH)(b e f g h i j:AV):Prop:=aC 5 b a λk=>wb .neq 3 k (.W9 (-1)) λl=>wk l (Q (.bool false) a) (c [e,f,g,(ax [1,3,5,26,27,28] d 6),b,h,i,j] a)
def mW(Q:R)(a:Vs)(b:SH):Prop:=RB 1 3 5 6 8 26 27 28 a λd e f c g h i j=>Q c b
def mX(Q:R)(n:Kn)(o:Vs)(b c d e f g h p:AV)(q:SH):Prop:=W.un .not p λa=>wg a false (W.faddr 5 b) q λr i=>wg a false (wl r i) i λs t=>wg a false (W.faddr 5 c) t λu j=>wg a false (wl u j) j λv k=>wg a false (W.idx 3 s v k) k λw x=>wg a false (W.faddr 0 w) x λy l=>wg a false (wl y l) l λz A=>bH a false d A λB C=>wg a false (wb .neq 3 z B) C λD m=>W.pick a (.bool true) D λE=>wk E (W.join (mW Q) λF=>F [d,b,e,(.bool false),c,f,g,h] m) (n [d,b,e,(ax [1,3,5,26,27,28] o 6),c,f,g,h] m)
def mY(Q:R)(d:Kn)(e:Vs)(a:SH)(b c f g h i j:AV):Prop:=aC 5 b a λk=>aC 5 c a λl=>W.len l λm=>wc (.fn 50 []) [k,m] a (mX Q d e c b f g h i j)
def mZ(Q:R)(k:Kn)(c:Vs)(a:SH)(b d e f g h i:AV):Prop:=W.join (dR Q k) λj=>aC 0 b a λl=>wb .eql 3 l (.W9 28) λm=>wk m ((mV Q j c a b d e f g h i)) ((mY Q j c a b e d f g h i))
def m0(Q:R)(m:Kn)(n:Vs)(e:SH)(f d g o p q:AV):Prop:=lE 6 f d e λr=>qn [(.W9 0),(.W9 0),(.W9 0),(.W9 0),(.W9 0),(.W9 0)] 6 r e λb h=>aC 0 b h λs=>wb .lss 3 s (.W9 1) λc=>wg c false (W.faddr 0 b) h λt i=>wg c false (wl t i) i λu v=>wg c false (wb .gtr 3 u (.W9 28)) v λw x=>W.pick c (.bool true) w λa=>wg a false (W.faddr 0 b) x λy j=>wg a false (wl y j) j λz A=>wg a false (wb .eql 3 z (.W9 28)) A λB C=>bH a false d C λD E=>wg a false (W.faddr 1 g) E λF k=>wg a false (wl F k) k λG H=>wg a false (W.len G) H λI J=>wg a false (wb .sub 3 I (.W9 1)) J λM N=>wg a false (wb .eql 3 D M) N λO P=>wg a false (wb .neq 4 B O) P λS l=>W.pick a (.bool true) S λT=>wk T (Q (.bool false) l) ((mZ Q m n l b o p g f q d))
def fY(Q:R)(b:Vs)(a:SH)(f:Kn):Prop:=Hf 1 3 5 26 27 28 b λg h c i d e=>wb .lss 3 e d λj=>wk j ((m0 Q f b a i e c g h d)) (aC 1 c a λk=>wc (.fn 53 []) [k] a λl m=>Q l m)
def gv(i j k:AV)(L:SH)(Q:R):Prop:=W.box i L λl m=>W.box k m λn o=>W.frz1 l o λp q=>W.frz1 n q λa e=>aC 0 a e λr=>wb .lss 3 r (.W9 0) λc=>wg c false (W.faddr 0 a) e λs f=>wg c false (wl s f) f λt u=>wg c false (wb .gtr 3 t (.W9 32)) u λv w=>W.pick c (.bool true) v λb=>wg b false (W.faddr 1 a) w λx g=>wg b false (wl x g) g λy z=>wg b false (W.len y) z λA B=>wg b false (wb .eql 3 A (.W9 0)) B λC d=>W.pick b (.bool true) C λD=>wk D (Q (.bool false) d) (aC 1 a d λh=>W.len h λE=>W.loop (fY Q) [j,p,a,h,E,(.W9 0)] d)
theorem m3(t0 t1 t2:AV)(L:SH)(Q:R)(h:gv t0 t1 t2 L Q):ai Tryz.prog 28 [t0,t1,t2] L Q:=
 fs [(12,[1,3,5,6,8,26,27,28])] [(14,[1,3,5,8,26,27,28,78,79,80]),(4,[1,3,5,26,27,28])] [(0,[3,5]),(5,[8])] [] Tryz.func28 h
def kX(Q:R)(a:AV)(b:SH):Prop:=W.ext 0 a λd=>W.ext 1 a λc=>Q c b
def kY(Q:R)(a:AV)(b:SH):Prop:=W.ext 0 a λd=>W.ext 1 a λc=>Q c b
def kZ(Q:R)(a:SH)(b c d:AV):Prop:=wb .eql 3 b (.W9 27) λe=>wk e (aC 2 c a λf=>aC 3 d a λg=>W.len g λh=>wc (.fn 50 []) [f,h] a λi j=>Q i j) (Q (.bool true) a)
def k9(Q:R)(a:SH)(b c d:AV):Prop:=wb .eql 3 b (.W9 26) λe=>wk e (aC 1 c a λf=>aC 3 d a λg=>W.len g λh=>wc (.fn 50 []) [f,h] a λi j=>Q i j) ((kZ Q a b c d))
def la(Q:R)(d:Vs)(a:SH):Prop:=yO 3 5 12 97 d λb c e f=>wk f (aC 1 c a λg=>aC 4 b a λh=>W.len h λi=>wc (.fn 50 []) [g,i] a λj k=>Q j k) ((k9 Q a e c b))
def ld(Q:R)(b:SH)(a c d:AV):Prop:=W.join (la Q) λe=>wb .eql 3 a (.W9 24) λf=>wk f (e [c,d,a,f] b) (wb .eql 3 a (.W9 25) λg=>e [c,d,a,g] b)
def lf(Q:R)(d:Vs)(a:SH):Prop:=yO 3 5 12 87 d λb c e f=>wk f (aC 1 c a λg=>aC 2 b a λh=>W.len h λi=>wc (.fn 50 []) [g,i] a λj k=>Q j k) ((ld Q a e b c))
def lg(Q:R)(b:SH)(a c d:AV):Prop:=W.join (lf Q) λe=>wb .eql 3 a (.W9 21) λf=>wk f (e [c,d,a,f] b) (wb .eql 3 a (.W9 22) λg=>wk g (e [c,d,a,g] b) (wb .eql 3 a (.W9 23) λh=>e [c,d,a,h] b))
def lh(Q:R)(d:Vs)(a:SH):Prop:=yO 3 5 12 78 d λb c e f=>wk f (ca 6 b a λg=>aC 1 c a λh=>wc (.fn 48 []) [g,h,(.bool true)] a λi j=>Q i j) ((lg Q a e b c))
def lj(b:Kn)(c:SH)(a d e:AV):Prop:=wb .eql 3 a (.W9 14) λf=>wk f (b [d,e,a,f] c) (wb .eql 3 a (.W9 15) λg=>wk g (b [d,e,a,g] c) (wb .eql 3 a (.W9 16) λh=>b [d,e,a,h] c))
def lm(Q:R)(b:SH)(a c d:AV):Prop:=W.join (lh Q) λe=>wb .eql 3 a (.W9 13) λf=>wk f (e [c,d,a,f] b) ((lj e b a c d))
def lq(Q:R)(d:Vs)(a:SH):Prop:=yO 3 5 12 71 d λb c e f=>wk f (ca 6 b a λg=>aC 1 c a λh=>wc (.fn 48 []) [g,h,(.bool false)] a λi j=>Q i j) ((lm Q a e b c))
def lr(Q:R)(b:SH)(a c d:AV):Prop:=W.join (lq Q) λe=>wb .eql 3 a (.W9 11) λf=>wk f (e [c,d,a,f] b) (wb .eql 3 a (.W9 12) λg=>e [c,d,a,g] b)
def lu(Q:R)(a:SH)(c d b:AV):Prop:=wb .eql 3 c (.W9 9) λe=>wk e (ca 6 d a λf=>aC 1 b a λg=>aC 4 b a λh=>wc (.fn 80 []) [f,g,h] a λi j=>Q i j) ((lr Q a c d b))
def lv(Q:R)(a:SH)(c d b:AV):Prop:=wb .eql 3 c (.W9 7) λe=>wk e (ca 6 d a λf=>aC 2 b a λg=>aC 4 b a λh=>wc (.fn 80 []) [f,g,h] a λi j=>Q i j) ((lu Q a c d b))
def lw(Q:R)(a:SH)(b c d:AV):Prop:=wb .eql 3 b (.W9 8) λe=>wk e (ca 6 c a λf=>aC 1 d a λg=>wc (.fn 79 []) [f,g] a λh i=>Q h i) ((lv Q a b c d))
def j8(Q:R)(a:SH)(b c d:AV):Prop:=wb .eql 3 b (.W9 6) λe=>wk e (ca 6 c a λf=>aC 2 d a λg=>wc (.fn 79 []) [f,g] a λh i=>Q h i) ((lw Q a b c d))
def j9(Q:R)(a:SH)(d b c e:AV):Prop:=wb .eql 3 b (.W9 10) λf=>wk f (aC 2 c a λg=>wc (.fn 50 []) [g,d] a λh i=>Q h i) ((j8 Q a b e c))
def kf(Q:R)(a:SH)(b c d e:AV):Prop:=wb .eql 3 c (.W9 5) λf=>wk f (aC 1 d a λg=>wc (.fn 50 []) [g,b] a λh i=>Q h i) ((j9 Q a b c d e))
def kg(Q:R)(a:SH)(d b c e:AV):Prop:=wb .eql 3 b (.W9 4) λf=>wk f (aC 4 c a λg=>wc (.fn 78 []) [g,(.W9 0),(.W9 0)] a (kY Q)) ((kf Q a d b c e))
def fK(d e f:AV)(L:SH)(Q:R):Prop:=W.box d L λg h=>W.box f h λi j=>W.frz1 g j λk l=>W.frz1 i l λb a=>aC 0 b a λc=>wb .eql 3 c (.W9 3) λm=>wk m (aC 4 b a λn=>wc (.fn 77 []) [n,(.W9 0)] a (kX Q)) ((kg Q a e c b k))
theorem lx(t0 t1 t2:AV)(L:SH)(Q:R)(h:fK t0 t1 t2 L Q):ai Tryz.prog 52 [t0,t1,t2] L Q:=
 fs [(21,[3,5,12,71]),(26,[3,5,12,78]),(30,[3,5,12,87]),(33,[3,5,12,97])] [] [(0,[3,5])] [] Tryz.func52 h
def qA(Q:R)(e f a:AV)(g:SH):Prop:=wg a true (W.faddr 0 f) g λh b=>wg a true (wl h b) b λi j=>bH a true e j λk c=>wg a true (W.idx 5 i k c) c λl m=>wg a true (W.faddr 2 l) m λn d=>wg a true (wl n d) d λo p=>wg a true (wb .eql 3 o (.W9 0)) p λq r=>W.pick a q (.bool false) λs=>Q s r
def jl(d a:AV)(L:SH)(Q:R):Prop:=sf d L λb c=>aC 0 b c λe=>W.len e λf=>wc (.fn 50 []) [a,f] c (qA Q a b)
theorem qB(t0 t1:AV)(L:SH)(Q:R)(h:jl t0 t1 L Q):ai Tryz.prog 79 [t0,t1] L Q:=
 fs [] [] [(0,[2])] [] Tryz.func79 h
def sT(Q:R)(d o e b:AV)(p:SH):Prop:=wg b true (W.faddr 0 e) p λq f=>wg b true (wl q f) f λr s=>bH b true d s λt g=>wg b true (W.idx 5 r t g) g λu v=>wg b true (W.faddr 1 u) v λw h=>wg b true (wl w h) h λx y=>wg b true (wb .eql 3 x (.W9 0)) y λz A=>W.pick b z (.bool false) λc=>wg c true (W.faddr 0 e) A λB i=>wg c true (wl B i) i λC D=>bH c true d D λE j=>wg c true (W.idx 5 C E j) j λF G=>wg c true (W.faddr 2 F) G λH k=>wg c true (wl H k) k λI J=>wg c true (wb .neq 3 I (.W9 0)) J λM N=>W.pick c M (.bool false) λa=>wg a true (W.faddr 0 e) N λO l=>wg a true (wl O l) l λP S=>bH a true d S λT m=>wg a true (W.idx 5 P T m) m λU V=>wg a true (W.faddr 2 U) V λX n=>wg a true (wl X n) n λY Z=>bH a true o Z λa0 a1=>wg a true (wb .eql 2 Y a0) a1 λa2 a3=>W.pick a a2 (.bool false) λa4=>Q a4 a3
def kz(d a e:AV)(L:SH)(Q:R):Prop:=sf d L λb c=>aC 0 b c λf=>W.len f λg=>wc (.fn 50 []) [a,g] c (sT Q a e b)
theorem sU(t0 t1 t2:AV)(L:SH)(Q:R)(h:kz t0 t1 t2 L Q):ai Tryz.prog 80 [t0,t1,t2] L Q:=
 fs [] [] [(0,[3])] [] Tryz.func80 h
def jm(b:AV)(L:SH)(Q:R):Prop:=wb .geq 3 b (.W9 1) λa=>bH a true b L λc d=>wg a true (wb .leq 3 c (.W9 5)) d λe f=>W.pick a e (.bool false) λg=>Q g f
theorem qC(t0:AV)(L:SH)(Q:R)(h:jm t0 L Q):ai Tryz.prog 81 [t0] L Q:=
 fs [] [] [] [] Tryz.func81 h
def qD(e:Kn)(a:SH)(b c d f g h i:AV):Prop:=W.idx 1 b c a λj=>W.store 1 j (.bool true) a λk=>wc (.fn 82 []) [d,c] k λl m=>e [d,f,b,g,l,h,i] m
def qE(k l:Kn)(b c d f g h a:AV)(m:SH):Prop:=bH a true b m λn o=>bH a true c o λp i=>wg a true (W.idx 1 n p i) i λq j=>wg a true (wl q j) j λr s=>wg a true (W.un .not r) s λt e=>W.pick a t (.bool false) λu=>wk u (W.idx 1 b c e λv=>W.store 1 v (.bool true) e λw=>wc (.fn 82 []) [d,c] w λx y=>k [d,b,f,x,g,h] y) (wb .add 3 h (.W9 1) λz=>l [d,b,f,g,z] e)
def fb(d:Kn)(e:Vs)(a:SH)(f:Kn):Prop:=Hf 0 3 4 6 14 15 e λb g h c i j=>eE 6 0 b c a λk=>wc (.fn 81 []) [k] a (qE f d g c b h i j)
def qF(Q:R)(l m:Kn)(c d e f g h i a:AV)(n:SH):Prop:=bH a true c n λo p=>bH a true d p λq j=>wg a true (W.idx 1 o q j) j λr k=>wg a true (wl r k) k λs t=>wg a true (W.un .not s) t λu b=>W.pick a u (.bool false) λv=>wk v (wx 1 e d b λw=>wk w (Q (.bool false) b) ((qD l b e d f c g h i))) (W.loop (fb m) [f,c,e,g,h,i] b)
def fe(Q:R)(d:Kn)(e:Vs)(a:SH)(f:Kn):Prop:=Mw 0 3 4 5 6 14 15 e λb g h i c j k=>eE 6 0 b c a λl=>wc (.fn 81 []) [l] a (qF Q f d g c h b i j k)
def iE(Q:R)(d:Vs)(b:SH)(e:Kn):Prop:=He 0 3 4 14 15 d λf g h c a=>wb .lss 3 a c λi=>wk i (W.loop (fe Q e) [f,g,h,a,a,c,a] b) (Q (.bool true) b)
def jo(a:AV)(L:SH)(Q:R):Prop:=W.len a λb=>W.mslice 1 1 [(.bool false)] b b L λd e=>W.len a λc=>W.mslice 1 1 [(.bool false)] c c e λf g=>W.len a λh=>W.loop (iE Q) [a,d,f,h,(.W9 0)] g
theorem qG(t0:AV)(L:SH)(Q:R)(h:jo t0 L Q):ai Tryz.prog 53 [t0] L Q:=
 fs [] [(7,[0,3,4,5,6,14,15]),(13,[0,3,4,6,14,15]),(4,[0,3,4,14,15])] [] [] Tryz.func53 h
def iF(b a:AV)(L:SH)(Q:R):Prop:=eE 6 0 b a L λc=>wb .eql 3 c (.W9 5) λd=>wk d (eE 6 1 b a L λe=>Q e L) (wb .add 3 a (.W9 1) λf=>Q f L)
theorem px(t0 t1:AV)(L:SH)(Q:R)(h:iF t0 t1 L Q):ai Tryz.prog 82 [t0,t1] L Q:=
 fs [] [] [] [] Tryz.func82 h
def oe(Q:R)(b:Kn)(c d e f g:AV)(a:SH):Prop:=W.un .not g λh=>wk h (Q (.bool false) a) (wb .add 3 c (.W9 1) λi=>b [d,e,f,i] a)
def og(Q:R)(f:Kn)(b:SH)(c d e g:AV):Prop:=lE 2 c d b λh=>qn [(.str []),(.W9 0)] 2 h b λi a=>ca 6 e a λj=>aC 1 i a λk=>wc (.fn 48 []) [j,k,(.bool false)] a (oe Q f d e c g)
def gw(Q:R)(e:Vs)(a:SH)(f:Kn):Prop:=yO 1 60 61 62 e λb g c d=>wb .lss 3 d c λh=>wk h ((og Q f a g d b c)) (ca 6 b a λi=>wc (.fn 49 []) [i] a λj k=>Q j k)
def oh(Q:R)(b d:AV)(e:SH):Prop:=W.ext 0 d λh=>W.ext 1 d λi=>W.un .not i λa=>wg a false (ca 6 b e) e λj k=>bH a false h k λl f=>W.grd a false (λm=>wc (.fn 47 []) [j,l] f λn o=>m n o) f λp q=>wg a false (W.un .not p) q λr c=>W.pick a (.bool true) r λs=>wk s (Q (.bool false) c) (aC 2 b c λg=>W.len g λt=>W.loop (gw Q) [b,g,t,(.W9 0)] c)
def oo(Q:R)(d:SH)(b:AV):Prop:=aC 4 b d λf=>W.len f λg=>wb .lss 3 g (.W9 1) λa=>wg a false (W.faddr 4 b) d λh e=>wg a false (wl h e) e λi j=>wg a false (W.len i) j λk l=>wg a false (wb .gtr 3 k (.W9 4)) l λm c=>W.pick a (.bool true) m λn=>wk n (Q (.bool false) c) (aC 0 b c λo=>wc (.fn 46 []) [o] c (oh Q b))
def hO(l:AV)(L:SH)(Q:R):Prop:=sf l L λa f=>aC 0 a f λm=>W.len m λn=>wb .gtr 3 n (.W9 12) λb=>wg b false (W.faddr 1 a) f λo g=>wg b false (wl o g) g λp q=>wg b false (W.len p) q λr s=>wg b false (wb .gtr 3 r (.W9 4)) s λt u=>W.pick b (.bool true) t λc=>wg c false (W.faddr 2 a) u λv h=>wg c false (wl v h) h λw x=>wg c false (W.len w) x λy z=>wg c false (wb .gtr 3 y (.W9 2)) z λA B=>W.pick c (.bool true) A λd=>wg d false (W.faddr 3 a) B λC i=>wg d false (wl C i) i λD E=>wg d false (W.len D) E λF G=>wg d false (wb .gtr 3 F (.W9 2)) G λH I=>W.pick d (.bool true) H λe=>wg e false (W.faddr 5 a) I λJ j=>wg e false (wl J j) j λM N=>wg e false (W.len M) N λO P=>wg e false (wb .gtr 3 O (.W9 60)) P λS k=>W.pick e (.bool true) S λT=>wk T (Q (.bool false) k) ((oo Q k a))
theorem oq(t0:AV)(L:SH)(Q:R)(h:hO t0 L Q):ai Tryz.prog 27 [t0] L Q:=
 fs [] [(9,[1,60,61,62])] [(0,[1]),(10,[6])] [] Tryz.func27 h
def ou(Q:R)(b:Kn)(a:SH)(c d e f:AV):Prop:=aC 1 c a λg=>wb .neq 3 g (.W9 0) λh=>wk h (Q (.tup [.nils,(.bool false)]) a) (wb .add 3 d (.W9 1) λi=>b [e,f,i] a)
def ov(Q:R)(f:Kn)(g:SH)(b c d e h i:AV):Prop:=W.faddr 1 b λj=>W.store 1 j c g λa=>(true=true)∧(wb .add 3 d c λk=>di [] 4 5 e k a λl m=>dr [] 5 5 l a λn o=>dr [rm 5 o,rm 4 m] 6 5 b a λp s=>wb .neq 58 n p λq=>wk q (Q (.tup [.nils,(.bool false)]) a) (wb .add 3 c (.W9 1) λr=>f [e,h,d,b,i,r] a))
def dW(Q:R)(h:Kn)(i:Vs)(a:SH)(j:Kn):Prop:=Hf 0 4 5 6 51 52 i λb c d e f g=>wb .lss 3 g f λk=>wk k ((ov Q j a e g d b c f)) (aC 2 e a λl=>wb .add 3 d l λm=>h [b,c,m] a)
def oz(Q:R)(l:Kn)(f:SH)(b g h m:AV):Prop:=aC 2 b f λn=>wb .lss 3 n (.W9 1) λc=>wg c false (W.faddr 2 b) f λo i=>wg c false (wl o i) i λp q=>wg c false (wb .gtr 3 p (.W9 4)) q λr s=>W.pick c (.bool true) r λd=>wg d false (W.faddr 3 b) s λt j=>wg d false (wl t j) j λu v=>W.pick d (.bool true) u λa=>wg a false (W.faddr 2 b) v λw k=>wg a false (wl w k) k λx y=>bH a false g y λz A=>wg a false (W.len z) A λB C=>bH a false h C λD E=>wg a false (wb .sub 3 B D) E λF G=>wg a false (wb .gtr 3 x F) G λH e=>W.pick a (.bool true) H λI=>wk I (Q (.tup [.nils,(.bool false)]) e) (aC 2 b e λJ=>W.loop (dW Q l) [g,m,h,b,J,(.W9 0)] e)
def oA(Q:R)(e:Kn)(f:SH)(b c i:AV):Prop:=lE 5 b c f λj=>W.alloc [(.str []),(.W9 0),(.W9 0),(.bool false),(.W9 0)] f λa k=>W.store 5 a j k λg=>aC 0 a g λl=>W.bslice 1 [(.str [])] 1 [(0,l)] g λm n=>W.append 1 16 i m n λh d=>aC 2 a d λo=>wb .eql 3 o (.W9 0) λp=>wk p ((ou Q e d a c b h)) ((oz Q e d a b c h))
def gx(Q:R)(e:Vs)(a:SH)(f:Kn):Prop:=vO 0 4 5 e λb c d=>W.len b λg=>wb .lss 3 d g λh=>wk h ((oA Q f a b d c)) (Q (.tup [c,(.bool true)]) a)
def eI(a:AV)(L:SH)(Q:R):Prop:=W.loop (gx Q) [a,.nils,(.W9 0)] L
theorem gy(t0:AV)(L:SH)(Q:R)(h:eI t0 L Q):ai Tryz.prog 46 [t0] L Q:=
 fs [] [(13,[0,4,5,6,51,52]),(3,[0,4,5])] [] [(16,[0,0,0,6,15,31,0,127])] Tryz.func46 h
def oC(Q:R)(c:Kn)(d:Vs)(a:SH):Prop:=Mw 1 3 4 6 8 9 10 d λe f b g h i j=>aC 1 g a λk=>wb .neq 3 k b λl=>wk l (Q (.bool false) a) (wb .add 3 b (.W9 1) λm=>wb .add 3 j (.W9 1) λn=>c [e,f,m,h,i,n] a)
def oD(Q:R)(i:Kn)(a:SH)(b c d e f g j:AV):Prop:=W.join (oC Q i) λh=>aC 0 b a λk=>wb .gtr 3 k c λl=>wk l (aC 0 b a λm=>h [d,m,(.W9 0),b,e,f,g] a) (h [d,c,j,b,e,f,g] a)
def oE(Q:R)(l:Kn)(c:SH)(d e f g m n:AV):Prop:=lE 3 d e c λo=>qn [(.W9 0),(.W9 0),(.W9 0)] 3 o c λb h=>aC 0 b h λp=>wb .lss 3 p f λa=>wg a false (W.faddr 0 b) h λq i=>wg a false (wl q i) i λr s=>wg a false (W.faddr 4 g) s λt j=>wg a false (wl t j) j λu v=>wg a false (W.len u) v λw x=>wg a false (wb .geq 3 r w) x λy k=>W.pick a (.bool true) y λz=>wk z (Q (.bool false) k) ((oD Q l k b f g d m e n))
def gz(Q:R)(d:Vs)(a:SH)(e:Kn):Prop:=Hf 1 3 4 8 9 10 d λf g h i b c=>wb .lss 3 c b λj=>wk j ((oE Q e a i c g f b h)) (Q (.bool true) a)
def hY(d:AV)(L:SH)(Q:R):Prop:=sf d L λa b=>aC 5 a b λc=>W.len c λe=>W.loop (gz Q) [a,(.W9 0),(.W9 0),c,e,(.W9 0)] b
theorem oF(t0:AV)(L:SH)(Q:R)(h:hY t0 L Q):ai Tryz.prog 49 [t0] L Q:=
 fs [(8,[1,3,4,6,8,9,10])] [(3,[1,3,4,8,9,10])] [(0,[1]),(4,[6])] [] Tryz.func49 h
def xx(Q:R)(e f g a:AV)(h:SH):Prop:=wg a true (W.faddr 1 g) h λi b=>wg a true (wl i b) b λj k=>bH a true e k λl c=>wg a true (W.idx 2 j l c) c λm n=>wg a true (W.faddr 1 m) n λo d=>wg a true (wl o d) d λp q=>bH a true f q λr s=>wg a true (wb .eql 4 p r) s λt u=>W.pick a t (.bool false) λv=>Q v u
def lZ(d a e:AV)(L:SH)(Q:R):Prop:=sf d L λb c=>aC 1 b c λf=>W.len f λg=>wc (.fn 50 []) [a,g] c (xx Q a e b)
theorem xy(t0 t1 t2:AV)(L:SH)(Q:R)(h:lZ t0 t1 t2 L Q):ai Tryz.prog 48 [t0,t1,t2] L Q:=
 fs [] [] [(0,[3])] [] Tryz.func48 h
def l5(b c:AV)(L:SH)(Q:R):Prop:=wb .geq 3 b (.W9 0) λa=>bH a true b L λd e=>bH a true c e λf g=>wg a true (wb .lss 3 d f) g λh i=>W.pick a h (.bool false) λj=>Q j i
theorem xz(t0 t1:AV)(L:SH)(Q:R)(h:l5 t0 t1 L Q):ai Tryz.prog 50 [t0,t1] L Q:=
 fs [] [] [] [] Tryz.func50 h
def py(Q:R)(a:SH)(b:AV):Prop:=aC 1 b a λc=>aC 2 b a λd=>aC 3 b a λe=>W.bslice 1 [(.W9 0)] 3 [(0,c),(1,d),(2,e)] a λf g=>Q f g
def pz(Q:R)(a:SH)(c b:AV):Prop:=wb .eql 3 c (.W9 9) λd=>wk d (aC 2 b a λe=>aC 3 b a λf=>W.bslice 1 [(.W9 0)] 2 [(0,e),(1,f)] a λg h=>Q g h) (Q .nils a)
def pB(Q:R)(c:Vs)(a:SH):Prop:=vO 1 4 37 c λb d e=>wk e (aC 2 b a λf=>W.bslice 1 [(.W9 0)] 1 [(0,f)] a λg h=>Q g h) ((pz Q a d b))
def pC(Q:R)(b:SH)(a c:AV):Prop:=W.join (pB Q) λd=>wb .eql 3 a (.W9 8) λe=>wk e (d [c,a,e] b) (wb .eql 3 a (.W9 26) λf=>d [c,a,f] b)
def pD(Q:R)(a:SH)(c b:AV):Prop:=wb .eql 3 c (.W9 7) λd=>wk d (aC 1 b a λe=>aC 3 b a λf=>W.bslice 1 [(.W9 0)] 2 [(0,e),(1,f)] a λg h=>Q g h) ((pC Q a c b))
def pE(Q:R)(d:Vs)(a:SH):Prop:=vO 1 4 13 d λb c e=>wk e (aC 1 b a λf=>aC 2 b a λg=>W.bslice 1 [(.W9 0)] 2 [(0,f),(1,g)] a λh i=>Q h i) (wb .eql 3 c (.W9 4) λj=>wk j ((py Q a b)) ((pD Q a c b)))
def pF(Q:R)(b:SH)(a c:AV):Prop:=W.join (pE Q) λd=>wb .eql 3 a (.W9 2) λe=>wk e (d [c,a,e] b) (wb .eql 3 a (.W9 3) λf=>d [c,a,f] b)
def pG(Q:R)(c:Vs)(a:SH):Prop:=vO 1 4 5 c λb d e=>wk e (aC 1 b a λf=>W.bslice 1 [(.W9 0)] 1 [(0,f)] a λg h=>Q g h) ((pF Q a d b))
def pH(b:Kn)(c:SH)(a d:AV):Prop:=wb .eql 3 a (.W9 6) λe=>wk e (b [d,a,e] c) (wb .eql 3 a (.W9 10) λf=>wk f (b [d,a,f] c) (wb .eql 3 a (.W9 27) λg=>b [d,a,g] c))
def iG(f:AV)(L:SH)(Q:R):Prop:=sf f L λa b=>aC 0 a b λc=>W.join (pG Q) λd=>wb .eql 3 c (.W9 1) λe=>wk e (d [a,c,e] b) ((pH d b c a))
theorem pI(t0:AV)(L:SH)(Q:R)(h:iG t0 L Q):ai Tryz.prog 51 [t0] L Q:=
 fs [(5,[1,4,5]),(8,[1,4,13]),(15,[1,4,37])] [] [(0,[1])] [] Tryz.func51 h
end
end Go.Proofs.YtenbpcngcicamaaGreatDoor.Am
