/- A part of the proof; the statement is proved in the last part. -/
import Derived.Test.YtenbpcngcicamaaGreatDoorQbi
set_option linter.unusedSimpArgs false
set_option linter.unusedVariables false
namespace Go.Proofs.YtenbpcngcicamaaGreatDoor.Am
section
set_option maxRecDepth 100000
def w8(a:AV)(L:SH)(Q:R):Prop:=wk a (Q (.W6 1) L) (Q (.W6 0) L)
theorem E0(t0:AV)(L:SH)(Q:R)(h:w8 t0 L Q):af Tryz.prog 107 [t0] L Q:=
 fs [] [] [] [] Tryz.func107 h
def E1(Q:R)(L:SH)(a b:AV):Prop:=wb .eql 3 a (.W6 5) λc=>wk c (wb .eql 2 b (.W6 0) λd=>wc (.fn 107 []) [d] L λe f=>Q (.tup [e,(.bool true)]) f) (Q (.tup [(.W6 0),(.bool false)]) L)
def w9(a b:AV)(L:SH)(Q:R):Prop:=wb .eql 3 a (.W6 4) λc=>wk c (W.un .neg b λd=>Q (.tup [d,(.bool true)]) L) ((E1 Q L a b))
theorem E2(t0 t1:AV)(L:SH)(Q:R)(h:w9 t0 t1 L Q):af Tryz.prog 77 [t0,t1] L Q:=
 fs [] [] [] [] Tryz.func77 h
def Dl(Q:R)(L:SH)(b c:AV):Prop:=wb .neq 2 b (.W6 0) λa=>bD a true c L λd e=>wg a true (wb .neq 2 d (.W6 0)) e λf g=>W.pick a f (.bool false) λh=>wc (.fn 107 []) [h] g λi j=>Q (.tup [i,(.bool true)]) j
def Dm(Q:R)(L:SH)(b c:AV):Prop:=wb .neq 2 b (.W6 0) λa=>bD a false c L λd e=>wg a false (wb .neq 2 d (.W6 0)) e λf g=>W.pick a (.bool true) f λh=>wc (.fn 107 []) [h] g λi j=>Q (.tup [i,(.bool true)]) j
def Dn(Q:R)(L:SH)(a b c:AV):Prop:=wb .eql 3 a (.W6 17) λd=>wk d ((Dl Q L b c)) (wb .eql 3 a (.W6 18) λe=>wk e ((Dm Q L b c)) (Q (.tup [(.W6 0),(.bool false)]) L))
def Do(Q:R)(L:SH)(a b c:AV):Prop:=wb .eql 3 a (.W6 16) λd=>wk d (wb .geq 2 b c λe=>wc (.fn 107 []) [e] L λf g=>Q (.tup [f,(.bool true)]) g) ((Dn Q L a b c))
def Dp(Q:R)(L:SH)(a b c:AV):Prop:=wb .eql 3 a (.W6 15) λd=>wk d (wb .gtr 2 b c λe=>wc (.fn 107 []) [e] L λf g=>Q (.tup [f,(.bool true)]) g) ((Do Q L a b c))
def Dq(Q:R)(L:SH)(a b c:AV):Prop:=wb .eql 3 a (.W6 14) λd=>wk d (wb .leq 2 b c λe=>wc (.fn 107 []) [e] L λf g=>Q (.tup [f,(.bool true)]) g) ((Dp Q L a b c))
def Dr(Q:R)(L:SH)(a b c:AV):Prop:=wb .eql 3 a (.W6 13) λd=>wk d (wb .lss 2 b c λe=>wc (.fn 107 []) [e] L λf g=>Q (.tup [f,(.bool true)]) g) ((Dq Q L a b c))
def Ds(Q:R)(L:SH)(a b c:AV):Prop:=wb .eql 3 a (.W6 12) λd=>wk d (wb .neq 2 b c λe=>wc (.fn 107 []) [e] L λf g=>Q (.tup [f,(.bool true)]) g) ((Dr Q L a b c))
def Dt(Q:R)(L:SH)(a b c:AV):Prop:=wb .eql 3 a (.W6 11) λd=>wk d (wb .eql 2 b c λe=>wc (.fn 107 []) [e] L λf g=>Q (.tup [f,(.bool true)]) g) ((Ds Q L a b c))
def Du(Q:R)(L:SH)(b a c:AV):Prop:=wb .eql 3 b (.W6 10) λd=>wk d (wb .eql 2 a (.W6 0) λe=>wk e (Q (.tup [(.W6 0),(.bool true)]) L) (wb .rem 2 c a λf=>Q (.tup [f,(.bool true)]) L)) ((Dt Q L b c a))
def BP(Q:R)(L:SH)(b a c:AV):Prop:=wb .eql 3 b (.W6 9) λd=>wk d (wb .eql 2 a (.W6 0) λe=>wk e (Q (.tup [(.W6 0),(.bool true)]) L) (wb .quo 2 c a λf=>Q (.tup [f,(.bool true)]) L)) ((Du Q L b a c))
def BQ(Q:R)(L:SH)(a b c:AV):Prop:=wb .eql 3 a (.W6 7) λd=>wk d (wb .sub 2 b c λe=>Q (.tup [e,(.bool true)]) L) (wb .eql 3 a (.W6 8) λf=>wk f (wb .mul 2 b c λg=>Q (.tup [g,(.bool true)]) L) ((BP Q L a c b)))
def si(a b c:AV)(L:SH)(Q:R):Prop:=wb .eql 3 a (.W6 6) λd=>wk d (wb .add 2 b c λe=>Q (.tup [e,(.bool true)]) L) ((BQ Q L a b c))
theorem Dv(t0 t1 t2:AV)(L:SH)(Q:R)(h:si t0 t1 t2 L Q):af Tryz.prog 78 [t0,t1,t2] L Q:=
 fs [] [] [] [] Tryz.func78 h
def pj(a b:AV)(L:SH)(Q:R):Prop:=W.len a λd=>W.len b λe=>wb .add 3 d e λf=>W.mslice 1 8 [(.W6 0)] (.W6 0) f L λg h=>W.append 1 8 g a h λi j=>W.append 1 8 i b j λc k=>wc (.fn 86 []) [c] k λo l=>wc (.fn 87 []) [c] l λm n=>Q m n
theorem BR(t0 t1:AV)(L:SH)(Q:R)(h:pj t0 t1 L Q):af Tryz.prog 120 [t0,t1] L Q:=
 fs [] [] [] [] Tryz.func120 h
def il(d:Kn)(a b e f g h i:AV)(c:SH):Prop:=W.idx 1 a b c λj=>W.store 1 j i c λk=>wb .add 3 b (.W6 1) λl=>d [e,f,a,g,h,l] k
def im(Q:R)(j:Vs)(a:SH)(k:Kn):Prop:=Ig 1 2 3 15 16 17 j λb c e f g d=>wb .lss 3 d g λl=>wk l (wv 1 f d a λm=>wc (.fn 93 []) [m] a (il k e d b c f g)) (W.faddr 2 b λn=>W.store 1 n e a λh=>bY 4 b h λo=>W.store 4 c o h λi=>W.load true 4 c i λp=>Q p i)
def nr(Q:R)(a f g:AV)(h:SH):Prop:=W.faddr 1 a λi=>W.store 1 i g h λb=>aA 2 a b λj=>W.len j λc=>W.mslice 1 24 [.nils] c c b λk d=>aA 2 a d λe=>W.len e λl=>W.loop (im Q) [a,f,k,e,l,(.W6 0)] d
def pk(c:AV)(L:SH)(Q:R):Prop:=W.box c L λa d=>W.alloc [(.W6 0),.nils,.nils,(.W6 0)] d λe b=>aA 1 a b λf=>wc (.fn 92 []) [f] b (nr Q a e)
theorem BS(t0:AV)(L:SH)(Q:R)(h:pk t0 L Q):af Tryz.prog 94 [t0] L Q:=
 fs [] [(4,[1,2,3,15,16,17])] [] [] Tryz.func94 h
def jg(b e:AV)(L:SH)(Q:R):Prop:=wb .geq 3 b (.W6 0) λa=>bD a true b L λf c=>wg a true (wl e c) c λg h=>wg a true (W.nilchk g) h λi j=>wg a true (W.faddr 1 i) j λk d=>wg a true (wl k d) d λl m=>wg a true (W.len l) m λn o=>wg a true (wb .lss 3 f n) o λp q=>W.pick a p (.bool false) λr=>Q r q
theorem qx(t0 t1:AV)(L:SH)(Q:R)(h:jg t0 t1 L Q):af Tryz.prog 119 [t0,t1] L Q:=
 fs [] [] [] [] Tryz.func119 h
def xc(Q:R)(c:Vs)(a:SH):Prop:=sg 2 4 6 c λd k e=>wl d a λb=>dK 0 b a λf=>wb .add 3 f (.W6 1) λg=>W.nilchk b λh=>W.faddr 0 h λi=>W.store 1 i g a λj=>Q e j
def xd(k:Kn)(a:SH)(e f:AV):Prop:=(true=true)∧(dl [] 0 e a λl b=>W.nilchk l λm=>aL 1 m [] 3 a λn c=>aL 1 f [rm 3 c,rm 0 b] 5 a λo d=>dl [rm 5 d,rm 3 c,rm 0 b] 6 e a λp h=>W.nilchk p λq=>aL 2 q [rm 5 d,rm 3 c,rm 0 b] 9 a λr i=>aL 1 f [rm 9 i,rm 6 h,rm 5 d,rm 3 c,rm 0 b] 11 a λs g=>aL 4 f [rm 11 g,rm 9 i,rm 6 h,rm 5 d,rm 3 c,rm 0 b] 13 a λt x=>di [rm 11 g] 14 1 n o a λu y=>ds [rm 11 g] 15 1 u t a λj z=>di [] 16 1 r s j λv A=>ds [] 17 1 v .nils j λw B=>k [e,(.bool false),(.bool true)] w)
def xe(Q:R)(b:Kn)(c d e:AV)(a:SH):Prop:=W.un .not e λf=>wk f (Q (.bool false) a) ((xd b a c d))
def xf(d:Kn)(e:SH)(f g h i j k:AV)(a:Fp)(l:AV)(b:SH)(m:Ns):Prop:=wn [] m [] e.names λq=>di [rm 11 a] 29 1 f g b λn r=>ds [rm 11 a] 30 1 n h b λc s=>di [] 31 1 i j c λo t=>ds [] 32 1 o l c λp u=>d [k,(.bool false),(.bool true)] p
def xg(o:Kn)(a:SH)(m n:AV):Prop:=(true=true)∧(dl [] 0 m a λp b=>W.nilchk p λq=>aL 1 q [] 3 a λr c=>aL 1 n [rm 3 c,rm 0 b] 5 a λs d=>dl [rm 5 d,rm 3 c,rm 0 b] 6 m a λt e=>W.nilchk t λu=>aL 2 u [rm 5 d,rm 3 c,rm 0 b] 9 a λv f=>aL 1 n [rm 9 f,rm 6 e,rm 5 d,rm 3 c,rm 0 b] 11 a λw g=>dl [rm 11 g,rm 9 f,rm 6 e,rm 5 d,rm 3 c,rm 0 b] 12 m a λx h=>W.nilchk x λy=>aL 1 y [rm 11 g,rm 9 f,rm 6 e,rm 5 d,rm 3 c,rm 0 b] 15 a λz i=>aL 2 n [rm 15 i,rm 12 h,rm 11 g,rm 9 f,rm 6 e,rm 5 d,rm 3 c,rm 0 b] 17 a λA j=>di [rm 11 g,rm 9 f,rm 6 e,rm 5 d,rm 3 c,rm 0 b] 18 1 z A a λB k=>dl [rm 11 g,rm 9 f,rm 6 e,rm 5 d,rm 3 c,rm 0 b] 19 B a λC l=>dl [rm 19 l,rm 18 k,rm 17 j,rm 15 i,rm 12 h,rm 11 g,rm 9 f,rm 6 e,rm 5 d,rm 3 c,rm 0 b] 20 m a λD E=>W.nilchk D λF=>aL 2 F [rm 19 l,rm 18 k,rm 17 j,rm 15 i,rm 12 h,rm 11 g,rm 9 f,rm 6 e,rm 5 d,rm 3 c,rm 0 b] 23 a λG H=>aL 2 n [rm 23 H,rm 20 E,rm 19 l,rm 18 k,rm 17 j,rm 15 i,rm 12 h,rm 11 g,rm 9 f,rm 6 e,rm 5 d,rm 3 c,rm 0 b] 25 a λI N=>di [rm 19 l,rm 18 k,rm 17 j,rm 15 i,rm 12 h,rm 11 g,rm 9 f,rm 6 e,rm 5 d,rm 3 c,rm 0 b] 26 1 G I a λJ O=>dl [rm 19 l,rm 18 k,rm 17 j,rm 15 i,rm 12 h,rm 11 g,rm 9 f,rm 6 e,rm 5 d,rm 3 c,rm 0 b] 27 J a λM P=>wd [rm 19 l,rm 18 k,rm 17 j,rm 15 i,rm 12 h,rm 11 g,rm 9 f,rm 6 e,rm 5 d,rm 3 c,rm 0 b] 28 (.fn 93 []) [M] a (xf o a r s C v w m g))
def xh(Q:R)(g:Kn)(b c h:AV)(i:SH):Prop:=W.un .not h λa=>bD a false (.fn 119 [b]) i λj k=>wg a false (W.faddr 2 c) k λl d=>wg a false (wl l d) d λm e=>W.grd a false (λn=>wc j [m] e λo p=>n o p) e λq r=>wg a false (W.un .not q) r λs f=>W.pick a (.bool true) s λt=>wk t (Q (.bool false) f) ((xg g f b c))
def xi(b:Kn)(c:SH)(d e f g h:AV)(a:SH)(i:Ns):Prop:=wn [] i [] c.names λl=>di [] 15 1 d e a λj m=>ds [] 16 1 j h a λk n=>b [f,(.bool false),g] k
def xj(i:Kn)(j:SH)(k l e f g:AV)(h:SH)(m:Ns):Prop:=wn [] m [] j.names λC=>W.ext 0 g λn=>W.ext 1 g λo=>di [] 20 1 k l h λp D=>ds [] 21 1 p n h λa E=>(true=true)∧(dl [] 0 e a λq b=>W.nilchk q λr=>aL 2 r [] 3 a λs c=>aL 1 f [rm 3 c,rm 0 b] 5 a λt d=>dl [rm 5 d,rm 3 c,rm 0 b] 6 e a λu v=>W.nilchk u λw=>aL 2 w [rm 5 d,rm 3 c,rm 0 b] 9 a λx y=>aL 2 f [rm 9 y,rm 6 v,rm 5 d,rm 3 c,rm 0 b] 11 a λz F=>di [rm 5 d,rm 3 c,rm 0 b] 12 1 x z a λA G=>dl [rm 5 d,rm 3 c,rm 0 b] 13 A a λB H=>wd [rm 5 d,rm 3 c,rm 0 b] 14 (.fn 93 []) [B] a (xi i a s t e o))
def xk(h:Kn)(a:SH)(g f:AV):Prop:=(true=true)∧(dl [] 0 g a λi b=>W.nilchk i λj=>aL 1 j [] 3 a λk c=>aL 1 f [rm 3 c,rm 0 b] 5 a λl d=>aL 4 f [rm 5 d,rm 3 c,rm 0 b] 7 a λm e=>dl [rm 7 e,rm 5 d,rm 3 c,rm 0 b] 8 g a λn o=>W.nilchk n λp=>aL 1 p [rm 7 e,rm 5 d,rm 3 c,rm 0 b] 11 a λq r=>aL 2 f [rm 11 r,rm 8 o,rm 7 e,rm 5 d,rm 3 c,rm 0 b] 13 a λs v=>di [rm 7 e,rm 5 d,rm 3 c,rm 0 b] 14 1 q s a λt w=>dl [rm 7 e,rm 5 d,rm 3 c,rm 0 b] 15 t a λu x=>wd [rm 5 d,rm 3 c,rm 0 b] 16 (.fn 77 []) [m,u] a (xj h a k l g f))
def xl(Q:R)(g:Kn)(b c h:AV)(i:SH):Prop:=W.un .not h λa=>bD a false (.fn 119 [b]) i λj k=>wg a false (W.faddr 2 c) k λl d=>wg a false (wl l d) d λm e=>W.grd a false (λn=>wc j [m] e λo p=>n o p) e λq r=>wg a false (W.un .not q) r λs f=>W.pick a (.bool true) s λt=>wk t (Q (.bool false) f) ((xk g f b c))
def xm(b:Kn)(c:SH)(d e f g h:AV)(a:SH)(i:Ns):Prop:=wn [] i [] c.names λl=>di [] 23 1 d e a λj m=>ds [] 24 1 j h a λk n=>b [f,(.bool false),g] k
def xn(n:Kn)(o:SH)(p q j k l:AV)(m:SH)(r:Ns):Prop:=wn [] r [] o.names λP=>W.ext 0 l λs=>W.ext 1 l λt=>di [] 28 1 p q m λu S=>ds [] 29 1 u s m λa T=>(true=true)∧(dl [] 0 j a λv b=>W.nilchk v λw=>aL 2 w [] 3 a λx c=>aL 1 k [rm 3 c,rm 0 b] 5 a λy d=>dl [rm 5 d,rm 3 c,rm 0 b] 6 j a λz e=>W.nilchk z λA=>aL 2 A [rm 5 d,rm 3 c,rm 0 b] 9 a λB f=>aL 2 k [rm 9 f,rm 6 e,rm 5 d,rm 3 c,rm 0 b] 11 a λC g=>di [rm 5 d,rm 3 c,rm 0 b] 12 1 B C a λD h=>dl [rm 5 d,rm 3 c,rm 0 b] 13 D a λE i=>dl [rm 13 i,rm 12 h,rm 11 g,rm 9 f,rm 6 e,rm 5 d,rm 3 c,rm 0 b] 14 j a λF G=>W.nilchk F λH=>aL 2 H [rm 13 i,rm 12 h,rm 11 g,rm 9 f,rm 6 e,rm 5 d,rm 3 c,rm 0 b] 17 a λI J=>aL 3 k [rm 17 J,rm 14 G,rm 13 i,rm 12 h,rm 11 g,rm 9 f,rm 6 e,rm 5 d,rm 3 c,rm 0 b] 19 a λM U=>di [rm 13 i,rm 12 h,rm 11 g,rm 9 f,rm 6 e,rm 5 d,rm 3 c,rm 0 b] 20 1 I M a λN V=>dl [rm 13 i,rm 12 h,rm 11 g,rm 9 f,rm 6 e,rm 5 d,rm 3 c,rm 0 b] 21 N a λO X=>wd [rm 5 d,rm 3 c,rm 0 b] 22 (.fn 120 []) [E,O] a (xm n a x y j t))
def xo(m:Kn)(a:SH)(l h:AV):Prop:=(true=true)∧(dl [] 0 l a λn b=>W.nilchk n λo=>aL 1 o [] 3 a λp c=>aL 1 h [rm 3 c,rm 0 b] 5 a λq d=>aL 4 h [rm 5 d,rm 3 c,rm 0 b] 7 a λr e=>dl [rm 7 e,rm 5 d,rm 3 c,rm 0 b] 8 l a λs f=>W.nilchk s λt=>aL 1 t [rm 7 e,rm 5 d,rm 3 c,rm 0 b] 11 a λu g=>aL 2 h [rm 11 g,rm 8 f,rm 7 e,rm 5 d,rm 3 c,rm 0 b] 13 a λv i=>di [rm 7 e,rm 5 d,rm 3 c,rm 0 b] 14 1 u v a λw j=>dl [rm 7 e,rm 5 d,rm 3 c,rm 0 b] 15 w a λx k=>dl [rm 15 k,rm 14 j,rm 13 i,rm 11 g,rm 8 f,rm 7 e,rm 5 d,rm 3 c,rm 0 b] 16 l a λy z=>W.nilchk y λA=>aL 1 A [rm 15 k,rm 14 j,rm 13 i,rm 11 g,rm 8 f,rm 7 e,rm 5 d,rm 3 c,rm 0 b] 19 a λB C=>aL 3 h [rm 19 C,rm 16 z,rm 15 k,rm 14 j,rm 13 i,rm 11 g,rm 8 f,rm 7 e,rm 5 d,rm 3 c,rm 0 b] 21 a λD G=>di [rm 15 k,rm 14 j,rm 13 i,rm 11 g,rm 8 f,rm 7 e,rm 5 d,rm 3 c,rm 0 b] 22 1 B D a λE H=>dl [rm 15 k,rm 14 j,rm 13 i,rm 11 g,rm 8 f,rm 7 e,rm 5 d,rm 3 c,rm 0 b] 23 E a λF I=>wd [rm 5 d,rm 3 c,rm 0 b] 24 (.fn 78 []) [r,x,F] a (xn m a p q l h))
def xp(Q:R)(j:Kn)(c d k:AV)(l:SH):Prop:=W.un .not k λa=>bD a false (.fn 119 [c]) l λm n=>wg a false (W.faddr 2 d) n λo e=>wg a false (wl o e) e λp f=>W.grd a false (λq=>wc m [p] f λr s=>q r s) f λt u=>wg a false (W.un .not t) u λv w=>W.pick a (.bool true) v λb=>bD b false (.fn 119 [c]) w λx y=>wg b false (W.faddr 3 d) y λz g=>wg b false (wl z g) g λA h=>W.grd b false (λB=>wc x [A] h λC D=>B C D) h λE F=>wg b false (W.un .not E) F λG i=>W.pick b (.bool true) G λH=>wk H (Q (.bool false) i) ((xo j i c d))
def sS(Q:R)(a:Vs)(b:SH):Prop:=sg 2 4 6 a λd c e=>Q c b
def xq(Q:R)(a:SH)(b c:AV):Prop:=wl b a λd=>aA 1 c a λe=>W.nilchk d λf=>W.faddr 0 f λg=>W.store 1 g e a λh=>W.join (sS Q) λi=>i [b,(.bool true),(.bool true)] h
def xr(Q:R)(d:Kn)(a:SH)(e c b:AV):Prop:=wb .eql 3 e (.W6 4) λf=>wk f (aA 1 c a λg=>wc (.fn 119 [b]) [g] a (xp Q d b c)) (wb .eql 3 e (.W6 5) λh=>wk h ((xq Q a b c)) (d [b,(.bool false),(.bool true)] a))
def xt(Q:R)(d:Kn)(a:SH)(e b c:AV):Prop:=wb .eql 3 e (.W6 3) λf=>wk f (aA 1 b a λg=>wc (.fn 119 [c]) [g] a (xl Q d c b)) ((xr Q d a e b c))
def xu(Q:R)(d:Kn)(a:SH)(e b c:AV):Prop:=wb .eql 3 e (.W6 2) λf=>wk f (aA 1 b a λg=>wc (.fn 119 [c]) [g] a (xh Q d c b)) ((xt Q d a e b c))
def cP(f g:AV)(L:SH)(Q:R):Prop:=W.box f L λh i=>W.box g i λj k=>W.frz1 h k λc l=>W.frz1 j l λa b=>W.join (xc Q) λd=>aA 0 a b λe=>wb .eql 3 e (.W6 1) λm=>wk m (aA 1 a b λn=>wc (.fn 119 [c]) [n] b (xe Q d c a)) ((xu Q d b e a c))
theorem cY(t0 t1:AV)(L:SH)(Q:R)(h:cP t0 t1 L Q):af Tryz.prog 95 [t0,t1] L Q:=
 fs [(24,[2,4,6])] [] [(0,[2,3])] [(7,[0,1,3,7,0,16,0,64,192,448,0,1024,0,4096,13311,29695,65535,131071]),(11,[0,1,3,7,0,16,0,64,192,448,0,1024,0,4096,12288,28672,0,65536,258048,520192,0,1048576,3145728,7340032,0,16777216,66060288,133169152,267386880,536867839,1073738751,2147483647,4294967295]),(15,[0,1,3,7,0,16,0,64,0,256,768,1792,0,4096,16128,32512,65472,131008,262080,262080,524287,1572863,4194303]),(16,[0,1,3,7,0,16,0,64,192,448,0,1024,4032,8128,16320,32767,65535]),(20,[0,1,3,7,0,16,0,64,0,256,768,1792,0,4096,16128,32512,0,65536,196608,458752,0,1048576,4128768,8323072,16777152,33554368,67108800,67108800,134217727,402653183,1073741823]),(21,[0,1,3,7,0,16,0,64,192,448,0,1024,4032,8128,0,16384,49152,114688,0,262144,1032192,2080768,4194240,8388607,16777215])] Tryz.func95 h
def zI(Q:R)(c:SH)(a:AV):Prop:=W.build [(.W6 0),.nils,.nils,(.W6 0)] [] λd=>W.store 4 a d c λb=>W.load true 4 a b λe=>Q (.tup [e,(.bool false)]) b
def zJ(Q:R)(c:SH)(a:AV):Prop:=W.build [(.W6 0),.nils,.nils,(.W6 0)] [] λd=>W.store 4 a d c λb=>W.load true 4 a b λe=>Q (.tup [e,(.bool false)]) b
def zK(Q:R)(c:SH)(a:AV):Prop:=W.build [(.W6 0),.nils,.nils,(.W6 0)] [] λd=>W.store 4 a d c λb=>W.load true 4 a b λe=>Q (.tup [e,(.bool false)]) b
def zL(Q:R)(i:Kn)(b:SH)(c d j e f:AV):Prop:=aA 1 c b λk=>W.len k λl=>wb .eql 3 d l λa=>wg a false (bY 6 j b) b λm g=>W.grd a false (λn=>wc (.fn 95 []) [e,m] g λo p=>n o p) g λq r=>wg a false (W.un .not q) r λs h=>W.pick a (.bool true) s λt=>wk t ((zK Q h f)) (wb .add 3 d (.W6 1) λu=>i [c,e,f,u] h)
def zM(Q:R)(k:Kn)(a:SH)(g c d l:AV):Prop:=aA 1 g a λm=>aA 0 c a λn=>lG 6 m n a λo=>qr [(.W6 0),(.W6 0),(.W6 0),(.W6 0),(.W6 0),(.W6 0)] 6 o a λe h=>aA 0 e h λp=>wb .lss 3 p (.W6 1) λb=>wg b false (W.faddr 0 e) h λq i=>wg b false (wl q i) i λr s=>wg b false (wb .gtr 3 r (.W6 5)) s λt f=>W.pick b (.bool true) t λu=>wk u (bY 4 c f λv=>W.store 4 d v f λj=>W.load true 4 d j λw=>Q (.tup [w,(.bool true)]) j) ((zL Q k f g l e c d))
def gI(Q:R)(i:Vs)(c:SH)(j:Kn):Prop:=yP 2 3 4 6 i λd b e k=>aA 0 b c λl=>wb .lss 3 l (.W6 0) λa=>wg a false (W.faddr 0 b) c λm f=>wg a false (wl m f) f λn o=>wg a false (W.faddr 1 d) o λp g=>wg a false (wl p g) g λq r=>wg a false (W.len q) r λs t=>wg a false (wb .geq 3 n s) t λu h=>W.pick a (.bool true) u λv=>wk v ((zJ Q h e)) ((zM Q j h d b e k))
def zN(Q:R)(a b c d:AV)(e:SH):Prop:=W.store 4 a d e λf=>W.loop (gI Q) [b,a,c,(.W6 0)] f
def nu(i j:AV)(L:SH)(Q:R):Prop:=W.box i L λk l=>W.box j l λb m=>W.alloc [(.W6 0),.nils,.nils,(.W6 0)] m λf n=>W.frz1 k n λc d=>aA 1 b d λo=>W.len o λp=>aA 0 c d λq=>wb .neq 3 p q λa=>wg a false (W.faddr 2 b) d λr g=>wg a false (wl r g) g λs t=>wg a false (W.len s) t λu v=>wg a false (W.faddr 0 c) v λw h=>wg a false (wl w h) h λx y=>wg a false (wb .neq 3 u x) y λz e=>W.pick a (.bool true) z λA=>wk A ((zI Q e f)) (bY 4 b e λB=>wc (.fn 94 []) [B] e (zN Q b c f))
theorem zO(t0 t1:AV)(L:SH)(Q:R)(h:nu t0 t1 L Q):af Tryz.prog 58 [t0,t1] L Q:=
 fs [] [(6,[2,3,4,6])] [(0,[2]),(8,[7])] [] Tryz.func58 h
end
section
set_option maxRecDepth 100000
set_option linter.unusedSimpArgs false
set_option linter.unusedSectionVars false
theorem qn(xs:List Int)(hl:xs.length*8≤140737488355328):af Tryz.prog 92 [.lst (xs.map aj)] [] λv L=>∃o,v=aO o xs.length∧L=ae o 1 (xs.map aj)∧(o=none→xs=[]):=by refine(fE (λA n c xs w hf h1 hn hA=>cloneJ_any A n c xs w hf h1 hn hA) ⟨_,_,Tryz.func92,rfl⟩ (xs.map aj) (by simp[aj,AV.one]) (λr hr=>by obtain⟨x,_,rfl⟩:=VY.1 hr;rfl) (by simpa using hl)).mono ?_;rintro v L ⟨o,rfl,rfl,h⟩;exact⟨o,W4,rfl,λe=>by simpa using h e⟩
theorem cN(xs:List Int)(hl:xs.length*8≤140737488355328):az Tryz.prog 93 [.lst (xs.map aj)] (.lst (xs.map aj)):=by refine af.fz ((FH xs hl).mono ?_);rintro v L ⟨o,rfl,rfl,ho⟩;exact⟨_,[],aG.all (Fz.slot (f:=aj) rfl (λe=>by rw[ho e];rfl) W5 (λy _=>rfl) (λy _ q a a2 h1 h2=>by rw[h1]at h2;cases h2;exact .refl _)),rfl,rfl⟩
def Le(s:aV)(v:AV)(L:SH):Prop:=
 ∃(o t:Option Nat),v=.agg [.W6 s.pc,aO o s.regs.length,aO t s.taint.length,.W6 s.ev]∧L=ae o 1 (s.regs.map aj)++ae t 1 (s.taint.map cm)∧(o=none→s.regs=[])∧(t=none→s.taint=[])
def nv(t:List (List Int))(k:Nat):List (List AV):=(t.take k).map cm++List.replicate (t.length-k) [.nils]
theorem LX(t:List (List Int))(k:Nat)(hk:k≤t.length):(nv t k).length=t.length:=by simp[nv];omega
theorem NQ(t:List (List Int))(k:Nat)(hk:k<t.length):(nv t k)[k]? =some [.nils]:=by
 unfold nv;have hl:((t.take k).map cm).length=k:=by simp;omega
 rw[Vt W1,hl,Nat.sub_self];obtain⟨m,hm⟩:∃m,t.length-k=m+1:=⟨t.length-k-1,W1⟩;rw[hm];rfl
theorem FS(t:List (List Int))(k:Nat)(hk:k<t.length):(nv t k).set k (cm t[k])=nv t (k+1):=by
 unfold nv;have hl:((t.take k).map cm).length=k:=by simp;omega
 rw[List.set_append_right _ _ W1,hl,Nat.sub_self];obtain⟨m,hm⟩:∃m,t.length-k=m+1:=⟨t.length-k-1,W1⟩;rw[hm,List.replicate_succ,List.set_cons_zero,Vw hk,show t.length-(k+1)=m by omega,Vo,VZ];rfl
theorem JR(s:aV)(h1:s.regs.length<2^40)(h2:s.taint.length<2^40)(h3:∀l∈s.taint,l.length≤2^30):af Tryz.prog 94 [.agg s.enc] [] (Le s):=by
 refine af.fz (BS _ _ _ ?_);unfold pk;generalize hQ:(λ(v:AV) (L:SH)=>∃v2 L2,aG [v] L [v2] L2∧Le s v2 L2)=Q
 repeat' (first|refine st ?_|refine sb λnb_ hnb_=>?_|refine s2 (λh=>?_) λh=>?_|fail)
 rename_i b1 _;revert nb_;intro b2 _;refine o8 (qn s.regs W1) ?_;rintro v K ⟨o,rfl,rfl,ho⟩;unfold nr;have fin:∀(bt:Nat) (L:SH),(∃x y:Blk,L=(bt,⟨1,s.taint.map cm⟩)::(b2,x)::(b1,y)::ae o 1 (s.regs.map aj))→Q (.agg [.W6 s.pc,aO o s.regs.length,.sl bt 0 s.taint.length,.W6 s.ev]) L:=by rintro bt L ⟨x,y,rfl⟩;subst hQ;refine⟨_,_,aG.forget (K:=[(b2,x),(b1,y)]) (R:=ae o 1 (s.regs.map aj)++[(bt,⟨1,s.taint.map cm⟩)]) ?_,o,some bt,rfl,rfl,ho,nofun⟩;refine(List.Perm.trans (List.Perm.swap _ _ _) ?_);refine List.Perm.cons _ ((List.Perm.swap _ _ _).trans (List.Perm.cons _ ?_));exact(VQ (l₁:=[(bt,(⟨1,s.taint.map cm⟩:Blk))]) (l₂:=ae o 1 (s.regs.map aj)))
 have loop:∀(bt:Nat) (y:Blk),y=⟨4,[[.W6 s.pc,aO o s.regs.length,.lst (s.taint.map cm),.W6 s.ev]]⟩→W.loop (im Q) [.ptr b1 0 0,.ptr b2 0 0,.sl bt 0 s.taint.length,.lst (s.taint.map cm),.W6 s.taint.length,.W6 (0:Nat)] ((bt,⟨1,List.replicate s.taint.length [.nils]⟩)::(b2,⟨4,[[.W6 0,.nils,.nils,.W6 0]]⟩)::(b1,y)::ae o 1 (s.regs.map aj)):=by
  intro bt y hy;subst hy;refine cb s.taint.length (λk (_:Unit)=>([.ptr b1 0 0,.ptr b2 0 0,.sl bt 0 s.taint.length,.lst (s.taint.map cm),.W6 s.taint.length,.W6 k],(bt,⟨1,nv s.taint k⟩)::(b2,⟨4,[[.W6 0,.nils,.nils,.W6 0]]⟩)::(b1,⟨4,[[.W6 s.pc,aO o s.regs.length,.lst (s.taint.map cm),.W6 s.ev]]⟩)::ae o 1 (s.regs.map aj))) (λ_ _=>True) () trivial (gC rfl (by simp[nv])) ?_;intro k _ hk _;dsimp only;unfold im;rcases Nat.lt_or_ge k s.taint.length with g1|g1
  ·have hd:=bI g1;have hx:=aw (f:=cm) g1;have hz:=NQ s.taint k g1;have hkl:k<(nv s.taint k).length:=by rw[LX _ _ hk];exact g1
   have hrk:(s.taint[k]).length*8≤140737488355328:=by have:=h3 _ (VF g1);omega
   cases o with
   |none=>
    dsimp only[ae,aO]
    repeat' (first|refine st ?_|(refine pf 93 ?_;refine pm (cN _ hrk) ?_)|unfold il|refine sb λnb_ hnb_=>?_|refine s2 (λh=>?_) λh=>?_|fail)
    exact⟨k+1,(),W1,W1,trivial,gC (by rw[aD g1 W1]<;>rfl) (by rw[←FS _ _ g1];rfl)⟩
   |some b'=>
    dsimp only[ae,aO]
    repeat' (first|refine st ?_|(refine pf 93 ?_;refine pm (cN _ hrk) ?_)|unfold il|refine sb λnb_ hnb_=>?_|refine s2 (λh=>?_) λh=>?_|fail)
    exact⟨k+1,(),W1,W1,trivial,gC (by rw[aD g1 W1]<;>rfl) (by rw[←FS _ _ g1];rfl)⟩
  ·have hd:=bO g1;have hk0:k=s.taint.length:=by omega
   subst hk0;have e:nv s.taint s.taint.length=s.taint.map cm:=by simp[nv]
   rw[e];cases o with
   |none=>
    dsimp only[ae,aO]at fin ⊢
    repeat' (first|refine st ?_|refine sb λnb_ hnb_=>?_|refine s2 (λh=>?_) λh=>?_|fail)
    exact fin _ _ ⟨_,_,rfl⟩
   |some b'=>
    dsimp only[ae,aO]at fin ⊢
    repeat' (first|refine st ?_|refine sb λnb_ hnb_=>?_|refine s2 (λh=>?_) λh=>?_|fail)
    exact fin _ _ ⟨_,_,rfl⟩
 cases o with
 |none=>
  dsimp only[ae,aO]at loop ⊢
  repeat' (first|refine st ?_|refine sb λnb_ hnb_=>?_|refine s2 (λh=>?_) λh=>?_|fail)
  exact loop _ _ rfl
 |some b'=>
  dsimp only[ae,aO]at loop ⊢
  repeat' (first|refine st ?_|refine sb λnb_ hnb_=>?_|refine s2 (λh=>?_) λh=>?_|fail)
  exact loop _ _ rfl
end
section
set_option maxRecDepth 100000
set_option linter.unusedSimpArgs false
set_option linter.unusedSectionVars false
theorem NR(a b:List Int)(ha:a.length≤2^30)(hb:b.length≤2^30):az Tryz.prog 120 [.lst (a.map aj),.lst (b.map aj)] (.lst ((JQ (a++b)).map aj)):=by
 refine af.fz (BR _ _ _ _ ?_);unfold pj;generalize hQ:(λ(v:AV) (L:SH)=>∃v2 L2,aG [v] L [v2] L2∧v2=AV.lst ((JQ (a++b)).map aj)∧L2=[])=Q;have hsum:IntKind.i64.wrap ((a.length:Int)+b.length)=((a.length+b.length:Nat):Int):=by rw[V9 _ W1];omega
 have fin:∀(bk:Nat) (L:SH),(bk,(⟨1,(Lib.compact (zr (a++b))++List.replicate ((a++b).length-(Lib.compact (zr (a++b))).length) 0).map aj⟩:Blk))∈L→Q (.sl bk 0 (Lib.compact (zr (a++b))).length) L:=λbk L hm=>by subst hQ;refine⟨_,[],aG.all ?_,rfl,rfl⟩;show Fz _ (.sl bk 0 (JQ (a++b)).length) (.lst ((JQ (a++b)).map aj));rw[show(JQ (a++b)).map aj=((((Lib.compact (zr (a++b))++List.replicate ((a++b).length-(Lib.compact (zr (a++b))).length) 0).map aj).drop 0).take (JQ (a++b)).length)from(Da (List.take_left' rfl)).symm];exact Fz.rows (x:=⟨1,_⟩) hm W4 (by simp[JQ])
 have h2:=λbk:Nat=>K5 bk (a++b) (by simp;omega)
 have h3:=λbk:Nat=>Db bk (zr (a++b)) (by rw[ql];simp;omega)
 simp only[ql]at h3
 repeat' (first|refine st ?_|refine sb λnb_ hnb_=>?_|refine s2 (λh=>?_) λh=>?_|fail)
 refine fP (i:=0) (j:=a.length+b.length) W1 W1 W1 (λnb_ hnb_=>?_)
 repeat' (first|refine st ?_|refine Nv rp (λ_=>rfl) W4 (by simp;omega) (by simp;omega) (λ_=>rfl) (λnb_ hnb_=>?_)|refine sb λnb_ hnb_=>?_|refine s2 (λh=>?_) λh=>?_|fail)
 simp only[List.replicate,Wm,←Vo,Wg,←Vu]
 repeat' (first|refine st ?_|((with_reducible refine aX 86 ?_);(refine j7 (h2 _) (.here _) ?_;rintro _ _ ⟨rfl,rfl⟩))|((with_reducible refine aX 87 ?_);(refine j7 (h3 _) (.here _) ?_;rintro _ _ ⟨rfl,rfl⟩))|refine sb λnb_ hnb_=>?_|refine s2 (λh=>?_) λh=>?_|fail)
 exact fin _ _ rp
end
section
set_option maxRecDepth 100000
set_option linter.unusedSimpArgs false
def GH(p:Int×Bool):AV:=.tup [.W6 p.1,.bool p.2]
theorem It(b:Bool):az Tryz.prog 107 [.bool b] (.W6 (kM b)):=by
 refine E0 _ _ _ ?_;unfold w8;cases b
 all_goals
  repeat' (first|refine st ?_|refine sb λnb_ hnb_=>?_|refine s2 (λh=>?_) λh=>?_|fail)
  exact⟨rfl,rfl⟩
theorem Iu(op a:Int):az Tryz.prog 77 [.W6 op,.W6 a] (GH (O1 op a)):=by
 refine E2 _ _ _ _ ?_;unfold w9;generalize hQ:(λ(u:AV) (K:SH)=>u=GH (O1 op a)∧K=[])=Q
 repeat' (first|refine st ?_|(refine pf 107 ?_;refine pm (It _) ?_)|refine sb λnb_ hnb_=>?_|refine s2 (λh=>?_) λh=>?_|fail)
 all_goals
  subst hQ;refine⟨?_,rfl⟩;simp_all[O1,GH]
theorem FT(op a b:Int):az Tryz.prog 78 [.W6 op,.W6 a,.W6 b] (GH (Df op a b)):=by
 refine Dv _ _ _ _ _ ?_;unfold si;generalize hQ:(λ(u:AV) (K:SH)=>u=GH (Df op a b)∧K=[])=Q
 repeat' (first|refine st ?_|(refine pf 107 ?_;refine pm (It _) ?_)|refine sb λnb_ hnb_=>?_|refine s2 (λh=>?_) λh=>?_|fail)
 all_goals
  subst hQ;refine⟨?_,rfl⟩;simp_all[Df,GH]
end
section
set_option maxRecDepth 100000
set_option linter.unusedSimpArgs false
set_option linter.unusedSectionVars false
theorem fm{P:Program}{KL:AV→SH→Prop}{g:FuncId}{cs args:List AV}{L L':SH}{b:Nat}{x:Blk}{R:AV→SH→Prop}(h:af P g (args++cs) [(b,x)] R)(hd:eJ b x L L')(hk:∀v K,R v K→KL v (K++L')):W.call P (.fn g cs) args L KL:=
 ⟨h.frame (K:=[(b,x)]) (R:=L') hd.perm λu K hu=>hk u K hu⟩
def mH(s:aV)(o t:Option Nat):List AV:=[.W6 s.pc,aO o s.regs.length,aO t s.taint.length,.W6 s.ev]
def nT(s:aV)(bs:Nat)(o t:Option Nat):SH:=(bs,⟨4,[mH s o t]⟩)::(ae o 1 (s.regs.map aj)++ae t 1 (s.taint.map cm))
def zP(r:Option aV)(bs:Nat)(o t:Option Nat)(v:AV)(L:SH):Prop:=
 match r with
 |none=>v=.bool false
 |some s2=>v=.bool true∧L=nT s2 bs o t
theorem Lf(s:aV)(bs:Nat)(o t:Option Nat)(ho:o=none→s.regs=[])(r:Int):af Tryz.prog 119 [.W6 r,.pptr [[.ptr bs 0 0]] 0 0] [(bs,⟨4,[mH s o t]⟩)] λv L=>v=.bool (s.has r)∧L=[(bs,⟨4,[mH s o t]⟩)]:=by
 refine qx _ _ _ _ ?_;unfold jg;generalize hQ:(λ(v:AV) (L:SH)=>v=.bool (s.has r)∧L=[(bs,(⟨4,[mH s o t]⟩:Blk))])=Q;cases o with
 |none=>
  have h0:=ho rfl;unfold mH at hQ ⊢;dsimp only[aO]at hQ ⊢
  repeat' (first|refine st ?_|refine sb λnb_ hnb_=>?_|refine s2 (λh=>?_) λh=>?_|fail)
  all_goals
   subst hQ;refine⟨?_,rfl⟩;simp_all[aV.has,inB]<;>omega
 |some b=>
  unfold mH at hQ ⊢;dsimp only[aO]at hQ ⊢
  repeat' (first|refine st ?_|refine sb λnb_ hnb_=>?_|refine s2 (λh=>?_) λh=>?_|fail)
  all_goals
   subst hQ;refine⟨?_,rfl⟩;simp_all[aV.has,inB]<;>omega
theorem j9{s:aV}{r:Int}:s.has r=true↔∃k:Nat,r=k∧k<s.regs.length:=by unfold aV.has;rw[ax];exact⟨λ⟨h1,h2⟩=>⟨r.toNat,W1,W1⟩,λ⟨k,h1,h2⟩=>by omega⟩
theorem kf{o:Option Nat}{α:Type}{l:List α}{k:Nat}(h:o=none→l=[])(hk:k<l.length):∃b,o=some b:=by
 cases o with
 |none=>rw[h rfl]at hk;simp at hk
 |some b=>exact⟨b,rfl⟩
section
variable (s:aV) (bs:Nat) (o t:Option Nat) (ho:o=none→s.regs=[]) (ht:t=none→s.taint=[]) (hlen:s.taint.length=s.regs.length) (hsm:s.regs.length<2^40) (hsh:∀l∈s.taint,l.length≤2^30) (ia ib ic n site:Int)
include ho ht hlen hsm hsh
theorem RV:af Tryz.prog 95 [.ptr bs 0 0,.agg (bj.mk 5 ia ib ic n site).enc] (nT s bs o t) (zP (bQ ⟨5,ia,ib,ic,n,site⟩ s) bs o t):=by
 refine cY _ _ _ _ ?_;unfold cP;generalize hQ:zP (bQ ⟨5,ia,ib,ic,n,site⟩ s) bs o t=Q;unfold nT
 repeat' (first|refine st ?_|refine sb λnb_ hnb_=>?_|refine s2 (λh=>?_) λh=>?_|fail)
 subst hQ;exact⟨rfl,rfl⟩
theorem RW:af Tryz.prog 95 [.ptr bs 0 0,.agg (bj.mk 1 ia ib ic n site).enc] (nT s bs o t) (zP (bQ ⟨1,ia,ib,ic,n,site⟩ s) bs o t):=by
 have hex:=λr=>Lf s bs o t ho r
 refine af.fz (cY _ _ _ _ ?_);unfold cP;generalize hQ:(λ(v:AV) (L:SH)=>∃v2 L2,aG [v] L [v2] L2∧zP (bQ ⟨1,ia,ib,ic,n,site⟩ s) bs o t v2 L2)=Q;cases ha:s.has ia with
 |false=>
  have e:bQ ⟨1,ia,ib,ic,n,site⟩ s=none:=by simp[bQ,ha]
  unfold nT
  repeat' (first|refine st ?_|(refine o7 (fm (hex _) (.here _) ?_);rintro _ _ ⟨rfl,rfl⟩;(try rw[ha]))|refine sb λnb_ hnb_=>?_|refine s2 (λh=>?_) λh=>?_|fail)
  subst hQ;rw[e];exact⟨_,[],aG.all (.refl _),rfl⟩
 |true=>
  have e:bQ ⟨1,ia,ib,ic,n,site⟩ s=some (s.put ia n []):=by simp[bQ,ha]
  rw[e]at hQ;obtain⟨a,rfl,hal⟩:=j9.1 ha;obtain⟨b1,rfl⟩:=kf ho hal;obtain⟨b2,rfl⟩:=kf ht (k:=a) W1;have hal2:a<s.taint.length:=by omega
  have hxa:=aw (f:=aj) hal;have hya:=aw (f:=cm) hal2;unfold nT;dsimp only[ae,List.cons_append,List.nil_append]
  repeat' (first|refine st ?_|(refine o7 (fm (hex _) (.here _) ?_);rintro _ _ ⟨rfl,rfl⟩;first|rw[ha])|refine sb λnb_ hnb_=>?_|refine s2 (λh=>?_) λh=>?_|fail)
  subst hQ;refine⟨_,_,?_,rfl,rfl⟩;have e1:(s.put a n []).regs.map aj=(s.regs.map aj).set a [.W6 n]:=by simp[aV.put,Wh,aj]
  have e2:(s.put a n []).taint.map cm=(s.taint.map cm).set a [.lst []]:=by simp[aV.put,Wh,cm]
  have e3:mH (s.put a n []) (some b1) (some b2)=[.W6 (IntKind.i64.wrap (s.pc+1)),.sl b1 0 s.regs.length,.sl b2 0 s.taint.length,.W6 s.ev]:=by simp[mH,aV.put,aO]
  unfold nT;rw[e1,e2,e3];dsimp only[ae,List.cons_append,List.nil_append];refine aG.rowA (K:=[]) (A:=[(bs,_),(b1,_)]) (b:=b2) (R:=[]) (rows:=(s.taint.map cm).set a [.nils]) (rows':=(s.taint.map cm).set a [.lst []]) rp W4 (λj r r' q1 q2=>?_) rfl;rw[List.getElem?_set]at q1 q2;by_cases hj:a=j
  ·rw[if_pos hj]at q1 q2;rw[if_pos (by simp;omega)]at q1 q2;cases q1;cases q2;exact .cons .nils .nil
  ·rw[if_neg hj]at q1 q2;rw[q1]at q2;cases q2;exact i9.refl _ _
theorem RX:af Tryz.prog 95 [.ptr bs 0 0,.agg (bj.mk 2 ia ib ic n site).enc] (nT s bs o t) (zP (bQ ⟨2,ia,ib,ic,n,site⟩ s) bs o t):=by
 have hex:=λr=>Lf s bs o t ho r
 refine cY _ _ _ _ ?_;unfold cP;generalize hQ:zP (bQ ⟨2,ia,ib,ic,n,site⟩ s) bs o t=Q;cases ha:s.has ia with
 |false=>
  have e:bQ ⟨2,ia,ib,ic,n,site⟩ s=none:=by simp[bQ,ha]
  unfold nT
  repeat' (first|refine st ?_|(refine o7 (fm (hex _) (.here _) ?_);rintro _ _ ⟨rfl,rfl⟩;first|rw[ha])|refine sb λnb_ hnb_=>?_|refine s2 (λh=>?_) λh=>?_|fail)
  subst hQ;rw[e];rfl
 |true=>
  cases hb:s.has ib with
  |false=>
   have e:bQ ⟨2,ia,ib,ic,n,site⟩ s=none:=by simp[bQ,hb]
   unfold nT
   repeat' (first|refine st ?_|(refine o7 (fm (hex _) (.here _) ?_);rintro _ _ ⟨rfl,rfl⟩;first|rw[ha]|rw[hb])|refine sb λnb_ hnb_=>?_|refine s2 (λh=>?_) λh=>?_|fail)
   subst hQ;rw[e];rfl
  |true=>
   have e:bQ ⟨2,ia,ib,ic,n,site⟩ s=some (s.put ia (s.reg ib) (s.tnt ib)):=by simp[bQ,ha,hb]
   rw[e]at hQ;obtain⟨a,rfl,hal⟩:=j9.1 ha;obtain⟨b,rfl,hbl⟩:=j9.1 hb;obtain⟨b1,rfl⟩:=kf ho hal;obtain⟨b2,rfl⟩:=kf ht (k:=a) W1;have hal2:a<s.taint.length:=by omega
   have hxa:=aw (f:=aj) hal;have hya:=aw (f:=cm) hal2;have hbl2:b<s.taint.length:=by omega
   have hxb:=aw (f:=aj) hbl;have hyb:=aw (f:=cm) hbl2;have hcl:=cN s.taint[b] (by have:=hsh _ (List.getElem_mem hbl2);omega);unfold nT;dsimp only[ae,List.cons_append,List.nil_append]
   repeat' (first|refine st ?_|(refine o7 (fm (hex _) (.here _) ?_);rintro _ _ ⟨rfl,rfl⟩;first|rw[ha]|rw[hb])|(refine pf 93 ?_;refine pm (hcl) ?_)|refine sb λnb_ hnb_=>?_|refine s2 (λh=>?_) λh=>?_|fail)
   subst hQ;refine⟨rfl,?_⟩;simp[nT,aV.put,mH,aV.reg,aV.tnt,ae,List.getD,hbl,hbl2,Wh,aj,cm]
theorem RY:af Tryz.prog 95 [.ptr bs 0 0,.agg (bj.mk 3 ia ib ic n site).enc] (nT s bs o t) (zP (bQ ⟨3,ia,ib,ic,n,site⟩ s) bs o t):=by
 have hex:=λr=>Lf s bs o t ho r
 refine cY _ _ _ _ ?_;unfold cP;generalize hQ:zP (bQ ⟨3,ia,ib,ic,n,site⟩ s) bs o t=Q;cases ha:s.has ia with
 |false=>
  have e:bQ ⟨3,ia,ib,ic,n,site⟩ s=none:=by simp[bQ,ha]
  unfold nT
  repeat' (first|refine st ?_|(refine o7 (fm (hex _) (.here _) ?_);rintro _ _ ⟨rfl,rfl⟩;first|rw[ha])|refine sb λnb_ hnb_=>?_|refine s2 (λh=>?_) λh=>?_|fail)
  subst hQ;rw[e];rfl
 |true=>
  cases hb:s.has ib with
  |false=>
   have e:bQ ⟨3,ia,ib,ic,n,site⟩ s=none:=by simp[bQ,hb]
   unfold nT
   repeat' (first|refine st ?_|(refine o7 (fm (hex _) (.here _) ?_);rintro _ _ ⟨rfl,rfl⟩;first|rw[ha]|rw[hb])|refine sb λnb_ hnb_=>?_|refine s2 (λh=>?_) λh=>?_|fail)
   subst hQ;rw[e];rfl
  |true=>
   have e:bQ ⟨3,ia,ib,ic,n,site⟩ s=if(O1 n (s.reg ib)).2 then some (s.put ia (O1 n (s.reg ib)).1 (s.tnt ib))else none:=by simp[bQ,ha,hb]
   rw[e]at hQ;obtain⟨a,rfl,hal⟩:=j9.1 ha;obtain⟨b,rfl,hbl⟩:=j9.1 hb;obtain⟨b1,rfl⟩:=kf ho hal;obtain⟨b2,rfl⟩:=kf ht (k:=a) W1;have hal2:a<s.taint.length:=by omega
   have hxa:=aw (f:=aj) hal;have hya:=aw (f:=cm) hal2;have hbl2:b<s.taint.length:=by omega
   have hxb:=aw (f:=aj) hbl;have hyb:=aw (f:=cm) hbl2;have hcl:=cN s.taint[b] (by have:=hsh _ (VF hbl2);omega);have hun:=Iu n s.regs[b];have hrb:s.reg b=s.regs[b]:=by simp[aV.reg,List.getD,hbl]
   have htb:s.tnt b=s.taint[b]:=by simp[aV.tnt,List.getD,hbl2]
   rw[hrb,htb]at hQ;generalize O1 n s.regs[b]=p at hun hQ;unfold GH at hun;unfold nT;dsimp only[ae,List.cons_append,List.nil_append]
   repeat' (first|refine st ?_|(refine o7 (fm (hex _) (.here _) ?_);rintro _ _ ⟨rfl,rfl⟩;first|rw[ha]|rw[hb])|(refine pf 93 ?_;refine pm (hcl) ?_)|(refine pf 77 ?_;refine pm (hun) ?_)|refine sb λnb_ hnb_=>?_|refine s2 (λh=>?_) λh=>?_|fail)
   subst hQ;unfold zP;cases hp:p.2 with
   |false=>rfl
   |true=>refine⟨rfl,?_⟩;simp[nT,aV.put,mH,ae,Wh,aj,cm]
theorem R0:af Tryz.prog 95 [.ptr bs 0 0,.agg (bj.mk 4 ia ib ic n site).enc] (nT s bs o t) (zP (bQ ⟨4,ia,ib,ic,n,site⟩ s) bs o t):=by
 have hex:=λr=>Lf s bs o t ho r
 refine cY _ _ _ _ ?_;unfold cP;generalize hQ:zP (bQ ⟨4,ia,ib,ic,n,site⟩ s) bs o t=Q;cases ha:s.has ia with
 |false=>
  have e:bQ ⟨4,ia,ib,ic,n,site⟩ s=none:=by simp[bQ,ha]
  unfold nT
  repeat' (first|refine st ?_|(refine o7 (fm (hex _) (.here _) ?_);rintro _ _ ⟨rfl,rfl⟩;first|rw[ha])|refine sb λnb_ hnb_=>?_|refine s2 (λh=>?_) λh=>?_|fail)
  subst hQ;rw[e];rfl
 |true=>
  cases hb:s.has ib with
  |false=>
   have e:bQ ⟨4,ia,ib,ic,n,site⟩ s=none:=by simp[bQ,hb]
   unfold nT
   repeat' (first|refine st ?_|(refine o7 (fm (hex _) (.here _) ?_);rintro _ _ ⟨rfl,rfl⟩;first|rw[ha]|rw[hb])|refine sb λnb_ hnb_=>?_|refine s2 (λh=>?_) λh=>?_|fail)
   subst hQ;rw[e];rfl
  |true=>
   cases hc:s.has ic with
   |false=>
    have e:bQ ⟨4,ia,ib,ic,n,site⟩ s=none:=by simp[bQ,hc]
    unfold nT
    repeat' (first|refine st ?_|(refine o7 (fm (hex _) (.here _) ?_);rintro _ _ ⟨rfl,rfl⟩;first|rw[ha]|rw[hb]|rw[hc])|refine sb λnb_ hnb_=>?_|refine s2 (λh=>?_) λh=>?_|fail)
    subst hQ;rw[e];rfl
   |true=>
    have e:bQ ⟨4,ia,ib,ic,n,site⟩ s=if(Df n (s.reg ib) (s.reg ic)).2 then some (s.put ia (Df n (s.reg ib) (s.reg ic)).1 (JQ (s.tnt ib++s.tnt ic)))else none:=by simp[bQ,ha,hb,hc]
    rw[e]at hQ;obtain⟨a,rfl,hal⟩:=j9.1 ha;obtain⟨b,rfl,hbl⟩:=j9.1 hb;obtain⟨c,rfl,hcl⟩:=j9.1 hc;obtain⟨b1,rfl⟩:=kf ho hal;obtain⟨b2,rfl⟩:=kf ht (k:=a) W1;have hal2:a<s.taint.length:=by omega
    have hxa:=aw (f:=aj) hal;have hya:=aw (f:=cm) hal2;have hbl2:b<s.taint.length:=by omega
    have hxb:=aw (f:=aj) hbl;have hyb:=aw (f:=cm) hbl2;have hcl2:c<s.taint.length:=by omega
    have hxc:=aw (f:=aj) hcl;have hyc:=aw (f:=cm) hcl2;have hun2:=NR s.taint[b] s.taint[c] (hsh _ (VF hbl2)) (hsh _ (VF hcl2));have hun:=FT n s.regs[b] s.regs[c];have hrb:s.reg b=s.regs[b]:=by simp[aV.reg,List.getD,hbl]
    have htb:s.tnt b=s.taint[b]:=by simp[aV.tnt,List.getD,hbl2]
    have hrc:s.reg c=s.regs[c]:=by simp[aV.reg,List.getD,hcl]
    have htc:s.tnt c=s.taint[c]:=by simp[aV.tnt,List.getD,hcl2]
    rw[hrb,htb,hrc,htc]at hQ;generalize Df n s.regs[b] s.regs[c]=p at hun hQ;generalize JQ (s.taint[b]++s.taint[c])=u at hun2 hQ;unfold GH at hun;unfold nT;dsimp only[ae,List.cons_append,List.nil_append]
    repeat' (first|refine st ?_|(refine o7 (fm (hex _) (.here _) ?_);rintro _ _ ⟨rfl,rfl⟩;first|rw[ha]|rw[hb]|rw[hc])|(refine pf 120 ?_;refine pm (hun2) ?_)|(refine pf 78 ?_;refine pm (hun) ?_)|refine sb λnb_ hnb_=>?_|refine s2 (λh=>?_) λh=>?_|fail)
    subst hQ;unfold zP;cases hp:p.2 with
    |false=>rfl
    |true=>refine⟨rfl,?_⟩;simp[nT,aV.put,mH,ae,Wh,aj,cm]
end
end
section
set_option maxRecDepth 100000
set_option linter.unusedSimpArgs false
set_option linter.unusedSectionVars false
def Lg:List AV:=[.W6 0,.nils,.nils,.W6 0]
theorem GI{P:Program}{KL R1:AV→SH→Prop}{g:FuncId}{args:List AV}{L K R:SH}(h:af P g args K R1)(hL:L.Perm (K++R))(hq:∀v K',R1 v K'→KL v (R++K')):W.callM P g args L KL:=
 ⟨.perm (h.frame hL λu K' hu=>⟨R++K',VQ,hq u K' hu⟩)⟩
theorem NS(s:aV)(bs:Nat)(o t:Option Nat)(ho:o=none→s.regs=[])(ht:t=none→s.taint=[])(hlen:s.taint.length=s.regs.length)(hsm:s.regs.length<2^40)(hsh:∀l∈s.taint,l.length≤2^30)(i:bj)(h1:1≤i.op)(h5:i.op≤5):
  af Tryz.prog 95 [.ptr bs 0 0,.agg i.enc] (nT s bs o t) (zP (bQ i s) bs o t):=by
 obtain⟨op,ia,ib,ic,n,site⟩:=i;dsimp only at h1 h5;obtain rfl|rfl|rfl|rfl|rfl:op=1∨op=2∨op=3∨op=4∨op=5:=by omega
 ·exact RW s bs o t ho ht hlen hsm hsh ia ib ic n site
 ·exact RX s bs o t ho ht hlen hsm hsh ia ib ic n site
 ·exact RY s bs o t ho ht hlen hsm hsh ia ib ic n site
 ·exact R0 s bs o t ho ht hlen hsm hsh ia ib ic n site
 ·exact RV s bs o t ho ht hlen hsm hsh ia ib ic n site
theorem xv(s:aV)(a v:Int)(t:List Int):(s.put a v t).regs.length=s.regs.length∧(s.put a v t).taint.length=s.taint.length:=by simp[aV.put]
theorem FU{s s2:aV}{i:bj}(he:bQ i s=some s2):s2.regs.length=s.regs.length∧s2.taint.length=s.taint.length:=by
 unfold bQ at he;split at he
 ·split at he
  ·cases he;exact xv _ _ _ _
  ·cases he
 ·split at he
  ·split at he
   ·cases he;exact xv _ _ _ _
   ·cases he
  ·split at he
   ·split at he
    ·cases he;exact xv _ _ _ _
    ·cases he
   ·split at he
    ·split at he
     ·cases he;exact xv _ _ _ _
     ·cases he
    ·cases he;exact⟨rfl,rfl⟩
theorem lP{α:Type}{K:SH}{f:α→List AV}{l:List α}{o:Option Nat}{n:Nat}(hn:n=l.length)(h0:o=none→l=[])(hm:∀b,o=some b→(b,(⟨1,l.map f⟩:Blk))∈K):Fz K (aO o n) (.lst (l.map f)):=by
 cases o with
 |none=>rw[h0 rfl];exact .refl _
 |some b=>exact Fz.sls (hm b rfl) rfl W5 hn
theorem PK{K:SH}{s:aV}{o t:Option Nat}(ho:o=none→s.regs=[])(ht:t=none→s.taint=[])(h:∀p∈ae o 1 (s.regs.map aj)++ae t 1 (s.taint.map cm),p∈K):Fz K (.agg (mH s o t)) (.agg s.enc):=
 Fz.aggs (.cons (.refl _) (.cons (lP rfl ho λb e=>h _ (by subst e;simp[ae])) (.cons (lP rfl ht λb e=>h _ (by subst e;simp[ae])) (.cons (.refl _) .nil))))
theorem GJ(K:SH):Fz K (.agg Lg) (.agg aV.zero.enc):=Fz.aggs (.cons (.refl _) (.cons .nils (.cons .nils (.cons (.refl _) .nil))))
theorem GK{K:SH}{a b:AV}{ok:Bool}(h:Fz K a b):Fz K (.tup [a,.bool ok]) (.tup [b,.bool ok]):=.tup _ _ rfl λi x y h1 h2=>by
 match i with
 |0=>cases h1;cases h2;exact h
 |1=>cases h1;cases h2;exact .refl _
 |i+2=>simp at h1
theorem Lh{ins:List bj}{k:Nat}{s:aV}(h:inB s.pc ins.length=false):gY ins k s=(aV.zero,false):=by cases k<;>simp[gY,h]
theorem NT{ins:List bj}{k:Nat}{s:aV}(h:inB s.pc ins.length=true)(h2:(ins.getD s.pc.toNat default).op<1∨5<(ins.getD s.pc.toNat default).op):gY ins k s=(s,true):=by cases k<;>simp only[gY,h,if_true,if_pos h2]
theorem NU{ins:List bj}{k:Nat}{s:aV}(h:inB s.pc ins.length=true)(h2:¬((ins.getD s.pc.toNat default).op<1∨5<(ins.getD s.pc.toNat default).op))(h3:bQ (ins.getD s.pc.toNat default) s=none):gY ins k s=(aV.zero,false):=by cases k<;>simp only[gY,h,if_true,if_neg h2,h3]
theorem NV{ins:List bj}{s:aV}(h:inB s.pc ins.length=true)(h2:¬((ins.getD s.pc.toNat default).op<1∨5<(ins.getD s.pc.toNat default).op)):gY ins 0 s=(aV.zero,false):=by simp only[gY,h,if_true,if_neg h2]
theorem NW{ins:List bj}{k:Nat}{s s2:aV}(h:inB s.pc ins.length=true)(h2:¬((ins.getD s.pc.toNat default).op<1∨5<(ins.getD s.pc.toNat default).op))(h3:bQ (ins.getD s.pc.toNat default) s=some s2):gY ins (k+1) s=gY ins k s2:=by simp only[gY,h,if_true,if_neg h2,h3]
section
variable (c:iy) (s:aV) (U:List Int) (hU:U.length≤2^30) (hT:jf U s) (hc:c.ins.length<2^40) (o t:Option Nat) (ho:o=none→s.regs=[]) (ht:t=none→s.taint=[])
include hU hT hc ho ht
theorem Iv(b3 b4:Nat)(Q:AV→SH→Prop)(hq:∀v L,Fz L v (Dk (gY c.ins c.ins.length s))→Q v L):
  W.loop (gI Q) [.pptr [c.enc] 0 0,.ptr b3 0 0,.ptr b4 0 0,.W6 (0:Nat)] ((b4,⟨4,[Lg]⟩)::nT s b3 o t):=by
 refine cb c.ins.length (λk (e:aV)=>([.pptr [c.enc] 0 0,.ptr b3 0 0,.ptr b4 0 0,.W6 k],(b4,⟨4,[Lg]⟩)::nT e b3 o t)) (λk e=>jf U e∧(e.regs.length=s.regs.length∧e.taint.length=s.taint.length)∧gY c.ins (c.ins.length-k) e=gY c.ins c.ins.length s) s ⟨hT,⟨rfl,rfl⟩,rfl⟩ (.refl _ _) ?_;intro k e hk ⟨he,⟨hl1,hl2⟩,hrun⟩;rw[←hrun]at hq;have ho':o=none→e.regs=[]:=λx=>Wo.1 (by rw[hl1,ho x];rfl)
 have ht':t=none→e.taint=[]:=λx=>Wo.1 (by rw[hl2,ht x];rfl)
 dsimp only;unfold gI;have zero:gY c.ins (c.ins.length-k) e=(aV.zero,false)→∀L,Q (.tup [.agg Lg,.bool false]) L:=λh L=>hq _ _ (by rw[h];exact GK (GJ _))
 by_cases p1:e.pc<0
 ·have hd1:decide (e.pc<0)=true:=by simpa using p1
  have hz:=zero (Lh (by simp[inB];omega));unfold nT mH
  repeat' (first|refine st ?_|refine sb λnb_ hnb_=>?_|refine s2 (λh=>?_) λh=>?_|fail)
  exact hz _
 ·have hd1:decide (e.pc<0)=false:=by simpa using p1
  by_cases p2:(c.ins.length:Int)≤e.pc
  ·have hd2:decide ((c.ins.length:Int)≤e.pc)=true:=by simpa using p2
   have hz:=zero (Lh (by simp[inB];omega));unfold nT mH
   repeat' (first|refine st ?_|refine sb λnb_ hnb_=>?_|refine s2 (λh=>?_) λh=>?_|fail)
   exact hz _
  ·have hd2:decide ((c.ins.length:Int)≤e.pc)=false:=by simpa using p2
   have hin:inB e.pc c.ins.length=true:=by simp[inB];omega
   have hx:=dJ (f:=bj.enc) hin;generalize hi:c.ins.getD e.pc.toNat default=i at hx;by_cases p3:i.op<1∨5<i.op
   ·have hr:=NT (k:=c.ins.length-k) hin (by rw[hi];exact p3);rw[hr]at hq;have fin:∀x,Q (.tup [.agg (mH e o t),.bool true]) ((b4,x)::nT e b3 o t):=λx=>hq _ _ (GK (PK ho' ht' λp hp=>by unfold nT;exact .tail _ (.tail _ hp)))
    unfold nT mH at fin ⊢;by_cases p4:i.op<1
    ·have q1:decide (i.op<1)=true:=by simpa using p4
     rcases o with _|b1<;>rcases t with _|b2
     all_goals
      dsimp only[aO,ae,List.cons_append,List.nil_append]at fin ⊢
      repeat' (first|refine st ?_|refine sb λnb_ hnb_=>?_|refine s2 (λh=>?_) λh=>?_|fail)
      exact fin _
    ·have q1:decide (i.op<1)=false:=by simpa using p4
     have q2:decide (5<i.op)=true:=by simp;omega
     rcases o with _|b1<;>rcases t with _|b2
     all_goals
      dsimp only[aO,ae,List.cons_append,List.nil_append]at fin ⊢
      repeat' (first|refine st ?_|refine sb λnb_ hnb_=>?_|refine s2 (λh=>?_) λh=>?_|fail)
      exact fin _
   ·have q1:decide (i.op<1)=false:=by simp;omega
    have q2:decide (5<i.op)=false:=by simp;omega
    by_cases p5:k=c.ins.length
    ·have q3:decide ((k:Int)=(c.ins.length:Int))=true:=by simp[p5]
     have hz:=zero (by rw[p5,Nat.sub_self];exact NV hin (by rw[hi];exact p3));unfold nT mH
     repeat' (first|refine st ?_|refine sb λnb_ hnb_=>?_|refine s2 (λh=>?_) λh=>?_|fail)
     exact hz _
    ·have q3:decide ((k:Int)=(c.ins.length:Int))=false:=by simp;omega
     have hex:=NS e b3 o t ho' ht' he.len he.small he.short i W1 W1;obtain⟨m,hm⟩:∃m,c.ins.length-k=m+1:=⟨c.ins.length-k-1,W1⟩;cases hst:bQ i e with
     |none=>
      have hz:=zero (NU hin (by rw[hi];exact p3) (by rw[hi];exact hst));rw[hst]at hex;change af _ _ _ _ (λv L=>v=AV.bool false)at hex;unfold nT mH
      repeat' (first|refine st ?_|((with_reducible refine aX 95 ?_);(refine GI hex (VQ (l₁:=[(b4,_)]) (l₂:=nT e b3 o t)) ?_;rintro _ K' rfl))|refine sb λnb_ hnb_=>?_|refine s2 (λh=>?_) λh=>?_|fail)
      exact hz _
     |some s2=>
      rw[hst]at hex;change af _ _ _ _ (λv L=>v=AV.bool true∧L=nT s2 b3 o t)at hex;have hrun2:gY c.ins (c.ins.length-(k+1)) s2=gY c.ins c.ins.length s:=by rw[←hrun,hm,NW hin (by rw[hi];exact p3) (by rw[hi];exact hst),show c.ins.length-(k+1)=m by omega]
      have hls:=FU hst;unfold nT mH
      repeat' (first|refine st ?_|((with_reducible refine aX 95 ?_);(refine GI hex (VQ (l₁:=[(b4,_)]) (l₂:=nT e b3 o t)) ?_;rintro _ _ ⟨rfl,rfl⟩))|refine sb λnb_ hnb_=>?_|refine s2 (λh=>?_) λh=>?_|fail)
      exact⟨k+1,s2,W1,W1,⟨he.step hU hst,⟨W1,W1⟩,hrun2⟩,gC (by rw[aD (by omega:k<c.ins.length) W1]<;>rfl) rfl⟩
end
end
section
set_option maxRecDepth 100000
set_option linter.unusedSimpArgs false
set_option linter.unusedSectionVars false
theorem NX{U:List Int}(hU:U.length≤2^30){ins:List bj}:∀(k:Nat) {s:aV},jf U s→jf U (gY ins k s).1:=by
 have hz:jf U aV.zero:=⟨rfl,W5,nofun,nofun⟩;intro k
 induction k with
 |zero=>
  intro s h;unfold gY;split
  ·split
   ·exact h
   ·exact hz
  ·exact hz
 |succ k ih=>
  intro s h;unfold gY;split
  ·split
   ·exact h
   ·split
    ·exact hz
    ·rename_i s2 he;exact ih (h.step hU he)
  ·exact hz
theorem Iw{U:List Int}(hU:U.length≤2^30){c:iy}{s:aV}(h:jf U s):jf U (bV c s).1:=by
 unfold bV;split
 ·exact NX hU _ h
 ·exact⟨rfl,W5,nofun,nofun⟩
section
variable (c:iy) (s:aV) (U:List Int) (hU:U.length≤2^30) (hr:s.regs.length<2^40) (ht:s.taint.length<2^40) (hsh:∀l∈s.taint,l.length≤2^30) (hsub:∀l∈s.taint,∀x∈l,x∈U) (hc:c.ins.length<2^40)
include hU hr ht hsh hsub hc
theorem LY:az Tryz.prog 58 [.agg c.enc,.agg s.enc] (Dk (bV c s)):=by
 refine af.fz (zO _ _ _ _ ?_);unfold nu;generalize hQ:(λ(v:AV) (L:SH)=>∃v2 L2,aG [v] L [v2] L2∧v2=Dk (bV c s)∧L2=[])=Q;have hq:∀v L,Fz L v (Dk (bV c s))→Q v L:=λv L h=>by subst hQ;exact⟨_,[],aG.all h,rfl,rfl⟩
 clear hQ;by_cases p1:(s.regs.length:Int)=c.regs
 ·have d1:decide ((s.regs.length:Int)≠c.regs)=false:=by simpa using p1
  by_cases p2:(s.taint.length:Int)=c.regs
  ·have d2:decide ((s.taint.length:Int)≠c.regs)=false:=by simpa using p2
   have hT:jf U s:=⟨W1,hr,hsh,hsub⟩;have e:bV c s=gY c.ins c.ins.length s:=by unfold bV;rw[if_pos ⟨p1,p2⟩]
   rw[e]at hq;have hcl:=JR s hr ht hsh
   repeat' (first|refine st ?_|((with_reducible refine aX 94 ?_);(refine GI (K:=[]) hcl (List.Perm.refl _) ?_;rintro _ _ ⟨o,t,rfl,rfl,ho,ht2⟩))|refine sb λnb_ hnb_=>?_|refine s2 (λh=>?_) λh=>?_|fail)
   rename_i b3 _;rcases o with _|b1<;>rcases t with _|b2
   all_goals
    repeat' (first|refine st ?_|refine sb λnb_ hnb_=>?_|refine s2 (λh=>?_) λh=>?_|fail)
    exact Iv c s U hU hT hc _ _ ho ht2 b3 nb_ Q hq
  ·have d2:decide ((s.taint.length:Int)≠c.regs)=true:=by simpa using p2
   have e:bV c s=(aV.zero,false):=by unfold bV;rw[if_neg (λh=>p2 h.2)]
   rw[e]at hq
   repeat' (first|refine st ?_|refine sb λnb_ hnb_=>?_|refine s2 (λh=>?_) λh=>?_|fail)
   exact hq _ _ (GK (GJ _))
 ·have d1:decide ((s.regs.length:Int)≠c.regs)=true:=by simpa using p1
  have e:bV c s=(aV.zero,false):=by unfold bV;rw[if_neg (λh=>p1 h.1)]
  rw[e]at hq
  repeat' (first|refine st ?_|refine sb λnb_ hnb_=>?_|refine s2 (λh=>?_) λh=>?_|fail)
  exact hq _ _ (GK (GJ _))
end
end
section
set_option maxRecDepth 100000
set_option linter.unusedSimpArgs false
def cZ(w:aM):SyncD:=⟨List.replicate w.locks.length ⟨-1,[]⟩,-1,List.replicate w.futures.length false,(List.replicate w.threads.length (⟨0,0,false⟩:ThrD)).set 0 ⟨1,0,false⟩⟩
theorem NY(w:aM)(h1:w.locks.length≤100)(h2:w.futures.length≤100)(h3:w.threads.length≤100):az Tryz.prog 54 [.agg w.enc] (.agg (cZ w).enc):=by
 refine af.fz (By _ _ _ ?_);unfold pd;generalize hQ:(λ(v:AV) (L:SH)=>∃v2 L2,aG [v] L [v2] L2∧v2=AV.agg (cZ w).enc∧L2=[])=Q
 repeat' (first|refine st ?_|refine sb λnb_ hnb_=>?_|refine s2 (λh=>?_) λh=>?_|fail)
 rename_i b2 _ b3 _ b4 _ b5 _ b6 _;refine C3 w.locks.length (λi=>([.ptr b3 0 0,.pptr [[.sl b4 0 w.locks.length,.W6 (-1),.sl b5 0 w.futures.length,.sl b6 0 w.threads.length]] 0 0,.W6 w.locks.length,.W6 i],
  [(b6,⟨3,List.replicate w.threads.length [.W6 0,.W6 0,.bool false]⟩),(b5,⟨1,List.replicate w.futures.length [.bool false]⟩),(b4,⟨2,List.replicate i [.W6 (-1),.nils]++List.replicate (w.locks.length-i) [.W6 0,.nils]⟩),(b3,⟨4,[[.nils,.W6 0,.nils,.nils]]⟩)])) (λ_=>True) trivial rfl W4 ?_
 intro i hi _;dsimp only;unfold m8;rcases Nat.lt_or_ge i w.locks.length with g1|g1
 ·have hd:=bI g1;have hx:=Pk i w.locks.length (α:=List AV) [.W6 (-1),.nils] [.W6 0,.nils] g1
  repeat' (first|refine st ?_|refine sb λnb_ hnb_=>?_|refine s2 (λh=>?_) λh=>?_|fail)
  refine⟨i+1,W1,W1,trivial,gC (by rw[aD g1 W1]<;>rfl) ?_⟩;rw[←Pj i w.locks.length _ _ g1];rfl
 ·have hd:=bO g1;have fin:∀(T:List ThrD) (L:SH),T=(cZ w).threads→L=[(b6,⟨3,T.map ThrD.enc⟩),(b5,⟨1,List.replicate w.futures.length [.bool false]⟩),(b4,⟨2,List.replicate i [.W6 (-1),.nils]++List.replicate (w.locks.length-i) [.W6 0,.nils]⟩),(b3,⟨4,[[.sl b4 0 w.locks.length,.W6 (-1),.sl b5 0 w.futures.length,.sl b6 0 w.threads.length]]⟩)]→
    Q (.agg [.sl b4 0 w.locks.length,.W6 (-1),.sl b5 0 w.futures.length,.sl b6 0 w.threads.length]) L:=by
   intro T L hT hL;subst hL;subst hQ;have hi0:i=w.locks.length:=by omega
   subst hi0;refine⟨_,[],aG.all (Fz.aggs (.cons ?_ (.cons (.refl _) (.cons ?_ (.cons ?_ .nil))))),rfl,rfl⟩
   ·refine Fz.slm (f:=λ_=>[.W6 (-1),.nils]) (.tail _ (.tail _ (.head _))) (by simp[cZ]) W5 (by simp[cZ]) (λy hy=>rfl) (λy hy q a a2 q1 q2=>?_);have:y=⟨-1,[]⟩:=by simp[cZ]at hy;exact hy.2
    subst this
    match q with
    |0=>cases q1;cases q2;exact .refl _
    |1=>cases q1;cases q2;exact .nils
    |q+2=>simp at q1
   ·exact Fz.sls (.tail _ (.head _)) (by simp[cZ,aT]) W5 (by simp[cZ])
   ·exact Fz.sls (.head _) (by rw[hT]) W5 (by simp[cZ])
  rcases We w.threads.length with g2|g2
  ·have hd2:decide ((0:Int)<(w.threads.length:Int))=false:=by simp[g2]
   repeat' (first|refine st ?_|refine sb λnb_ hnb_=>?_|refine s2 (λh=>?_) λh=>?_|fail)
   exact fin [] _ (by simp[cZ,g2]) (by simp[g2])
  ·have hd2:decide ((0:Int)<(w.threads.length:Int))=true:=by simpa using g2
   have hx0:(List.replicate w.threads.length ([.W6 0,.W6 0,.bool false]:List AV))[0]? =some [.W6 0,.W6 0,.bool false]:=by simp[g2]
   repeat' (first|refine st ?_|refine sb λnb_ hnb_=>?_|refine s2 (λh=>?_) λh=>?_|fail)
   refine fin _ _ rfl ?_;simp[cZ,ThrD.enc,Wh]
end
section
set_option maxRecDepth 100000
def zQ(Q:R)(b:Kn)(c d e f g:AV)(a:SH):Prop:=W.un .not g λh=>wk h (Q (.bool false) a) (wb .add 3 c (.W6 1) λi=>b [d,e,f,i] a)
def zR(Q:R)(f:Kn)(c:SH)(d a e g:AV):Prop:=lG 2 d a c λh=>qr [(.W6 0),.nils] 2 h c λi b=>W.faddr 0 e λj=>bY 6 j b λk=>bY 2 i b λl=>wc (.fn 28 []) [k,a,l] b (zQ Q f a e d g)
def lQ(Q:R)(d:Vs)(a:SH)(e:Kn):Prop:=yP 1 20 21 22 d λf g b c=>wb .lss 3 c b λh=>wk h ((zR Q e a g c f b)) (Q (.bool true) a)
def zS(Q:R)(b g:AV)(h:SH):Prop:=W.un .not g λa=>wg a false (W.faddr 6 b) h λi d=>wg a false (wl i d) d λj k=>wg a false (W.len j) k λl m=>wg a false (W.faddr 0 b) m λn o=>wg a false (W.faddr 4 n) o λp e=>wg a false (wl p e) e λq r=>wg a false (W.len q) r λs t=>wg a false (wb .neq 3 l s) t λu c=>W.pick a (.bool true) u λv=>wk v (Q (.bool false) c) (aA 6 b c λf=>W.len f λw=>W.loop (lQ Q) [b,f,w,(.W6 0)] c)
def nw(c:AV)(L:SH)(Q:R):Prop:=sf c L λa b=>W.faddr 0 a λd=>bY 6 d b λe=>wc (.fn 27 []) [e] b (zS Q a)
theorem zT(t0:AV)(L:SH)(Q:R)(h:nw t0 L Q):af Tryz.prog 13 [t0] L Q:=
 fs [] [(4,[1,20,21,22])] [(0,[1]),(5,[4])] [] Tryz.func13 h
def mI(Q:R)(b:Kn)(c d e f g h i j k l m:AV)(a:SH):Prop:=W.un .not m λn=>wk n (Q (.bool false) a) (wb .add 3 c (.W6 1) λo=>b [d,e,f,g,h,i,j,k,l,o] a)
def mJ(Q:R)(e:Kn)(a:SH)(b c d f g h i j k l:AV):Prop:=wv 1 b c a λm=>aA 0 d a λn=>wc (.fn 50 []) [m,n] a (mI Q e c f g d h i j k b l)
def mK(Q:R)(b:Kn)(c d e f g h i:AV)(a:SH):Prop:=W.un .not i λj=>wk j (Q (.bool false) a) (wb .add 3 c (.W6 1) λk=>b [d,e,f,g,h,k] a)
def mL(Q:R)(d:Kn)(a:SH)(b c e f g h i:AV):Prop:=bY 6 b a λj=>aA 1 c a λk=>W.len k λl=>bY 6 e a λm=>wc (.fn 52 []) [j,l,m] a (mK Q d f g b c h i)
def fS(Q:R)(k:Kn)(l:Vs)(a:SH)(m:Kn):Prop:=Px 1 3 5 8 26 27 28 78 79 80 l λb c d e f g h n i j=>wb .lss 3 j i λo=>wk o ((mJ Q m a n j d b c e f g h i)) ((mL Q k a c d e h b f g))
def mM(Q:R)(b:Kn)(c d e f g h i a:AV)(j:SH):Prop:=W.len a λk=>W.loop (fS Q b) [c,d,e,f,g,h,i,a,k,(.W6 0)] j
def dM(Q:R)(c:Kn)(d:Vs)(a:SH):Prop:=Ry 1 3 5 6 8 26 27 28 d λe f g l b h i j=>bY 6 b a λk=>wc (.fn 51 []) [k] a (mM Q c e f g b h i j)
def mN(Q:R)(c:Kn)(d:Vs)(a:SH)(b e f g h i j:AV):Prop:=aA 5 b a λk=>wb .neq 3 k (.W6 (-1)) λl=>wk l (Q (.bool false) a) (c [e,f,g,(av [1,3,5,26,27,28] d 6),b,h,i,j] a)
def mO(Q:R)(a:Vs)(b:SH):Prop:=Ry 1 3 5 6 8 26 27 28 a λd e f c g h i j=>Q c b
def mP(Q:R)(n:Kn)(o:Vs)(b c d e f g h p:AV)(q:SH):Prop:=W.un .not p λa=>wg a false (W.faddr 5 b) q λr i=>wg a false (wl r i) i λs t=>wg a false (W.faddr 5 c) t λu j=>wg a false (wl u j) j λv k=>wg a false (W.idx 3 s v k) k λw x=>wg a false (W.faddr 0 w) x λy l=>wg a false (wl y l) l λz A=>bD a false d A λB C=>wg a false (wb .neq 3 z B) C λD m=>W.pick a (.bool true) D λE=>wk E (W.join (mO Q) λF=>F [d,b,e,(.bool false),c,f,g,h] m) (n [d,b,e,(av [1,3,5,26,27,28] o 6),c,f,g,h] m)
def mQ(Q:R)(d:Kn)(e:Vs)(a:SH)(b c f g h i j:AV):Prop:=aA 5 b a λk=>aA 5 c a λl=>W.len l λm=>wc (.fn 50 []) [k,m] a (mP Q d e c b f g h i j)
def mR(Q:R)(k:Kn)(c:Vs)(a:SH)(b d e f g h i:AV):Prop:=W.join (dM Q k) λj=>aA 0 b a λl=>wb .eql 3 l (.W6 28) λm=>wk m ((mN Q j c a b d e f g h i)) ((mQ Q j c a b e d f g h i))
def mS(Q:R)(m:Kn)(n:Vs)(e:SH)(f d g o p q:AV):Prop:=lG 6 f d e λr=>qr [(.W6 0),(.W6 0),(.W6 0),(.W6 0),(.W6 0),(.W6 0)] 6 r e λb h=>aA 0 b h λs=>wb .lss 3 s (.W6 1) λc=>wg c false (W.faddr 0 b) h λt i=>wg c false (wl t i) i λu v=>wg c false (wb .gtr 3 u (.W6 28)) v λw x=>W.pick c (.bool true) w λa=>wg a false (W.faddr 0 b) x λy j=>wg a false (wl y j) j λz A=>wg a false (wb .eql 3 z (.W6 28)) A λB C=>bD a false d C λD E=>wg a false (W.faddr 1 g) E λF k=>wg a false (wl F k) k λG H=>wg a false (W.len G) H λI J=>wg a false (wb .sub 3 I (.W6 1)) J λM N=>wg a false (wb .eql 3 D M) N λO P=>wg a false (wb .neq 4 B O) P λS l=>W.pick a (.bool true) S λT=>wk T (Q (.bool false) l) ((mR Q m n l b o p g f q d))
def fT(Q:R)(b:Vs)(a:SH)(f:Kn):Prop:=Ig 1 3 5 26 27 28 b λg h c i d e=>wb .lss 3 e d λj=>wk j ((mS Q f b a i e c g h d)) (aA 1 c a λk=>wc (.fn 53 []) [k] a λl m=>Q l m)
def gm(i j k:AV)(L:SH)(Q:R):Prop:=W.box i L λl m=>W.box k m λn o=>W.frz1 l o λp q=>W.frz1 n q λa e=>aA 0 a e λr=>wb .lss 3 r (.W6 0) λc=>wg c false (W.faddr 0 a) e λs f=>wg c false (wl s f) f λt u=>wg c false (wb .gtr 3 t (.W6 32)) u λv w=>W.pick c (.bool true) v λb=>wg b false (W.faddr 1 a) w λx g=>wg b false (wl x g) g λy z=>wg b false (W.len y) z λA B=>wg b false (wb .eql 3 A (.W6 0)) B λC d=>W.pick b (.bool true) C λD=>wk D (Q (.bool false) d) (aA 1 a d λh=>W.len h λE=>W.loop (fT Q) [j,p,a,h,E,(.W6 0)] d)
theorem mT(t0 t1 t2:AV)(L:SH)(Q:R)(h:gm t0 t1 t2 L Q):af Tryz.prog 28 [t0,t1,t2] L Q:=
 fs [(12,[1,3,5,6,8,26,27,28])] [(14,[1,3,5,8,26,27,28,78,79,80]),(4,[1,3,5,26,27,28])] [(0,[3,5]),(5,[8])] [] Tryz.func28 h
def kO(Q:R)(a:AV)(b:SH):Prop:=W.ext 0 a λd=>W.ext 1 a λc=>Q c b
def kP(Q:R)(a:AV)(b:SH):Prop:=W.ext 0 a λd=>W.ext 1 a λc=>Q c b
def kQ(Q:R)(a:SH)(b c d:AV):Prop:=wb .eql 3 b (.W6 27) λe=>wk e (aA 2 c a λf=>aA 3 d a λg=>W.len g λh=>wc (.fn 50 []) [f,h] a λi j=>Q i j) (Q (.bool true) a)
def kR(Q:R)(a:SH)(b c d:AV):Prop:=wb .eql 3 b (.W6 26) λe=>wk e (aA 1 c a λf=>aA 3 d a λg=>W.len g λh=>wc (.fn 50 []) [f,h] a λi j=>Q i j) ((kQ Q a b c d))
def kS(Q:R)(d:Vs)(a:SH):Prop:=yP 3 5 12 97 d λb c e f=>wk f (aA 1 c a λg=>aA 4 b a λh=>W.len h λi=>wc (.fn 50 []) [g,i] a λj k=>Q j k) ((kR Q a e c b))
def kT(Q:R)(b:SH)(a c d:AV):Prop:=W.join (kS Q) λe=>wb .eql 3 a (.W6 24) λf=>wk f (e [c,d,a,f] b) (wb .eql 3 a (.W6 25) λg=>e [c,d,a,g] b)
def kU(Q:R)(d:Vs)(a:SH):Prop:=yP 3 5 12 87 d λb c e f=>wk f (aA 1 c a λg=>aA 2 b a λh=>W.len h λi=>wc (.fn 50 []) [g,i] a λj k=>Q j k) ((kT Q a e b c))
def kV(Q:R)(b:SH)(a c d:AV):Prop:=W.join (kU Q) λe=>wb .eql 3 a (.W6 21) λf=>wk f (e [c,d,a,f] b) (wb .eql 3 a (.W6 22) λg=>wk g (e [c,d,a,g] b) (wb .eql 3 a (.W6 23) λh=>e [c,d,a,h] b))
def kW(Q:R)(d:Vs)(a:SH):Prop:=yP 3 5 12 78 d λb c e f=>wk f (bY 6 b a λg=>aA 1 c a λh=>wc (.fn 48 []) [g,h,(.bool true)] a λi j=>Q i j) ((kV Q a e b c))
def kX(b:Kn)(c:SH)(a d e:AV):Prop:=wb .eql 3 a (.W6 14) λf=>wk f (b [d,e,a,f] c) (wb .eql 3 a (.W6 15) λg=>wk g (b [d,e,a,g] c) (wb .eql 3 a (.W6 16) λh=>b [d,e,a,h] c))
def kY(Q:R)(b:SH)(a c d:AV):Prop:=W.join (kW Q) λe=>wb .eql 3 a (.W6 13) λf=>wk f (e [c,d,a,f] b) ((kX e b a c d))
def kZ(Q:R)(d:Vs)(a:SH):Prop:=yP 3 5 12 71 d λb c e f=>wk f (bY 6 b a λg=>aA 1 c a λh=>wc (.fn 48 []) [g,h,(.bool false)] a λi j=>Q i j) ((kY Q a e b c))
def k9(Q:R)(b:SH)(a c d:AV):Prop:=W.join (kZ Q) λe=>wb .eql 3 a (.W6 11) λf=>wk f (e [c,d,a,f] b) (wb .eql 3 a (.W6 12) λg=>e [c,d,a,g] b)
def la(Q:R)(a:SH)(c d b:AV):Prop:=wb .eql 3 c (.W6 9) λe=>wk e (bY 6 d a λf=>aA 1 b a λg=>aA 4 b a λh=>wc (.fn 80 []) [f,g,h] a λi j=>Q i j) ((k9 Q a c d b))
def ld(Q:R)(a:SH)(c d b:AV):Prop:=wb .eql 3 c (.W6 7) λe=>wk e (bY 6 d a λf=>aA 2 b a λg=>aA 4 b a λh=>wc (.fn 80 []) [f,g,h] a λi j=>Q i j) ((la Q a c d b))
def lf(Q:R)(a:SH)(b c d:AV):Prop:=wb .eql 3 b (.W6 8) λe=>wk e (bY 6 c a λf=>aA 1 d a λg=>wc (.fn 79 []) [f,g] a λh i=>Q h i) ((ld Q a b c d))
def jS(Q:R)(a:SH)(b c d:AV):Prop:=wb .eql 3 b (.W6 6) λe=>wk e (bY 6 c a λf=>aA 2 d a λg=>wc (.fn 79 []) [f,g] a λh i=>Q h i) ((lf Q a b c d))
def jT(Q:R)(a:SH)(d b c e:AV):Prop:=wb .eql 3 b (.W6 10) λf=>wk f (aA 2 c a λg=>wc (.fn 50 []) [g,d] a λh i=>Q h i) ((jS Q a b e c))
def jU(Q:R)(a:SH)(b c d e:AV):Prop:=wb .eql 3 c (.W6 5) λf=>wk f (aA 1 d a λg=>wc (.fn 50 []) [g,b] a λh i=>Q h i) ((jT Q a b c d e))
def jV(Q:R)(a:SH)(d b c e:AV):Prop:=wb .eql 3 b (.W6 4) λf=>wk f (aA 4 c a λg=>wc (.fn 78 []) [g,(.W6 0),(.W6 0)] a (kP Q)) ((jU Q a d b c e))
def fG(d e f:AV)(L:SH)(Q:R):Prop:=W.box d L λg h=>W.box f h λi j=>W.frz1 g j λk l=>W.frz1 i l λb a=>aA 0 b a λc=>wb .eql 3 c (.W6 3) λm=>wk m (aA 4 b a λn=>wc (.fn 77 []) [n,(.W6 0)] a (kO Q)) ((jV Q a e c b k))
theorem lg(t0 t1 t2:AV)(L:SH)(Q:R)(h:fG t0 t1 t2 L Q):af Tryz.prog 52 [t0,t1,t2] L Q:=
 fs [(21,[3,5,12,71]),(26,[3,5,12,78]),(30,[3,5,12,87]),(33,[3,5,12,97])] [] [(0,[3,5])] [] Tryz.func52 h
def qy(Q:R)(e f a:AV)(g:SH):Prop:=wg a true (W.faddr 0 f) g λh b=>wg a true (wl h b) b λi j=>bD a true e j λk c=>wg a true (W.idx 5 i k c) c λl m=>wg a true (W.faddr 2 l) m λn d=>wg a true (wl n d) d λo p=>wg a true (wb .eql 3 o (.W6 0)) p λq r=>W.pick a q (.bool false) λs=>Q s r
def jh(d a:AV)(L:SH)(Q:R):Prop:=sf d L λb c=>aA 0 b c λe=>W.len e λf=>wc (.fn 50 []) [a,f] c (qy Q a b)
theorem qz(t0 t1:AV)(L:SH)(Q:R)(h:jh t0 t1 L Q):af Tryz.prog 79 [t0,t1] L Q:=
 fs [] [] [(0,[2])] [] Tryz.func79 h
def sT(Q:R)(d o e b:AV)(p:SH):Prop:=wg b true (W.faddr 0 e) p λq f=>wg b true (wl q f) f λr s=>bD b true d s λt g=>wg b true (W.idx 5 r t g) g λu v=>wg b true (W.faddr 1 u) v λw h=>wg b true (wl w h) h λx y=>wg b true (wb .eql 3 x (.W6 0)) y λz A=>W.pick b z (.bool false) λc=>wg c true (W.faddr 0 e) A λB i=>wg c true (wl B i) i λC D=>bD c true d D λE j=>wg c true (W.idx 5 C E j) j λF G=>wg c true (W.faddr 2 F) G λH k=>wg c true (wl H k) k λI J=>wg c true (wb .neq 3 I (.W6 0)) J λM N=>W.pick c M (.bool false) λa=>wg a true (W.faddr 0 e) N λO l=>wg a true (wl O l) l λP S=>bD a true d S λT m=>wg a true (W.idx 5 P T m) m λU V=>wg a true (W.faddr 2 U) V λX n=>wg a true (wl X n) n λY Z=>bD a true o Z λa0 a1=>wg a true (wb .eql 2 Y a0) a1 λa2 a3=>W.pick a a2 (.bool false) λa4=>Q a4 a3
def kg(d a e:AV)(L:SH)(Q:R):Prop:=sf d L λb c=>aA 0 b c λf=>W.len f λg=>wc (.fn 50 []) [a,g] c (sT Q a e b)
theorem sU(t0 t1 t2:AV)(L:SH)(Q:R)(h:kg t0 t1 t2 L Q):af Tryz.prog 80 [t0,t1,t2] L Q:=
 fs [] [] [(0,[3])] [] Tryz.func80 h
def ji(b:AV)(L:SH)(Q:R):Prop:=wb .geq 3 b (.W6 1) λa=>bD a true b L λc d=>wg a true (wb .leq 3 c (.W6 5)) d λe f=>W.pick a e (.bool false) λg=>Q g f
theorem qA(t0:AV)(L:SH)(Q:R)(h:ji t0 L Q):af Tryz.prog 81 [t0] L Q:=
 fs [] [] [] [] Tryz.func81 h
def qB(e:Kn)(a:SH)(b c d f g h i:AV):Prop:=W.idx 1 b c a λj=>W.store 1 j (.bool true) a λk=>wc (.fn 82 []) [d,c] k λl m=>e [d,f,b,g,l,h,i] m
def qC(k l:Kn)(b c d f g h a:AV)(m:SH):Prop:=bD a true b m λn o=>bD a true c o λp i=>wg a true (W.idx 1 n p i) i λq j=>wg a true (wl q j) j λr s=>wg a true (W.un .not r) s λt e=>W.pick a t (.bool false) λu=>wk u (W.idx 1 b c e λv=>W.store 1 v (.bool true) e λw=>wc (.fn 82 []) [d,c] w λx y=>k [d,b,f,x,g,h] y) (wb .add 3 h (.W6 1) λz=>l [d,b,f,g,z] e)
def eY(d:Kn)(e:Vs)(a:SH)(f:Kn):Prop:=Ig 0 3 4 6 14 15 e λb g h c i j=>eW 6 0 b c a λk=>wc (.fn 81 []) [k] a (qC f d g c b h i j)
def qD(Q:R)(l m:Kn)(c d e f g h i a:AV)(n:SH):Prop:=bD a true c n λo p=>bD a true d p λq j=>wg a true (W.idx 1 o q j) j λr k=>wg a true (wl r k) k λs t=>wg a true (W.un .not s) t λu b=>W.pick a u (.bool false) λv=>wk v (wv 1 e d b λw=>wk w (Q (.bool false) b) ((qB l b e d f c g h i))) (W.loop (eY m) [f,c,e,g,h,i] b)
def eZ(Q:R)(d:Kn)(e:Vs)(a:SH)(f:Kn):Prop:=Nt 0 3 4 5 6 14 15 e λb g h i c j k=>eW 6 0 b c a λl=>wc (.fn 81 []) [l] a (qD Q f d g c h b i j k)
def iz(Q:R)(d:Vs)(b:SH)(e:Kn):Prop:=Hl 0 3 4 14 15 d λf g h c a=>wb .lss 3 a c λi=>wk i (W.loop (eZ Q e) [f,g,h,a,a,c,a] b) (Q (.bool true) b)
def jj(a:AV)(L:SH)(Q:R):Prop:=W.len a λb=>W.mslice 1 1 [(.bool false)] b b L λd e=>W.len a λc=>W.mslice 1 1 [(.bool false)] c c e λf g=>W.len a λh=>W.loop (iz Q) [a,d,f,h,(.W6 0)] g
theorem qE(t0:AV)(L:SH)(Q:R)(h:jj t0 L Q):af Tryz.prog 53 [t0] L Q:=
 fs [] [(7,[0,3,4,5,6,14,15]),(13,[0,3,4,6,14,15]),(4,[0,3,4,14,15])] [] [] Tryz.func53 h
def iA(b a:AV)(L:SH)(Q:R):Prop:=eW 6 0 b a L λc=>wb .eql 3 c (.W6 5) λd=>wk d (eW 6 1 b a L λe=>Q e L) (wb .add 3 a (.W6 1) λf=>Q f L)
theorem pn(t0 t1:AV)(L:SH)(Q:R)(h:iA t0 t1 L Q):af Tryz.prog 82 [t0,t1] L Q:=
 fs [] [] [] [] Tryz.func82 h
def nU(Q:R)(b:Kn)(c d e f g:AV)(a:SH):Prop:=W.un .not g λh=>wk h (Q (.bool false) a) (wb .add 3 c (.W6 1) λi=>b [d,e,f,i] a)
def nV(Q:R)(f:Kn)(b:SH)(c d e g:AV):Prop:=lG 2 c d b λh=>qr [(.str []),(.W6 0)] 2 h b λi a=>bY 6 e a λj=>aA 1 i a λk=>wc (.fn 48 []) [j,k,(.bool false)] a (nU Q f d e c g)
def gp(Q:R)(e:Vs)(a:SH)(f:Kn):Prop:=yP 1 60 61 62 e λb g c d=>wb .lss 3 d c λh=>wk h ((nV Q f a g d b c)) (bY 6 b a λi=>wc (.fn 49 []) [i] a λj k=>Q j k)
def nW(Q:R)(b d:AV)(e:SH):Prop:=W.ext 0 d λh=>W.ext 1 d λi=>W.un .not i λa=>wg a false (bY 6 b e) e λj k=>bD a false h k λl f=>W.grd a false (λm=>wc (.fn 47 []) [j,l] f λn o=>m n o) f λp q=>wg a false (W.un .not p) q λr c=>W.pick a (.bool true) r λs=>wk s (Q (.bool false) c) (aA 2 b c λg=>W.len g λt=>W.loop (gp Q) [b,g,t,(.W6 0)] c)
def nX(Q:R)(d:SH)(b:AV):Prop:=aA 4 b d λf=>W.len f λg=>wb .lss 3 g (.W6 1) λa=>wg a false (W.faddr 4 b) d λh e=>wg a false (wl h e) e λi j=>wg a false (W.len i) j λk l=>wg a false (wb .gtr 3 k (.W6 4)) l λm c=>W.pick a (.bool true) m λn=>wk n (Q (.bool false) c) (aA 0 b c λo=>wc (.fn 46 []) [o] c (nW Q b))
def gZ(l:AV)(L:SH)(Q:R):Prop:=sf l L λa f=>aA 0 a f λm=>W.len m λn=>wb .gtr 3 n (.W6 12) λb=>wg b false (W.faddr 1 a) f λo g=>wg b false (wl o g) g λp q=>wg b false (W.len p) q λr s=>wg b false (wb .gtr 3 r (.W6 4)) s λt u=>W.pick b (.bool true) t λc=>wg c false (W.faddr 2 a) u λv h=>wg c false (wl v h) h λw x=>wg c false (W.len w) x λy z=>wg c false (wb .gtr 3 y (.W6 2)) z λA B=>W.pick c (.bool true) A λd=>wg d false (W.faddr 3 a) B λC i=>wg d false (wl C i) i λD E=>wg d false (W.len D) E λF G=>wg d false (wb .gtr 3 F (.W6 2)) G λH I=>W.pick d (.bool true) H λe=>wg e false (W.faddr 5 a) I λJ j=>wg e false (wl J j) j λM N=>wg e false (W.len M) N λO P=>wg e false (wb .gtr 3 O (.W6 60)) P λS k=>W.pick e (.bool true) S λT=>wk T (Q (.bool false) k) ((nX Q k a))
theorem nY(t0:AV)(L:SH)(Q:R)(h:gZ t0 L Q):af Tryz.prog 27 [t0] L Q:=
 fs [] [(9,[1,60,61,62])] [(0,[1]),(10,[6])] [] Tryz.func27 h
def nZ(Q:R)(b:Kn)(a:SH)(c d e f:AV):Prop:=aA 1 c a λg=>wb .neq 3 g (.W6 0) λh=>wk h (Q (.tup [.nils,(.bool false)]) a) (wb .add 3 d (.W6 1) λi=>b [e,f,i] a)
def oa(Q:R)(f:Kn)(g:SH)(b c d e h i:AV):Prop:=W.faddr 1 b λj=>W.store 1 j c g λa=>(true=true)∧(wb .add 3 d c λk=>di [] 4 5 e k a λl m=>dr [] 5 5 l a λn o=>dr [rm 5 o,rm 4 m] 6 5 b a λp s=>wb .neq 58 n p λq=>wk q (Q (.tup [.nils,(.bool false)]) a) (wb .add 3 c (.W6 1) λr=>f [e,h,d,b,i,r] a))
def dR(Q:R)(h:Kn)(i:Vs)(a:SH)(j:Kn):Prop:=Ig 0 4 5 6 51 52 i λb c d e f g=>wb .lss 3 g f λk=>wk k ((oa Q j a e g d b c f)) (aA 2 e a λl=>wb .add 3 d l λm=>h [b,c,m] a)
def oe(Q:R)(l:Kn)(f:SH)(b g h m:AV):Prop:=aA 2 b f λn=>wb .lss 3 n (.W6 1) λc=>wg c false (W.faddr 2 b) f λo i=>wg c false (wl o i) i λp q=>wg c false (wb .gtr 3 p (.W6 4)) q λr s=>W.pick c (.bool true) r λd=>wg d false (W.faddr 3 b) s λt j=>wg d false (wl t j) j λu v=>W.pick d (.bool true) u λa=>wg a false (W.faddr 2 b) v λw k=>wg a false (wl w k) k λx y=>bD a false g y λz A=>wg a false (W.len z) A λB C=>bD a false h C λD E=>wg a false (wb .sub 3 B D) E λF G=>wg a false (wb .gtr 3 x F) G λH e=>W.pick a (.bool true) H λI=>wk I (Q (.tup [.nils,(.bool false)]) e) (aA 2 b e λJ=>W.loop (dR Q l) [g,m,h,b,J,(.W6 0)] e)
def og(Q:R)(e:Kn)(f:SH)(b c i:AV):Prop:=lG 5 b c f λj=>W.alloc [(.str []),(.W6 0),(.W6 0),(.bool false),(.W6 0)] f λa k=>W.store 5 a j k λg=>aA 0 a g λl=>W.bslice 1 [(.str [])] 1 [(0,l)] g λm n=>W.append 1 16 i m n λh d=>aA 2 a d λo=>wb .eql 3 o (.W6 0) λp=>wk p ((nZ Q e d a c b h)) ((oe Q e d a b c h))
def gq(Q:R)(e:Vs)(a:SH)(f:Kn):Prop:=sg 0 4 5 e λb c d=>W.len b λg=>wb .lss 3 d g λh=>wk h ((og Q f a b d c)) (Q (.tup [c,(.bool true)]) a)
def eD(a:AV)(L:SH)(Q:R):Prop:=W.loop (gq Q) [a,.nils,(.W6 0)] L
theorem gr(t0:AV)(L:SH)(Q:R)(h:eD t0 L Q):af Tryz.prog 46 [t0] L Q:=
 fs [] [(13,[0,4,5,6,51,52]),(3,[0,4,5])] [] [(16,[0,0,0,6,15,31,0,127])] Tryz.func46 h
def oh(Q:R)(c:Kn)(d:Vs)(a:SH):Prop:=Nt 1 3 4 6 8 9 10 d λe f b g h i j=>aA 1 g a λk=>wb .neq 3 k b λl=>wk l (Q (.bool false) a) (wb .add 3 b (.W6 1) λm=>wb .add 3 j (.W6 1) λn=>c [e,f,m,h,i,n] a)
def oo(Q:R)(i:Kn)(a:SH)(b c d e f g j:AV):Prop:=W.join (oh Q i) λh=>aA 0 b a λk=>wb .gtr 3 k c λl=>wk l (aA 0 b a λm=>h [d,m,(.W6 0),b,e,f,g] a) (h [d,c,j,b,e,f,g] a)
def oq(Q:R)(l:Kn)(c:SH)(d e f g m n:AV):Prop:=lG 3 d e c λo=>qr [(.W6 0),(.W6 0),(.W6 0)] 3 o c λb h=>aA 0 b h λp=>wb .lss 3 p f λa=>wg a false (W.faddr 0 b) h λq i=>wg a false (wl q i) i λr s=>wg a false (W.faddr 4 g) s λt j=>wg a false (wl t j) j λu v=>wg a false (W.len u) v λw x=>wg a false (wb .geq 3 r w) x λy k=>W.pick a (.bool true) y λz=>wk z (Q (.bool false) k) ((oo Q l k b f g d m e n))
def gt(Q:R)(d:Vs)(a:SH)(e:Kn):Prop:=Ig 1 3 4 8 9 10 d λf g h i b c=>wb .lss 3 c b λj=>wk j ((oq Q e a i c g f b h)) (Q (.bool true) a)
def hC(d:AV)(L:SH)(Q:R):Prop:=sf d L λa b=>aA 5 a b λc=>W.len c λe=>W.loop (gt Q) [a,(.W6 0),(.W6 0),c,e,(.W6 0)] b
theorem ou(t0:AV)(L:SH)(Q:R)(h:hC t0 L Q):af Tryz.prog 49 [t0] L Q:=
 fs [(8,[1,3,4,6,8,9,10])] [(3,[1,3,4,8,9,10])] [(0,[1]),(4,[6])] [] Tryz.func49 h
def xw(Q:R)(e f g a:AV)(h:SH):Prop:=wg a true (W.faddr 1 g) h λi b=>wg a true (wl i b) b λj k=>bD a true e k λl c=>wg a true (W.idx 2 j l c) c λm n=>wg a true (W.faddr 1 m) n λo d=>wg a true (wl o d) d λp q=>bD a true f q λr s=>wg a true (wb .eql 4 p r) s λt u=>W.pick a t (.bool false) λv=>Q v u
def lR(d a e:AV)(L:SH)(Q:R):Prop:=sf d L λb c=>aA 1 b c λf=>W.len f λg=>wc (.fn 50 []) [a,g] c (xw Q a e b)
theorem xx(t0 t1 t2:AV)(L:SH)(Q:R)(h:lR t0 t1 t2 L Q):af Tryz.prog 48 [t0,t1,t2] L Q:=
 fs [] [] [(0,[3])] [] Tryz.func48 h
def lS(b c:AV)(L:SH)(Q:R):Prop:=wb .geq 3 b (.W6 0) λa=>bD a true b L λd e=>bD a true c e λf g=>wg a true (wb .lss 3 d f) g λh i=>W.pick a h (.bool false) λj=>Q j i
theorem xy(t0 t1:AV)(L:SH)(Q:R)(h:lS t0 t1 L Q):af Tryz.prog 50 [t0,t1] L Q:=
 fs [] [] [] [] Tryz.func50 h
def po(Q:R)(a:SH)(b:AV):Prop:=aA 1 b a λc=>aA 2 b a λd=>aA 3 b a λe=>W.bslice 1 [(.W6 0)] 3 [(0,c),(1,d),(2,e)] a λf g=>Q f g
def pp(Q:R)(a:SH)(c b:AV):Prop:=wb .eql 3 c (.W6 9) λd=>wk d (aA 2 b a λe=>aA 3 b a λf=>W.bslice 1 [(.W6 0)] 2 [(0,e),(1,f)] a λg h=>Q g h) (Q .nils a)
def pq(Q:R)(c:Vs)(a:SH):Prop:=sg 1 4 37 c λb d e=>wk e (aA 2 b a λf=>W.bslice 1 [(.W6 0)] 1 [(0,f)] a λg h=>Q g h) ((pp Q a d b))
def pr(Q:R)(b:SH)(a c:AV):Prop:=W.join (pq Q) λd=>wb .eql 3 a (.W6 8) λe=>wk e (d [c,a,e] b) (wb .eql 3 a (.W6 26) λf=>d [c,a,f] b)
def pt(Q:R)(a:SH)(c b:AV):Prop:=wb .eql 3 c (.W6 7) λd=>wk d (aA 1 b a λe=>aA 3 b a λf=>W.bslice 1 [(.W6 0)] 2 [(0,e),(1,f)] a λg h=>Q g h) ((pr Q a c b))
def pu(Q:R)(d:Vs)(a:SH):Prop:=sg 1 4 13 d λb c e=>wk e (aA 1 b a λf=>aA 2 b a λg=>W.bslice 1 [(.W6 0)] 2 [(0,f),(1,g)] a λh i=>Q h i) (wb .eql 3 c (.W6 4) λj=>wk j ((po Q a b)) ((pt Q a c b)))
def pw(Q:R)(b:SH)(a c:AV):Prop:=W.join (pu Q) λd=>wb .eql 3 a (.W6 2) λe=>wk e (d [c,a,e] b) (wb .eql 3 a (.W6 3) λf=>d [c,a,f] b)
def px(Q:R)(c:Vs)(a:SH):Prop:=sg 1 4 5 c λb d e=>wk e (aA 1 b a λf=>W.bslice 1 [(.W6 0)] 1 [(0,f)] a λg h=>Q g h) ((pw Q a d b))
def py(b:Kn)(c:SH)(a d:AV):Prop:=wb .eql 3 a (.W6 6) λe=>wk e (b [d,a,e] c) (wb .eql 3 a (.W6 10) λf=>wk f (b [d,a,f] c) (wb .eql 3 a (.W6 27) λg=>b [d,a,g] c))
def iB(f:AV)(L:SH)(Q:R):Prop:=sf f L λa b=>aA 0 a b λc=>W.join (px Q) λd=>wb .eql 3 c (.W6 1) λe=>wk e (d [a,c,e] b) ((py d b c a))
theorem pz(t0:AV)(L:SH)(Q:R)(h:iB t0 L Q):af Tryz.prog 51 [t0] L Q:=
 fs [(5,[1,4,5]),(8,[1,4,13]),(15,[1,4,37])] [] [(0,[1])] [] Tryz.func51 h
end
end Go.Proofs.YtenbpcngcicamaaGreatDoor.Am
