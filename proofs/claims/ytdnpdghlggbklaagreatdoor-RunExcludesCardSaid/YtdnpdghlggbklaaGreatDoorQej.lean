/- A part of the proof; the statement is proved in the last part. -/
import Derived.Test.YtdnpdghlggbklaaGreatDoorQei
set_option linter.unusedSimpArgs false
set_option linter.unusedVariables false
namespace Go.Proofs.YtdnpdghlggbklaaGreatDoor.Am
section
set_option maxRecDepth 100000
def xk(a:AV)(L:SH)(Q:R):Prop:=wk a (Q (.Xm 1) L) (Q (.Xm 0) L)
theorem E2(t0:AV)(L:SH)(Q:R)(h:xk t0 L Q):af Tryz.prog 129 [t0] L Q:=
 fs [] [] [] [] Tryz.func129 h
def E3(Q:R)(L:SH)(a b:AV):Prop:=wb .eql 3 a (.Xm 5) λc=>wk c (wb .eql 2 b (.Xm 0) λd=>wc (.fn 129 []) [d] L λe f=>Q (.tup [e,(.bool true)]) f) (Q (.tup [(.Xm 0),(.bool false)]) L)
def xl(a b:AV)(L:SH)(Q:R):Prop:=wb .eql 3 a (.Xm 4) λc=>wk c (W.un .neg b λd=>Q (.tup [d,(.bool true)]) L) ((E3 Q L a b))
theorem E4(t0 t1:AV)(L:SH)(Q:R)(h:xl t0 t1 L Q):af Tryz.prog 103 [t0,t1] L Q:=
 fs [] [] [] [] Tryz.func103 h
def Dp(Q:R)(L:SH)(b c:AV):Prop:=wb .neq 2 b (.Xm 0) λa=>bB a true c L λd e=>wg a true (wb .neq 2 d (.Xm 0)) e λf g=>W.pick a f (.bool false) λh=>wc (.fn 129 []) [h] g λi j=>Q (.tup [i,(.bool true)]) j
def Dq(Q:R)(L:SH)(b c:AV):Prop:=wb .neq 2 b (.Xm 0) λa=>bB a false c L λd e=>wg a false (wb .neq 2 d (.Xm 0)) e λf g=>W.pick a (.bool true) f λh=>wc (.fn 129 []) [h] g λi j=>Q (.tup [i,(.bool true)]) j
def Dr(Q:R)(L:SH)(a b c:AV):Prop:=wb .eql 3 a (.Xm 17) λd=>wk d ((Dp Q L b c)) (wb .eql 3 a (.Xm 18) λe=>wk e ((Dq Q L b c)) (Q (.tup [(.Xm 0),(.bool false)]) L))
def Ds(Q:R)(L:SH)(a b c:AV):Prop:=wb .eql 3 a (.Xm 16) λd=>wk d (wb .geq 2 b c λe=>wc (.fn 129 []) [e] L λf g=>Q (.tup [f,(.bool true)]) g) ((Dr Q L a b c))
def Dt(Q:R)(L:SH)(a b c:AV):Prop:=wb .eql 3 a (.Xm 15) λd=>wk d (wb .gtr 2 b c λe=>wc (.fn 129 []) [e] L λf g=>Q (.tup [f,(.bool true)]) g) ((Ds Q L a b c))
def Du(Q:R)(L:SH)(a b c:AV):Prop:=wb .eql 3 a (.Xm 14) λd=>wk d (wb .leq 2 b c λe=>wc (.fn 129 []) [e] L λf g=>Q (.tup [f,(.bool true)]) g) ((Dt Q L a b c))
def Dv(Q:R)(L:SH)(a b c:AV):Prop:=wb .eql 3 a (.Xm 13) λd=>wk d (wb .lss 2 b c λe=>wc (.fn 129 []) [e] L λf g=>Q (.tup [f,(.bool true)]) g) ((Du Q L a b c))
def Dw(Q:R)(L:SH)(a b c:AV):Prop:=wb .eql 3 a (.Xm 12) λd=>wk d (wb .neq 2 b c λe=>wc (.fn 129 []) [e] L λf g=>Q (.tup [f,(.bool true)]) g) ((Dv Q L a b c))
def Dx(Q:R)(L:SH)(a b c:AV):Prop:=wb .eql 3 a (.Xm 11) λd=>wk d (wb .eql 2 b c λe=>wc (.fn 129 []) [e] L λf g=>Q (.tup [f,(.bool true)]) g) ((Dw Q L a b c))
def Dy(Q:R)(L:SH)(b a c:AV):Prop:=wb .eql 3 b (.Xm 10) λd=>wk d (wb .eql 2 a (.Xm 0) λe=>wk e (Q (.tup [(.Xm 0),(.bool true)]) L) (wb .rem 2 c a λf=>Q (.tup [f,(.bool true)]) L)) ((Dx Q L b c a))
def BU(Q:R)(L:SH)(b a c:AV):Prop:=wb .eql 3 b (.Xm 9) λd=>wk d (wb .eql 2 a (.Xm 0) λe=>wk e (Q (.tup [(.Xm 0),(.bool true)]) L) (wb .quo 2 c a λf=>Q (.tup [f,(.bool true)]) L)) ((Dy Q L b a c))
def BV(Q:R)(L:SH)(a b c:AV):Prop:=wb .eql 3 a (.Xm 7) λd=>wk d (wb .sub 2 b c λe=>Q (.tup [e,(.bool true)]) L) (wb .eql 3 a (.Xm 8) λf=>wk f (wb .mul 2 b c λg=>Q (.tup [g,(.bool true)]) L) ((BU Q L a c b)))
def sC(a b c:AV)(L:SH)(Q:R):Prop:=wb .eql 3 a (.Xm 6) λd=>wk d (wb .add 2 b c λe=>Q (.tup [e,(.bool true)]) L) ((BV Q L a b c))
theorem Dz(t0 t1 t2:AV)(L:SH)(Q:R)(h:sC t0 t1 t2 L Q):af Tryz.prog 104 [t0,t1,t2] L Q:=
 fs [] [] [] [] Tryz.func104 h
def pq(a b:AV)(L:SH)(Q:R):Prop:=W.len a λd=>W.len b λe=>wb .add 3 d e λf=>W.mslice 1 8 [(.Xm 0)] (.Xm 0) f L λg h=>W.append 1 8 g a h λi j=>W.append 1 8 i b j λc k=>wc (.fn 74 []) [c] k λo l=>wc (.fn 75 []) [c] l λm n=>Q m n
theorem BW(t0 t1:AV)(L:SH)(Q:R)(h:pq t0 t1 L Q):af Tryz.prog 117 [t0,t1] L Q:=
 fs [] [] [] [] Tryz.func117 h
def iy(d:Kn)(a b e f g h i:AV)(c:SH):Prop:=W.idx 1 a b c λj=>W.store 1 j i c λk=>wb .add 3 b (.Xm 1) λl=>d [e,f,a,g,h,l] k
def iz(Q:R)(j:Vs)(a:SH)(k:Kn):Prop:=Ih 1 2 3 15 16 17 j λb c e f g d=>wb .lss 3 d g λl=>wk l (wJ 1 f d a λm=>wc (.fn 81 []) [m] a (iy k e d b c f g)) (W.faddr 2 b λn=>W.store 1 n e a λh=>bZ 4 b h λo=>W.store 4 c o h λi=>W.load true 4 c i λp=>Q p i)
def nz(Q:R)(a f g:AV)(h:SH):Prop:=W.faddr 1 a λi=>W.store 1 i g h λb=>aA 2 a b λj=>W.len j λc=>W.mslice 1 24 [.nils] c c b λk d=>aA 2 a d λe=>W.len e λl=>W.loop (iz Q) [a,f,k,e,l,(.Xm 0)] d
def pr(c:AV)(L:SH)(Q:R):Prop:=W.box c L λa d=>W.alloc [(.Xm 0),.nils,.nils,(.Xm 0)] d λe b=>aA 1 a b λf=>wc (.fn 80 []) [f] b (nz Q a e)
theorem BX(t0:AV)(L:SH)(Q:R)(h:pr t0 L Q):af Tryz.prog 82 [t0] L Q:=
 fs [] [(4,[1,2,3,15,16,17])] [] [] Tryz.func82 h
def jr(b e:AV)(L:SH)(Q:R):Prop:=wb .geq 3 b (.Xm 0) λa=>bB a true b L λf c=>wg a true (wl e c) c λg h=>wg a true (W.nilchk g) h λi j=>wg a true (W.faddr 1 i) j λk d=>wg a true (wl k d) d λl m=>wg a true (W.len l) m λn o=>wg a true (wb .lss 3 f n) o λp q=>W.pick a p (.bool false) λr=>Q r q
theorem qH(t0 t1:AV)(L:SH)(Q:R)(h:jr t0 t1 L Q):af Tryz.prog 116 [t0,t1] L Q:=
 fs [] [] [] [] Tryz.func116 h
def xm(Q:R)(c:Vs)(a:SH):Prop:=vY 2 4 6 c λd k e=>wl d a λb=>dO 0 b a λf=>wb .add 3 f (.Xm 1) λg=>W.nilchk b λh=>W.faddr 0 h λi=>W.store 1 i g a λj=>Q e j
def xn(k:Kn)(a:SH)(e f:AV):Prop:=(true=true)∧(dl [] 0 e a λl b=>W.nilchk l λm=>aM 1 m [] 3 a λn c=>aM 1 f [rm 3 c,rm 0 b] 5 a λo d=>dl [rm 5 d,rm 3 c,rm 0 b] 6 e a λp h=>W.nilchk p λq=>aM 2 q [rm 5 d,rm 3 c,rm 0 b] 9 a λr i=>aM 1 f [rm 9 i,rm 6 h,rm 5 d,rm 3 c,rm 0 b] 11 a λs g=>aM 4 f [rm 11 g,rm 9 i,rm 6 h,rm 5 d,rm 3 c,rm 0 b] 13 a λt x=>di [rm 11 g] 14 1 n o a λu y=>ds [rm 11 g] 15 1 u t a λj z=>di [] 16 1 r s j λv A=>ds [] 17 1 v .nils j λw B=>k [e,(.bool false),(.bool true)] w)
def xo(Q:R)(b:Kn)(c d e:AV)(a:SH):Prop:=W.un .not e λf=>wk f (Q (.bool false) a) ((xn b a c d))
def xp(d:Kn)(e:SH)(f g h i j k:AV)(a:Fp)(l:AV)(b:SH)(m:Ns):Prop:=wn [] m [] e.names λq=>di [rm 11 a] 29 1 f g b λn r=>ds [rm 11 a] 30 1 n h b λc s=>di [] 31 1 i j c λo t=>ds [] 32 1 o l c λp u=>d [k,(.bool false),(.bool true)] p
def xq(o:Kn)(a:SH)(m n:AV):Prop:=(true=true)∧(dl [] 0 m a λp b=>W.nilchk p λq=>aM 1 q [] 3 a λr c=>aM 1 n [rm 3 c,rm 0 b] 5 a λs d=>dl [rm 5 d,rm 3 c,rm 0 b] 6 m a λt e=>W.nilchk t λu=>aM 2 u [rm 5 d,rm 3 c,rm 0 b] 9 a λv f=>aM 1 n [rm 9 f,rm 6 e,rm 5 d,rm 3 c,rm 0 b] 11 a λw g=>dl [rm 11 g,rm 9 f,rm 6 e,rm 5 d,rm 3 c,rm 0 b] 12 m a λx h=>W.nilchk x λy=>aM 1 y [rm 11 g,rm 9 f,rm 6 e,rm 5 d,rm 3 c,rm 0 b] 15 a λz i=>aM 2 n [rm 15 i,rm 12 h,rm 11 g,rm 9 f,rm 6 e,rm 5 d,rm 3 c,rm 0 b] 17 a λA j=>di [rm 11 g,rm 9 f,rm 6 e,rm 5 d,rm 3 c,rm 0 b] 18 1 z A a λB k=>dl [rm 11 g,rm 9 f,rm 6 e,rm 5 d,rm 3 c,rm 0 b] 19 B a λC l=>dl [rm 19 l,rm 18 k,rm 17 j,rm 15 i,rm 12 h,rm 11 g,rm 9 f,rm 6 e,rm 5 d,rm 3 c,rm 0 b] 20 m a λD E=>W.nilchk D λF=>aM 2 F [rm 19 l,rm 18 k,rm 17 j,rm 15 i,rm 12 h,rm 11 g,rm 9 f,rm 6 e,rm 5 d,rm 3 c,rm 0 b] 23 a λG H=>aM 2 n [rm 23 H,rm 20 E,rm 19 l,rm 18 k,rm 17 j,rm 15 i,rm 12 h,rm 11 g,rm 9 f,rm 6 e,rm 5 d,rm 3 c,rm 0 b] 25 a λI N=>di [rm 19 l,rm 18 k,rm 17 j,rm 15 i,rm 12 h,rm 11 g,rm 9 f,rm 6 e,rm 5 d,rm 3 c,rm 0 b] 26 1 G I a λJ O=>dl [rm 19 l,rm 18 k,rm 17 j,rm 15 i,rm 12 h,rm 11 g,rm 9 f,rm 6 e,rm 5 d,rm 3 c,rm 0 b] 27 J a λM P=>wd [rm 19 l,rm 18 k,rm 17 j,rm 15 i,rm 12 h,rm 11 g,rm 9 f,rm 6 e,rm 5 d,rm 3 c,rm 0 b] 28 (.fn 81 []) [M] a (xp o a r s C v w m g))
def xr(Q:R)(g:Kn)(b c h:AV)(i:SH):Prop:=W.un .not h λa=>bB a false (.fn 116 [b]) i λj k=>wg a false (W.faddr 2 c) k λl d=>wg a false (wl l d) d λm e=>W.grd a false (λn=>wc j [m] e λo p=>n o p) e λq r=>wg a false (W.un .not q) r λs f=>W.pick a (.bool true) s λt=>wk t (Q (.bool false) f) ((xq g f b c))
def xt(b:Kn)(c:SH)(d e f g h:AV)(a:SH)(i:Ns):Prop:=wn [] i [] c.names λl=>di [] 15 1 d e a λj m=>ds [] 16 1 j h a λk n=>b [f,(.bool false),g] k
def xu(i:Kn)(j:SH)(k l e f g:AV)(h:SH)(m:Ns):Prop:=wn [] m [] j.names λC=>W.ext 0 g λn=>W.ext 1 g λo=>di [] 20 1 k l h λp D=>ds [] 21 1 p n h λa E=>(true=true)∧(dl [] 0 e a λq b=>W.nilchk q λr=>aM 2 r [] 3 a λs c=>aM 1 f [rm 3 c,rm 0 b] 5 a λt d=>dl [rm 5 d,rm 3 c,rm 0 b] 6 e a λu v=>W.nilchk u λw=>aM 2 w [rm 5 d,rm 3 c,rm 0 b] 9 a λx y=>aM 2 f [rm 9 y,rm 6 v,rm 5 d,rm 3 c,rm 0 b] 11 a λz F=>di [rm 5 d,rm 3 c,rm 0 b] 12 1 x z a λA G=>dl [rm 5 d,rm 3 c,rm 0 b] 13 A a λB H=>wd [rm 5 d,rm 3 c,rm 0 b] 14 (.fn 81 []) [B] a (xt i a s t e o))
def xv(h:Kn)(a:SH)(g f:AV):Prop:=(true=true)∧(dl [] 0 g a λi b=>W.nilchk i λj=>aM 1 j [] 3 a λk c=>aM 1 f [rm 3 c,rm 0 b] 5 a λl d=>aM 4 f [rm 5 d,rm 3 c,rm 0 b] 7 a λm e=>dl [rm 7 e,rm 5 d,rm 3 c,rm 0 b] 8 g a λn o=>W.nilchk n λp=>aM 1 p [rm 7 e,rm 5 d,rm 3 c,rm 0 b] 11 a λq r=>aM 2 f [rm 11 r,rm 8 o,rm 7 e,rm 5 d,rm 3 c,rm 0 b] 13 a λs v=>di [rm 7 e,rm 5 d,rm 3 c,rm 0 b] 14 1 q s a λt w=>dl [rm 7 e,rm 5 d,rm 3 c,rm 0 b] 15 t a λu x=>wd [rm 5 d,rm 3 c,rm 0 b] 16 (.fn 103 []) [m,u] a (xu h a k l g f))
def xw(Q:R)(g:Kn)(b c h:AV)(i:SH):Prop:=W.un .not h λa=>bB a false (.fn 116 [b]) i λj k=>wg a false (W.faddr 2 c) k λl d=>wg a false (wl l d) d λm e=>W.grd a false (λn=>wc j [m] e λo p=>n o p) e λq r=>wg a false (W.un .not q) r λs f=>W.pick a (.bool true) s λt=>wk t (Q (.bool false) f) ((xv g f b c))
def xx(b:Kn)(c:SH)(d e f g h:AV)(a:SH)(i:Ns):Prop:=wn [] i [] c.names λl=>di [] 23 1 d e a λj m=>ds [] 24 1 j h a λk n=>b [f,(.bool false),g] k
def xy(n:Kn)(o:SH)(p q j k l:AV)(m:SH)(r:Ns):Prop:=wn [] r [] o.names λP=>W.ext 0 l λs=>W.ext 1 l λt=>di [] 28 1 p q m λu S=>ds [] 29 1 u s m λa T=>(true=true)∧(dl [] 0 j a λv b=>W.nilchk v λw=>aM 2 w [] 3 a λx c=>aM 1 k [rm 3 c,rm 0 b] 5 a λy d=>dl [rm 5 d,rm 3 c,rm 0 b] 6 j a λz e=>W.nilchk z λA=>aM 2 A [rm 5 d,rm 3 c,rm 0 b] 9 a λB f=>aM 2 k [rm 9 f,rm 6 e,rm 5 d,rm 3 c,rm 0 b] 11 a λC g=>di [rm 5 d,rm 3 c,rm 0 b] 12 1 B C a λD h=>dl [rm 5 d,rm 3 c,rm 0 b] 13 D a λE i=>dl [rm 13 i,rm 12 h,rm 11 g,rm 9 f,rm 6 e,rm 5 d,rm 3 c,rm 0 b] 14 j a λF G=>W.nilchk F λH=>aM 2 H [rm 13 i,rm 12 h,rm 11 g,rm 9 f,rm 6 e,rm 5 d,rm 3 c,rm 0 b] 17 a λI J=>aM 3 k [rm 17 J,rm 14 G,rm 13 i,rm 12 h,rm 11 g,rm 9 f,rm 6 e,rm 5 d,rm 3 c,rm 0 b] 19 a λM U=>di [rm 13 i,rm 12 h,rm 11 g,rm 9 f,rm 6 e,rm 5 d,rm 3 c,rm 0 b] 20 1 I M a λN V=>dl [rm 13 i,rm 12 h,rm 11 g,rm 9 f,rm 6 e,rm 5 d,rm 3 c,rm 0 b] 21 N a λO X=>wd [rm 5 d,rm 3 c,rm 0 b] 22 (.fn 117 []) [E,O] a (xx n a x y j t))
def xz(m:Kn)(a:SH)(l h:AV):Prop:=(true=true)∧(dl [] 0 l a λn b=>W.nilchk n λo=>aM 1 o [] 3 a λp c=>aM 1 h [rm 3 c,rm 0 b] 5 a λq d=>aM 4 h [rm 5 d,rm 3 c,rm 0 b] 7 a λr e=>dl [rm 7 e,rm 5 d,rm 3 c,rm 0 b] 8 l a λs f=>W.nilchk s λt=>aM 1 t [rm 7 e,rm 5 d,rm 3 c,rm 0 b] 11 a λu g=>aM 2 h [rm 11 g,rm 8 f,rm 7 e,rm 5 d,rm 3 c,rm 0 b] 13 a λv i=>di [rm 7 e,rm 5 d,rm 3 c,rm 0 b] 14 1 u v a λw j=>dl [rm 7 e,rm 5 d,rm 3 c,rm 0 b] 15 w a λx k=>dl [rm 15 k,rm 14 j,rm 13 i,rm 11 g,rm 8 f,rm 7 e,rm 5 d,rm 3 c,rm 0 b] 16 l a λy z=>W.nilchk y λA=>aM 1 A [rm 15 k,rm 14 j,rm 13 i,rm 11 g,rm 8 f,rm 7 e,rm 5 d,rm 3 c,rm 0 b] 19 a λB C=>aM 3 h [rm 19 C,rm 16 z,rm 15 k,rm 14 j,rm 13 i,rm 11 g,rm 8 f,rm 7 e,rm 5 d,rm 3 c,rm 0 b] 21 a λD G=>di [rm 15 k,rm 14 j,rm 13 i,rm 11 g,rm 8 f,rm 7 e,rm 5 d,rm 3 c,rm 0 b] 22 1 B D a λE H=>dl [rm 15 k,rm 14 j,rm 13 i,rm 11 g,rm 8 f,rm 7 e,rm 5 d,rm 3 c,rm 0 b] 23 E a λF I=>wd [rm 5 d,rm 3 c,rm 0 b] 24 (.fn 104 []) [r,x,F] a (xy m a p q l h))
def xA(Q:R)(j:Kn)(c d k:AV)(l:SH):Prop:=W.un .not k λa=>bB a false (.fn 116 [c]) l λm n=>wg a false (W.faddr 2 d) n λo e=>wg a false (wl o e) e λp f=>W.grd a false (λq=>wc m [p] f λr s=>q r s) f λt u=>wg a false (W.un .not t) u λv w=>W.pick a (.bool true) v λb=>bB b false (.fn 116 [c]) w λx y=>wg b false (W.faddr 3 d) y λz g=>wg b false (wl z g) g λA h=>W.grd b false (λB=>wc x [A] h λC D=>B C D) h λE F=>wg b false (W.un .not E) F λG i=>W.pick b (.bool true) G λH=>wk H (Q (.bool false) i) ((xz j i c d))
def s6(Q:R)(a:Vs)(b:SH):Prop:=vY 2 4 6 a λd c e=>Q c b
def xB(Q:R)(a:SH)(b c:AV):Prop:=wl b a λd=>aA 1 c a λe=>W.nilchk d λf=>W.faddr 0 f λg=>W.store 1 g e a λh=>W.join (s6 Q) λi=>i [b,(.bool true),(.bool true)] h
def xC(Q:R)(d:Kn)(a:SH)(e c b:AV):Prop:=wb .eql 3 e (.Xm 4) λf=>wk f (aA 1 c a λg=>wc (.fn 116 [b]) [g] a (xA Q d b c)) (wb .eql 3 e (.Xm 5) λh=>wk h ((xB Q a b c)) (d [b,(.bool false),(.bool true)] a))
def xD(Q:R)(d:Kn)(a:SH)(e b c:AV):Prop:=wb .eql 3 e (.Xm 3) λf=>wk f (aA 1 b a λg=>wc (.fn 116 [c]) [g] a (xw Q d c b)) ((xC Q d a e b c))
def xE(Q:R)(d:Kn)(a:SH)(e b c:AV):Prop:=wb .eql 3 e (.Xm 2) λf=>wk f (aA 1 b a λg=>wc (.fn 116 [c]) [g] a (xr Q d c b)) ((xD Q d a e b c))
def cT(f g:AV)(L:SH)(Q:R):Prop:=W.box f L λh i=>W.box g i λj k=>W.frz1 h k λc l=>W.frz1 j l λa b=>W.join (xm Q) λd=>aA 0 a b λe=>wb .eql 3 e (.Xm 1) λm=>wk m (aA 1 a b λn=>wc (.fn 116 [c]) [n] b (xo Q d c a)) ((xE Q d b e a c))
theorem da(t0 t1:AV)(L:SH)(Q:R)(h:cT t0 t1 L Q):af Tryz.prog 83 [t0,t1] L Q:=
 fs [(24,[2,4,6])] [] [(0,[2,3])] [(7,[0,1,3,7,0,16,0,64,192,448,0,1024,0,4096,13311,29695,65535,131071]),(11,[0,1,3,7,0,16,0,64,192,448,0,1024,0,4096,12288,28672,0,65536,258048,520192,0,1048576,3145728,7340032,0,16777216,66060288,133169152,267386880,536867839,1073738751,2147483647,4294967295]),(15,[0,1,3,7,0,16,0,64,0,256,768,1792,0,4096,16128,32512,65472,131008,262080,262080,524287,1572863,4194303]),(16,[0,1,3,7,0,16,0,64,192,448,0,1024,4032,8128,16320,32767,65535]),(20,[0,1,3,7,0,16,0,64,0,256,768,1792,0,4096,16128,32512,0,65536,196608,458752,0,1048576,4128768,8323072,16777152,33554368,67108800,67108800,134217727,402653183,1073741823]),(21,[0,1,3,7,0,16,0,64,192,448,0,1024,4032,8128,0,16384,49152,114688,0,262144,1032192,2080768,4194240,8388607,16777215])] Tryz.func83 h
def zO(Q:R)(c:SH)(a:AV):Prop:=W.build [(.Xm 0),.nils,.nils,(.Xm 0)] [] λd=>W.store 4 a d c λb=>W.load true 4 a b λe=>Q (.tup [e,(.bool false)]) b
def zP(Q:R)(c:SH)(a:AV):Prop:=W.build [(.Xm 0),.nils,.nils,(.Xm 0)] [] λd=>W.store 4 a d c λb=>W.load true 4 a b λe=>Q (.tup [e,(.bool false)]) b
def zQ(Q:R)(c:SH)(a:AV):Prop:=W.build [(.Xm 0),.nils,.nils,(.Xm 0)] [] λd=>W.store 4 a d c λb=>W.load true 4 a b λe=>Q (.tup [e,(.bool false)]) b
def zR(Q:R)(i:Kn)(b:SH)(c d j e f:AV):Prop:=aA 1 c b λk=>W.len k λl=>wb .eql 3 d l λa=>wg a false (bZ 6 j b) b λm g=>W.grd a false (λn=>wc (.fn 83 []) [e,m] g λo p=>n o p) g λq r=>wg a false (W.un .not q) r λs h=>W.pick a (.bool true) s λt=>wk t ((zQ Q h f)) (wb .add 3 d (.Xm 1) λu=>i [c,e,f,u] h)
def zS(Q:R)(k:Kn)(a:SH)(g c d l:AV):Prop:=aA 1 g a λm=>aA 0 c a λn=>lD 6 m n a λo=>qv [(.Xm 0),(.Xm 0),(.Xm 0),(.Xm 0),(.Xm 0),(.Xm 0)] 6 o a λe h=>aA 0 e h λp=>wb .lss 3 p (.Xm 1) λb=>wg b false (W.faddr 0 e) h λq i=>wg b false (wl q i) i λr s=>wg b false (wb .gtr 3 r (.Xm 5)) s λt f=>W.pick b (.bool true) t λu=>wk u (bZ 4 c f λv=>W.store 4 d v f λj=>W.load true 4 d j λw=>Q (.tup [w,(.bool true)]) j) ((zR Q k f g l e c d))
def gS(Q:R)(i:Vs)(c:SH)(j:Kn):Prop:=yX 2 3 4 6 i λd b e k=>aA 0 b c λl=>wb .lss 3 l (.Xm 0) λa=>wg a false (W.faddr 0 b) c λm f=>wg a false (wl m f) f λn o=>wg a false (W.faddr 1 d) o λp g=>wg a false (wl p g) g λq r=>wg a false (W.len q) r λs t=>wg a false (wb .geq 3 n s) t λu h=>W.pick a (.bool true) u λv=>wk v ((zP Q h e)) ((zS Q j h d b e k))
def zT(Q:R)(a b c d:AV)(e:SH):Prop:=W.store 4 a d e λf=>W.loop (gS Q) [b,a,c,(.Xm 0)] f
def nA(i j:AV)(L:SH)(Q:R):Prop:=W.box i L λk l=>W.box j l λb m=>W.alloc [(.Xm 0),.nils,.nils,(.Xm 0)] m λf n=>W.frz1 k n λc d=>aA 1 b d λo=>W.len o λp=>aA 0 c d λq=>wb .neq 3 p q λa=>wg a false (W.faddr 2 b) d λr g=>wg a false (wl r g) g λs t=>wg a false (W.len s) t λu v=>wg a false (W.faddr 0 c) v λw h=>wg a false (wl w h) h λx y=>wg a false (wb .neq 3 u x) y λz e=>W.pick a (.bool true) z λA=>wk A ((zO Q e f)) (bZ 4 b e λB=>wc (.fn 82 []) [B] e (zT Q b c f))
theorem zU(t0 t1:AV)(L:SH)(Q:R)(h:nA t0 t1 L Q):af Tryz.prog 52 [t0,t1] L Q:=
 fs [] [(6,[2,3,4,6])] [(0,[2]),(8,[7])] [] Tryz.func52 h
end
section
set_option maxRecDepth 100000
set_option linter.unusedSimpArgs false
set_option linter.unusedSectionVars false
theorem qz(xs:List Int)(hl:xs.length*8≤140737488355328):af Tryz.prog 80 [.lst (xs.map aj)] [] λv L=>∃o,v=aO o xs.length∧L=ae o 1 (xs.map aj)∧(o=none→xs=[]):=by refine(fL (λA n c xs w hf h1 hn hA=>cloneJ_any A n c xs w hf h1 hn hA) ⟨_,_,Tryz.func80,rfl⟩ (xs.map aj) (by simp[aj,AV.one]) (λr hr=>by obtain⟨x,_,rfl⟩:=Wd.1 hr;rfl) (by simpa using hl)).mono ?_;rintro v L ⟨o,rfl,rfl,h⟩;exact⟨o,Xk,rfl,λe=>by simpa using h e⟩
theorem cR(xs:List Int)(hl:xs.length*8≤140737488355328):az Tryz.prog 81 [.lst (xs.map aj)] (.lst (xs.map aj)):=by refine af.fz ((FI xs hl).mono ?_);rintro v L ⟨o,rfl,rfl,ho⟩;exact⟨_,[],aJ.all (Fz.slot (f:=aj) rfl (λe=>by rw[ho e];rfl) Xl (λy _=>rfl) (λy _ q a a2 h1 h2=>by rw[h1]at h2;cases h2;exact .refl _)),rfl,rfl⟩
def La(s:aV)(v:AV)(L:SH):Prop:=
 ∃(o t:Option Nat),v=.agg [.Xm s.pc,aO o s.regs.length,aO t s.taint.length,.Xm s.ev]∧L=ae o 1 (s.regs.map aj)++ae t 1 (s.taint.map cp)∧(o=none→s.regs=[])∧(t=none→s.taint=[])
def nB(t:List (List Int))(k:Nat):List (List AV):=(t.take k).map cp++List.replicate (t.length-k) [.nils]
theorem LT(t:List (List Int))(k:Nat)(hk:k≤t.length):(nB t k).length=t.length:=by simp[nB];omega
theorem NR(t:List (List Int))(k:Nat)(hk:k<t.length):(nB t k)[k]? =some [.nils]:=by
 unfold nB;have hl:((t.take k).map cp).length=k:=by simp;omega
 rw[VK Xh,hl,Nat.sub_self];obtain⟨m,hm⟩:∃m,t.length-k=m+1:=⟨t.length-k-1,Xh⟩;rw[hm];rfl
theorem FU(t:List (List Int))(k:Nat)(hk:k<t.length):(nB t k).set k (cp t[k])=nB t (k+1):=by
 unfold nB;have hl:((t.take k).map cp).length=k:=by simp;omega
 rw[List.set_append_right _ _ Xh,hl,Nat.sub_self];obtain⟨m,hm⟩:∃m,t.length-k=m+1:=⟨t.length-k-1,Xh⟩;rw[hm,List.replicate_succ,List.set_cons_zero,VJ hk,show t.length-(k+1)=m by omega,VF,Wh];rfl
theorem JS(s:aV)(h1:s.regs.length<2^40)(h2:s.taint.length<2^40)(h3:∀l∈s.taint,l.length≤2^30):af Tryz.prog 82 [.agg s.enc] [] (La s):=by
 refine af.fz (BX _ _ _ ?_);unfold pr;generalize hQ:(λ(v:AV) (L:SH)=>∃v2 L2,aJ [v] L [v2] L2∧La s v2 L2)=Q
 repeat' (first|refine st ?_|refine sb λnb_ hnb_=>?_|refine s2 (λh=>?_) λh=>?_|fail)
 rename_i b1 _;revert nb_;intro b2 _;refine pd (qz s.regs Xh) ?_;rintro v K ⟨o,rfl,rfl,ho⟩;unfold nz;have fin:∀(bt:Nat) (L:SH),(∃x y:Blk,L=(bt,⟨1,s.taint.map cp⟩)::(b2,x)::(b1,y)::ae o 1 (s.regs.map aj))→Q (.agg [.Xm s.pc,aO o s.regs.length,.sl bt 0 s.taint.length,.Xm s.ev]) L:=by rintro bt L ⟨x,y,rfl⟩;subst hQ;refine⟨_,_,aJ.forget (K:=[(b2,x),(b1,y)]) (R:=ae o 1 (s.regs.map aj)++[(bt,⟨1,s.taint.map cp⟩)]) ?_,o,some bt,rfl,rfl,ho,nofun⟩;refine(List.Perm.trans (List.Perm.swap _ _ _) ?_);refine List.Perm.cons _ ((List.Perm.swap _ _ _).trans (List.Perm.cons _ ?_));exact(V6 (l₁:=[(bt,(⟨1,s.taint.map cp⟩:Blk))]) (l₂:=ae o 1 (s.regs.map aj)))
 have loop:∀(bt:Nat) (y:Blk),y=⟨4,[[.Xm s.pc,aO o s.regs.length,.lst (s.taint.map cp),.Xm s.ev]]⟩→W.loop (iz Q) [.ptr b1 0 0,.ptr b2 0 0,.sl bt 0 s.taint.length,.lst (s.taint.map cp),.Xm s.taint.length,.Xm (0:Nat)] ((bt,⟨1,List.replicate s.taint.length [.nils]⟩)::(b2,⟨4,[[.Xm 0,.nils,.nils,.Xm 0]]⟩)::(b1,y)::ae o 1 (s.regs.map aj)):=by
  intro bt y hy;subst hy;refine cg s.taint.length (λk (_:Unit)=>([.ptr b1 0 0,.ptr b2 0 0,.sl bt 0 s.taint.length,.lst (s.taint.map cp),.Xm s.taint.length,.Xm k],(bt,⟨1,nB s.taint k⟩)::(b2,⟨4,[[.Xm 0,.nils,.nils,.Xm 0]]⟩)::(b1,⟨4,[[.Xm s.pc,aO o s.regs.length,.lst (s.taint.map cp),.Xm s.ev]]⟩)::ae o 1 (s.regs.map aj))) (λ_ _=>True) () trivial (gM rfl (by simp[nB])) ?_;intro k _ hk _;dsimp only;unfold iz;rcases Nat.lt_or_ge k s.taint.length with g1|g1
  ·have hd:=bF g1;have hx:=aw (f:=cp) g1;have hz:=NR s.taint k g1;have hkl:k<(nB s.taint k).length:=by rw[LT _ _ hk];exact g1
   have hrk:(s.taint[k]).length*8≤140737488355328:=by have:=h3 _ (VV g1);omega
   cases o with
   |none=>
    dsimp only[ae,aO]
    repeat' (first|refine st ?_|(refine pf 81 ?_;refine pm (cR _ hrk) ?_)|unfold iy|refine sb λnb_ hnb_=>?_|refine s2 (λh=>?_) λh=>?_|fail)
    exact⟨k+1,(),Xh,Xh,trivial,gM (by rw[aE g1 Xh]<;>rfl) (by rw[←FU _ _ g1];rfl)⟩
   |some b'=>
    dsimp only[ae,aO]
    repeat' (first|refine st ?_|(refine pf 81 ?_;refine pm (cR _ hrk) ?_)|unfold iy|refine sb λnb_ hnb_=>?_|refine s2 (λh=>?_) λh=>?_|fail)
    exact⟨k+1,(),Xh,Xh,trivial,gM (by rw[aE g1 Xh]<;>rfl) (by rw[←FU _ _ g1];rfl)⟩
  ·have hd:=bI g1;have hk0:k=s.taint.length:=by omega
   subst hk0;have e:nB s.taint s.taint.length=s.taint.map cp:=by simp[nB]
   rw[e];cases o with
   |none=>
    dsimp only[ae,aO]at fin ⊢
    repeat' (first|refine st ?_|refine sb λnb_ hnb_=>?_|refine s2 (λh=>?_) λh=>?_|fail)
    exact fin _ _ ⟨_,_,rfl⟩
   |some b'=>
    dsimp only[ae,aO]at fin ⊢
    repeat' (first|refine st ?_|refine sb λnb_ hnb_=>?_|refine s2 (λh=>?_) λh=>?_|fail)
    exact fin _ _ ⟨_,_,rfl⟩
 cases o with
 |none=>
  dsimp only[ae,aO]at loop ⊢
  repeat' (first|refine st ?_|refine sb λnb_ hnb_=>?_|refine s2 (λh=>?_) λh=>?_|fail)
  exact loop _ _ rfl
 |some b'=>
  dsimp only[ae,aO]at loop ⊢
  repeat' (first|refine st ?_|refine sb λnb_ hnb_=>?_|refine s2 (λh=>?_) λh=>?_|fail)
  exact loop _ _ rfl
end
section
set_option maxRecDepth 100000
set_option linter.unusedSimpArgs false
set_option linter.unusedSectionVars false
theorem NS(a b:List Int)(ha:a.length≤2^30)(hb:b.length≤2^30):az Tryz.prog 117 [.lst (a.map aj),.lst (b.map aj)] (.lst ((JR (a++b)).map aj)):=by
 refine af.fz (BW _ _ _ _ ?_);unfold pq;generalize hQ:(λ(v:AV) (L:SH)=>∃v2 L2,aJ [v] L [v2] L2∧v2=AV.lst ((JR (a++b)).map aj)∧L2=[])=Q;have hsum:IntKind.i64.wrap ((a.length:Int)+b.length)=((a.length+b.length:Nat):Int):=by rw[Wr _ Xh];omega
 have fin:∀(bk:Nat) (L:SH),(bk,(⟨1,(Lib.compact (zA (a++b))++List.replicate ((a++b).length-(Lib.compact (zA (a++b))).length) 0).map aj⟩:Blk))∈L→Q (.sl bk 0 (Lib.compact (zA (a++b))).length) L:=λbk L hm=>by subst hQ;refine⟨_,[],aJ.all ?_,rfl,rfl⟩;show Fz _ (.sl bk 0 (JR (a++b)).length) (.lst ((JR (a++b)).map aj));rw[show(JR (a++b)).map aj=((((Lib.compact (zA (a++b))++List.replicate ((a++b).length-(Lib.compact (zA (a++b))).length) 0).map aj).drop 0).take (JR (a++b)).length)from(De (List.take_left' rfl)).symm];exact Fz.rows (x:=⟨1,_⟩) hm Xk (by simp[JR])
 have h2:=λbk:Nat=>K0 bk (a++b) (by simp;omega)
 have h3:=λbk:Nat=>Df bk (zA (a++b)) (by rw[qw];simp;omega)
 simp only[qw]at h3
 repeat' (first|refine st ?_|refine sb λnb_ hnb_=>?_|refine s2 (λh=>?_) λh=>?_|fail)
 refine fW (i:=0) (j:=a.length+b.length) Xh Xh Xh (λnb_ hnb_=>?_)
 repeat' (first|refine st ?_|refine Nw rp (λ_=>rfl) Xk (by simp;omega) (by simp;omega) (λ_=>rfl) (λnb_ hnb_=>?_)|refine sb λnb_ hnb_=>?_|refine s2 (λh=>?_) λh=>?_|fail)
 simp only[List.replicate,WC,←VF,Ww,←VL]
 repeat' (first|refine st ?_|((with_reducible refine aX 74 ?_);(refine km (h2 _) (.here _) ?_;rintro _ _ ⟨rfl,rfl⟩))|((with_reducible refine aX 75 ?_);(refine km (h3 _) (.here _) ?_;rintro _ _ ⟨rfl,rfl⟩))|refine sb λnb_ hnb_=>?_|refine s2 (λh=>?_) λh=>?_|fail)
 exact fin _ _ rp
end
section
set_option maxRecDepth 100000
set_option linter.unusedSimpArgs false
def GK(p:Int×Bool):AV:=.tup [.Xm p.1,.bool p.2]
theorem It(b:Bool):az Tryz.prog 129 [.bool b] (.Xm (kU b)):=by
 refine E2 _ _ _ ?_;unfold xk;cases b
 all_goals
  repeat' (first|refine st ?_|refine sb λnb_ hnb_=>?_|refine s2 (λh=>?_) λh=>?_|fail)
  exact⟨rfl,rfl⟩
theorem Iu(op a:Int):az Tryz.prog 103 [.Xm op,.Xm a] (GK (O3 op a)):=by
 refine E4 _ _ _ _ ?_;unfold xl;generalize hQ:(λ(u:AV) (K:SH)=>u=GK (O3 op a)∧K=[])=Q
 repeat' (first|refine st ?_|(refine pf 129 ?_;refine pm (It _) ?_)|refine sb λnb_ hnb_=>?_|refine s2 (λh=>?_) λh=>?_|fail)
 all_goals
  subst hQ;refine⟨?_,rfl⟩;simp_all[O3,GK]
theorem FV(op a b:Int):az Tryz.prog 104 [.Xm op,.Xm a,.Xm b] (GK (Dj op a b)):=by
 refine Dz _ _ _ _ _ ?_;unfold sC;generalize hQ:(λ(u:AV) (K:SH)=>u=GK (Dj op a b)∧K=[])=Q
 repeat' (first|refine st ?_|(refine pf 129 ?_;refine pm (It _) ?_)|refine sb λnb_ hnb_=>?_|refine s2 (λh=>?_) λh=>?_|fail)
 all_goals
  subst hQ;refine⟨?_,rfl⟩;simp_all[Dj,GK]
end
section
set_option maxRecDepth 100000
set_option linter.unusedSimpArgs false
set_option linter.unusedSectionVars false
theorem fy{P:Program}{KL:AV→SH→Prop}{g:FuncId}{cs args:List AV}{L L':SH}{b:Nat}{x:Blk}{R:AV→SH→Prop}(h:af P g (args++cs) [(b,x)] R)(hd:eQ b x L L')(hk:∀v K,R v K→KL v (K++L')):W.call P (.fn g cs) args L KL:=
 ⟨h.frame (K:=[(b,x)]) (R:=L') hd.perm λu K hu=>hk u K hu⟩
def mM(s:aV)(o t:Option Nat):List AV:=[.Xm s.pc,aO o s.regs.length,aO t s.taint.length,.Xm s.ev]
def nX(s:aV)(bs:Nat)(o t:Option Nat):SH:=(bs,⟨4,[mM s o t]⟩)::(ae o 1 (s.regs.map aj)++ae t 1 (s.taint.map cp))
def zV(r:Option aV)(bs:Nat)(o t:Option Nat)(v:AV)(L:SH):Prop:=
 match r with
 |none=>v=.bool false
 |some s2=>v=.bool true∧L=nX s2 bs o t
theorem Lb(s:aV)(bs:Nat)(o t:Option Nat)(ho:o=none→s.regs=[])(r:Int):af Tryz.prog 116 [.Xm r,.pptr [[.ptr bs 0 0]] 0 0] [(bs,⟨4,[mM s o t]⟩)] λv L=>v=.bool (s.has r)∧L=[(bs,⟨4,[mM s o t]⟩)]:=by
 refine qH _ _ _ _ ?_;unfold jr;generalize hQ:(λ(v:AV) (L:SH)=>v=.bool (s.has r)∧L=[(bs,(⟨4,[mM s o t]⟩:Blk))])=Q;cases o with
 |none=>
  have h0:=ho rfl;unfold mM at hQ ⊢;dsimp only[aO]at hQ ⊢
  repeat' (first|refine st ?_|refine sb λnb_ hnb_=>?_|refine s2 (λh=>?_) λh=>?_|fail)
  all_goals
   subst hQ;refine⟨?_,rfl⟩;simp_all[aV.has,inB]<;>omega
 |some b=>
  unfold mM at hQ ⊢;dsimp only[aO]at hQ ⊢
  repeat' (first|refine st ?_|refine sb λnb_ hnb_=>?_|refine s2 (λh=>?_) λh=>?_|fail)
  all_goals
   subst hQ;refine⟨?_,rfl⟩;simp_all[aV.has,inB]<;>omega
theorem kp{s:aV}{r:Int}:s.has r=true↔∃k:Nat,r=k∧k<s.regs.length:=by unfold aV.has;rw[ax];exact⟨λ⟨h1,h2⟩=>⟨r.toNat,Xh,Xh⟩,λ⟨k,h1,h2⟩=>by omega⟩
theorem kq{o:Option Nat}{α:Type}{l:List α}{k:Nat}(h:o=none→l=[])(hk:k<l.length):∃b,o=some b:=by
 cases o with
 |none=>rw[h rfl]at hk;simp at hk
 |some b=>exact⟨b,rfl⟩
section
variable (s:aV) (bs:Nat) (o t:Option Nat) (ho:o=none→s.regs=[]) (ht:t=none→s.taint=[]) (hlen:s.taint.length=s.regs.length) (hsm:s.regs.length<2^40) (hsh:∀l∈s.taint,l.length≤2^30) (ia ib ic n site:Int)
include ho ht hlen hsm hsh
theorem R8:af Tryz.prog 83 [.ptr bs 0 0,.agg (bj.mk 5 ia ib ic n site).enc] (nX s bs o t) (zV (bR ⟨5,ia,ib,ic,n,site⟩ s) bs o t):=by
 refine da _ _ _ _ ?_;unfold cT;generalize hQ:zV (bR ⟨5,ia,ib,ic,n,site⟩ s) bs o t=Q;unfold nX
 repeat' (first|refine st ?_|refine sb λnb_ hnb_=>?_|refine s2 (λh=>?_) λh=>?_|fail)
 subst hQ;exact⟨rfl,rfl⟩
theorem R9:af Tryz.prog 83 [.ptr bs 0 0,.agg (bj.mk 1 ia ib ic n site).enc] (nX s bs o t) (zV (bR ⟨1,ia,ib,ic,n,site⟩ s) bs o t):=by
 have hex:=λr=>Lb s bs o t ho r
 refine af.fz (da _ _ _ _ ?_);unfold cT;generalize hQ:(λ(v:AV) (L:SH)=>∃v2 L2,aJ [v] L [v2] L2∧zV (bR ⟨1,ia,ib,ic,n,site⟩ s) bs o t v2 L2)=Q;cases ha:s.has ia with
 |false=>
  have e:bR ⟨1,ia,ib,ic,n,site⟩ s=none:=by simp[bR,ha]
  unfold nX
  repeat' (first|refine st ?_|(refine pb (fy (hex _) (.here _) ?_);rintro _ _ ⟨rfl,rfl⟩;(try rw[ha]))|refine sb λnb_ hnb_=>?_|refine s2 (λh=>?_) λh=>?_|fail)
  subst hQ;rw[e];exact⟨_,[],aJ.all (.refl _),rfl⟩
 |true=>
  have e:bR ⟨1,ia,ib,ic,n,site⟩ s=some (s.put ia n []):=by simp[bR,ha]
  rw[e]at hQ;obtain⟨a,rfl,hal⟩:=kp.1 ha;obtain⟨b1,rfl⟩:=kq ho hal;obtain⟨b2,rfl⟩:=kq ht (k:=a) Xh;have hal2:a<s.taint.length:=by omega
  have hxa:=aw (f:=aj) hal;have hya:=aw (f:=cp) hal2;unfold nX;dsimp only[ae,List.cons_append,List.nil_append]
  repeat' (first|refine st ?_|(refine pb (fy (hex _) (.here _) ?_);rintro _ _ ⟨rfl,rfl⟩;first|rw[ha])|refine sb λnb_ hnb_=>?_|refine s2 (λh=>?_) λh=>?_|fail)
  subst hQ;refine⟨_,_,?_,rfl,rfl⟩;have e1:(s.put a n []).regs.map aj=(s.regs.map aj).set a [.Xm n]:=by simp[aV.put,Wx,aj]
  have e2:(s.put a n []).taint.map cp=(s.taint.map cp).set a [.lst []]:=by simp[aV.put,Wx,cp]
  have e3:mM (s.put a n []) (some b1) (some b2)=[.Xm (IntKind.i64.wrap (s.pc+1)),.sl b1 0 s.regs.length,.sl b2 0 s.taint.length,.Xm s.ev]:=by simp[mM,aV.put,aO]
  unfold nX;rw[e1,e2,e3];dsimp only[ae,List.cons_append,List.nil_append];refine aJ.rowA (K:=[]) (A:=[(bs,_),(b1,_)]) (b:=b2) (R:=[]) (rows:=(s.taint.map cp).set a [.nils]) (rows':=(s.taint.map cp).set a [.lst []]) rp Xk (λj r r' q1 q2=>?_) rfl;rw[List.getElem?_set]at q1 q2;by_cases hj:a=j
  ·rw[if_pos hj]at q1 q2;rw[if_pos (by simp;omega)]at q1 q2;cases q1;cases q2;exact .cons .nils .nil
  ·rw[if_neg hj]at q1 q2;rw[q1]at q2;cases q2;exact ji.refl _ _
theorem Sa:af Tryz.prog 83 [.ptr bs 0 0,.agg (bj.mk 2 ia ib ic n site).enc] (nX s bs o t) (zV (bR ⟨2,ia,ib,ic,n,site⟩ s) bs o t):=by
 have hex:=λr=>Lb s bs o t ho r
 refine da _ _ _ _ ?_;unfold cT;generalize hQ:zV (bR ⟨2,ia,ib,ic,n,site⟩ s) bs o t=Q;cases ha:s.has ia with
 |false=>
  have e:bR ⟨2,ia,ib,ic,n,site⟩ s=none:=by simp[bR,ha]
  unfold nX
  repeat' (first|refine st ?_|(refine pb (fy (hex _) (.here _) ?_);rintro _ _ ⟨rfl,rfl⟩;first|rw[ha])|refine sb λnb_ hnb_=>?_|refine s2 (λh=>?_) λh=>?_|fail)
  subst hQ;rw[e];rfl
 |true=>
  cases hb:s.has ib with
  |false=>
   have e:bR ⟨2,ia,ib,ic,n,site⟩ s=none:=by simp[bR,hb]
   unfold nX
   repeat' (first|refine st ?_|(refine pb (fy (hex _) (.here _) ?_);rintro _ _ ⟨rfl,rfl⟩;first|rw[ha]|rw[hb])|refine sb λnb_ hnb_=>?_|refine s2 (λh=>?_) λh=>?_|fail)
   subst hQ;rw[e];rfl
  |true=>
   have e:bR ⟨2,ia,ib,ic,n,site⟩ s=some (s.put ia (s.reg ib) (s.tnt ib)):=by simp[bR,ha,hb]
   rw[e]at hQ;obtain⟨a,rfl,hal⟩:=kp.1 ha;obtain⟨b,rfl,hbl⟩:=kp.1 hb;obtain⟨b1,rfl⟩:=kq ho hal;obtain⟨b2,rfl⟩:=kq ht (k:=a) Xh;have hal2:a<s.taint.length:=by omega
   have hxa:=aw (f:=aj) hal;have hya:=aw (f:=cp) hal2;have hbl2:b<s.taint.length:=by omega
   have hxb:=aw (f:=aj) hbl;have hyb:=aw (f:=cp) hbl2;have hcl:=cR s.taint[b] (by have:=hsh _ (List.getElem_mem hbl2);omega);unfold nX;dsimp only[ae,List.cons_append,List.nil_append]
   repeat' (first|refine st ?_|(refine pb (fy (hex _) (.here _) ?_);rintro _ _ ⟨rfl,rfl⟩;first|rw[ha]|rw[hb])|(refine pf 81 ?_;refine pm (hcl) ?_)|refine sb λnb_ hnb_=>?_|refine s2 (λh=>?_) λh=>?_|fail)
   subst hQ;refine⟨rfl,?_⟩;simp[nX,aV.put,mM,aV.reg,aV.tnt,ae,List.getD,hbl,hbl2,Wx,aj,cp]
theorem Sb:af Tryz.prog 83 [.ptr bs 0 0,.agg (bj.mk 3 ia ib ic n site).enc] (nX s bs o t) (zV (bR ⟨3,ia,ib,ic,n,site⟩ s) bs o t):=by
 have hex:=λr=>Lb s bs o t ho r
 refine da _ _ _ _ ?_;unfold cT;generalize hQ:zV (bR ⟨3,ia,ib,ic,n,site⟩ s) bs o t=Q;cases ha:s.has ia with
 |false=>
  have e:bR ⟨3,ia,ib,ic,n,site⟩ s=none:=by simp[bR,ha]
  unfold nX
  repeat' (first|refine st ?_|(refine pb (fy (hex _) (.here _) ?_);rintro _ _ ⟨rfl,rfl⟩;first|rw[ha])|refine sb λnb_ hnb_=>?_|refine s2 (λh=>?_) λh=>?_|fail)
  subst hQ;rw[e];rfl
 |true=>
  cases hb:s.has ib with
  |false=>
   have e:bR ⟨3,ia,ib,ic,n,site⟩ s=none:=by simp[bR,hb]
   unfold nX
   repeat' (first|refine st ?_|(refine pb (fy (hex _) (.here _) ?_);rintro _ _ ⟨rfl,rfl⟩;first|rw[ha]|rw[hb])|refine sb λnb_ hnb_=>?_|refine s2 (λh=>?_) λh=>?_|fail)
   subst hQ;rw[e];rfl
  |true=>
   have e:bR ⟨3,ia,ib,ic,n,site⟩ s=if(O3 n (s.reg ib)).2 then some (s.put ia (O3 n (s.reg ib)).1 (s.tnt ib))else none:=by simp[bR,ha,hb]
   rw[e]at hQ;obtain⟨a,rfl,hal⟩:=kp.1 ha;obtain⟨b,rfl,hbl⟩:=kp.1 hb;obtain⟨b1,rfl⟩:=kq ho hal;obtain⟨b2,rfl⟩:=kq ht (k:=a) Xh;have hal2:a<s.taint.length:=by omega
   have hxa:=aw (f:=aj) hal;have hya:=aw (f:=cp) hal2;have hbl2:b<s.taint.length:=by omega
   have hxb:=aw (f:=aj) hbl;have hyb:=aw (f:=cp) hbl2;have hcl:=cR s.taint[b] (by have:=hsh _ (VV hbl2);omega);have hun:=Iu n s.regs[b];have hrb:s.reg b=s.regs[b]:=by simp[aV.reg,List.getD,hbl]
   have htb:s.tnt b=s.taint[b]:=by simp[aV.tnt,List.getD,hbl2]
   rw[hrb,htb]at hQ;generalize O3 n s.regs[b]=p at hun hQ;unfold GK at hun;unfold nX;dsimp only[ae,List.cons_append,List.nil_append]
   repeat' (first|refine st ?_|(refine pb (fy (hex _) (.here _) ?_);rintro _ _ ⟨rfl,rfl⟩;first|rw[ha]|rw[hb])|(refine pf 81 ?_;refine pm (hcl) ?_)|(refine pf 103 ?_;refine pm (hun) ?_)|refine sb λnb_ hnb_=>?_|refine s2 (λh=>?_) λh=>?_|fail)
   subst hQ;unfold zV;cases hp:p.2 with
   |false=>rfl
   |true=>refine⟨rfl,?_⟩;simp[nX,aV.put,mM,ae,Wx,aj,cp]
theorem Sc:af Tryz.prog 83 [.ptr bs 0 0,.agg (bj.mk 4 ia ib ic n site).enc] (nX s bs o t) (zV (bR ⟨4,ia,ib,ic,n,site⟩ s) bs o t):=by
 have hex:=λr=>Lb s bs o t ho r
 refine da _ _ _ _ ?_;unfold cT;generalize hQ:zV (bR ⟨4,ia,ib,ic,n,site⟩ s) bs o t=Q;cases ha:s.has ia with
 |false=>
  have e:bR ⟨4,ia,ib,ic,n,site⟩ s=none:=by simp[bR,ha]
  unfold nX
  repeat' (first|refine st ?_|(refine pb (fy (hex _) (.here _) ?_);rintro _ _ ⟨rfl,rfl⟩;first|rw[ha])|refine sb λnb_ hnb_=>?_|refine s2 (λh=>?_) λh=>?_|fail)
  subst hQ;rw[e];rfl
 |true=>
  cases hb:s.has ib with
  |false=>
   have e:bR ⟨4,ia,ib,ic,n,site⟩ s=none:=by simp[bR,hb]
   unfold nX
   repeat' (first|refine st ?_|(refine pb (fy (hex _) (.here _) ?_);rintro _ _ ⟨rfl,rfl⟩;first|rw[ha]|rw[hb])|refine sb λnb_ hnb_=>?_|refine s2 (λh=>?_) λh=>?_|fail)
   subst hQ;rw[e];rfl
  |true=>
   cases hc:s.has ic with
   |false=>
    have e:bR ⟨4,ia,ib,ic,n,site⟩ s=none:=by simp[bR,hc]
    unfold nX
    repeat' (first|refine st ?_|(refine pb (fy (hex _) (.here _) ?_);rintro _ _ ⟨rfl,rfl⟩;first|rw[ha]|rw[hb]|rw[hc])|refine sb λnb_ hnb_=>?_|refine s2 (λh=>?_) λh=>?_|fail)
    subst hQ;rw[e];rfl
   |true=>
    have e:bR ⟨4,ia,ib,ic,n,site⟩ s=if(Dj n (s.reg ib) (s.reg ic)).2 then some (s.put ia (Dj n (s.reg ib) (s.reg ic)).1 (JR (s.tnt ib++s.tnt ic)))else none:=by simp[bR,ha,hb,hc]
    rw[e]at hQ;obtain⟨a,rfl,hal⟩:=kp.1 ha;obtain⟨b,rfl,hbl⟩:=kp.1 hb;obtain⟨c,rfl,hcl⟩:=kp.1 hc;obtain⟨b1,rfl⟩:=kq ho hal;obtain⟨b2,rfl⟩:=kq ht (k:=a) Xh;have hal2:a<s.taint.length:=by omega
    have hxa:=aw (f:=aj) hal;have hya:=aw (f:=cp) hal2;have hbl2:b<s.taint.length:=by omega
    have hxb:=aw (f:=aj) hbl;have hyb:=aw (f:=cp) hbl2;have hcl2:c<s.taint.length:=by omega
    have hxc:=aw (f:=aj) hcl;have hyc:=aw (f:=cp) hcl2;have hun2:=NS s.taint[b] s.taint[c] (hsh _ (VV hbl2)) (hsh _ (VV hcl2));have hun:=FV n s.regs[b] s.regs[c];have hrb:s.reg b=s.regs[b]:=by simp[aV.reg,List.getD,hbl]
    have htb:s.tnt b=s.taint[b]:=by simp[aV.tnt,List.getD,hbl2]
    have hrc:s.reg c=s.regs[c]:=by simp[aV.reg,List.getD,hcl]
    have htc:s.tnt c=s.taint[c]:=by simp[aV.tnt,List.getD,hcl2]
    rw[hrb,htb,hrc,htc]at hQ;generalize Dj n s.regs[b] s.regs[c]=p at hun hQ;generalize JR (s.taint[b]++s.taint[c])=u at hun2 hQ;unfold GK at hun;unfold nX;dsimp only[ae,List.cons_append,List.nil_append]
    repeat' (first|refine st ?_|(refine pb (fy (hex _) (.here _) ?_);rintro _ _ ⟨rfl,rfl⟩;first|rw[ha]|rw[hb]|rw[hc])|(refine pf 117 ?_;refine pm (hun2) ?_)|(refine pf 104 ?_;refine pm (hun) ?_)|refine sb λnb_ hnb_=>?_|refine s2 (λh=>?_) λh=>?_|fail)
    subst hQ;unfold zV;cases hp:p.2 with
    |false=>rfl
    |true=>refine⟨rfl,?_⟩;simp[nX,aV.put,mM,ae,Wx,aj,cp]
end
end
section
set_option maxRecDepth 100000
set_option linter.unusedSimpArgs false
set_option linter.unusedSectionVars false
def Lc:List AV:=[.Xm 0,.nils,.nils,.Xm 0]
theorem GL{P:Program}{KL R1:AV→SH→Prop}{g:FuncId}{args:List AV}{L K R:SH}(h:af P g args K R1)(hL:L.Perm (K++R))(hq:∀v K',R1 v K'→KL v (R++K')):W.callM P g args L KL:=
 ⟨.perm (h.frame hL λu K' hu=>⟨R++K',V6,hq u K' hu⟩)⟩
theorem NT(s:aV)(bs:Nat)(o t:Option Nat)(ho:o=none→s.regs=[])(ht:t=none→s.taint=[])(hlen:s.taint.length=s.regs.length)(hsm:s.regs.length<2^40)(hsh:∀l∈s.taint,l.length≤2^30)(i:bj)(h1:1≤i.op)(h5:i.op≤5):
  af Tryz.prog 83 [.ptr bs 0 0,.agg i.enc] (nX s bs o t) (zV (bR i s) bs o t):=by
 obtain⟨op,ia,ib,ic,n,site⟩:=i;dsimp only at h1 h5;obtain rfl|rfl|rfl|rfl|rfl:op=1∨op=2∨op=3∨op=4∨op=5:=by omega
 ·exact R9 s bs o t ho ht hlen hsm hsh ia ib ic n site
 ·exact Sa s bs o t ho ht hlen hsm hsh ia ib ic n site
 ·exact Sb s bs o t ho ht hlen hsm hsh ia ib ic n site
 ·exact Sc s bs o t ho ht hlen hsm hsh ia ib ic n site
 ·exact R8 s bs o t ho ht hlen hsm hsh ia ib ic n site
theorem xF(s:aV)(a v:Int)(t:List Int):(s.put a v t).regs.length=s.regs.length∧(s.put a v t).taint.length=s.taint.length:=by simp[aV.put]
theorem FW{s s2:aV}{i:bj}(he:bR i s=some s2):s2.regs.length=s.regs.length∧s2.taint.length=s.taint.length:=by
 unfold bR at he;split at he
 ·split at he
  ·cases he;exact xF _ _ _ _
  ·cases he
 ·split at he
  ·split at he
   ·cases he;exact xF _ _ _ _
   ·cases he
  ·split at he
   ·split at he
    ·cases he;exact xF _ _ _ _
    ·cases he
   ·split at he
    ·split at he
     ·cases he;exact xF _ _ _ _
     ·cases he
    ·cases he;exact⟨rfl,rfl⟩
theorem lV{α:Type}{K:SH}{f:α→List AV}{l:List α}{o:Option Nat}{n:Nat}(hn:n=l.length)(h0:o=none→l=[])(hm:∀b,o=some b→(b,(⟨1,l.map f⟩:Blk))∈K):Fz K (aO o n) (.lst (l.map f)):=by
 cases o with
 |none=>rw[h0 rfl];exact .refl _
 |some b=>exact Fz.sls (hm b rfl) rfl Xl hn
theorem PM{K:SH}{s:aV}{o t:Option Nat}(ho:o=none→s.regs=[])(ht:t=none→s.taint=[])(h:∀p∈ae o 1 (s.regs.map aj)++ae t 1 (s.taint.map cp),p∈K):Fz K (.agg (mM s o t)) (.agg s.enc):=
 Fz.aggs (.cons (.refl _) (.cons (lV rfl ho λb e=>h _ (by subst e;simp[ae])) (.cons (lV rfl ht λb e=>h _ (by subst e;simp[ae])) (.cons (.refl _) .nil))))
theorem GM(K:SH):Fz K (.agg Lc) (.agg aV.zero.enc):=Fz.aggs (.cons (.refl _) (.cons .nils (.cons .nils (.cons (.refl _) .nil))))
theorem GN{K:SH}{a b:AV}{ok:Bool}(h:Fz K a b):Fz K (.tup [a,.bool ok]) (.tup [b,.bool ok]):=.tup _ _ rfl λi x y h1 h2=>by
 match i with
 |0=>cases h1;cases h2;exact h
 |1=>cases h1;cases h2;exact .refl _
 |i+2=>simp at h1
theorem Ld{ins:List bj}{k:Nat}{s:aV}(h:inB s.pc ins.length=false):ig ins k s=(aV.zero,false):=by cases k<;>simp[ig,h]
theorem NU{ins:List bj}{k:Nat}{s:aV}(h:inB s.pc ins.length=true)(h2:(ins.getD s.pc.toNat default).op<1∨5<(ins.getD s.pc.toNat default).op):ig ins k s=(s,true):=by cases k<;>simp only[ig,h,if_true,if_pos h2]
theorem NV{ins:List bj}{k:Nat}{s:aV}(h:inB s.pc ins.length=true)(h2:¬((ins.getD s.pc.toNat default).op<1∨5<(ins.getD s.pc.toNat default).op))(h3:bR (ins.getD s.pc.toNat default) s=none):ig ins k s=(aV.zero,false):=by cases k<;>simp only[ig,h,if_true,if_neg h2,h3]
theorem NW{ins:List bj}{s:aV}(h:inB s.pc ins.length=true)(h2:¬((ins.getD s.pc.toNat default).op<1∨5<(ins.getD s.pc.toNat default).op)):ig ins 0 s=(aV.zero,false):=by simp only[ig,h,if_true,if_neg h2]
theorem NX{ins:List bj}{k:Nat}{s s2:aV}(h:inB s.pc ins.length=true)(h2:¬((ins.getD s.pc.toNat default).op<1∨5<(ins.getD s.pc.toNat default).op))(h3:bR (ins.getD s.pc.toNat default) s=some s2):ig ins (k+1) s=ig ins k s2:=by simp only[ig,h,if_true,if_neg h2,h3]
section
variable (c:iH) (s:aV) (U:List Int) (hU:U.length≤2^30) (hT:jq U s) (hc:c.ins.length<2^40) (o t:Option Nat) (ho:o=none→s.regs=[]) (ht:t=none→s.taint=[])
include hU hT hc ho ht
theorem Iv(b3 b4:Nat)(Q:AV→SH→Prop)(hq:∀v L,Fz L v (Do (ig c.ins c.ins.length s))→Q v L):
  W.loop (gS Q) [.pptr [c.enc] 0 0,.ptr b3 0 0,.ptr b4 0 0,.Xm (0:Nat)] ((b4,⟨4,[Lc]⟩)::nX s b3 o t):=by
 refine cg c.ins.length (λk (e:aV)=>([.pptr [c.enc] 0 0,.ptr b3 0 0,.ptr b4 0 0,.Xm k],(b4,⟨4,[Lc]⟩)::nX e b3 o t)) (λk e=>jq U e∧(e.regs.length=s.regs.length∧e.taint.length=s.taint.length)∧ig c.ins (c.ins.length-k) e=ig c.ins c.ins.length s) s ⟨hT,⟨rfl,rfl⟩,rfl⟩ (.refl _ _) ?_;intro k e hk ⟨he,⟨hl1,hl2⟩,hrun⟩;rw[←hrun]at hq;have ho':o=none→e.regs=[]:=λx=>WF.1 (by rw[hl1,ho x];rfl)
 have ht':t=none→e.taint=[]:=λx=>WF.1 (by rw[hl2,ht x];rfl)
 dsimp only;unfold gS;have zero:ig c.ins (c.ins.length-k) e=(aV.zero,false)→∀L,Q (.tup [.agg Lc,.bool false]) L:=λh L=>hq _ _ (by rw[h];exact GN (GM _))
 by_cases p1:e.pc<0
 ·have hd1:decide (e.pc<0)=true:=by simpa using p1
  have hz:=zero (Ld (by simp[inB];omega));unfold nX mM
  repeat' (first|refine st ?_|refine sb λnb_ hnb_=>?_|refine s2 (λh=>?_) λh=>?_|fail)
  exact hz _
 ·have hd1:decide (e.pc<0)=false:=by simpa using p1
  by_cases p2:(c.ins.length:Int)≤e.pc
  ·have hd2:decide ((c.ins.length:Int)≤e.pc)=true:=by simpa using p2
   have hz:=zero (Ld (by simp[inB];omega));unfold nX mM
   repeat' (first|refine st ?_|refine sb λnb_ hnb_=>?_|refine s2 (λh=>?_) λh=>?_|fail)
   exact hz _
  ·have hd2:decide ((c.ins.length:Int)≤e.pc)=false:=by simpa using p2
   have hin:inB e.pc c.ins.length=true:=by simp[inB];omega
   have hx:=dN (f:=bj.enc) hin;generalize hi:c.ins.getD e.pc.toNat default=i at hx;by_cases p3:i.op<1∨5<i.op
   ·have hr:=NU (k:=c.ins.length-k) hin (by rw[hi];exact p3);rw[hr]at hq;have fin:∀x,Q (.tup [.agg (mM e o t),.bool true]) ((b4,x)::nX e b3 o t):=λx=>hq _ _ (GN (PM ho' ht' λp hp=>by unfold nX;exact .tail _ (.tail _ hp)))
    unfold nX mM at fin ⊢;by_cases p4:i.op<1
    ·have q1:decide (i.op<1)=true:=by simpa using p4
     rcases o with _|b1<;>rcases t with _|b2
     all_goals
      dsimp only[aO,ae,List.cons_append,List.nil_append]at fin ⊢
      repeat' (first|refine st ?_|refine sb λnb_ hnb_=>?_|refine s2 (λh=>?_) λh=>?_|fail)
      exact fin _
    ·have q1:decide (i.op<1)=false:=by simpa using p4
     have q2:decide (5<i.op)=true:=by simp;omega
     rcases o with _|b1<;>rcases t with _|b2
     all_goals
      dsimp only[aO,ae,List.cons_append,List.nil_append]at fin ⊢
      repeat' (first|refine st ?_|refine sb λnb_ hnb_=>?_|refine s2 (λh=>?_) λh=>?_|fail)
      exact fin _
   ·have q1:decide (i.op<1)=false:=by simp;omega
    have q2:decide (5<i.op)=false:=by simp;omega
    by_cases p5:k=c.ins.length
    ·have q3:decide ((k:Int)=(c.ins.length:Int))=true:=by simp[p5]
     have hz:=zero (by rw[p5,Nat.sub_self];exact NW hin (by rw[hi];exact p3));unfold nX mM
     repeat' (first|refine st ?_|refine sb λnb_ hnb_=>?_|refine s2 (λh=>?_) λh=>?_|fail)
     exact hz _
    ·have q3:decide ((k:Int)=(c.ins.length:Int))=false:=by simp;omega
     have hex:=NT e b3 o t ho' ht' he.len he.small he.short i Xh Xh;obtain⟨m,hm⟩:∃m,c.ins.length-k=m+1:=⟨c.ins.length-k-1,Xh⟩;cases hst:bR i e with
     |none=>
      have hz:=zero (NV hin (by rw[hi];exact p3) (by rw[hi];exact hst));rw[hst]at hex;change af _ _ _ _ (λv L=>v=AV.bool false)at hex;unfold nX mM
      repeat' (first|refine st ?_|((with_reducible refine aX 83 ?_);(refine GL hex (V6 (l₁:=[(b4,_)]) (l₂:=nX e b3 o t)) ?_;rintro _ K' rfl))|refine sb λnb_ hnb_=>?_|refine s2 (λh=>?_) λh=>?_|fail)
      exact hz _
     |some s2=>
      rw[hst]at hex;change af _ _ _ _ (λv L=>v=AV.bool true∧L=nX s2 b3 o t)at hex;have hrun2:ig c.ins (c.ins.length-(k+1)) s2=ig c.ins c.ins.length s:=by rw[←hrun,hm,NX hin (by rw[hi];exact p3) (by rw[hi];exact hst),show c.ins.length-(k+1)=m by omega]
      have hls:=FW hst;unfold nX mM
      repeat' (first|refine st ?_|((with_reducible refine aX 83 ?_);(refine GL hex (V6 (l₁:=[(b4,_)]) (l₂:=nX e b3 o t)) ?_;rintro _ _ ⟨rfl,rfl⟩))|refine sb λnb_ hnb_=>?_|refine s2 (λh=>?_) λh=>?_|fail)
      exact⟨k+1,s2,Xh,Xh,⟨he.step hU hst,⟨Xh,Xh⟩,hrun2⟩,gM (by rw[aE (by omega:k<c.ins.length) Xh]<;>rfl) rfl⟩
end
end
section
set_option maxRecDepth 100000
set_option linter.unusedSimpArgs false
set_option linter.unusedSectionVars false
theorem NY{U:List Int}(hU:U.length≤2^30){ins:List bj}:∀(k:Nat) {s:aV},jq U s→jq U (ig ins k s).1:=by
 have hz:jq U aV.zero:=⟨rfl,Xl,nofun,nofun⟩;intro k
 induction k with
 |zero=>
  intro s h;unfold ig;split
  ·split
   ·exact h
   ·exact hz
  ·exact hz
 |succ k ih=>
  intro s h;unfold ig;split
  ·split
   ·exact h
   ·split
    ·exact hz
    ·rename_i s2 he;exact ih (h.step hU he)
  ·exact hz
theorem Iw{U:List Int}(hU:U.length≤2^30){c:iH}{s:aV}(h:jq U s):jq U (bW c s).1:=by
 unfold bW;split
 ·exact NY hU _ h
 ·exact⟨rfl,Xl,nofun,nofun⟩
section
variable (c:iH) (s:aV) (U:List Int) (hU:U.length≤2^30) (hr:s.regs.length<2^40) (ht:s.taint.length<2^40) (hsh:∀l∈s.taint,l.length≤2^30) (hsub:∀l∈s.taint,∀x∈l,x∈U) (hc:c.ins.length<2^40)
include hU hr ht hsh hsub hc
theorem LU:az Tryz.prog 52 [.agg c.enc,.agg s.enc] (Do (bW c s)):=by
 refine af.fz (zU _ _ _ _ ?_);unfold nA;generalize hQ:(λ(v:AV) (L:SH)=>∃v2 L2,aJ [v] L [v2] L2∧v2=Do (bW c s)∧L2=[])=Q;have hq:∀v L,Fz L v (Do (bW c s))→Q v L:=λv L h=>by subst hQ;exact⟨_,[],aJ.all h,rfl,rfl⟩
 clear hQ;by_cases p1:(s.regs.length:Int)=c.regs
 ·have d1:decide ((s.regs.length:Int)≠c.regs)=false:=by simpa using p1
  by_cases p2:(s.taint.length:Int)=c.regs
  ·have d2:decide ((s.taint.length:Int)≠c.regs)=false:=by simpa using p2
   have hT:jq U s:=⟨Xh,hr,hsh,hsub⟩;have e:bW c s=ig c.ins c.ins.length s:=by unfold bW;rw[if_pos ⟨p1,p2⟩]
   rw[e]at hq;have hcl:=JS s hr ht hsh
   repeat' (first|refine st ?_|((with_reducible refine aX 82 ?_);(refine GL (K:=[]) hcl (List.Perm.refl _) ?_;rintro _ _ ⟨o,t,rfl,rfl,ho,ht2⟩))|refine sb λnb_ hnb_=>?_|refine s2 (λh=>?_) λh=>?_|fail)
   rename_i b3 _;rcases o with _|b1<;>rcases t with _|b2
   all_goals
    repeat' (first|refine st ?_|refine sb λnb_ hnb_=>?_|refine s2 (λh=>?_) λh=>?_|fail)
    exact Iv c s U hU hT hc _ _ ho ht2 b3 nb_ Q hq
  ·have d2:decide ((s.taint.length:Int)≠c.regs)=true:=by simpa using p2
   have e:bW c s=(aV.zero,false):=by unfold bW;rw[if_neg (λh=>p2 h.2)]
   rw[e]at hq
   repeat' (first|refine st ?_|refine sb λnb_ hnb_=>?_|refine s2 (λh=>?_) λh=>?_|fail)
   exact hq _ _ (GN (GM _))
 ·have d1:decide ((s.regs.length:Int)≠c.regs)=true:=by simpa using p1
  have e:bW c s=(aV.zero,false):=by unfold bW;rw[if_neg (λh=>p1 h.1)]
  rw[e]at hq
  repeat' (first|refine st ?_|refine sb λnb_ hnb_=>?_|refine s2 (λh=>?_) λh=>?_|fail)
  exact hq _ _ (GN (GM _))
end
end
section
set_option maxRecDepth 100000
set_option linter.unusedSimpArgs false
def cX(w:aH):SyncD:=⟨List.replicate w.locks.length ⟨-1,[]⟩,-1,List.replicate w.futures.length false,(List.replicate w.threads.length (⟨0,0,false⟩:ThrD)).set 0 ⟨1,0,false⟩⟩
theorem NZ(w:aH)(h1:w.locks.length≤100)(h2:w.futures.length≤100)(h3:w.threads.length≤100):az Tryz.prog 71 [.agg w.enc] (.agg (cX w).enc):=by
 refine af.fz (BD _ _ _ ?_);unfold ph;generalize hQ:(λ(v:AV) (L:SH)=>∃v2 L2,aJ [v] L [v2] L2∧v2=AV.agg (cX w).enc∧L2=[])=Q
 repeat' (first|refine st ?_|refine sb λnb_ hnb_=>?_|refine s2 (λh=>?_) λh=>?_|fail)
 rename_i b2 _ b3 _ b4 _ b5 _ b6 _;refine sY w.locks.length (λi=>([.ptr b3 0 0,.pptr [[.sl b4 0 w.locks.length,.Xm (-1),.sl b5 0 w.futures.length,.sl b6 0 w.threads.length]] 0 0,.Xm w.locks.length,.Xm i],
  [(b6,⟨3,List.replicate w.threads.length [.Xm 0,.Xm 0,.bool false]⟩),(b5,⟨1,List.replicate w.futures.length [.bool false]⟩),(b4,⟨2,List.replicate i [.Xm (-1),.nils]++List.replicate (w.locks.length-i) [.Xm 0,.nils]⟩),(b3,⟨4,[[.nils,.Xm 0,.nils,.nils]]⟩)])) (λ_=>True) trivial rfl Xk ?_
 intro i hi _;dsimp only;unfold nq;rcases Nat.lt_or_ge i w.locks.length with g1|g1
 ·have hd:=bF g1;have hx:=Pn i w.locks.length (α:=List AV) [.Xm (-1),.nils] [.Xm 0,.nils] g1
  repeat' (first|refine st ?_|refine sb λnb_ hnb_=>?_|refine s2 (λh=>?_) λh=>?_|fail)
  refine⟨i+1,Xh,Xh,trivial,gM (by rw[aE g1 Xh]<;>rfl) ?_⟩;rw[←Pm i w.locks.length _ _ g1];rfl
 ·have hd:=bI g1;have fin:∀(T:List ThrD) (L:SH),T=(cX w).threads→L=[(b6,⟨3,T.map ThrD.enc⟩),(b5,⟨1,List.replicate w.futures.length [.bool false]⟩),(b4,⟨2,List.replicate i [.Xm (-1),.nils]++List.replicate (w.locks.length-i) [.Xm 0,.nils]⟩),(b3,⟨4,[[.sl b4 0 w.locks.length,.Xm (-1),.sl b5 0 w.futures.length,.sl b6 0 w.threads.length]]⟩)]→
    Q (.agg [.sl b4 0 w.locks.length,.Xm (-1),.sl b5 0 w.futures.length,.sl b6 0 w.threads.length]) L:=by
   intro T L hT hL;subst hL;subst hQ;have hi0:i=w.locks.length:=by omega
   subst hi0;refine⟨_,[],aJ.all (Fz.aggs (.cons ?_ (.cons (.refl _) (.cons ?_ (.cons ?_ .nil))))),rfl,rfl⟩
   ·refine Fz.slm (f:=λ_=>[.Xm (-1),.nils]) (.tail _ (.tail _ (.head _))) (by simp[cX]) Xl (by simp[cX]) (λy hy=>rfl) (λy hy q a a2 q1 q2=>?_);have:y=⟨-1,[]⟩:=by simp[cX]at hy;exact hy.2
    subst this
    match q with
    |0=>cases q1;cases q2;exact .refl _
    |1=>cases q1;cases q2;exact .nils
    |q+2=>simp at q1
   ·exact Fz.sls (.tail _ (.head _)) (by simp[cX,aT]) Xl (by simp[cX])
   ·exact Fz.sls (.head _) (by rw[hT]) Xl (by simp[cX])
  rcases Wv w.threads.length with g2|g2
  ·have hd2:decide ((0:Int)<(w.threads.length:Int))=false:=by simp[g2]
   repeat' (first|refine st ?_|refine sb λnb_ hnb_=>?_|refine s2 (λh=>?_) λh=>?_|fail)
   exact fin [] _ (by simp[cX,g2]) (by simp[g2])
  ·have hd2:decide ((0:Int)<(w.threads.length:Int))=true:=by simpa using g2
   have hx0:(List.replicate w.threads.length ([.Xm 0,.Xm 0,.bool false]:List AV))[0]? =some [.Xm 0,.Xm 0,.bool false]:=by simp[g2]
   repeat' (first|refine st ?_|refine sb λnb_ hnb_=>?_|refine s2 (λh=>?_) λh=>?_|fail)
   refine fin _ _ rfl ?_;simp[cX,ThrD.enc,Wx]
end
section
set_option maxRecDepth 100000
def zW(Q:R)(b:Kn)(c d e f g:AV)(a:SH):Prop:=W.un .not g λh=>wk h (Q (.bool false) a) (wb .add 3 c (.Xm 1) λi=>b [d,e,f,i] a)
def zX(Q:R)(f:Kn)(c:SH)(d a e g:AV):Prop:=lD 2 d a c λh=>qv [(.Xm 0),.nils] 2 h c λi b=>W.faddr 0 e λj=>bZ 6 j b λk=>bZ 2 i b λl=>wc (.fn 39 []) [k,a,l] b (zW Q f a e d g)
def lW(Q:R)(d:Vs)(a:SH)(e:Kn):Prop:=yX 1 20 21 22 d λf g b c=>wb .lss 3 c b λh=>wk h ((zX Q e a g c f b)) (Q (.bool true) a)
def zY(Q:R)(b g:AV)(h:SH):Prop:=W.un .not g λa=>wg a false (W.faddr 6 b) h λi d=>wg a false (wl i d) d λj k=>wg a false (W.len j) k λl m=>wg a false (W.faddr 0 b) m λn o=>wg a false (W.faddr 4 n) o λp e=>wg a false (wl p e) e λq r=>wg a false (W.len q) r λs t=>wg a false (wb .neq 3 l s) t λu c=>W.pick a (.bool true) u λv=>wk v (Q (.bool false) c) (aA 6 b c λf=>W.len f λw=>W.loop (lW Q) [b,f,w,(.Xm 0)] c)
def nC(c:AV)(L:SH)(Q:R):Prop:=su c L λa b=>W.faddr 0 a λd=>bZ 6 d b λe=>wc (.fn 38 []) [e] b (zY Q a)
theorem zZ(t0:AV)(L:SH)(Q:R)(h:nC t0 L Q):af Tryz.prog 21 [t0] L Q:=
 fs [] [(4,[1,20,21,22])] [(0,[1]),(5,[4])] [] Tryz.func21 h
def mN(Q:R)(b:Kn)(c d e f g h i j k l m:AV)(a:SH):Prop:=W.un .not m λn=>wk n (Q (.bool false) a) (wb .add 3 c (.Xm 1) λo=>b [d,e,f,g,h,i,j,k,l,o] a)
def mO(Q:R)(e:Kn)(a:SH)(b c d f g h i j k l:AV):Prop:=wJ 1 b c a λm=>aA 0 d a λn=>wc (.fn 67 []) [m,n] a (mN Q e c f g d h i j k b l)
def mP(Q:R)(b:Kn)(c d e f g h i:AV)(a:SH):Prop:=W.un .not i λj=>wk j (Q (.bool false) a) (wb .add 3 c (.Xm 1) λk=>b [d,e,f,g,h,k] a)
def mQ(Q:R)(d:Kn)(a:SH)(b c e f g h i:AV):Prop:=bZ 6 b a λj=>aA 1 c a λk=>W.len k λl=>bZ 6 e a λm=>wc (.fn 69 []) [j,l,m] a (mP Q d f g b c h i)
def ga(Q:R)(k:Kn)(l:Vs)(a:SH)(m:Kn):Prop:=Pz 1 3 5 8 26 27 28 78 79 80 l λb c d e f g h n i j=>wb .lss 3 j i λo=>wk o ((mO Q m a n j d b c e f g h i)) ((mQ Q k a c d e h b f g))
def mR(Q:R)(b:Kn)(c d e f g h i a:AV)(j:SH):Prop:=W.len a λk=>W.loop (ga Q b) [c,d,e,f,g,h,i,a,k,(.Xm 0)] j
def dQ(Q:R)(c:Kn)(d:Vs)(a:SH):Prop:=RI 1 3 5 6 8 26 27 28 d λe f g l b h i j=>bZ 6 b a λk=>wc (.fn 68 []) [k] a (mR Q c e f g b h i j)
def mS(Q:R)(c:Kn)(d:Vs)(a:SH)(b e f g h i j:AV):Prop:=aA 5 b a λk=>wb .neq 3 k (.Xm (-1)) λl=>wk l (Q (.bool false) a) (c [e,f,g,(av [1,3,5,26,27,28] d 6),b,h,i,j] a)
def mT(Q:R)(a:Vs)(b:SH):Prop:=RI 1 3 5 6 8 26 27 28 a λd e f c g h i j=>Q c b
def mU(Q:R)(n:Kn)(o:Vs)(b c d e f g h p:AV)(q:SH):Prop:=W.un .not p λa=>wg a false (W.faddr 5 b) q λr i=>wg a false (wl r i) i λs t=>wg a false (W.faddr 5 c) t λu j=>wg a false (wl u j) j λv k=>wg a false (W.idx 3 s v k) k λw x=>wg a false (W.faddr 0 w) x λy l=>wg a false (wl y l) l λz A=>bB a false d A λB C=>wg a false (wb .neq 3 z B) C λD m=>W.pick a (.bool true) D λE=>wk E (W.join (mT Q) λF=>F [d,b,e,(.bool false),c,f,g,h] m) (n [d,b,e,(av [1,3,5,26,27,28] o 6),c,f,g,h] m)
def mV(Q:R)(d:Kn)(e:Vs)(a:SH)(b c f g h i j:AV):Prop:=aA 5 b a λk=>aA 5 c a λl=>W.len l λm=>wc (.fn 67 []) [k,m] a (mU Q d e c b f g h i j)
def mW(Q:R)(k:Kn)(c:Vs)(a:SH)(b d e f g h i:AV):Prop:=W.join (dQ Q k) λj=>aA 0 b a λl=>wb .eql 3 l (.Xm 28) λm=>wk m ((mS Q j c a b d e f g h i)) ((mV Q j c a b e d f g h i))
def mX(Q:R)(m:Kn)(n:Vs)(e:SH)(f d g o p q:AV):Prop:=lD 6 f d e λr=>qv [(.Xm 0),(.Xm 0),(.Xm 0),(.Xm 0),(.Xm 0),(.Xm 0)] 6 r e λb h=>aA 0 b h λs=>wb .lss 3 s (.Xm 1) λc=>wg c false (W.faddr 0 b) h λt i=>wg c false (wl t i) i λu v=>wg c false (wb .gtr 3 u (.Xm 28)) v λw x=>W.pick c (.bool true) w λa=>wg a false (W.faddr 0 b) x λy j=>wg a false (wl y j) j λz A=>wg a false (wb .eql 3 z (.Xm 28)) A λB C=>bB a false d C λD E=>wg a false (W.faddr 1 g) E λF k=>wg a false (wl F k) k λG H=>wg a false (W.len G) H λI J=>wg a false (wb .sub 3 I (.Xm 1)) J λM N=>wg a false (wb .eql 3 D M) N λO P=>wg a false (wb .neq 4 B O) P λS l=>W.pick a (.bool true) S λT=>wk T (Q (.bool false) l) ((mW Q m n l b o p g f q d))
def gb(Q:R)(b:Vs)(a:SH)(f:Kn):Prop:=Ih 1 3 5 26 27 28 b λg h c i d e=>wb .lss 3 e d λj=>wk j ((mX Q f b a i e c g h d)) (aA 1 c a λk=>wc (.fn 70 []) [k] a λl m=>Q l m)
def gz(i j k:AV)(L:SH)(Q:R):Prop:=W.box i L λl m=>W.box k m λn o=>W.frz1 l o λp q=>W.frz1 n q λa e=>aA 0 a e λr=>wb .lss 3 r (.Xm 0) λc=>wg c false (W.faddr 0 a) e λs f=>wg c false (wl s f) f λt u=>wg c false (wb .gtr 3 t (.Xm 32)) u λv w=>W.pick c (.bool true) v λb=>wg b false (W.faddr 1 a) w λx g=>wg b false (wl x g) g λy z=>wg b false (W.len y) z λA B=>wg b false (wb .eql 3 A (.Xm 0)) B λC d=>W.pick b (.bool true) C λD=>wk D (Q (.bool false) d) (aA 1 a d λh=>W.len h λE=>W.loop (gb Q) [j,p,a,h,E,(.Xm 0)] d)
theorem mY(t0 t1 t2:AV)(L:SH)(Q:R)(h:gz t0 t1 t2 L Q):af Tryz.prog 39 [t0,t1,t2] L Q:=
 fs [(12,[1,3,5,6,8,26,27,28])] [(14,[1,3,5,8,26,27,28,78,79,80]),(4,[1,3,5,26,27,28])] [(0,[3,5]),(5,[8])] [] Tryz.func39 h
def kW(Q:R)(a:AV)(b:SH):Prop:=W.ext 0 a λd=>W.ext 1 a λc=>Q c b
def kX(Q:R)(a:AV)(b:SH):Prop:=W.ext 0 a λd=>W.ext 1 a λc=>Q c b
def kY(Q:R)(a:SH)(b c d:AV):Prop:=wb .eql 3 b (.Xm 27) λe=>wk e (aA 2 c a λf=>aA 3 d a λg=>W.len g λh=>wc (.fn 67 []) [f,h] a λi j=>Q i j) (Q (.bool true) a)
def kZ(Q:R)(a:SH)(b c d:AV):Prop:=wb .eql 3 b (.Xm 26) λe=>wk e (aA 1 c a λf=>aA 3 d a λg=>W.len g λh=>wc (.fn 67 []) [f,h] a λi j=>Q i j) ((kY Q a b c d))
def k9(Q:R)(d:Vs)(a:SH):Prop:=yX 3 5 12 97 d λb c e f=>wk f (aA 1 c a λg=>aA 4 b a λh=>W.len h λi=>wc (.fn 67 []) [g,i] a λj k=>Q j k) ((kZ Q a e c b))
def la(Q:R)(b:SH)(a c d:AV):Prop:=W.join (k9 Q) λe=>wb .eql 3 a (.Xm 24) λf=>wk f (e [c,d,a,f] b) (wb .eql 3 a (.Xm 25) λg=>e [c,d,a,g] b)
def ld(Q:R)(d:Vs)(a:SH):Prop:=yX 3 5 12 87 d λb c e f=>wk f (aA 1 c a λg=>aA 2 b a λh=>W.len h λi=>wc (.fn 67 []) [g,i] a λj k=>Q j k) ((la Q a e b c))
def lf(Q:R)(b:SH)(a c d:AV):Prop:=W.join (ld Q) λe=>wb .eql 3 a (.Xm 21) λf=>wk f (e [c,d,a,f] b) (wb .eql 3 a (.Xm 22) λg=>wk g (e [c,d,a,g] b) (wb .eql 3 a (.Xm 23) λh=>e [c,d,a,h] b))
def lg(Q:R)(d:Vs)(a:SH):Prop:=yX 3 5 12 78 d λb c e f=>wk f (bZ 6 b a λg=>aA 1 c a λh=>wc (.fn 65 []) [g,h,(.bool true)] a λi j=>Q i j) ((lf Q a e b c))
def lh(b:Kn)(c:SH)(a d e:AV):Prop:=wb .eql 3 a (.Xm 14) λf=>wk f (b [d,e,a,f] c) (wb .eql 3 a (.Xm 15) λg=>wk g (b [d,e,a,g] c) (wb .eql 3 a (.Xm 16) λh=>b [d,e,a,h] c))
def lj(Q:R)(b:SH)(a c d:AV):Prop:=W.join (lg Q) λe=>wb .eql 3 a (.Xm 13) λf=>wk f (e [c,d,a,f] b) ((lh e b a c d))
def lm(Q:R)(d:Vs)(a:SH):Prop:=yX 3 5 12 71 d λb c e f=>wk f (bZ 6 b a λg=>aA 1 c a λh=>wc (.fn 65 []) [g,h,(.bool false)] a λi j=>Q i j) ((lj Q a e b c))
def lq(Q:R)(b:SH)(a c d:AV):Prop:=W.join (lm Q) λe=>wb .eql 3 a (.Xm 11) λf=>wk f (e [c,d,a,f] b) (wb .eql 3 a (.Xm 12) λg=>e [c,d,a,g] b)
def lr(Q:R)(a:SH)(c d b:AV):Prop:=wb .eql 3 c (.Xm 9) λe=>wk e (bZ 6 d a λf=>aA 1 b a λg=>aA 4 b a λh=>wc (.fn 106 []) [f,g,h] a λi j=>Q i j) ((lq Q a c d b))
def lu(Q:R)(a:SH)(c d b:AV):Prop:=wb .eql 3 c (.Xm 7) λe=>wk e (bZ 6 d a λf=>aA 2 b a λg=>aA 4 b a λh=>wc (.fn 106 []) [f,g,h] a λi j=>Q i j) ((lr Q a c d b))
def lv(Q:R)(a:SH)(b c d:AV):Prop:=wb .eql 3 b (.Xm 8) λe=>wk e (bZ 6 c a λf=>aA 1 d a λg=>wc (.fn 105 []) [f,g] a λh i=>Q h i) ((lu Q a b c d))
def j4(Q:R)(a:SH)(b c d:AV):Prop:=wb .eql 3 b (.Xm 6) λe=>wk e (bZ 6 c a λf=>aA 2 d a λg=>wc (.fn 105 []) [f,g] a λh i=>Q h i) ((lv Q a b c d))
def j5(Q:R)(a:SH)(d b c e:AV):Prop:=wb .eql 3 b (.Xm 10) λf=>wk f (aA 2 c a λg=>wc (.fn 67 []) [g,d] a λh i=>Q h i) ((j4 Q a b e c))
def j6(Q:R)(a:SH)(b c d e:AV):Prop:=wb .eql 3 c (.Xm 5) λf=>wk f (aA 1 d a λg=>wc (.fn 67 []) [g,b] a λh i=>Q h i) ((j5 Q a b c d e))
def j7(Q:R)(a:SH)(d b c e:AV):Prop:=wb .eql 3 b (.Xm 4) λf=>wk f (aA 4 c a λg=>wc (.fn 104 []) [g,(.Xm 0),(.Xm 0)] a (kX Q)) ((j6 Q a d b c e))
def fN(d e f:AV)(L:SH)(Q:R):Prop:=W.box d L λg h=>W.box f h λi j=>W.frz1 g j λk l=>W.frz1 i l λb a=>aA 0 b a λc=>wb .eql 3 c (.Xm 3) λm=>wk m (aA 4 b a λn=>wc (.fn 103 []) [n,(.Xm 0)] a (kW Q)) ((j7 Q a e c b k))
theorem lw(t0 t1 t2:AV)(L:SH)(Q:R)(h:fN t0 t1 t2 L Q):af Tryz.prog 69 [t0,t1,t2] L Q:=
 fs [(21,[3,5,12,71]),(26,[3,5,12,78]),(30,[3,5,12,87]),(33,[3,5,12,97])] [] [(0,[3,5])] [] Tryz.func69 h
def qI(Q:R)(e f a:AV)(g:SH):Prop:=wg a true (W.faddr 0 f) g λh b=>wg a true (wl h b) b λi j=>bB a true e j λk c=>wg a true (W.idx 5 i k c) c λl m=>wg a true (W.faddr 2 l) m λn d=>wg a true (wl n d) d λo p=>wg a true (wb .eql 3 o (.Xm 0)) p λq r=>W.pick a q (.bool false) λs=>Q s r
def jt(d a:AV)(L:SH)(Q:R):Prop:=su d L λb c=>aA 0 b c λe=>W.len e λf=>wc (.fn 67 []) [a,f] c (qI Q a b)
theorem qJ(t0 t1:AV)(L:SH)(Q:R)(h:jt t0 t1 L Q):af Tryz.prog 105 [t0,t1] L Q:=
 fs [] [] [(0,[2])] [] Tryz.func105 h
def s7(Q:R)(d o e b:AV)(p:SH):Prop:=wg b true (W.faddr 0 e) p λq f=>wg b true (wl q f) f λr s=>bB b true d s λt g=>wg b true (W.idx 5 r t g) g λu v=>wg b true (W.faddr 1 u) v λw h=>wg b true (wl w h) h λx y=>wg b true (wb .eql 3 x (.Xm 0)) y λz A=>W.pick b z (.bool false) λc=>wg c true (W.faddr 0 e) A λB i=>wg c true (wl B i) i λC D=>bB c true d D λE j=>wg c true (W.idx 5 C E j) j λF G=>wg c true (W.faddr 2 F) G λH k=>wg c true (wl H k) k λI J=>wg c true (wb .neq 3 I (.Xm 0)) J λM N=>W.pick c M (.bool false) λa=>wg a true (W.faddr 0 e) N λO l=>wg a true (wl O l) l λP S=>bB a true d S λT m=>wg a true (W.idx 5 P T m) m λU V=>wg a true (W.faddr 2 U) V λX n=>wg a true (wl X n) n λY Z=>bB a true o Z λa0 a1=>wg a true (wb .eql 2 Y a0) a1 λa2 a3=>W.pick a a2 (.bool false) λa4=>Q a4 a3
def ku(d a e:AV)(L:SH)(Q:R):Prop:=su d L λb c=>aA 0 b c λf=>W.len f λg=>wc (.fn 67 []) [a,g] c (s7 Q a e b)
theorem s8(t0 t1 t2:AV)(L:SH)(Q:R)(h:ku t0 t1 t2 L Q):af Tryz.prog 106 [t0,t1,t2] L Q:=
 fs [] [] [(0,[3])] [] Tryz.func106 h
def ju(b:AV)(L:SH)(Q:R):Prop:=wb .geq 3 b (.Xm 1) λa=>bB a true b L λc d=>wg a true (wb .leq 3 c (.Xm 5)) d λe f=>W.pick a e (.bool false) λg=>Q g f
theorem qK(t0:AV)(L:SH)(Q:R)(h:ju t0 L Q):af Tryz.prog 107 [t0] L Q:=
 fs [] [] [] [] Tryz.func107 h
def qL(e:Kn)(a:SH)(b c d f g h i:AV):Prop:=W.idx 1 b c a λj=>W.store 1 j (.bool true) a λk=>wc (.fn 108 []) [d,c] k λl m=>e [d,f,b,g,l,h,i] m
def qM(k l:Kn)(b c d f g h a:AV)(m:SH):Prop:=bB a true b m λn o=>bB a true c o λp i=>wg a true (W.idx 1 n p i) i λq j=>wg a true (wl q j) j λr s=>wg a true (W.un .not r) s λt e=>W.pick a t (.bool false) λu=>wk u (W.idx 1 b c e λv=>W.store 1 v (.bool true) e λw=>wc (.fn 108 []) [d,c] w λx y=>k [d,b,f,x,g,h] y) (wb .add 3 h (.Xm 1) λz=>l [d,b,f,g,z] e)
def fg(d:Kn)(e:Vs)(a:SH)(f:Kn):Prop:=Ih 0 3 4 6 14 15 e λb g h c i j=>fe 6 0 b c a λk=>wc (.fn 107 []) [k] a (qM f d g c b h i j)
def qN(Q:R)(l m:Kn)(c d e f g h i a:AV)(n:SH):Prop:=bB a true c n λo p=>bB a true d p λq j=>wg a true (W.idx 1 o q j) j λr k=>wg a true (wl r k) k λs t=>wg a true (W.un .not s) t λu b=>W.pick a u (.bool false) λv=>wk v (wJ 1 e d b λw=>wk w (Q (.bool false) b) ((qL l b e d f c g h i))) (W.loop (fg m) [f,c,e,g,h,i] b)
def fh(Q:R)(d:Kn)(e:Vs)(a:SH)(f:Kn):Prop:=Nv 0 3 4 5 6 14 15 e λb g h i c j k=>fe 6 0 b c a λl=>wc (.fn 107 []) [l] a (qN Q f d g c h b i j k)
def iI(Q:R)(d:Vs)(b:SH)(e:Kn):Prop:=GC 0 3 4 14 15 d λf g h c a=>wb .lss 3 a c λi=>wk i (W.loop (fh Q e) [f,g,h,a,a,c,a] b) (Q (.bool true) b)
def jv(a:AV)(L:SH)(Q:R):Prop:=W.len a λb=>W.mslice 1 1 [(.bool false)] b b L λd e=>W.len a λc=>W.mslice 1 1 [(.bool false)] c c e λf g=>W.len a λh=>W.loop (iI Q) [a,d,f,h,(.Xm 0)] g
theorem qO(t0:AV)(L:SH)(Q:R)(h:jv t0 L Q):af Tryz.prog 70 [t0] L Q:=
 fs [] [(7,[0,3,4,5,6,14,15]),(13,[0,3,4,6,14,15]),(4,[0,3,4,14,15])] [] [] Tryz.func70 h
def iJ(b a:AV)(L:SH)(Q:R):Prop:=fe 6 0 b a L λc=>wb .eql 3 c (.Xm 5) λd=>wk d (fe 6 1 b a L λe=>Q e L) (wb .add 3 a (.Xm 1) λf=>Q f L)
theorem pt(t0 t1:AV)(L:SH)(Q:R)(h:iJ t0 t1 L Q):af Tryz.prog 108 [t0,t1] L Q:=
 fs [] [] [] [] Tryz.func108 h
def nY(Q:R)(b:Kn)(c d e f g:AV)(a:SH):Prop:=W.un .not g λh=>wk h (Q (.bool false) a) (wb .add 3 c (.Xm 1) λi=>b [d,e,f,i] a)
def nZ(Q:R)(f:Kn)(b:SH)(c d e g:AV):Prop:=lD 2 c d b λh=>qv [(.str []),(.Xm 0)] 2 h b λi a=>bZ 6 e a λj=>aA 1 i a λk=>wc (.fn 65 []) [j,k,(.bool false)] a (nY Q f d e c g)
def gA(Q:R)(e:Vs)(a:SH)(f:Kn):Prop:=yX 1 60 61 62 e λb g c d=>wb .lss 3 d c λh=>wk h ((nZ Q f a g d b c)) (bZ 6 b a λi=>wc (.fn 66 []) [i] a λj k=>Q j k)
def oa(Q:R)(b d:AV)(e:SH):Prop:=W.ext 0 d λh=>W.ext 1 d λi=>W.un .not i λa=>wg a false (bZ 6 b e) e λj k=>bB a false h k λl f=>W.grd a false (λm=>wc (.fn 64 []) [j,l] f λn o=>m n o) f λp q=>wg a false (W.un .not p) q λr c=>W.pick a (.bool true) r λs=>wk s (Q (.bool false) c) (aA 2 b c λg=>W.len g λt=>W.loop (gA Q) [b,g,t,(.Xm 0)] c)
def oe(Q:R)(d:SH)(b:AV):Prop:=aA 4 b d λf=>W.len f λg=>wb .lss 3 g (.Xm 1) λa=>wg a false (W.faddr 4 b) d λh e=>wg a false (wl h e) e λi j=>wg a false (W.len i) j λk l=>wg a false (wb .gtr 3 k (.Xm 4)) l λm c=>W.pick a (.bool true) m λn=>wk n (Q (.bool false) c) (aA 0 b c λo=>wc (.fn 63 []) [o] c (oa Q b))
def ii(l:AV)(L:SH)(Q:R):Prop:=su l L λa f=>aA 0 a f λm=>W.len m λn=>wb .gtr 3 n (.Xm 12) λb=>wg b false (W.faddr 1 a) f λo g=>wg b false (wl o g) g λp q=>wg b false (W.len p) q λr s=>wg b false (wb .gtr 3 r (.Xm 4)) s λt u=>W.pick b (.bool true) t λc=>wg c false (W.faddr 2 a) u λv h=>wg c false (wl v h) h λw x=>wg c false (W.len w) x λy z=>wg c false (wb .gtr 3 y (.Xm 2)) z λA B=>W.pick c (.bool true) A λd=>wg d false (W.faddr 3 a) B λC i=>wg d false (wl C i) i λD E=>wg d false (W.len D) E λF G=>wg d false (wb .gtr 3 F (.Xm 2)) G λH I=>W.pick d (.bool true) H λe=>wg e false (W.faddr 5 a) I λJ j=>wg e false (wl J j) j λM N=>wg e false (W.len M) N λO P=>wg e false (wb .gtr 3 O (.Xm 60)) P λS k=>W.pick e (.bool true) S λT=>wk T (Q (.bool false) k) ((oe Q k a))
theorem og(t0:AV)(L:SH)(Q:R)(h:ii t0 L Q):af Tryz.prog 38 [t0] L Q:=
 fs [] [(9,[1,60,61,62])] [(0,[1]),(10,[6])] [] Tryz.func38 h
def oh(Q:R)(b:Kn)(a:SH)(c d e f:AV):Prop:=aA 1 c a λg=>wb .neq 3 g (.Xm 0) λh=>wk h (Q (.tup [.nils,(.bool false)]) a) (wb .add 3 d (.Xm 1) λi=>b [e,f,i] a)
def oo(Q:R)(f:Kn)(g:SH)(b c d e h i:AV):Prop:=W.faddr 1 b λj=>W.store 1 j c g λa=>(true=true)∧(wb .add 3 d c λk=>di [] 4 5 e k a λl m=>dr [] 5 5 l a λn o=>dr [rm 5 o,rm 4 m] 6 5 b a λp s=>wb .neq 126 n p λq=>wk q (Q (.tup [.nils,(.bool false)]) a) (wb .add 3 c (.Xm 1) λr=>f [e,h,d,b,i,r] a))
def dW(Q:R)(h:Kn)(i:Vs)(a:SH)(j:Kn):Prop:=Ih 0 4 5 6 51 52 i λb c d e f g=>wb .lss 3 g f λk=>wk k ((oo Q j a e g d b c f)) (aA 2 e a λl=>wb .add 3 d l λm=>h [b,c,m] a)
def oq(Q:R)(l:Kn)(f:SH)(b g h m:AV):Prop:=aA 2 b f λn=>wb .lss 3 n (.Xm 1) λc=>wg c false (W.faddr 2 b) f λo i=>wg c false (wl o i) i λp q=>wg c false (wb .gtr 3 p (.Xm 4)) q λr s=>W.pick c (.bool true) r λd=>wg d false (W.faddr 3 b) s λt j=>wg d false (wl t j) j λu v=>W.pick d (.bool true) u λa=>wg a false (W.faddr 2 b) v λw k=>wg a false (wl w k) k λx y=>bB a false g y λz A=>wg a false (W.len z) A λB C=>bB a false h C λD E=>wg a false (wb .sub 3 B D) E λF G=>wg a false (wb .gtr 3 x F) G λH e=>W.pick a (.bool true) H λI=>wk I (Q (.tup [.nils,(.bool false)]) e) (aA 2 b e λJ=>W.loop (dW Q l) [g,m,h,b,J,(.Xm 0)] e)
def ou(Q:R)(e:Kn)(f:SH)(b c i:AV):Prop:=lD 5 b c f λj=>W.alloc [(.str []),(.Xm 0),(.Xm 0),(.bool false),(.Xm 0)] f λa k=>W.store 5 a j k λg=>aA 0 a g λl=>W.bslice 1 [(.str [])] 1 [(0,l)] g λm n=>W.append 1 16 i m n λh d=>aA 2 a d λo=>wb .eql 3 o (.Xm 0) λp=>wk p ((oh Q e d a c b h)) ((oq Q e d a b c h))
def gB(Q:R)(e:Vs)(a:SH)(f:Kn):Prop:=vY 0 4 5 e λb c d=>W.len b λg=>wb .lss 3 d g λh=>wk h ((ou Q f a b d c)) (Q (.tup [c,(.bool true)]) a)
def eH(a:AV)(L:SH)(Q:R):Prop:=W.loop (gB Q) [a,.nils,(.Xm 0)] L
theorem gC(t0:AV)(L:SH)(Q:R)(h:eH t0 L Q):af Tryz.prog 63 [t0] L Q:=
 fs [] [(13,[0,4,5,6,51,52]),(3,[0,4,5])] [] [(16,[0,0,0,6,15,31,0,127])] Tryz.func63 h
def ov(Q:R)(c:Kn)(d:Vs)(a:SH):Prop:=Nv 1 3 4 6 8 9 10 d λe f b g h i j=>aA 1 g a λk=>wb .neq 3 k b λl=>wk l (Q (.bool false) a) (wb .add 3 b (.Xm 1) λm=>wb .add 3 j (.Xm 1) λn=>c [e,f,m,h,i,n] a)
def oz(Q:R)(i:Kn)(a:SH)(b c d e f g j:AV):Prop:=W.join (ov Q i) λh=>aA 0 b a λk=>wb .gtr 3 k c λl=>wk l (aA 0 b a λm=>h [d,m,(.Xm 0),b,e,f,g] a) (h [d,c,j,b,e,f,g] a)
def oA(Q:R)(l:Kn)(c:SH)(d e f g m n:AV):Prop:=lD 3 d e c λo=>qv [(.Xm 0),(.Xm 0),(.Xm 0)] 3 o c λb h=>aA 0 b h λp=>wb .lss 3 p f λa=>wg a false (W.faddr 0 b) h λq i=>wg a false (wl q i) i λr s=>wg a false (W.faddr 4 g) s λt j=>wg a false (wl t j) j λu v=>wg a false (W.len u) v λw x=>wg a false (wb .geq 3 r w) x λy k=>W.pick a (.bool true) y λz=>wk z (Q (.bool false) k) ((oz Q l k b f g d m e n))
def gD(Q:R)(d:Vs)(a:SH)(e:Kn):Prop:=Ih 1 3 4 8 9 10 d λf g h i b c=>wb .lss 3 c b λj=>wk j ((oA Q e a i c g f b h)) (Q (.bool true) a)
def ij(d:AV)(L:SH)(Q:R):Prop:=su d L λa b=>aA 5 a b λc=>W.len c λe=>W.loop (gD Q) [a,(.Xm 0),(.Xm 0),c,e,(.Xm 0)] b
theorem oC(t0:AV)(L:SH)(Q:R)(h:ij t0 L Q):af Tryz.prog 66 [t0] L Q:=
 fs [(8,[1,3,4,6,8,9,10])] [(3,[1,3,4,8,9,10])] [(0,[1]),(4,[6])] [] Tryz.func66 h
def xG(Q:R)(e f g a:AV)(h:SH):Prop:=wg a true (W.faddr 1 g) h λi b=>wg a true (wl i b) b λj k=>bB a true e k λl c=>wg a true (W.idx 2 j l c) c λm n=>wg a true (W.faddr 1 m) n λo d=>wg a true (wl o d) d λp q=>bB a true f q λr s=>wg a true (wb .eql 4 p r) s λt u=>W.pick a t (.bool false) λv=>Q v u
def lX(d a e:AV)(L:SH)(Q:R):Prop:=su d L λb c=>aA 1 b c λf=>W.len f λg=>wc (.fn 67 []) [a,g] c (xG Q a e b)
theorem xH(t0 t1 t2:AV)(L:SH)(Q:R)(h:lX t0 t1 t2 L Q):af Tryz.prog 65 [t0,t1,t2] L Q:=
 fs [] [] [(0,[3])] [] Tryz.func65 h
def lY(b c:AV)(L:SH)(Q:R):Prop:=wb .geq 3 b (.Xm 0) λa=>bB a true b L λd e=>bB a true c e λf g=>wg a true (wb .lss 3 d f) g λh i=>W.pick a h (.bool false) λj=>Q j i
theorem xI(t0 t1:AV)(L:SH)(Q:R)(h:lY t0 t1 L Q):af Tryz.prog 67 [t0,t1] L Q:=
 fs [] [] [] [] Tryz.func67 h
def pu(Q:R)(a:SH)(b:AV):Prop:=aA 1 b a λc=>aA 2 b a λd=>aA 3 b a λe=>W.bslice 1 [(.Xm 0)] 3 [(0,c),(1,d),(2,e)] a λf g=>Q f g
def pw(Q:R)(a:SH)(c b:AV):Prop:=wb .eql 3 c (.Xm 9) λd=>wk d (aA 2 b a λe=>aA 3 b a λf=>W.bslice 1 [(.Xm 0)] 2 [(0,e),(1,f)] a λg h=>Q g h) (Q .nils a)
def px(Q:R)(c:Vs)(a:SH):Prop:=vY 1 4 37 c λb d e=>wk e (aA 2 b a λf=>W.bslice 1 [(.Xm 0)] 1 [(0,f)] a λg h=>Q g h) ((pw Q a d b))
def py(Q:R)(b:SH)(a c:AV):Prop:=W.join (px Q) λd=>wb .eql 3 a (.Xm 8) λe=>wk e (d [c,a,e] b) (wb .eql 3 a (.Xm 26) λf=>d [c,a,f] b)
def pz(Q:R)(a:SH)(c b:AV):Prop:=wb .eql 3 c (.Xm 7) λd=>wk d (aA 1 b a λe=>aA 3 b a λf=>W.bslice 1 [(.Xm 0)] 2 [(0,e),(1,f)] a λg h=>Q g h) ((py Q a c b))
def pB(Q:R)(d:Vs)(a:SH):Prop:=vY 1 4 13 d λb c e=>wk e (aA 1 b a λf=>aA 2 b a λg=>W.bslice 1 [(.Xm 0)] 2 [(0,f),(1,g)] a λh i=>Q h i) (wb .eql 3 c (.Xm 4) λj=>wk j ((pu Q a b)) ((pz Q a c b)))
def pC(Q:R)(b:SH)(a c:AV):Prop:=W.join (pB Q) λd=>wb .eql 3 a (.Xm 2) λe=>wk e (d [c,a,e] b) (wb .eql 3 a (.Xm 3) λf=>d [c,a,f] b)
def pD(Q:R)(c:Vs)(a:SH):Prop:=vY 1 4 5 c λb d e=>wk e (aA 1 b a λf=>W.bslice 1 [(.Xm 0)] 1 [(0,f)] a λg h=>Q g h) ((pC Q a d b))
def pE(b:Kn)(c:SH)(a d:AV):Prop:=wb .eql 3 a (.Xm 6) λe=>wk e (b [d,a,e] c) (wb .eql 3 a (.Xm 10) λf=>wk f (b [d,a,f] c) (wb .eql 3 a (.Xm 27) λg=>b [d,a,g] c))
def iK(f:AV)(L:SH)(Q:R):Prop:=su f L λa b=>aA 0 a b λc=>W.join (pD Q) λd=>wb .eql 3 c (.Xm 1) λe=>wk e (d [a,c,e] b) ((pE d b c a))
theorem pF(t0:AV)(L:SH)(Q:R)(h:iK t0 L Q):af Tryz.prog 68 [t0] L Q:=
 fs [(5,[1,4,5]),(8,[1,4,13]),(15,[1,4,37])] [] [(0,[1])] [] Tryz.func68 h
end
end Go.Proofs.YtdnpdghlggbklaaGreatDoor.Am
