/- A part of the proof; the statement is proved in the last part. -/
import Derived.Test.YtdnpdghlggbklaaGreatDoorQtw
set_option linter.unusedSimpArgs false
set_option linter.unusedVariables false
namespace Go.Proofs.YtdnpdghlggbklaaGreatDoor.Am
section
set_option maxRecDepth 100000
def zP(Q:R)(c:SH)(b d:AV):Prop:=dV 1 b c λe=>wb .add 3 e (.ZO 1) λf=>W.nilchk b λg=>W.faddr 1 g λh=>W.store 1 h f c λa=>(true=true)∧(W.nilchk b λi=>aN 0 i [] 3 a λj k=>W.nilchk b λl=>aN 1 l [rm 3 k] 7 a λm s=>wb .sub 3 m (.ZO 1) λn=>di [] 9 1 j n a λo t=>dl [] 10 o a λp u=>W.conv .i64 p λq=>wb .rem 3 q d λr=>Q r a)
def mW(a c:AV)(L:SH)(Q:R):Prop:=(true=true)∧(W.nilchk a λf=>aN 1 f [] 3 L λg h=>W.nilchk a λi=>aN 0 i [rm 3 h] 7 L λj r=>W.len j λk=>wb .geq 3 g k λb=>W.dgrd b false (λl=>l c L rz) L λm d s=>W.dgrd b false (λn=>wb .lss 3 m (.ZO 1) λo=>n o d rz) d λp e t=>W.pick b (.bool true) p λq=>wk q (Q (.ZO 0) e) ((zP Q e a c)))
theorem zQ(t0 t1:AV)(L:SH)(Q:R)(h:mW t0 t1 L Q):af Tryz.prog 34 [t0,t1] L Q:=
 fs [] [] [] [(1,[0,1,3,7,0,16,48,112,240,511,1023,2047,4095,8191]),(4,[0,1,3,7,0,16,48,112,240,511,1023,2047,0,8191,16383])] Tryz.func34 h
def F1(c:AV)(L:SH)(Q:R):Prop:=W.alloc [(.ZO 0),(.ZO 0),(.str []),.nils] L λa d=>W.build [(.ZO 0),(.ZO 0),(.str []),.nils] [(0,1,(.ZO 1)),(1,1,c)] λe=>W.store 4 a e d λb=>W.load true 4 a b λf=>Q f b
theorem KX(t0:AV)(L:SH)(Q:R)(h:F1 t0 L Q):af Tryz.prog 37 [t0] L Q:=
 fs [] [] [] [] Tryz.func37 h
def Cv(c:AV)(L:SH)(Q:R):Prop:=W.alloc [(.ZO 0),(.ZO 0),(.str []),.nils] L λa d=>W.build [(.ZO 0),(.ZO 0),(.str []),.nils] [(0,1,(.ZO 2)),(2,1,c)] λe=>W.store 4 a e d λb=>W.load true 4 a b λf=>Q f b
theorem IV(t0:AV)(L:SH)(Q:R)(h:Cv t0 L Q):af Tryz.prog 99 [t0] L Q:=
 fs [] [] [] [] Tryz.func99 h
def tT(d e f:AV)(L:SH)(Q:R):Prop:=W.box e L λg h=>W.box f h λi j=>W.alloc [(.ZO 0),(.ZO 0),(.str []),.nils] j λb k=>W.frz1 g k λl m=>W.frz1 i m λn a=>cp 4 l a λo=>cp 4 n a λp=>W.bslice 4 [(.ZO 0),(.ZO 0),(.str []),.nils] 2 [(0,o),(1,p)] a λq r=>W.build [(.ZO 0),(.ZO 0),(.str []),.nils] [(0,1,d),(3,1,q)] λs=>W.store 4 b s r λc=>W.load true 4 b c λt=>Q t c
theorem F2(t0 t1 t2:AV)(L:SH)(Q:R)(h:tT t0 t1 t2 L Q):af Tryz.prog 98 [t0,t1,t2] L Q:=
 fs [] [] [(0,[4,5])] [] Tryz.func98 h
def tU(d e:AV)(L:SH)(Q:R):Prop:=W.box e L λf g=>W.alloc [(.ZO 0),(.ZO 0),(.str []),(.str []),.nils,(.ZO 0),(.ZO 0),(.str []),.nils,.nils,.nils] g λa h=>W.frz1 f h λi b=>cp 4 i b λj=>W.build [(.ZO 0),(.ZO 0),(.str []),(.str []),.nils,(.ZO 0),(.ZO 0),(.str []),.nils,.nils,.nils] [(0,1,(.ZO 1)),(2,1,d),(5,4,j)] λk=>W.store 11 a k b λc=>W.load true 11 a c λl=>Q l c
theorem F3(t0 t1:AV)(L:SH)(Q:R)(h:tU t0 t1 L Q):af Tryz.prog 36 [t0,t1] L Q:=
 fs [] [] [(0,[3])] [] Tryz.func36 h
def zR(L:SH)(Q:R):Prop:=W.build [(.ZO 0),(.ZO 0),(.str []),(.ZO 0),(.ZO 0),(.str [])] [(0,1,(.ZO 1)),(2,1,(.str [120]))] λa=>W.build [(.ZO 0),(.ZO 0),(.str []),(.ZO 0),(.ZO 0),(.str [])] [(0,1,(.ZO 1)),(2,1,(.str [121])),(4,1,(.ZO 1))] λb=>W.build [(.ZO 0),(.ZO 0),(.str []),(.ZO 0),(.ZO 0),(.str [])] [(0,1,(.ZO 2)),(2,1,(.str [118]))] λc=>W.build [(.ZO 0),(.ZO 0),(.str []),(.ZO 0),(.ZO 0),(.str [])] [(0,1,(.ZO 1)),(2,1,(.str [113])),(3,1,(.ZO 2))] λd=>W.build [(.ZO 0),(.ZO 0),(.str []),(.ZO 0),(.ZO 0),(.str [])] [(0,1,(.ZO 3)),(2,1,(.str [109]))] λe=>W.build [(.ZO 0),(.ZO 0),(.str []),(.ZO 0),(.ZO 0),(.str [])] [(0,1,(.ZO 3)),(2,1,(.str [110]))] λf=>W.build [(.ZO 0),(.ZO 0),(.str []),(.ZO 0),(.ZO 0),(.str [])] [(0,1,(.ZO 4)),(2,1,(.str [114]))] λg=>W.build [(.ZO 0),(.ZO 0),(.str []),(.ZO 0),(.ZO 0),(.str [])] [(0,1,(.ZO 5)),(2,1,(.str [99])),(5,1,(.str [109]))] λh=>W.build [(.ZO 0),(.ZO 0),(.str []),(.ZO 0),(.ZO 0),(.str [])] [(0,1,(.ZO 6)),(2,1,(.str [102]))] λi=>W.bslice 6 [(.ZO 0),(.ZO 0),(.str []),(.ZO 0),(.ZO 0),(.str [])] 9 [(0,a),(1,b),(2,c),(3,d),(4,e),(5,f),(6,g),(7,h),(8,i)] L λj k=>Q j k
theorem G0(L:SH)(Q:R)(h:zR L Q):af Tryz.prog 33 [] L Q:=
 fs [] [] [] [] Tryz.func33 h
def jX(a b:AV)(L:SH)(Q:R):Prop:=dV 7 a L λc=>wc (.fn 90 []) [c,b] L λd e=>wb .geq 3 d (.ZO 0) λf=>Q f e
theorem si(t0 t1:AV)(L:SH)(Q:R)(h:jX t0 t1 L Q):af Tryz.prog 100 [t0,t1] L Q:=
 fs [] [] [] [] Tryz.func100 h
def vO(Q:R)(a c:AV)(d:SH):Prop:=W.store 4 a c d λb=>W.load true 4 a b λe=>Q e b
def vP(Q:R)(a b:AV)(c:SH):Prop:=wc (.fn 37 []) [b] c (vO Q a)
def vQ(Q:R)(a c:AV)(d:SH):Prop:=W.store 4 a c d λb=>W.load true 4 a b λe=>Q e b
def vR(Q:R)(b c d:AV)(a:SH):Prop:=tH 1 b d a λe=>wc (.fn 99 []) [e] a (vQ Q c)
def vS(Q:R)(a c:AV)(d:SH):Prop:=W.bslice 4 [(.ZO 0),(.ZO 0),(.str []),.nils] 1 [(0,c)] d λe f=>W.build [(.ZO 0),(.ZO 0),(.str []),.nils] [(0,1,(.ZO 3)),(2,1,(.str [113])),(3,1,e)] λg=>W.store 4 a g f λb=>W.load true 4 a b λh=>Q h b
def vT(Q:R)(c:SH)(a d:AV)(e:SH)(f:Ns):Prop:=wn [] f [] c.names λh=>ds [] 19 4 a d e λb i=>W.load true 4 a b λg=>Q g b
def vU(Q:R)(b:SH)(c d e f:AV)(a:SH)(g:Ns):Prop:=wn [] g [] b.names λh=>wd [] 18 (.fn 98 []) [c,d,f] a (vT Q a e)
def vV(Q:R)(b:SH)(c d e f:AV)(g h:Fp)(i:AV)(a:SH)(j:Ns):Prop:=wn [] j [] b.names λl=>wb .sub 3 c (.ZO 1) λk=>wd [rm 9 g,rm 8 h] 17 (.fn 97 []) [d,k] a (vU Q a e i f)
def vW(Q:R)(f:SH)(b c g h i:AV)(a:SH)(j:Ns):Prop:=wn [] j [] f.names λn=>di [] 8 1 g i a λk d=>dl [] 9 k a λl e=>wb .sub 3 b (.ZO 1) λm=>wd [rm 9 e,rm 8 d] 13 (.fn 97 []) [c,m] a (vV Q a b c l h e d)
def vX(Q:R)(d:SH)(b e f:AV):Prop:=W.bslice 1 [(.ZO 0)] 6 [(0,(.ZO 6)),(1,(.ZO 7)),(2,(.ZO 8)),(3,(.ZO 11)),(4,(.ZO 13)),(5,(.ZO 17))] d λc a=>(true=true)∧(W.nilchk b λg=>aN 0 g [] 4 a λh j=>W.len c λi=>wd [] 7 (.fn 34 []) [h,i] a (vW Q a e b c f))
def vY(Q:R)(a:SH)(b f d e c:AV):Prop:=wb .lss 3 d (.ZO 7) λg=>wk g (dV 0 b a λh=>W.len e λi=>wc (.fn 34 []) [h,i] a (vR Q e c)) (wb .eql 3 d (.ZO 7) λj=>wk j (wc (.fn 97 []) [b,(.ZO 0)] a (vS Q c)) ((vX Q a b f c)))
def vZ(Q:R)(e f g h b:AV)(i:SH):Prop:=wb .lss 3 b (.ZO 2) λa=>bJ a false e i λj k=>wg a false (wb .eql 3 j (.ZO 0)) k λl m=>bJ a false l m λc n=>bJ c true b n λo p=>wg c true (wb .geq 3 o (.ZO 7)) p λq r=>wg a false (W.pick c q (.bool false)) r λs d=>W.pick a (.bool true) s λt=>wk t (dV 0 f d λu=>wc (.fn 34 []) [u,(.ZO 4)] d (vP Q g)) ((vY Q d f e b h g))
def gG(a c:AV)(L:SH)(Q:R):Prop:=W.alloc [(.ZO 0),(.ZO 0),(.str []),.nils] L λd e=>W.bslice 1 [(.str [])] 7 [(0,(.str [97])),(1,(.str [98])),(2,(.str [120])),(3,(.str [121])),(4,(.str [118])),(5,(.str [120])),(6,(.str [121]))] e λf b=>dV 0 a b λg=>wc (.fn 34 []) [g,(.ZO 10)] b (vZ Q c a d f)
theorem jY(t0 t1:AV)(L:SH)(Q:R)(h:gG t0 t1 L Q):af Tryz.prog 97 [t0,t1] L Q:=
 fs [] [] [] [(10,[0,0,2,6,14,0,32,126,255,511,0,0,2048,7422,0,0,32768,130302,262143,524287])] Tryz.func97 h
def je(Q:R)(b d:AV)(a:SH):Prop:=(true=true)∧(W.nilchk b λe=>aN 7 e [] 4 a λc f=>W.nilchk b λg=>aN 7 g [rm 4 f] 8 a λh o=>W.len h λi=>wb .sub 3 i (.ZO 1) λj=>W.calm [] ⟨11,(ed c),[],[],false,[]⟩ (W.slice 1 c none (some j) none a λk=>wn (ed c) [] [] [] λp=>W.nilchk b λl=>W.faddr 7 l λm=>ds [] 14 1 m k a λn q=>Q d n))
def sj(Q:R)(a b c:AV)(d:SH):Prop:=wb .add 3 (.ZO 1) c λe=>wc (.fn 35 []) [a,b,e] d (je Q a)
def jZ(a c d:AV)(L:SH)(Q:R):Prop:=dV 7 a L λe=>W.bslice 1 [(.str [])] 1 [(0,c)] L λf g=>W.append 1 16 e f g λh i=>W.nilchk a λj=>W.faddr 7 j λk=>W.store 1 k h i λb=>dV 0 a b λl=>wc (.fn 34 []) [l,(.ZO 2)] b (sj Q a d)
theorem sk(t0 t1 t2:AV)(L:SH)(Q:R)(h:jZ t0 t1 t2 L Q):af Tryz.prog 101 [t0,t1,t2] L Q:=
 fs [] [] [] [(3,[0,0,2,6,14,0,32,96,224,480,992,2046,4095,8191,16383])] Tryz.func101 h
def sn(a:Kn)(b c d e f g:AV)(h:SH):Prop:=W.bslice 11 [(.ZO 0),(.ZO 0),(.str []),(.str []),.nils,(.ZO 0),(.ZO 0),(.str []),.nils,.nils,.nils] 1 [(0,g)] h λi j=>W.append 11 176 b i j λk l=>wb .add 3 c (.ZO 1) λm=>a [d,e,f,k,m] l
def jf(Q:R)(j:Vs)(k:SH)(l:Kn):Prop:=Jd 0 1 2 7 8 j λc e f g d=>wb .lss 3 d f λb=>bJ b true d k λm n=>wg b true (wb .eql 3 m (.ZO 0)) n λo p=>bJ b true o p λa q=>bJ a false c q λr s=>wg a false (W.nilchk r) s λt u=>wg a false (W.faddr 2 t) u λv h=>wg a false (wl v h) h λw x=>wg a false (wb .gtr 3 w (.ZO 0)) x λy z=>wg b true (W.pick a (.bool true) y) z λA i=>W.pick b A (.bool false) λB=>wk B (wc (.fn 62 []) [c,e] i (sn l g d c e f)) (Q g i)
def kf(a b c:AV)(L:SH)(Q:R):Prop:=W.loop (jf Q) [a,b,c,.nils,(.ZO 0)] L
theorem ss(t0 t1 t2:AV)(L:SH)(Q:R)(h:kf t0 t1 t2 L Q):af Tryz.prog 35 [t0,t1,t2] L Q:=
 fs [] [(3,[0,1,2,7,8])] [] [] Tryz.func35 h
def wa(Q:R)(c:SH)(a d:AV)(e:SH)(f:Ns):Prop:=wn [] f [] c.names λh=>ds [] 7 11 a d e λb i=>W.load true 11 a b λg=>Q g b
def we(Q:R)(b:SH)(c d e:AV)(a:SH)(f:Ns):Prop:=wn [] f [] b.names λg=>wd [] 6 (.fn 36 []) [c,e] a (wa Q a d)
def kg(Q:R)(c:SH)(d e f:AV):Prop:=(true=true)∧(W.calm [] ⟨0,[],[],[],false,[]⟩ (W.bslice 1 [(.str [])] 4 [(0,(.str [120])),(1,(.str [121])),(2,(.str [120])),(3,(.str [118]))] c λb a=>wn [] [] (aa b) [] λg=>di [] 2 1 b e a λh i=>dl [] 3 h a λj k=>wd [rm 3 k,rm 2 i,rm 0 g] 5 (.fn 97 []) [d,(.ZO 1)] a (we Q a j f)))
def wh(Q:R)(c:SH)(a d:AV)(e:SH)(f:Ns):Prop:=wn [] f [] c.names λh=>ds [] 11 11 a d e λb i=>W.load true 11 a b λg=>Q g b
def wi(Q:R)(b:SH)(c d e:AV)(a:SH)(f:Ns):Prop:=wn [] f [] b.names λg=>wd [] 10 (.fn 36 []) [c,e] a (wh Q a d)
def wj(Q:R)(b:SH)(c d e:AV)(f:Fp)(g:AV)(a:SH)(h:Ns):Prop:=wn [] h [] b.names λm=>di [] 6 1 d g a λi j=>dl [] 7 i a λk l=>wd [rm 7 l,rm 6 j,rm 0 f] 9 (.fn 97 []) [c,(.ZO 1)] a (wi Q a k e)
def kh(Q:R)(e:SH)(c f:AV):Prop:=(true=true)∧(W.calm [] ⟨0,[],[],[],false,[]⟩ (W.bslice 1 [(.str [])] 2 [(0,(.str [97])),(1,(.str [98]))] e λd a=>wn [] [] (aa d) [] λb=>W.nilchk c λg=>aN 0 g [rm 0 b] 4 a λh i=>wd [rm 0 b] 5 (.fn 34 []) [h,(.ZO 2)] a (wj Q a c d f b)))
def wm(Q:R)(c a d:AV)(e:SH):Prop:=W.build [(.ZO 0),(.ZO 0),(.str []),(.str []),.nils,(.ZO 0),(.ZO 0),(.str []),.nils,.nils,.nils] [(0,1,(.ZO 1)),(2,1,(.str [113])),(4,1,c),(5,4,d)] λf=>W.store 11 a f e λb=>W.load true 11 a b λg=>Q g b
def wo(Q:R)(a b c:AV)(d:SH):Prop:=W.bslice 4 [(.ZO 0),(.ZO 0),(.str []),.nils] 1 [(0,c)] d λe f=>wc (.fn 97 []) [a,(.ZO 1)] f (wm Q e b)
def wq(Q:R)(a b e:AV)(f:SH):Prop:=W.faddr 10 a λg=>W.store 1 g e f λc=>cp 11 a c λh=>W.store 11 b h c λd=>W.load true 11 b d λi=>Q i d
def wu(Q:R)(e f c a g:AV)(b:SH):Prop:=wb .eql 3 g (.ZO 1) λh=>wk h (wb .sub 3 e (.ZO 1) λi=>wc (.fn 35 []) [f,i,(.ZO 1)] b (wq Q c a)) (cp 11 c b λj=>W.store 11 a j b λd=>W.load true 11 a d λk=>Q k d)
def wv(Q:R)(a d e f g:AV)(h:SH):Prop:=W.build [(.ZO 0),(.ZO 0),(.str []),(.str []),.nils,(.ZO 0),(.ZO 0),(.str []),.nils,.nils,.nils] [(0,1,(.ZO 2)),(5,4,e),(9,1,g)] λi=>W.alloc [(.ZO 0),(.ZO 0),(.str []),(.str []),.nils,(.ZO 0),(.ZO 0),(.str []),.nils,.nils,.nils] h λb j=>W.store 11 b i j λc=>dV 0 a c λk=>wc (.fn 34 []) [k,(.ZO 2)] c (wu Q d a b f)
def su(Q:R)(a b c d:AV)(e:SH):Prop:=wb .sub 3 a (.ZO 1) λf=>wc (.fn 35 []) [b,f,(.ZO 1)] e (wv Q b a d c)
def sw(Q:R)(d e f g a h:AV)(i:SH):Prop:=W.bslice 11 [(.ZO 0),(.ZO 0),(.str []),(.str []),.nils,(.ZO 0),(.ZO 0),(.str []),.nils,.nils,.nils] 1 [(0,h)] i λj k=>W.append 11 176 e j k λl m=>W.build [(.ZO 0),(.ZO 0),(.str []),(.str []),.nils,(.ZO 0),(.ZO 0),(.str []),.nils,.nils,.nils] [(0,1,(.ZO 3)),(5,4,f),(9,1,l)] λn=>rE [(.ZO 0),(.ZO 0),(.str []),(.str []),.nils,(.ZO 0),(.ZO 0),(.str []),.nils,.nils,.nils] 11 n m λo p=>W.nilchk d λq=>W.faddr 6 q λr=>W.store 1 r g p λb=>cp 11 o b λs=>W.store 11 a s b λc=>W.load true 11 a c λt=>Q t c
def sB(Q:R)(a b c d e f:AV)(g:SH):Prop:=wc (.fn 36 []) [(.str [98]),f] g (sw Q a b c d e)
def sC(Q:R)(a b c d e f g:AV)(h:SH):Prop:=wc (.fn 98 []) [(.ZO 6),b,g] h (sB Q a c d e f)
def sD(Q:R)(a b c d e f:AV)(g:SH):Prop:=wc (.fn 37 []) [(.ZO 1)] g (sC Q a f b c d e)
def sE(Q:R)(a b c d e:AV)(f:SH):Prop:=wc (.fn 99 []) [(.str [98])] f (sD Q a e b c d)
def sF(Q:R)(b a c d e:AV)(f:SH):Prop:=wb .sub 3 b (.ZO 1) λg=>wc (.fn 35 []) [a,g,(.ZO 1)] f (sE Q a e c d)
def sG(Q:R)(a b c d e f:AV)(g:SH):Prop:=wc (.fn 98 []) [(.ZO 13),c,f] g (sF Q a b d e)
def sH(Q:R)(a b c d e:AV)(f:SH):Prop:=wc (.fn 37 []) [(.ZO 2)] f (sG Q a b e c d)
def wx(Q:R)(b:SH)(a c d:AV):Prop:=dV 6 a b λe=>W.nilchk a λf=>W.faddr 6 f λg=>W.store 1 g (.bool true) b λh=>wc (.fn 99 []) [(.str [98])] h (sH Q c a e d)
def sI(Q:R)(c a d:AV)(e:SH):Prop:=W.build [(.ZO 0),(.ZO 0),(.str []),(.str []),.nils,(.ZO 0),(.ZO 0),(.str []),.nils,.nils,.nils] [(0,1,(.ZO 4)),(2,1,c),(9,1,d)] λf=>W.store 11 a f e λb=>W.load true 11 a b λg=>Q g b
def wA(Q:R)(c:SH)(d e f g:AV):Prop:=W.bslice 1 [(.str [])] 2 [(0,(.str [109])),(1,(.str [110]))] c λh a=>wb .sub 3 f (.ZO 8) λi=>tH 1 h i a λb=>wb .sub 3 d (.ZO 1) λj=>wc (.fn 101 []) [e,b,j] a (sI Q b g)
def sJ(Q:R)(c a d:AV)(e:SH):Prop:=W.build [(.ZO 0),(.ZO 0),(.str []),(.str []),.nils,(.ZO 0),(.ZO 0),(.str []),.nils,.nils,.nils] [(0,1,c),(2,1,(.str [114])),(9,1,d)] λf=>W.store 11 a f e λb=>W.load true 11 a b λg=>Q g b
def wB(Q:R)(a:SH)(b c d e:AV):Prop:=wb .sub 3 d (.ZO 10) λf=>wb .add 3 f (.ZO 5) λg=>wb .sub 3 b (.ZO 1) λh=>wc (.fn 101 []) [c,(.str [114]),h] a (sJ Q g e)
def sK(Q:R)(d a e:AV)(f:SH):Prop:=W.build [(.ZO 0),(.ZO 0),(.str []),(.str []),.nils,(.ZO 0),(.ZO 0),(.str []),.nils,.nils,.nils] [(0,1,(.ZO 7)),(9,1,e)] λg=>rE [(.ZO 0),(.ZO 0),(.str []),(.str []),.nils,(.ZO 0),(.ZO 0),(.str []),.nils,.nils,.nils] 11 g f λh i=>W.nilchk d λj=>W.faddr 4 j λk=>W.store 1 k (.bool false) i λb=>cp 11 h b λl=>W.store 11 a l b λc=>W.load true 11 a c λm=>Q m c
def sL(Q:R)(a b c:AV)(d:SH):Prop:=wb .add 3 (.ZO 1) c λe=>wc (.fn 35 []) [a,(.ZO 0),e] d (sK Q a b)
def wC(Q:R)(c:SH)(a d:AV):Prop:=W.nilchk a λe=>W.faddr 4 e λf=>W.store 1 f (.bool true) c λb=>dV 0 a b λg=>wc (.fn 34 []) [g,(.ZO 2)] b (sL Q a d)
def sM(Q:R)(d a e:AV)(f:SH):Prop:=W.build [(.ZO 0),(.ZO 0),(.str []),(.str []),.nils,(.ZO 0),(.ZO 0),(.str []),.nils,.nils,.nils] [(0,1,(.ZO 8)),(9,1,e)] λg=>rE [(.ZO 0),(.ZO 0),(.str []),(.str []),.nils,(.ZO 0),(.ZO 0),(.str []),.nils,.nils,.nils] 11 g f λh i=>W.nilchk d λj=>W.faddr 5 j λk=>W.store 1 k (.bool false) i λb=>cp 11 h b λl=>W.store 11 a l b λc=>W.load true 11 a c λm=>Q m c
def wD(Q:R)(b:SH)(a c d:AV):Prop:=W.nilchk a λe=>W.faddr 5 e λf=>W.store 1 f (.bool true) b λg=>wb .sub 3 c (.ZO 1) λh=>wc (.fn 35 []) [a,h,(.ZO 2)] g (sM Q a d)
def sN(Q:R)(c a d:AV)(e:SH):Prop:=W.bslice 11 [(.ZO 0),(.ZO 0),(.str []),(.str []),.nils,(.ZO 0),(.ZO 0),(.str []),.nils,.nils,.nils] 2 [(0,c),(1,d)] e λf g=>W.build [(.ZO 0),(.ZO 0),(.str []),(.str []),.nils,(.ZO 0),(.ZO 0),(.str []),.nils,.nils,.nils] [(0,1,(.ZO 4)),(2,1,(.str [109])),(9,1,f)] λh=>W.store 11 a h g λb=>W.load true 11 a b λi=>Q i b
def sO(Q:R)(a b c:AV)(d:SH):Prop:=wc (.fn 36 []) [(.str [97]),c] d (sN Q a b)
def wE(Q:R)(a:SH)(b:AV):Prop:=W.build [(.ZO 0),(.ZO 0),(.str []),(.str []),.nils,(.ZO 0),(.ZO 0),(.str []),.nils,.nils,.nils] [(0,1,(.ZO 9)),(2,1,(.str [99]))] λc=>wc (.fn 99 []) [(.str [120])] a (sO Q c b)
def sP(Q:R)(a c:AV)(d:SH):Prop:=wb .add 3 (.ZO 10) c λe=>W.build [(.ZO 0),(.ZO 0),(.str []),(.str []),.nils,(.ZO 0),(.ZO 0),(.str []),.nils,.nils,.nils] [(0,1,e),(2,1,(.str [99]))] λf=>W.bslice 11 [(.ZO 0),(.ZO 0),(.str []),(.str []),.nils,(.ZO 0),(.ZO 0),(.str []),.nils,.nils,.nils] 1 [(0,f)] d λg h=>W.build [(.ZO 0),(.ZO 0),(.str []),(.str []),.nils,(.ZO 0),(.ZO 0),(.str []),.nils,.nils,.nils] [(0,1,(.ZO 4)),(2,1,(.str [109])),(9,1,g)] λi=>W.store 11 a i h λb=>W.load true 11 a b λj=>Q j b
def sQ(Q:R)(a c:AV)(d:SH):Prop:=W.build [(.ZO 0),(.ZO 0),(.str []),(.str []),.nils,(.ZO 0),(.ZO 0),(.str []),.nils,.nils,.nils] [(0,1,(.ZO 14)),(2,1,(.str [102])),(5,4,c)] λe=>W.store 11 a e d λb=>W.load true 11 a b λf=>Q f b
def wF(Q:R)(b:SH)(a c:AV):Prop:=W.nilchk a λd=>W.faddr 3 d λe=>W.store 1 e (.bool true) b λf=>wc (.fn 97 []) [a,(.ZO 1)] f (sQ Q c)
def wG(Q:R)(c:SH)(a:AV):Prop:=W.build [(.ZO 0),(.ZO 0),(.str []),(.str []),.nils,(.ZO 0),(.ZO 0),(.str []),.nils,.nils,.nils] [(0,1,(.ZO 15)),(2,1,(.str [97])),(3,1,(.str [102]))] λd=>W.store 11 a d c λb=>W.load true 11 a b λe=>Q e b
def sR(Q:R)(a c:AV)(d:SH):Prop:=W.store 11 a c d λb=>W.load true 11 a b λe=>Q e b
def sS(Q:R)(a b:AV)(c:SH):Prop:=wc (.fn 36 []) [(.str [120]),b] c (sR Q a)
def sT(Q:R)(i:SH)(c j d:AV):Prop:=wb .eql 3 j (.ZO 17) λb=>bJ b true c i λk l=>wg b true (W.nilchk k) l λm n=>wg b true (W.faddr 4 m) n λo e=>wg b true (wl o e) e λp q=>wg b true (W.un .not p) q λr s=>W.pick b r (.bool false) λa=>bJ a true c s λt u=>wg a true (W.nilchk t) u λv w=>wg a true (W.faddr 0 v) w λx f=>wg a true (wl x f) f λy g=>W.grd a true (λz=>wc (.fn 34 []) [y,(.ZO 2)] g λA B=>z A B) g λC D=>wg a true (wb .eql 3 C (.ZO 1)) D λE h=>W.pick a E (.bool false) λF=>wk F ((wG Q h d)) (wc (.fn 97 []) [c,(.ZO 1)] h (sS Q d))
def sU(Q:R)(k:SH)(d e f:AV):Prop:=wb .eql 3 e (.ZO 16) λa=>bJ a true d k λl m=>wg a true (W.nilchk l) m λn o=>wg a true (W.faddr 4 n) o λp g=>wg a true (wl p g) g λq r=>wg a true (W.un .not q) r λs t=>W.pick a s (.bool false) λb=>bJ b true d t λu v=>wg b true (W.nilchk u) v λw x=>wg b true (W.faddr 6 w) x λy h=>wg b true (wl y h) h λz A=>wg b true (W.un .not z) A λB C=>W.pick b B (.bool false) λc=>bJ c true d C λD E=>wg c true (W.nilchk D) E λF G=>wg c true (W.faddr 3 F) G λH i=>wg c true (wl H i) i λI J=>wg c true (W.un .not I) J λM j=>W.pick c M (.bool false) λN=>wk N ((wF Q j d f)) ((sT Q j d e f))
def sV(Q:R)(h:SH)(b d i e:AV):Prop:=wb .eql 3 d (.ZO 15) λf=>bJ f true i h λj k=>W.pick f j (.bool false) λa=>bJ a true b k λl g=>W.grd a true (λm=>wc (.fn 100 []) [l,(.str [109])] g λn o=>m n o) g λp q=>wg a true (W.un .not p) q λr c=>W.pick a r (.bool false) λs=>wk s (dV 0 b c λt=>wc (.fn 34 []) [t,(.ZO 2)] c (sP Q e)) ((sU Q c b d e))
def sW(Q:R)(k:SH)(c d e f:AV):Prop:=wb .eql 3 d (.ZO 14) λg=>bJ g true e k λl m=>W.pick g l (.bool false) λa=>bJ a true c m λn o=>wg a true (W.nilchk n) o λp q=>wg a true (W.faddr 5 p) q λr h=>wg a true (wl r h) h λs t=>wg a true (W.un .not s) t λu v=>W.pick a u (.bool false) λb=>bJ b true c v λw i=>W.grd b true (λx=>wc (.fn 100 []) [w,(.str [109])] i λy z=>x y z) i λA B=>wg b true (W.un .not A) B λC j=>W.pick b C (.bool false) λD=>wk D ((wE Q j f)) ((sV Q j c d e f))
def sX(Q:R)(i:SH)(b j c d e:AV):Prop:=wb .eql 3 c (.ZO 13) λf=>bJ f true d i λk l=>W.pick f k (.bool false) λa=>bJ a true b l λm n=>wg a true (W.nilchk m) n λo p=>wg a true (W.faddr 5 o) p λq g=>wg a true (wl q g) g λr s=>wg a true (W.un .not r) s λt h=>W.pick a t (.bool false) λu=>wk u ((wD Q h b j e)) ((sW Q h b c d e))
def sY(Q:R)(g:SH)(a h b c d:AV):Prop:=wb .eql 3 b (.ZO 12) λe=>bJ e true c g λi f=>W.pick e i (.bool false) λj=>wk j ((wC Q f a d)) ((sX Q f a h b c d))
def sZ(Q:R)(k:SH)(c e a f g:AV):Prop:=wb .eql 3 a (.ZO 10) λd=>bJ d false a k λl m=>wg d false (wb .eql 3 l (.ZO 11)) m λn o=>W.pick d (.bool true) n λh=>bJ h true f o λp q=>W.pick h p (.bool false) λb=>bJ b true c q λr i=>W.grd b true (λs=>wc (.fn 100 []) [r,(.str [114])] i λt u=>s t u) i λv w=>wg b true (W.un .not v) w λx j=>W.pick b x (.bool false) λy=>wk y ((wB Q j e c a g)) ((sY Q j c e a f g))
def s5(Q:R)(n:SH)(c e b f g:AV):Prop:=wb .eql 3 b (.ZO 8) λd=>bJ d false b n λo p=>wg d false (wb .eql 3 o (.ZO 9)) p λq r=>W.pick d (.bool true) q λh=>bJ h true f r λs t=>W.pick h s (.bool false) λa=>bJ a true c t λu i=>W.grd a true (λv=>W.bslice 1 [(.str [])] 2 [(0,(.str [109])),(1,(.str [110]))] i λw x=>v w x) i λy z=>bJ a true b z λA B=>wg a true (wb .sub 3 A (.ZO 8)) B λC j=>wg a true (W.idx 1 y C j) j λD k=>wg a true (wl D k) k λE l=>W.grd a true (λF=>wc (.fn 100 []) [u,E] l λG H=>F G H) l λI J=>wg a true (W.un .not I) J λM m=>W.pick a M (.bool false) λN=>wk N ((wA Q m e c b g)) ((sZ Q m c e b f g))
def s6(Q:R)(g:SH)(a c d e h:AV):Prop:=wb .eql 3 d (.ZO 7) λb=>bJ b true a g λi j=>wg b true (wb .gtr 3 i (.ZO 0)) j λk f=>W.pick b k (.bool false) λl=>wk l ((wx Q f c a e)) ((s5 Q f c a d h e))
def s7(Q:R)(g:SH)(a b d e h:AV):Prop:=wb .eql 3 d (.ZO 6) λc=>bJ c true a g λi j=>wg c true (wb .gtr 3 i (.ZO 0)) j λk f=>W.pick c k (.bool false) λl=>wk l (wc (.fn 97 []) [b,(.ZO 1)] f (su Q a b e)) ((s6 Q f a b d e h))
def jg(Q:R)(b:SH)(a e c d f:AV):Prop:=wb .eql 3 c (.ZO 5) λg=>wk g (wc (.fn 97 []) [a,(.ZO 0)] b (wo Q a d)) ((s7 Q b e a c d f))
def s8(Q:R)(g c e d:AV)(j:SH):Prop:=wb .gtr 3 g (.ZO 0) λa=>bJ a true c j λk l=>wg a true (W.nilchk k) l λm n=>wg a true (W.faddr 2 m) n λo h=>wg a true (wl o h) h λp q=>wg a true (wb .gtr 3 p (.ZO 0)) q λr s=>W.pick a r (.bool false) λb=>bJ b true c s λt u=>wg b true (W.nilchk t) u λv w=>wg b true (W.faddr 4 v) w λx i=>wg b true (wl x i) i λy z=>wg b true (W.un .not y) z λA f=>W.pick b A (.bool false) λB=>wb .lss 3 d (.ZO 4) λC=>wk C ((kg Q f c d e)) (wb .eql 3 d (.ZO 4) λD=>wk D ((kh Q f c e)) ((jg Q f c g d e B)))
def gH(a d:AV)(L:SH)(Q:R):Prop:=W.alloc [(.ZO 0),(.ZO 0),(.str []),(.str []),.nils,(.ZO 0),(.ZO 0),(.str []),.nils,.nils,.nils] L λe b=>dV 2 a b λf=>wb .sub 3 f (.ZO 1) λg=>W.nilchk a λh=>W.faddr 2 h λi=>W.store 1 i g b λc=>dV 0 a c λj=>wc (.fn 34 []) [j,(.ZO 18)] c (s8 Q d a e)
theorem kj(t0 t1:AV)(L:SH)(Q:R)(h:gH t0 t1 L Q):af Tryz.prog 62 [t0,t1] L Q:=
 fs [] [] [(18,[9]),(28,[11]),(33,[12])] [(5,[0,0,3,7,0,16,63,127]),(7,[0,0,2,6,14,30,63,127,0,318,1023,2047])] Tryz.func62 h
def DD(c:Kn)(d:Vs)(a:SH):Prop:=NN 2 3 4 5 6 7 8 d λe f b g h i j=>aC 1 b a λk=>cp 4 j a λl=>W.bslice 4 [(.str []),(.ZO 0),.nils,.nils] 1 [(0,l)] a λm n=>W.append 4 72 k m n λo p=>W.faddr 1 b λq=>W.store 1 q o p λr=>wb .add 3 i (.ZO 1) λs=>c [e,f,b,g,h,s] r
def DE(h:Kn)(b:SH)(d f i j k l m:AV):Prop:=(true=true)∧(aN 3 d [] 1 b λa e=>di [rm 1 e] 3 1 f (.ZO 1) b λn u=>dl [rm 1 e] 4 n b λo v=>W.build [(.ZO 0),(.ZO 0),(.str []),(.str []),.nils,(.ZO 0),(.ZO 0),(.str []),.nils,.nils,.nils] [(0,1,(.ZO 13)),(2,1,o)] λp=>W.calm [rm 1 e] ⟨6,[],[],[],false,[]⟩ (W.bslice 11 [(.ZO 0),(.ZO 0),(.str []),(.str []),.nils,(.ZO 0),(.ZO 0),(.str []),.nils,.nils,.nils] 1 [(0,p)] b λc q=>wn [] [] (aa c) [] λw=>W.calm [] ⟨7,(aa a++aa c),(aa a),[],false,[]⟩ (W.append 11 176 a c q λg r=>wn (aa a++aa c) (aa a) (aa g) [] λx=>W.faddr 3 d λs=>ds [] 9 1 s g r λt y=>h [i,j,k,l,f,m,d] t)))
def DF(p:Kn)(q:SH)(b c d e g h i j f:AV)(r:SH)(s:Ns):Prop:=wn [] s [] q.names λJ=>W.calm [] ⟨10,(aa b++aa f),(aa b),[],false,[]⟩ (W.append 11 176 b f r λk t=>wn (aa b++aa f) (aa b) (aa k) [] λM=>W.faddr 3 c λu=>ds [] 12 1 u k t λv N=>W.join (DD p) λl=>wb .eql 3 d (.ZO 0) λa=>bJ a true e v λw x=>wg a true (W.nilchk w) x λy z=>wg a true (W.faddr 0 y) z λA m=>wg a true (wl A m) m λB n=>W.grd a true (λC=>wc (.fn 34 []) [B,(.ZO 3)] n λD E=>C D E) n λF G=>wg a true (wb .eql 3 F (.ZO 2)) G λH o=>W.pick a H (.bool false) λI=>wk I ((DE l o c g h e i j d)) (l [h,e,i,j,g,d,c] o))
def DG(c:Kn)(d:SH)(a e f g h i j k:AV)(l:Fp)(m:AV)(b:SH)(n:Ns):Prop:=wn [] n [] d.names λp=>wb .add 3 (.ZO 1) m λo=>wd [rm 1 l] 9 (.fn 35 []) [a,(.ZO 2),o] b (DF c b e f g a h i j k)
def cl(e:Kn)(f:Vs)(a:SH):Prop:=NN 2 3 4 5 6 7 8 f λg c h i j k d=>(true=true)∧(aN 3 d [] 1 a λl b=>W.nilchk c λm=>aN 0 m [rm 1 b] 6 a λn o=>wd [rm 1 b] 7 (.fn 34 []) [n,(.ZO 3)] a (DG e a c l d k j g h i b))
def DH(i:Kn)(b:SH)(d f g j k l m n:AV):Prop:=(true=true)∧(aN 3 d [] 1 b λa e=>di [rm 1 e] 4 1 f g b λo w=>dl [rm 1 e] 5 o b λp x=>W.build [(.ZO 0),(.ZO 0),(.str []),(.str []),.nils,(.ZO 0),(.ZO 0),(.str []),.nils,.nils,.nils] [(0,1,(.ZO 12)),(2,1,p)] λq=>W.calm [rm 1 e] ⟨7,[],[],[],false,[]⟩ (W.bslice 11 [(.ZO 0),(.ZO 0),(.str []),(.str []),.nils,(.ZO 0),(.ZO 0),(.str []),.nils,.nils,.nils] 1 [(0,q)] b λc r=>wn [] [] (aa c) [] λy=>W.calm [] ⟨8,(aa a++aa c),(aa a),[],false,[]⟩ (W.append 11 176 a c r λh s=>wn (aa a++aa c) (aa a) (aa h) [] λz=>W.faddr 3 d λt=>ds [] 10 1 t h s λu A=>wb .add 3 g (.ZO 1) λv=>i [j,k,l,m,f,n,d,v] u)))
def iS(j:Kn)(k:Vs)(b:SH)(l:Kn):Prop:=Ua 2 3 4 5 6 7 8 9 k λc d e a f g h i=>wb .lss 3 i a λm=>wk m ((DH l b h f i c d e a g)) (j [c,d,e,a,f,g,h] b)
def DI(k:Kn)(l:SH)(b a c e f g:AV):Prop:=W.nilchk b λm=>W.faddr 1 m λn=>W.store 1 n a l λh=>tH 1 c a h λo=>W.bslice 1 [(.str [])] 2 [(0,(.str [97])),(1,(.str [98]))] h λp q=>W.build [(.str []),(.ZO 0),.nils,.nils] [(0,1,o),(2,1,p)] λr=>W.alloc [(.str []),(.ZO 0),.nils,.nils] q λd s=>W.store 4 d r s λi=>W.join (cl k) λj=>wb .eql 3 a (.ZO 0) λt=>wk t (W.loop (iS j) [e,b,f,g,c,a,d,(.ZO 1)] i) (j [e,b,f,g,c,a,d] i)
def DJ(Q:R)(c d a e:AV)(f:SH):Prop:=W.bslice 11 [(.ZO 0),(.ZO 0),(.str []),(.str []),.nils,(.ZO 0),(.ZO 0),(.str []),.nils,.nils,.nils] 1 [(0,e)] f λg h=>W.build [(.str []),(.ZO 0),.nils,.nils] [(0,1,(.str [109,97,105,110])),(2,1,c),(3,1,g)] λi=>W.bslice 4 [(.str []),(.ZO 0),.nils,.nils] 1 [(0,i)] h λj k=>W.build [.nils,.nils] [(0,1,d),(1,1,j)] λl=>W.store 2 a l k λb=>W.load true 2 a b λm=>Q m b
def DK(Q:R)(a b c d:AV)(e:SH):Prop:=wc (.fn 36 []) [(.str [120]),d] e (DJ Q a b c)
def DL(Q:R)(a b:AV)(c:SH):Prop:=W.bslice 1 [(.str [])] 2 [(0,(.str [97])),(1,(.str [98]))] c λd e=>wc (.fn 37 []) [(.ZO 1)] e (DK Q d b a)
def DM(Q:R)(a e c:AV)(b:SH):Prop:=W.ext 0 c λf=>W.ext 1 c λj=>wb .neq 74 f (.ZO 0) λg=>wk g (wc (.fn 33 []) [] b (DL Q a)) (cp 2 e b λh=>W.store 2 a h b λd=>W.load true 2 a d λi=>Q i d)
def fK(Q:R)(f:Vs)(a:SH)(g:Kn):Prop:=J1 2 3 4 5 6 7 f λc h b d i e=>wb .lss 3 e d λj=>wk j ((DI g a h e i c b d)) (cp 2 b a λk=>wc (.fn 28 []) [k] a (DM Q c b))
def BX(Q:R)(a b c d:AV)(e:SH):Prop:=wb .add 3 (.ZO 2) d λf=>W.bslice 1 [(.str [])] 4 [(0,(.str [109,97,105,110])),(1,(.str [116,49])),(2,(.str [116,50])),(3,(.str [116,51]))] e λg h=>W.loop (fK Q) [a,b,c,f,g,(.ZO 0)] h
def BY(Q:R)(a d e:AV)(f:SH):Prop:=W.build [.nils,.nils] [(0,1,e)] λg=>W.alloc [.nils,.nils] f λb h=>W.store 2 b g h λc=>dV 0 a c λi=>wc (.fn 34 []) [i,(.ZO 3)] c (BX Q d a b)
def q8(a:AV)(L:SH)(Q:R):Prop:=W.alloc [.nils,.nils] L λb c=>W.build [.nils,(.ZO 0)] [(0,1,a)] λd=>W.box d c λe f=>W.build [.nilp,(.ZO 0),(.ZO 0),(.bool false),(.bool false),(.bool false),(.bool false),.nils] [(0,1,e),(2,1,(.ZO 20))] λg=>W.box g f λh i=>wc (.fn 33 []) [] i (BY Q h b)
theorem DN(t0:AV)(L:SH)(Q:R)(h:q8 t0 L Q):af Tryz.prog 20 [t0] L Q:=
 fs [(13,[2,3,4,5,6,7,8]),(17,[2,3,4,5,6,7,8])] [(12,[2,3,4,5,6,7,8,9]),(6,[2,3,4,5,6,7])] [] [(14,[0,1,0,0,12,28,60,124,255,511,1023]),(15,[0,1,0,0,8,24,56,120,248,508,1023,2047,4095]),(17,[0,1,0,4,12,28,60,127,255,511])] Tryz.func20 h
def IW(Q:R)(b a:AV)(e:SH):Prop:=W.ext 0 a λf=>W.ext 1 a λj=>W.ext 2 a λk=>rE [.nils,.nils,.nils,.nils,.nils,.nils,.nils] 7 f e λg c=>cp 7 g c λh=>W.store 7 b h c λd=>W.load true 7 b d λi=>Q i d
def Cw(a:AV)(L:SH)(Q:R):Prop:=W.alloc [.nils,.nils,.nils,.nils,.nils,.nils,.nils] L λb c=>wc (.fn 20 []) [a] c λd e=>wc (.fn 19 []) [d] e (IW Q b)
theorem IX(t0:AV)(L:SH)(Q:R)(h:Cw t0 L Q):af Tryz.prog 7 [t0] L Q:=
 fs [] [] [(1,[3])] [] Tryz.func7 h
end
section
set_option maxRecDepth 100000
def aR(l:List UInt8)(at_:Nat):Blk:=⟨2,[[.lst (l.map eX),.ZO (at_:Int)]]⟩
theorem Nl(bt:Nat)(l:List UInt8)(a:Nat)(n:Int)(hl:l.length<2^40)(ha:a≤l.length):
  af Tryz.prog 34 [.ptr bt 0 0,.ZO n] [(bt,aR l a)] λu K=>∃r a':Nat,u=.ZO (r:Int)∧((r:Int)<n∨r=0)∧K=[(bt,aR l a')]∧a'≤l.length:=by
 unfold aR;refine zQ _ _ _ _ ?_;unfold mW;generalize hQ:(λ(u:AV) (K:SH)=>∃r a':Nat,u=AV.ZO (r:Int)∧((r:Int)<n∨r=0)∧K=[(bt,(⟨2,[[.lst (l.map eX),.ZO (a':Int)]]⟩:Blk))]∧a'≤l.length)=Q;have hq:∀(r a':Nat),((r:Int)<n∨r=0)→a'≤l.length→Q (.ZO (r:Int)) [(bt,⟨2,[[.lst (l.map eX),.ZO (a':Int)]]⟩)]:=λr a' h1 h2=>by subst hQ;exact⟨r,a',rfl,h1,rfl,h2⟩
 clear hQ;rcases X9 a l.length with g|g
 ·have d1:decide ((l.length:Int)≤(a:Int))=false:=by simp;omega
  have hx:=ay (f:=eX) g;have e1:=aA g ZJ;have e2:IntKind.i64.wrap (((a+1:Nat):Int)-1)=(a:Int):=by rw[YU _ ZJ];omega
  by_cases hn:n<1
  ·have d2:decide (n<1)=true:=by simpa using hn
   repeat' (first|refine st ?_|refine sb λnb_ hnb_=>?_|refine s2 (λh=>?_) λh=>?_|fail)
   exact hq 0 a (.inr rfl) ha
  ·have d2:decide (n<1)=false:=by simpa using hn
   have hn0:n≠0:=by omega
   repeat' (first|refine st ?_|refine sb λnb_ hnb_=>?_|refine s2 (λh=>?_) λh=>?_|fail)
   have hb:(l[a].toNat:Int)<256:=by have:=l[a].toNat_lt;omega
   have e3:IntKind.i64.wrap (l[a].toNat:Int)=(l[a].toNat:Int):=by rw[YU _ ZJ]
   rw[e3];have h5:(l[a].toNat:Int).tmod n=(((l[a].toNat:Int).tmod n).toNat:Nat):=by have:=Int.tmod_nonneg n (Int.natCast_nonneg l[a].toNat);omega
   rw[h5];exact hq _ (a+1) (.inl (by rw[←h5];exact Int.tmod_lt_of_pos _ ZJ)) ZJ
 ·have d1:decide ((l.length:Int)≤(a:Int))=true:=by simp;omega
  repeat' (first|refine st ?_|refine sb λnb_ hnb_=>?_|refine s2 (λh=>?_) λh=>?_|fail)
  exact hq 0 a (.inr rfl) ha
def IY(n:Int):aq:=.mk 1 n [] []
def tV(s:bC):aq:=.mk 2 0 s []
theorem IZ(n:Int):az Tryz.prog 37 [.ZO n] (.agg (IY n).row):=by
 refine af.fz (KX _ _ _ ?_);unfold F1
 repeat' (first|refine st ?_|refine sb λnb_ hnb_=>?_|refine s2 (λh=>?_) λh=>?_|fail)
 exact⟨_,[],aG.all (Fz.aggs (.cons (.refl _) (.cons (.refl _) (.cons (.refl _) (.cons .nils .nil))))),rfl,rfl⟩
theorem zS(s:bC):az Tryz.prog 99 [.str s] (.agg (tV s).row):=by
 refine af.fz (IV _ _ _ ?_);unfold Cv
 repeat' (first|refine st ?_|refine sb λnb_ hnb_=>?_|refine s2 (λh=>?_) λh=>?_|fail)
 exact⟨_,[],aG.all (Fz.aggs (.cons (.refl _) (.cons (.refl _) (.cons (.refl _) (.cons .nils .nil))))),rfl,rfl⟩
def Oo(op:Int)(a b:aq):aq:=.mk op 0 [] [a,b]
theorem F4(op:Int)(a b:aq):az Tryz.prog 98 [.ZO op,.agg a.row,.agg b.row] (.agg (Oo op a b).row):=by
 refine af.fz (F2 _ _ _ _ _ ?_);unfold tT
 repeat' (first|refine st ?_|refine sb λnb_ hnb_=>?_|refine s2 (λh=>?_) λh=>?_|fail)
 exact⟨_,[],aG.all (Fz.aggs (.cons (.refl _) (.cons (.refl _) (.cons (.refl _) (.cons (Fz.sls (l:=[a,b]) (f:=aq.enc) (size:=4) (rows:=[a.row,b.row]) (.head _) (by simp[aq.enc_row]) ZN rfl) .nil))))),rfl,rfl⟩
def km:aq:=.mk 0 0 [] []
def cF(s:bC)(e:aq):ab:=.mk 1 0 s [] [] e [] []
theorem cG(s:bC)(e:aq):az Tryz.prog 36 [.str s,.agg e.row] (.agg (cF s e).row):=by
 refine af.fz (F3 _ _ _ _ ?_);unfold tU
 repeat' (first|refine st ?_|refine sb λnb_ hnb_=>?_|refine s2 (λh=>?_) λh=>?_|fail)
 exact⟨_,[],aG.all (Fz.aggs (.cons (.refl _) (.cons (.refl _) (.cons (.refl _) (.cons (.refl _) (.cons .nils (.cons (.refl _) (.cons (.refl _) (.cons (.refl _) (.cons (.refl _) (.cons .nils (.cons .nils .nil)))))))))))),rfl,rfl⟩
def bM:List aJ:=[⟨1,0,[120],0,0,[]⟩,⟨1,0,[121],0,1,[]⟩,⟨2,0,[118],0,0,[]⟩,⟨1,0,[113],2,0,[]⟩,⟨3,0,[109],0,0,[]⟩,⟨3,0,[110],0,0,[]⟩,⟨4,0,[114],0,0,[]⟩,⟨5,0,[99],0,0,[109]⟩,⟨6,0,[102],0,0,[]⟩]
theorem zT:az Tryz.prog 33 [] (.lst (bM.map aJ.enc)):=by
 refine af.fz (G0 _ _ ?_);unfold zR
 repeat' (first|refine st ?_|refine sb λnb_ hnb_=>?_|refine s2 (λh=>?_) λh=>?_|fail)
 exact⟨_,[],aG.all (Fz.sls (l:=bM) (f:=aJ.enc) (size:=6) (.head _) rfl ZN rfl),rfl,rfl⟩
theorem wz:(∀nm n,EJ 0 nm n=0)∧(∀nm n,EJ 1 nm n=0)∧(∀nm n,EJ 2 nm n=0)∧EJ 3 [113] (0+1)=0∧(∀op,EJ op [] (0+1+1)=z3 op)∧z0 1=0∧z0 2=0∧z0 3=0∧z0 6=0∧z0 13=0∧z3 6=0∧z3 13=0∧
  (∀n,zv 1 n=z0 n)∧(∀n,zv 2 n=z0 n)∧(∀n,zv 3 n=z0 n)∧(∀n,zv 14 n=z0 n)∧(∀n,zv 4 n=0)∧(∀n,zv 5 n=0)∧(∀n,zv 6 n=0)∧(∀n,zv 7 n=0)∧(∀n,zv 8 n=0)∧(∀n,zv 9 n=0)∧(∀n,zv 12 n=0)∧(∀n,zv 13 n=0)∧(∀n,zv 15 n=0)∧
  (∀nm,zi nm 0=0)∧zi [113] (0+1)=0∧(∀op n nm l,aq.wt (.mk op n nm l)=1+nm.length+EJ op nm l.length+aq.wts l)∧aq.wts []=0∧(∀x l,aq.wts (x::l)=x.wt+z0 x.op+aq.wts l)∧
  (∀op line nm arg ix e body els,ab.wt (.mk op line nm arg ix e body els)=1+nm.length+arg.length+aq.wts ix+e.wt+zv op e.op+zi nm ix.length+ab.wts body+ab.wts els)∧ab.wts []=0∧(∀x l,ab.wts (x::l)=x.wt+ab.wts l)∧
  (∀a b c l,aq.op (.mk a b c l)=a)∧(∀n,IY n=.mk 1 n [] [])∧(∀s,tV s=.mk 2 0 s [])∧(∀op a b,Oo op a b=.mk op 0 [] [a,b])∧km=.mk 0 0 [] []∧(∀s e,cF s e=.mk 1 0 s [] [] e [] []):=by
 refine⟨?_,?_,?_,?_,?_,?_,?_,?_,?_,?_,?_,?_,?_,?_,?_,?_,?_,?_,?_,?_,?_,?_,?_,?_,?_,?_,?_,?_,?_,?_,?_,?_,?_,?_,?_,?_,?_,?_,?_⟩
 all_goals first
  |rfl
  |(intros;rfl)
  |(intros;simp[EJ,z3,zi])
theorem Vz{P:Prop}(h:P:=by simp only[wz,Ys,YC];omega):P:=h
theorem Xe{r:Nat}(h:(r:Int)<6∨r=0):z0 (([6,7,8,11,13,17]:List Int).getD r 0)=0∧z3 (([6,7,8,11,13,17]:List Int).getD r 0)=0:=by
 have h:r<6:=by omega
 match r,h with
 |0,_|1,_|2,_|3,_|4,_|5,_=>exact⟨rfl,rfl⟩
structure X3 where
 a:Nat
 thread:Int
 left:Int
 set:Bool
 tx:Bool
 atomic:Bool
 loop:Bool
 o:Option Nat
 ar:List bC
 k:Nat
def X3.row(bt:Nat)(s:X3):List AV:=[.ptr bt 0 0,.ZO s.thread,.ZO s.left,.bool s.set,.bool s.tx,.bool s.atomic,.bool s.loop,ao s.o s.k]
theorem eZ{l:List bC}{b r:Nat}{rows:List (List AV)}{L:SH}{K:AV→Prop}(h:K (.str (l.getD r [])))(hm:(b,(⟨1,rows⟩:Blk))∈L)(hr:rows=l.map av)(hl:r<l.length):W.load false 1 (.ptr b r 0) L K:=by subst hr;refine Eu hm (ay hl) ZL ?_;simpa[List.getD,hl]using h
theorem QP{l:List Int}{b r:Nat}{rows:List (List AV)}{L:SH}{K:AV→Prop}(h:K (.ZO (l.getD r 0)))(hm:(b,(⟨1,rows⟩:Blk))∈L)(hr:rows=l.map aj)(hl:r<l.length):W.load false 1 (.ptr b r 0) L K:=by subst hr;refine Eu hm (ay hl) ZL ?_;simpa[List.getD,hl]using h
theorem fW{bt:Nat}{t:List UInt8}{a:Nat}{n:Int}{L L':SH}{KL:R}(ht:t.length<2^40)(ha:a≤t.length)(hd:eP bt (aR t a) L L')(hq:∀r a':Nat,((r:Int)<n∨r=0)→a'≤t.length→KL (.ZO (r:Int)) ((bt,aR t a')::L')):W.callM Tryz.prog 34 [.ptr bt 0 0,.ZO n] L KL:=
 kQ (Nl bt t a n ht ha) hd (by rintro _ _ ⟨r,a',rfl,h1,rfl,h2⟩;exact hq r a' h1 h2)
theorem DY{bt:Nat}{t:List UInt8}{a i:Nat}{n:Int}{us:List W.WR}{L L':SH}{KN:AV→SH→List Nat→Prop}(ht:t.length<2^40)(ha:a≤t.length)(hd:eP bt (aR t a) L L')(hq:∀r a':Nat,((r:Int)<n∨r=0)→a'≤t.length→KN (.ZO (r:Int)) ((bt,aR t a')::L') [bt])(hf:∀y∈us,W.free y ⟨i,[],[bt],[],true,[]⟩:=by(simp only[rm,rc,rz,W.free,aw,↓reduceIte,Nat.reduceEqDiff,aa,ed,ZH,YO,YF,not_false_eq_true,implies_true,and_true,true_and,and_self,YB,reduceCtorEq,forall_const,false_implies,Ye,forall_eq,YM,Za,Ya,or_false,false_or,forall_eq_or_imp,not_or])<;>(repeat' constructor)<;>first|assumption|(exact Ne.symm ZK)|(intro e_;subst e_;simp[SH.names]at *;done)):W.dcallM Tryz.prog us i 34 [.ptr bt 0 0,.ZO n] L KN:=
 Ez (Nl bt t a n ht ha) hd hf (by rintro _ _ ⟨r,a',rfl,h1,rfl,h2⟩;exact hq r a' h1 h2)
def mX(bt:Nat)(v1 v2 v3 v4 v5 v6 v7:AV):Blk:=⟨8,[[.ptr bt 0 0,v1,v2,v3,v4,v5,v6,v7]]⟩
def KY(d:Nat):Prop:=∀(bm bt:Nat) (t:List UInt8) (a:Nat) (v1 v2 v3 v4 v5 v6 v7:AV),t.length<2^40→a≤t.length→
  af Tryz.prog 97 [.ptr bm 0 0,.ZO (d:Int)] [(bm,mX bt v1 v2 v3 v4 v5 v6 v7),(bt,aR t a)] λu K=>∃(x:aq) (a':Nat),u=.agg x.row∧x.wt+z0 x.op≤4^(d+1)∧a'≤t.length∧K=[(bm,mX bt v1 v2 v3 v4 v5 v6 v7),(bt,aR t a')]
section
variable {bm bt:Nat} {t:List UInt8} {a d:Nat} {dd:Int} {v1 v2 v3 v4 v5 v6 v7:AV} {L L1 L2:SH}
theorem cH{KL:R}(hE:KY d)(hdd:dd=(d:Int))(ht:t.length<2^40)(ha:a≤t.length)(h1:eP bm (mX bt v1 v2 v3 v4 v5 v6 v7) L L1)(h2:eP bt (aR t a) L1 L2)(hq:∀(x:aq) (a':Nat),x.wt+z0 x.op≤4^(d+1)→a'≤t.length→KL (.agg x.row) ((bm,mX bt v1 v2 v3 v4 v5 v6 v7)::(bt,aR t a')::L2)):
  W.callM Tryz.prog 97 [.ptr bm 0 0,.ZO dd] L KL:=by
 subst hdd;exact Pi (hE bm bt t a v1 v2 v3 v4 v5 v6 v7 ht ha) h1 h2 (by rintro _ _ ⟨x,a',rfl,h1,h2,rfl⟩;exact hq x a' h1 h2)
theorem I0{us:List W.WR}{i:Nat}{KN:AV→SH→List Nat→Prop}(hE:KY d)(hdd:dd=(d:Int))(ht:t.length<2^40)(ha:a≤t.length)(h1:eP bm (mX bt v1 v2 v3 v4 v5 v6 v7) L L1)(h2:eP bt (aR t a) L1 L2)(hq:∀(x:aq) (a':Nat),x.wt+z0 x.op≤4^(d+1)→a'≤t.length→KN (.agg x.row) ((bm,mX bt v1 v2 v3 v4 v5 v6 v7)::(bt,aR t a')::L2) [bm,bt])
  (hf:∀y∈us,W.free y ⟨i,[],[bm,bt],[],true,[]⟩:=by(simp only[rm,rc,rz,W.free,aw,↓reduceIte,Nat.reduceEqDiff,aa,ed,ZH,YO,YF,not_false_eq_true,implies_true,and_true,true_and,and_self,YB,reduceCtorEq,forall_const,false_implies,Ye,forall_eq,YM,Za,Ya,or_false,false_or,forall_eq_or_imp,not_or])<;>(repeat' constructor)<;>first|assumption|(exact Ne.symm ZK)|(intro e_;subst e_;simp[SH.names]at *;done)):W.dcallM Tryz.prog us i 97 [.ptr bm 0 0,.ZO dd] L KN:=by
 subst hdd;exact NM (hE bm bt t a v1 v2 v3 v4 v5 v6 v7 ht ha) h1 h2 hf (by rintro _ _ ⟨x,a',rfl,h1,h2,rfl⟩;exact hq x a' h1 h2)
end
theorem QQ(r:Nat):(([[97],[98],[120],[121],[118],[120],[121]]:List bC).getD r []).length≤1:=by
 rcases X9 r 7 with h|h
 ·match r,h with
  |0,_|1,_|2,_|3,_|4,_|5,_|6,_=>exact X7 _
 ·rw[List.getD,X8 (by simpa using h)];exact YK _
theorem Nm:KY 0:=by
  intro bm bt t a v1 v2 v3 v4 v5 v6 v7 ht ha;refine af.fz (jY _ _ _ _ ?_);unfold gG;generalize hQ:(λ(v:AV) (L:SH)=>∃v2_1 L2,aG [v] L [v2_1] L2∧∃(x:aq) (a':Nat),v2_1=AV.agg x.row∧x.wt+z0 x.op≤4^(0+1)∧a'≤t.length∧L2=[(bm,mX bt v1 v2 v3 v4 v5 v6 v7),(bt,aR t a')])=Q;have hq:∀(v:AV) (x:aq) (a':Nat) (L L1 L2:SH),eP bm (mX bt v1 v2 v3 v4 v5 v6 v7) L L1→eP bt (aR t a') L1 L2→Fz L2 v (.agg x.row)→x.wt+z0 x.op≤4→a'≤t.length→Q v L:=λv x a' L L1 L2 h1 h2 h3 h4 h5=>by subst hQ;exact⟨_,_,aG.keep2 h1 h2 h3,x,a',rfl,h4,h5,rfl⟩
  clear hQ;unfold mX
  repeat' (first|refine st ?_|((with_reducible refine bz 34 ?_);(refine fW ht ZK rp (λr_ a_ hr_ ha_=>?_)))|(refine pf 37 ?_;refine pm (IZ _) ?_)|(refine pf 99 ?_;refine pm (zS _) ?_)|refine eZ (l:=[[97],[98],[120],[121],[118],[120],[121]]) ?_ mm rfl (by simp;omega)|refine dJ ?_ ZJ|refine sb λnb_ hnb_=>?_|refine s2 (λh=>?_) λh=>?_|fail)
  all_goals first
   |exact hq _ (IY _) _ _ _ _ rp rp (.refl _) Vz ZK
   |exact hq _ (tV _) _ _ _ _ rp rp (.refl _) (by have:=QQ r_;exact Vz) ZK
   |(exfalso;simp at *;omega)
theorem cj:∀d:Nat,d<1000→KY d:=by
 intro d
 induction d with
 |zero=>exact λ_=>Nm
 |succ d ih=>
  intro hd1000 bm bt t a v1 v2 v3 v4 v5 v6 v7 ht ha;have ih:=ih ZJ;have hE0:KY 0:=Nm;have d0:decide (((d+1:Nat):Int)=0)=false:=by simp;omega
  have e1:IntKind.i64.wrap (((d+1:Nat):Int)-1)=(d:Int):=by rw[YU _ ZJ];omega
  have hp:1≤4^d:=Nat.one_le_pow _ _ ZN;have hp1:4^(d+1)=4*4^d:=by rw[Nat.pow_succ,Nat.mul_comm]
  have hp2:4^(d+1+1)=16*4^d:=by rw[Nat.pow_succ,Nat.pow_succ];omega
  refine af.fz (jY _ _ _ _ ?_);unfold gG;generalize hQ:(λ(v:AV) (L:SH)=>∃v2_1 L2,aG [v] L [v2_1] L2∧∃(x:aq) (a':Nat),v2_1=AV.agg x.row∧x.wt+z0 x.op≤4^(d+1+1)∧a'≤t.length∧L2=[(bm,mX bt v1 v2 v3 v4 v5 v6 v7),(bt,aR t a')])=Q;have hq:∀(v:AV) (x:aq) (a':Nat) (L L1 L2:SH),eP bm (mX bt v1 v2 v3 v4 v5 v6 v7) L L1→eP bt (aR t a') L1 L2→Fz L2 v (.agg x.row)→x.wt+z0 x.op≤16*4^d→a'≤t.length→Q v L:=λv x a' L L1 L2 h1 h2 h3 h4 h5=>by subst hQ;exact⟨_,_,aG.keep2 h1 h2 h3,x,a',rfl,ZJ,h5,rfl⟩
  clear hQ;unfold mX
  repeat' (first|refine st ?_|((with_reducible refine bz 34 ?_);(refine fW ht ZK rp (λr_ a_ hr_ ha_=>?_)))|(refine pf 37 ?_;refine pm (IZ _) ?_)|(refine pf 99 ?_;refine pm (zS _) ?_)|(refine pf 98 ?_;refine pm (F4 _ _ _) ?_)|refine eZ (l:=[[97],[98],[120],[121],[118],[120],[121]]) ?_ mm rfl (by simp;omega)|refine QP (l:=[6,7,8,11,13,17]) ?_ mm rfl (by simp;omega)|refine dJ ?_ ZJ|((with_reducible refine eD 34 ?_);refine DY ht ZK rp (λr_ a_ hr_ ha_=>?_))|((with_reducible refine bz 97 ?_);(refine cH hE0 ZL ht ZK rp rp (λx_ a_ hx_ ha_=>?_)))|((with_reducible refine eD 97 ?_);refine I0 ih ZL ht ZK rp rp (λx_ a_ hx_ ha_=>?_))|refine sb λnb_ hnb_=>?_|refine s2 (λh=>?_) λh=>?_|fail)
  all_goals first
   |exact hq _ (IY _) _ _ _ _ rp rp (.refl _) Vz ZK
   |exact hq _ (tV _) _ _ _ _ rp rp (.refl _) (by have:=QQ r_;exact Vz) ZK
   |exact hq _ (.mk 3 0 [113] [x_]) _ _ _ _ rp rp (Fz.aggs (.cons (.refl _) (.cons (.refl _) (.cons (.refl _) (.cons (Fz.sls (l:=[x_]) (f:=aq.enc) (size:=4) (rows:=[x_.row]) (.head _) (by simp[aq.enc_row]) ZN rfl) .nil))))) Vz ZK
   |exact hq _ (Oo _ _ _) _ _ _ _ rp rp (.refl _) (by have:=Xe hr_;exact Vz) ZK
end
section
set_option maxRecDepth 100000
set_option maxHeartbeats 2000000
def Nn(b:UInt8):dq:=⟨(b.toNat:Int).tmod 4,((b.toNat:Int).tdiv 4).tmod 5-1⟩
theorem U6(b:UInt8):IntKind.i64.wrap (((b.toNat:Int).tdiv 4).tmod 5-1)=((b.toNat:Int).tdiv 4).tmod 5-1:=by
 have h:(b.toNat:Int)<256:=by have:=b.toNat_lt;omega
 have h1:((b.toNat:Int).tdiv 4).tmod 5=((b.toNat:Int) / 4) % 5:=by rw[Int.tdiv_eq_ediv_of_nonneg ZJ,Int.tmod_eq_emod_of_nonneg ZJ]
 rw[YU _ (by rw[h1];omega)]
theorem Cx(t:List UInt8)(ht:t.length<2^20):az Tryz.prog 9 [.lst (t.map eX)] (.lst ((t.map Nn).map dq.enc)):=by
 refine af.fz (DC _ _ _ ?_);unfold qY;generalize hQ:(λ(v:AV) (L:SH)=>∃v2 L2,aG [v] L [v2] L2∧v2=AV.lst ((t.map Nn).map dq.enc)∧L2=[])=Q;have hq:∀v L,Fz L v (.lst ((t.map Nn).map dq.enc))→Q v L:=λv L h=>by subst hQ;exact⟨_,[],aG.all h,rfl,rfl⟩
 clear hQ;refine bW t.length (λk (o:Option Nat)=>([.lst (t.map eX),ao o k,.ZO k],ae o 2 (((t.take k).map Nn).map dq.enc))) (λk o=>o=none→k=0) none (λ_=>rfl) (aG.drop (K:=[]) (.refl _) rfl (iV.at_ (.cons (.refl _) (.cons .nile (.cons (.refl _) .nil)))).2) ?_;intro k o hk ho;dsimp only;unfold pd;rcases Nat.lt_or_ge k t.length with g1|g1
 ·have hd:=bE g1;have hx:=ay (f:=eX) g1;have htk:t.take (k+1)=t.take k++[t[k]]:=Yd g1;have ho2:o=none→((t.take k).map Nn).map dq.enc=[]:=λe=>by rw[ho e];rfl
  have hl:((t.take k).map Nn).length=k:=by simp;omega
  generalize t[k]=b at *;have hb:(b.toNat:Int)<256:=by have:=b.toNat_lt;omega
  have w1:IntKind.i64.wrap (b.toNat:Int)=(b.toNat:Int):=YU _ ZJ;have w2:=U6 b;have fin:∀(nb:Nat) (L:SH),gJ L (ae (some nb) 2 (((t.take k).map Nn).map dq.enc++[(Nn b).enc]))→∃(j:Nat) (o':Option Nat),k<j∧j≤t.length∧(o'=none→j=0)∧aG [.lst (t.map eX),.sl nb 0 (k+1),.ZO (IntKind.i64.wrap ((k:Int)+1))] L [.lst (t.map eX),ao o' j,.ZO j] (ae o' 2 (((t.take j).map Nn).map dq.enc)):=by intro nb L hL;refine⟨k+1,some nb,ZJ,ZJ,nofun,?_⟩;rw[aA g1 ZJ];exact aG.pickE hL rfl (by rw[htk];simp)
  rw[show(Nn b).enc=[.ZO ((b.toNat:Int).tmod 4),.ZO (((b.toNat:Int).tdiv 4).tmod 5-1)]from rfl]at fin;rw[show eX b=[.int .u8 (b.toNat:Int)]from rfl]at hx;clear hq;generalize hX:((t.take k).map Nn).map dq.enc=X at *;have hXl:X.length=k:=by rw[←hX];simp;omega
  repeat' (first|refine st ?_|refine cx rp rp ZJ ho2 ZL ZM (by simp;omega) (by simp;omega) ZL (λnb_ hnb_=>?_)|refine sb λnb_ hnb_=>?_|refine s2 (λh=>?_) λh=>?_|fail)
  have w3:IntKind.i64.wrap ((b.toNat:Int).tdiv 4)=(b.toNat:Int).tdiv 4:=by rw[Int.tdiv_eq_ediv_of_nonneg ZJ];exact YU _ ZJ
  simp only[w1,w3,w2];exact fin nb_ _ rp
 ·have hd:=bI g1;have hk0:k=t.length:=by omega
  subst hk0;rw[YL (X7 _)];have fin:∀L,(∀q∈ae o 2 ((t.map Nn).map dq.enc),q∈L)→Q (ao o t.length) L:=λL hm=>by
   refine hq _ _ ?_;cases o with
   |none=>have:t=[]:=Y5.1 (ho rfl);subst this;exact .emp
   |some b=>exact Fz.sls (hm _ (.head _)) rfl ZN ZM
  repeat' (first|refine st ?_|refine sb λnb_ hnb_=>?_|refine s2 (λh=>?_) λh=>?_|fail)
  exact fin _ λq h=>h
end
section
set_option linter.unusedSectionVars false
def HJ(T:FuncId→List AV→Option AV)(call:FuncId→List AV→ac→Option (AV×ac))(g:FuncId)(args:List AV)(H:ac):Option (AV×ac):=match T g args with
 |some v=>some (v,H)
 |none=>call g args H
def dP(P:Program)(F:TypeId→Option (List TypeId))(T:FuncId→List AV→Option AV):Nat→Code→List AV→ac→Option (Ex×List AV×ac)
 |0,_,_,_=>none
 |f+1,c,τ,H=>
  match c with
  |.skip|.label _=>some (.normal,τ,H)
  | .region _ ops draw=>match dG P F (HJ T (pW P (dP P F T f))) ops draw τ H with
   |some (τ,H)=>some (.normal,τ,H)
   |none=>none
  | .seq a b=>match dP P F T f a τ H with
   |some (.normal,τ,H)=>dP P F T f b τ H
   |r=>r
  | .cond c a b=>match kC τ c with
   |.bool true=>dP P F T f a τ H
   |.bool false=>dP P F T f b τ H
   |_=>none
  | .block id b=>match dP P F T f b τ H with
   |some (.exit id',τ,H)=>if id'=id then some (.normal,τ,H)else some (.exit id',τ,H)
   |r=>r
  | .loop b=>match dP P F T f b τ H with
   |some (.normal,τ,H)=>dP P F T f (.loop b) τ H
   |r=>r
  |.exit id=>some (.exit id,τ,H)
  |.ret=>some (.ret,τ,H)
  |_=>none
def tW(P:Program)(T:FuncId→List AV→Option AV):Prop:=∀f args v,T f args=some v→gZ P f args v
section
variable {P:Program} {F:TypeId→Option (List TypeId)} {T:FuncId→List AV→Option AV} {call:FuncId→List AV→ac→Option (AV×ac)}
theorem KZ(hT:tW P T)(hs:eC P call):eC P (HJ T call):=by
 refine⟨λf args H v H' hc=>?_,λf args H v H' hc=>?_,λf args H v H' hc=>?_⟩
 all_goals
  unfold HJ at hc;split at hc
 ·rename_i u hu;cases hc;exact(hT _ _ _ hu).1 _
 ·exact hs.ok _ _ _ _ _ hc
 ·cases hc;exact X7 _
 ·exact hs.next _ _ _ _ _ hc
 ·rename_i u hu;cases hc;exact(hT _ _ _ hu).2
 ·exact hs.body _ _ _ _ _ hc
theorem HK(h:∀f args H v H',Bd H→call f args H=some (v,H')→Cf H H'):∀f args H v H',Bd H→HJ T call f args H=some (v,H')→Cf H H':=λf args H v H' hb hc=>by
 unfold HJ at hc;split at hc
 ·cases hc;exact .refl _
 ·exact h _ _ _ _ _ hb hc
theorem Oq(f:Nat):∀(c:Code) (τ:List AV) (H:ac) (e:Ex) (τ':List AV) (H':ac),Bd H→dP P F T f c τ H=some (e,τ',H')→Cf H H':=by
 induction f with
 |zero=>intro c τ H e τ' H' _ h;cases h
 |succ f ih=>
  intro c τ H e τ' H' hbd h;cases c with
  |skip=>cases h;exact .refl _
  |label l=>cases h;exact .refl _
  |exit id=>cases h;exact .refl _
  |ret=>cases h;exact .refl _
  |region id ops draw=>
   simp only[dP]at h;split at h
   ·rename_i hr;cases h;exact Lo (λf args H v H' hb hcall=>HK (λ_ _ _ _ _ hb hc=>Ec ih hb hc) _ _ _ _ _ hb hcall) hbd hr
   ·cases h
  |seq x y=>
   simp only[dP]at h;split at h
   ·rename_i h1;have k1:=ih _ _ _ _ _ _ hbd h1;exact k1.trans (ih _ _ _ _ _ _ (k1.bd hbd) h)
   ·exact ih _ _ _ _ _ _ hbd h
  |cond x c1 c2=>
   simp only[dP]at h;split at h
   ·exact ih _ _ _ _ _ _ hbd h
   ·exact ih _ _ _ _ _ _ hbd h
   ·cases h
  |block id c1=>
   simp only[dP]at h;split at h
   ·rename_i h1;split at h
    ·cases h;exact ih _ _ _ _ _ _ hbd h1
    ·cases h;exact ih _ _ _ _ _ _ hbd h1
   ·exact ih _ _ _ _ _ _ hbd h
  |loop c1=>
   simp only[dP]at h;split at h
   ·rename_i h1;have k1:=ih _ _ _ _ _ _ hbd h1;exact k1.trans (ih _ _ _ _ _ _ (k1.bd hbd) h)
   ·exact ih _ _ _ _ _ _ hbd h
  |_=>simp[dP]at h
theorem I1(fit:Fit P F)(hT:tW P T)(hgood:∀(g:Nat) (fn:Func) (c:Code),P.funcs[g]? =some fn→fn.body=some c→kO c)(f:Nat):(∀(c:Code) (τ:List AV) (H:ac) (e:Ex) (τ':List AV) (H':ac),kO c→dP P F T f c τ H=some (e,τ',H')→cK P c τ H e τ' H')∧
  (∀(c:Code) (τ:List AV) (H:ac) (e:Ex) (τ':List AV) (H':ac),kO c→dP P F T f (.loop c) τ H=some (e,τ',H')→lB P f c τ H e τ' H'):=by
 induction f with
 |zero=>exact⟨λc τ H e τ' H' _ h=>(by cases h),λc τ H e τ' H' _ h=>(by cases h)⟩
 |succ f ih0=>
  obtain⟨ih,ihl⟩:=ih0;have hs:=KZ hT (xE (P:=P) hgood ih);have hch:∀g args H v H',Bd H→HJ T (pW P (dP P F T f)) g args H=some (v,H')→Cf H H':=HK (λ_ _ _ _ _ hb hc=>Ec (Oq f) hb hc);have hloop:∀(c:Code) (τ:List AV) (H:ac) (e:Ex) (τ':List AV) (H':ac),kO c→dP P F T (f+1) (.loop c) τ H=some (e,τ',H')→lB P (f+1) c τ H e τ' H':=by
   intro c1 τ H e τ' H' dr h;simp only[dP]at h;split at h
   ·rename_i τ1 H1 h1;obtain⟨n1,k1⟩:=ih c1 τ H .normal τ1 H1 dr h1;obtain⟨n2,k2⟩:=ihl c1 τ1 H1 e τ' H' dr h;refine⟨Yn n1 n2,λw σ a hW hτ Q hQ=>?_⟩;rw[rounds_succ];refine k1 w σ a hW hτ _ λa' w' haf=>?_
    obtain⟨σ1,t1,r1,e1,m1⟩:=haf;exact k2 w' σ1 a' r1 t1 Q λa2 w2 haf2=>hQ a2 w2 (haf2.trans e1 m1 n1)
   ·rename_i hne;obtain⟨n1,k1⟩:=ih c1 τ H e τ' H' dr h;refine⟨n1,λw σ a hW hτ Q hQ=>?_⟩;rw[rounds_succ];refine k1 w σ a hW hτ _ λa' w' haf=>?_
    cases e with
    |normal=>exact absurd h (hne _ _)
    |exit id=>exact hQ _ _ haf
    |ret=>exact hQ _ _ haf
  refine⟨?_,hloop⟩;intro c τ H e τ' H' dr h;cases c with
  |skip=>cases h;exact⟨X7 _,λw σ a hW hτ Q hQ=>wp_skip (hQ _ _ (.refl hW hτ))⟩
  |label l=>cases h;exact⟨X7 _,λw σ a hW hτ Q hQ=>wp_label (hQ _ _ (.refl hW hτ))⟩
  |exit id=>cases h;exact⟨X7 _,λw σ a hW hτ Q hQ=>wp_exit (hQ _ _ (.refl hW hτ))⟩
  |ret=>cases h;exact⟨X7 _,λw σ a hW hτ Q hQ=>wp_ret (hQ _ _ (.refl hW hτ))⟩
  |region id ops draw=>
   simp only[dP]at h;split at h
   ·rename_i τ1 H1 hr;cases h;cases draw with
    |false=>exact gp fit hs hr
    |true=>obtain⟨h1,h2⟩:=Eh fit hs hch (dr rfl).1 (dr rfl).2 hr;exact⟨h1,λw σ a hW hτ Q hQ=>h2 id w σ a hW hτ Q hQ⟩
   ·cases h
  |seq x y=>
   simp only[dP]at h;split at h
   ·rename_i τ1 H1 h1;obtain⟨n1,k1⟩:=ih x τ H .normal τ1 H1 dr.1 h1;obtain⟨n2,k2⟩:=ih y τ1 H1 e τ' H' dr.2 h;refine⟨Yn n1 n2,λw σ a hW hτ Q hQ=>wp_seq (k1 w σ a hW hτ _ λa' w' haf=>?_)⟩;obtain⟨σ1,t1,r1,e1,m1⟩:=haf;exact k2 w' σ1 a' r1 t1 Q λa2 w2 haf2=>hQ a2 w2 (haf2.trans e1 m1 n1)
   ·rename_i hne;obtain⟨n1,k1⟩:=ih x τ H e τ' H' dr.1 h;refine⟨n1,λw σ a hW hτ Q hQ=>wp_seq (k1 w σ a hW hτ _ λa' w' haf=>?_)⟩;cases e with
    |normal=>exact absurd h (hne _ _)
    |exit id=>exact hQ _ _ haf
    |ret=>exact hQ _ _ haf
  |cond x c1 c2=>
   simp only[dP]at h;split at h
   ·rename_i hb;obtain⟨n1,k1⟩:=ih c1 τ H e τ' H' dr.1 h;refine⟨n1,λw σ a hW hτ Q hQ=>wp_cond_true ?_ (k1 w σ a hW hτ Q hQ)⟩;have:=hτ.eval hW.glob x;rw[hb]at this;generalize a.eval x=u at this;cases this;rfl
   ·rename_i hb;obtain⟨n1,k1⟩:=ih c2 τ H e τ' H' dr.2 h;refine⟨n1,λw σ a hW hτ Q hQ=>wp_cond_false ?_ (k1 w σ a hW hτ Q hQ)⟩;have:=hτ.eval hW.glob x;rw[hb]at this;generalize a.eval x=u at this;cases this;rfl
   ·cases h
  |block id c1=>
   simp only[dP]at h;split at h
   ·rename_i id' τ1 H1 h1;obtain⟨n1,k1⟩:=ih c1 τ H _ τ1 H1 dr h1;split at h
    ·rename_i hid;cases h;exact⟨n1,λw σ a hW hτ Q hQ=>wp_block (k1 w σ a hW hτ _ λa' w' haf=>by simp only[Jw,Exit.inBlock,hid,if_true];exact hQ _ _ haf)⟩
    ·rename_i hid;cases h;exact⟨n1,λw σ a hW hτ Q hQ=>wp_block (k1 w σ a hW hτ _ λa' w' haf=>by simp only[Jw,Exit.inBlock,hid,if_false];exact hQ _ _ haf)⟩
   ·rename_i hne;obtain⟨n1,k1⟩:=ih c1 τ H e τ' H' dr h;refine⟨n1,λw σ a hW hτ Q hQ=>wp_block (k1 w σ a hW hτ _ λa' w' haf=>?_)⟩;cases e with
    |normal=>exact hQ _ _ haf
    |exit id=>exact absurd h (hne _ _ _)
    |ret=>exact hQ _ _ haf
  |loop c1=>obtain⟨n1,k1⟩:=hloop c1 τ H e τ' H' dr h;exact⟨n1,λw σ a hW hτ Q hQ=>wp_loop_rounds (f+1) (k1 w σ a hW hτ Q hQ)⟩
  |_=>simp[dP]at h
theorem K0(fit:Fit P F)(hT:tW P T)(hgood:∀(g:Nat) (fn:Func) (c:Code),P.funcs[g]? =some fn→fn.body=some c→kO c)(f:Nat)(c:Code)(τ:List AV)(H:ac)(e:Ex)(τ':List AV)(H':ac)(dr:kO c)(h:dP P F T f c τ H=some (e,τ',H')):cK P c τ H e τ' H':=
 (I1 fit hT hgood f).1 c τ H e τ' H' dr h
end
theorem gZ.of_pure{f:FuncId}{args:List AV}{v:AV}(h:az Tryz.prog f args v)(hv:bv v)(ha:∀(i:Nat) (a:AV),args[i]? =some a→bv a):gZ Tryz.prog f args v:=by
 obtain⟨fn,c,hf,hb⟩:=h.1;refine .of_v hf hb hv ha λw σ vs hW hvs=>?_
 obtain⟨u,H',L',h1,_,h3,_⟩:=h.2 ac.empty (λb _=>cX b) ⟨.nil,λp h=>by simp at h⟩;subst h3;refine(h1 w σ vs hW hvs).mono λe w' ⟨v',σ',k1,k2,k3,k4,k5⟩=>⟨v',σ',H',k1,k2,k4⟩
end
def I2{α:Type}(f:α→α→Bool):List α→List α→Bool
 |[],[]=>true
 |a::l,b::m=>f a b&&I2 f l m
 |_,_=>false
theorem oz{α:Type}{f:α→α→Bool}(h:∀a b,f a b=true→a=b):∀{l m:List α},I2 f l m=true→l=m
 |[],[],_=>rfl
 | a::l,b::m,e=>by rw[I2,Yl]at e;rw[h _ _ e.1,oz h e.2]
 |[],_::_,e=>by cases e
 |_::_,[],e=>by cases e
def Mi:Nat→AV→AV→Bool
 |0,_,_=>false
 | n+1,a,b=>match a,b with
  |.int k x,.int k' y=>decide (k=k')&&decide (x=y)
  |.bool x,.bool y=>x==y
  |.str x,.str y=>I2 (λ(p q:UInt8)=>decide (p=q)) x y
  |.nils,.nils=>true
  |.emp,.emp=>true
  |.nilp,.nilp=>true
  |.lst r,.lst s=>I2 (I2 (Mi n)) r s
  |.agg r,.agg s=>I2 (Mi n) r s
  |.tup r,.tup s=>I2 (Mi n) r s
  |_,_=>false
theorem No:∀{n:Nat} {a b:AV},Mi n a b=true→a=b:=by
 intro n
 induction n with
 |zero=>intro a b h;cases h
 |succ n ih=>
  intro a b h;unfold Mi at h;split at h
  ·simp only[Yl,decide_eq_true_eq]at h;rw[h.1,h.2]
  ·rw[beq_iff_eq]at h;rw[h]
  ·rw[oz (λp q h=>of_decide_eq_true h) h]
  ·rfl
  ·rfl
  ·rfl
  ·rw[oz (λp q h=>oz (λa b h=>ih h) h) h]
  ·rw[oz (λa b h=>ih h) h]
  ·rw[oz (λa b h=>ih h) h]
  ·cases h
def F5:Nat→AV→Bool
 |0,_=>false
 | n+1,a=>match a with
  |.int ..|.bool _|.str _|.nils|.emp|.nilp=>true
  |.lst r=>r.all λl=>l.all (F5 n)
  |.agg r=>r.all (F5 n)
  |.tup r=>r.all (F5 n)
  |_=>false
theorem K3:∀{n:Nat} {a:AV},F5 n a=true→bv a:=by
 intro n
 induction n with
 |zero=>intro a h;cases h
 |succ n ih=>
  intro a h;unfold F5 at h;split at h
  ·exact .int _ _
  ·exact .bool _
  ·exact .str _
  ·exact .nils
  ·exact .emp
  ·exact .nilp
  ·refine .lst _ λi r j a h1 h2=>?_
   rw[Yo]at h;have:=h _ (YN h1);rw[Yo]at this;exact ih (this _ (YN h2))
  ·refine .agg _ λi a h1=>?_
   rw[Yo]at h;exact ih (h _ (YN h1))
  ·refine .tup _ λi a h1=>?_
   rw[Yo]at h;exact ih (h _ (YN h1))
  ·cases h
def Ot(n:Nat):List (FuncId×List AV×AV)→(FuncId→List AV→Option AV)→FuncId→List AV→Option AV
 |[],T,f,args=>T f args
 |e::L,T,f,args=>if(Nat.beq f e.1&&I2 (Mi n) args e.2.1)=true then some e.2.2 else Ot n L T f args
theorem DZ{n:Nat}{T:FuncId→List AV→Option AV}(hT:tW Tryz.prog T):∀{L:List (FuncId×List AV×AV)},(∀e∈L,gZ Tryz.prog e.1 e.2.1 e.2.2)→tW Tryz.prog (Ot n L T)
 |[],_=>hT
 | e::L,h=>λf args v hv=>by
  unfold Ot at hv;split at hv
  ·rename_i hc;rw[Yl]at hc;cases hv;have h1:f=e.1:=Nat.eq_of_beq_eq_true hc.1;have h2:=oz (λa b h=>No h) hc.2;rw[h1,h2];exact h e ZM
  ·exact DZ hT (λe he=>h e (by simp[he])) f args v hv
noncomputable def To (T:FuncId→List AV→Option AV) (n d:Nat) (f:FuncId) (args:List AV):Option AV:=match pW Tryz.prog (dP Tryz.prog Fl T n) f args ac.empty with
 |some (v,H)=>frz H d v
 |none=>none
def X5(d:Nat)(v:AV):Option AV→Bool
 |some u=>Mi d u v
 |none=>false
theorem gg{f:FuncId}{n d:Nat}{args:List AV}{v:AV}{T:FuncId→List AV→Option AV}(hT:tW Tryz.prog T)(hp:(F5 d v&&args.all (F5 d))=true)(hrun:X5 d v (To T n d f args)=true):gZ Tryz.prog f args v:=by
 rw[Yl,Yo]at hp;have hd:=(SX Es).2;have hs:=xE (P:=Tryz.prog) hd (λc τ H e τ' H' dr hx=>K0 fit hT hd n c τ H e τ' H' dr hx);unfold To at hrun;split at hrun
 ·rename_i u H' hc;have hz:frz H' d u=some v:=by
   cases hf:frz H' d u with
   |none=>rw[hf]at hrun;cases hrun
   |some x=>rw[hf]at hrun;rw[No hrun]
  have hV:MF Tryz.prog f args v:=λw σ vs hW hvs=>(hs.ok _ _ _ _ _ hc w σ vs hW hvs).mono λe w' ⟨v',σ',he,k1,k2,k3,k4⟩=>
   ⟨v',σ',ac.empty,he,xM k2 d u v v' hz k1,k3.trans (eI.sub λb x hb=>by rw[cX]at hb;cases hb)⟩
  obtain⟨fn,c,hf,hb⟩:=hs.body _ _ _ _ _ hc;exact .of_v hf hb (K3 hp.1) (λi a h=>K3 (hp.2 a (YN h))) hV
 ·cases hrun
theorem az.of_ok{f:FuncId}{args:List AV}{v:AV}(h:gZ Tryz.prog f args v):az Tryz.prog f args v:=
 ⟨h.2,λH hb hS=>⟨v,H,[],h.1 H,.refl hb hS,rfl,rfl⟩⟩
section
set_option maxRecDepth 100000
theorem Mj(s:bC):az Tryz.prog 86 [.str s] (.bool (eE s)):=by
 rcases X9 12 s.length with h|h
 ·have hl:(s.length:Int)<1→False:=by omega
  refine iP _ _ _ ?_;unfold gz;have d1:decide ((s.length:Int)<1)=false:=decide_eq_false ZJ;have d2:decide ((s.length:Int) > 12)=true:=decide_eq_true ZJ;have e:eE s=false:=by unfold eE;rw[show decide ((s.length:Int)≤12)=false from decide_eq_false ZJ];simp
  rw[e]
  repeat' (first|refine st ?_|refine sb λnb_ hnb_=>?_|refine s2 (λh=>?_) λh=>?_|fail)
  all_goals exact⟨rfl,rfl⟩
 ·exact N1 s ZJ
end
end Go.Proofs.YtdnpdghlggbklaaGreatDoor.Am
