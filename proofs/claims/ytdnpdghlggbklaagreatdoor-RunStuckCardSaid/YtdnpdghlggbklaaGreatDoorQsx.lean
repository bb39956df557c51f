/- A part of the proof; the statement is proved in the last part. -/
import Derived.Test.YtdnpdghlggbklaaGreatDoorQsw
set_option linter.unusedSimpArgs false
set_option linter.unusedVariables false
namespace Go.Proofs.YtdnpdghlggbklaaGreatDoor.Am
section
set_option maxRecDepth 100000
def yx(Q:R)(c:SH)(b d:AV):Prop:=dL 1 b c λe=>wb .add 3 e (.Xw 1) λf=>W.nilchk b λg=>W.faddr 1 g λh=>W.store 1 h f c λa=>(true=true)∧(W.nilchk b λi=>aN 0 i [] 3 a λj k=>W.nilchk b λl=>aN 1 l [rm 3 k] 7 a λm s=>wb .sub 3 m (.Xw 1) λn=>di [] 9 1 j n a λo t=>dl [] 10 o a λp u=>W.conv .i64 p λq=>wb .rem 3 q d λr=>Q r a)
def md(a c:AV)(L:SH)(Q:R):Prop:=(true=true)∧(W.nilchk a λf=>aN 1 f [] 3 L λg h=>W.nilchk a λi=>aN 0 i [rm 3 h] 7 L λj r=>W.len j λk=>wb .geq 3 g k λb=>W.dgrd b false (λl=>l c L rz) L λm d s=>W.dgrd b false (λn=>wb .lss 3 m (.Xw 1) λo=>n o d rz) d λp e t=>W.pick b (.bool true) p λq=>wk q (Q (.Xw 0) e) ((yx Q e a c)))
theorem yy(t0 t1:AV)(L:SH)(Q:R)(h:md t0 t1 L Q):af Tryz.prog 34 [t0,t1] L Q:=
 fs [] [] [] [(1,[0,1,3,7,0,16,48,112,240,511,1023,2047,4095,8191]),(4,[0,1,3,7,0,16,48,112,240,511,1023,2047,0,8191,16383])] Tryz.func34 h
def EI(c:AV)(L:SH)(Q:R):Prop:=W.alloc [(.Xw 0),(.Xw 0),(.str []),.nils] L λa d=>W.build [(.Xw 0),(.Xw 0),(.str []),.nils] [(0,1,(.Xw 1)),(1,1,c)] λe=>W.store 4 a e d λb=>W.load true 4 a b λf=>Q f b
theorem Jr(t0:AV)(L:SH)(Q:R)(h:EI t0 L Q):af Tryz.prog 37 [t0] L Q:=
 fs [] [] [] [] Tryz.func37 h
def Bj(c:AV)(L:SH)(Q:R):Prop:=W.alloc [(.Xw 0),(.Xw 0),(.str []),.nils] L λa d=>W.build [(.Xw 0),(.Xw 0),(.str []),.nils] [(0,1,(.Xw 2)),(2,1,c)] λe=>W.store 4 a e d λb=>W.load true 4 a b λf=>Q f b
theorem Hq(t0:AV)(L:SH)(Q:R)(h:Bj t0 L Q):af Tryz.prog 99 [t0] L Q:=
 fs [] [] [] [] Tryz.func99 h
def sn(d e f:AV)(L:SH)(Q:R):Prop:=W.box e L λg h=>W.box f h λi j=>W.alloc [(.Xw 0),(.Xw 0),(.str []),.nils] j λb k=>W.frz1 g k λl m=>W.frz1 i m λn a=>bS 4 l a λo=>bS 4 n a λp=>W.bslice 4 [(.Xw 0),(.Xw 0),(.str []),.nils] 2 [(0,o),(1,p)] a λq r=>W.build [(.Xw 0),(.Xw 0),(.str []),.nils] [(0,1,d),(3,1,q)] λs=>W.store 4 b s r λc=>W.load true 4 b c λt=>Q t c
theorem EJ(t0 t1 t2:AV)(L:SH)(Q:R)(h:sn t0 t1 t2 L Q):af Tryz.prog 98 [t0,t1,t2] L Q:=
 fs [] [] [(0,[4,5])] [] Tryz.func98 h
def ss(d e:AV)(L:SH)(Q:R):Prop:=W.box e L λf g=>W.alloc [(.Xw 0),(.Xw 0),(.str []),(.str []),.nils,(.Xw 0),(.Xw 0),(.str []),.nils,.nils,.nils] g λa h=>W.frz1 f h λi b=>bS 4 i b λj=>W.build [(.Xw 0),(.Xw 0),(.str []),(.str []),.nils,(.Xw 0),(.Xw 0),(.str []),.nils,.nils,.nils] [(0,1,(.Xw 1)),(2,1,d),(5,4,j)] λk=>W.store 11 a k b λc=>W.load true 11 a c λl=>Q l c
theorem EK(t0 t1:AV)(L:SH)(Q:R)(h:ss t0 t1 L Q):af Tryz.prog 36 [t0,t1] L Q:=
 fs [] [] [(0,[3])] [] Tryz.func36 h
def yz(L:SH)(Q:R):Prop:=W.build [(.Xw 0),(.Xw 0),(.str []),(.Xw 0),(.Xw 0),(.str [])] [(0,1,(.Xw 1)),(2,1,(.str [120]))] λa=>W.build [(.Xw 0),(.Xw 0),(.str []),(.Xw 0),(.Xw 0),(.str [])] [(0,1,(.Xw 1)),(2,1,(.str [121])),(4,1,(.Xw 1))] λb=>W.build [(.Xw 0),(.Xw 0),(.str []),(.Xw 0),(.Xw 0),(.str [])] [(0,1,(.Xw 2)),(2,1,(.str [118]))] λc=>W.build [(.Xw 0),(.Xw 0),(.str []),(.Xw 0),(.Xw 0),(.str [])] [(0,1,(.Xw 1)),(2,1,(.str [113])),(3,1,(.Xw 2))] λd=>W.build [(.Xw 0),(.Xw 0),(.str []),(.Xw 0),(.Xw 0),(.str [])] [(0,1,(.Xw 3)),(2,1,(.str [109]))] λe=>W.build [(.Xw 0),(.Xw 0),(.str []),(.Xw 0),(.Xw 0),(.str [])] [(0,1,(.Xw 3)),(2,1,(.str [110]))] λf=>W.build [(.Xw 0),(.Xw 0),(.str []),(.Xw 0),(.Xw 0),(.str [])] [(0,1,(.Xw 4)),(2,1,(.str [114]))] λg=>W.build [(.Xw 0),(.Xw 0),(.str []),(.Xw 0),(.Xw 0),(.str [])] [(0,1,(.Xw 5)),(2,1,(.str [99])),(5,1,(.str [109]))] λh=>W.build [(.Xw 0),(.Xw 0),(.str []),(.Xw 0),(.Xw 0),(.str [])] [(0,1,(.Xw 6)),(2,1,(.str [102]))] λi=>W.bslice 6 [(.Xw 0),(.Xw 0),(.str []),(.Xw 0),(.Xw 0),(.str [])] 9 [(0,a),(1,b),(2,c),(3,d),(4,e),(5,f),(6,g),(7,h),(8,i)] L λj k=>Q j k
theorem FH(L:SH)(Q:R)(h:yz L Q):af Tryz.prog 33 [] L Q:=
 fs [] [] [] [] Tryz.func33 h
def jD(a b:AV)(L:SH)(Q:R):Prop:=dL 7 a L λc=>wc (.fn 90 []) [c,b] L λd e=>wb .geq 3 d (.Xw 0) λf=>Q f e
theorem qO(t0 t1:AV)(L:SH)(Q:R)(h:jD t0 t1 L Q):af Tryz.prog 100 [t0,t1] L Q:=
 fs [] [] [] [] Tryz.func100 h
def uj(Q:R)(a c:AV)(d:SH):Prop:=W.store 4 a c d λb=>W.load true 4 a b λe=>Q e b
def uk(Q:R)(a b:AV)(c:SH):Prop:=wc (.fn 37 []) [b] c (uj Q a)
def ul(Q:R)(a c:AV)(d:SH):Prop:=W.store 4 a c d λb=>W.load true 4 a b λe=>Q e b
def um(Q:R)(b c d:AV)(a:SH):Prop:=wo 1 b d a λe=>wc (.fn 99 []) [e] a (ul Q c)
def uo(Q:R)(a c:AV)(d:SH):Prop:=W.bslice 4 [(.Xw 0),(.Xw 0),(.str []),.nils] 1 [(0,c)] d λe f=>W.build [(.Xw 0),(.Xw 0),(.str []),.nils] [(0,1,(.Xw 3)),(2,1,(.str [113])),(3,1,e)] λg=>W.store 4 a g f λb=>W.load true 4 a b λh=>Q h b
def uq(Q:R)(c:SH)(a d:AV)(e:SH)(f:Ns):Prop:=wn [] f [] c.names λh=>ds [] 19 4 a d e λb i=>W.load true 4 a b λg=>Q g b
def ur(Q:R)(b:SH)(c d e f:AV)(a:SH)(g:Ns):Prop:=wn [] g [] b.names λh=>wd [] 18 (.fn 98 []) [c,d,f] a (uq Q a e)
def ut(Q:R)(b:SH)(c d e f:AV)(g h:Fp)(i:AV)(a:SH)(j:Ns):Prop:=wn [] j [] b.names λl=>wb .sub 3 c (.Xw 1) λk=>wd [rm 9 g,rm 8 h] 17 (.fn 97 []) [d,k] a (ur Q a e i f)
def uu(Q:R)(f:SH)(b c g h i:AV)(a:SH)(j:Ns):Prop:=wn [] j [] f.names λn=>di [] 8 1 g i a λk d=>dl [] 9 k a λl e=>wb .sub 3 b (.Xw 1) λm=>wd [rm 9 e,rm 8 d] 13 (.fn 97 []) [c,m] a (ut Q a b c l h e d)
def uv(Q:R)(d:SH)(b e f:AV):Prop:=W.bslice 1 [(.Xw 0)] 6 [(0,(.Xw 6)),(1,(.Xw 7)),(2,(.Xw 8)),(3,(.Xw 11)),(4,(.Xw 13)),(5,(.Xw 17))] d λc a=>(true=true)∧(W.nilchk b λg=>aN 0 g [] 4 a λh j=>W.len c λi=>wd [] 7 (.fn 34 []) [h,i] a (uu Q a e b c f))
def uw(Q:R)(a:SH)(b f d e c:AV):Prop:=wb .lss 3 d (.Xw 7) λg=>wk g (dL 0 b a λh=>W.len e λi=>wc (.fn 34 []) [h,i] a (um Q e c)) (wb .eql 3 d (.Xw 7) λj=>wk j (wc (.fn 97 []) [b,(.Xw 0)] a (uo Q c)) ((uv Q a b f c)))
def ux(Q:R)(e f g h b:AV)(i:SH):Prop:=wb .lss 3 b (.Xw 2) λa=>bH a false e i λj k=>wg a false (wb .eql 3 j (.Xw 0)) k λl m=>bH a false l m λc n=>bH c true b n λo p=>wg c true (wb .geq 3 o (.Xw 7)) p λq r=>wg a false (W.pick c q (.bool false)) r λs d=>W.pick a (.bool true) s λt=>wk t (dL 0 f d λu=>wc (.fn 34 []) [u,(.Xw 4)] d (uk Q g)) ((uw Q d f e b h g))
def gl(a c:AV)(L:SH)(Q:R):Prop:=W.alloc [(.Xw 0),(.Xw 0),(.str []),.nils] L λd e=>W.bslice 1 [(.str [])] 7 [(0,(.str [97])),(1,(.str [98])),(2,(.str [120])),(3,(.str [121])),(4,(.str [118])),(5,(.str [120])),(6,(.str [121]))] e λf b=>dL 0 a b λg=>wc (.fn 34 []) [g,(.Xw 10)] b (ux Q c a d f)
theorem jE(t0 t1:AV)(L:SH)(Q:R)(h:gl t0 t1 L Q):af Tryz.prog 97 [t0,t1] L Q:=
 fs [] [] [] [(10,[0,0,2,6,14,0,32,126,255,511,0,0,2048,7422,0,0,32768,130302,262143,524287])] Tryz.func97 h
def iJ(Q:R)(b d:AV)(a:SH):Prop:=(true=true)∧(W.nilchk b λe=>aN 7 e [] 4 a λc f=>W.nilchk b λg=>aN 7 g [rm 4 f] 8 a λh o=>W.len h λi=>wb .sub 3 i (.Xw 1) λj=>W.calm [] ⟨11,(dR c),[],[],false,[]⟩ (W.slice 1 c none (some j) none a λk=>wn (dR c) [] [] [] λp=>W.nilchk b λl=>W.faddr 7 l λm=>ds [] 14 1 m k a λn q=>Q d n))
def qP(Q:R)(a b c:AV)(d:SH):Prop:=wb .add 3 (.Xw 1) c λe=>wc (.fn 35 []) [a,b,e] d (iJ Q a)
def jF(a c d:AV)(L:SH)(Q:R):Prop:=dL 7 a L λe=>W.bslice 1 [(.str [])] 1 [(0,c)] L λf g=>W.append 1 16 e f g λh i=>W.nilchk a λj=>W.faddr 7 j λk=>W.store 1 k h i λb=>dL 0 a b λl=>wc (.fn 34 []) [l,(.Xw 2)] b (qP Q a d)
theorem qQ(t0 t1 t2:AV)(L:SH)(Q:R)(h:jF t0 t1 t2 L Q):af Tryz.prog 101 [t0,t1,t2] L Q:=
 fs [] [] [] [(3,[0,0,2,6,14,0,32,96,224,480,992,2046,4095,8191,16383])] Tryz.func101 h
def qR(a:Kn)(b c d e f g:AV)(h:SH):Prop:=W.bslice 11 [(.Xw 0),(.Xw 0),(.str []),(.str []),.nils,(.Xw 0),(.Xw 0),(.str []),.nils,.nils,.nils] 1 [(0,g)] h λi j=>W.append 11 176 b i j λk l=>wb .add 3 c (.Xw 1) λm=>a [d,e,f,k,m] l
def iK(Q:R)(j:Vs)(k:SH)(l:Kn):Prop:=HE 0 1 2 7 8 j λc e f g d=>wb .lss 3 d f λb=>bH b true d k λm n=>wg b true (wb .eql 3 m (.Xw 0)) n λo p=>bH b true o p λa q=>bH a false c q λr s=>wg a false (W.nilchk r) s λt u=>wg a false (W.faddr 2 t) u λv h=>wg a false (wl v h) h λw x=>wg a false (wb .gtr 3 w (.Xw 0)) x λy z=>wg b true (W.pick a (.bool true) y) z λA i=>W.pick b A (.bool false) λB=>wk B (wc (.fn 62 []) [c,e] i (qR l g d c e f)) (Q g i)
def jG(a b c:AV)(L:SH)(Q:R):Prop:=W.loop (iK Q) [a,b,c,.nils,(.Xw 0)] L
theorem qS(t0 t1 t2:AV)(L:SH)(Q:R)(h:jG t0 t1 t2 L Q):af Tryz.prog 35 [t0,t1,t2] L Q:=
 fs [] [(3,[0,1,2,7,8])] [] [] Tryz.func35 h
def uy(Q:R)(c:SH)(a d:AV)(e:SH)(f:Ns):Prop:=wn [] f [] c.names λh=>ds [] 7 11 a d e λb i=>W.load true 11 a b λg=>Q g b
def uz(Q:R)(b:SH)(c d e:AV)(a:SH)(f:Ns):Prop:=wn [] f [] b.names λg=>wd [] 6 (.fn 36 []) [c,e] a (uy Q a d)
def jH(Q:R)(c:SH)(d e f:AV):Prop:=(true=true)∧(W.calm [] ⟨0,[],[],[],false,[]⟩ (W.bslice 1 [(.str [])] 4 [(0,(.str [120])),(1,(.str [121])),(2,(.str [120])),(3,(.str [118]))] c λb a=>wn [] [] (aa b) [] λg=>di [] 2 1 b e a λh i=>dl [] 3 h a λj k=>wd [rm 3 k,rm 2 i,rm 0 g] 5 (.fn 97 []) [d,(.Xw 1)] a (uz Q a j f)))
def uA(Q:R)(c:SH)(a d:AV)(e:SH)(f:Ns):Prop:=wn [] f [] c.names λh=>ds [] 11 11 a d e λb i=>W.load true 11 a b λg=>Q g b
def uB(Q:R)(b:SH)(c d e:AV)(a:SH)(f:Ns):Prop:=wn [] f [] b.names λg=>wd [] 10 (.fn 36 []) [c,e] a (uA Q a d)
def uC(Q:R)(b:SH)(c d e:AV)(f:Fp)(g:AV)(a:SH)(h:Ns):Prop:=wn [] h [] b.names λm=>di [] 6 1 d g a λi j=>dl [] 7 i a λk l=>wd [rm 7 l,rm 6 j,rm 0 f] 9 (.fn 97 []) [c,(.Xw 1)] a (uB Q a k e)
def jI(Q:R)(e:SH)(c f:AV):Prop:=(true=true)∧(W.calm [] ⟨0,[],[],[],false,[]⟩ (W.bslice 1 [(.str [])] 2 [(0,(.str [97])),(1,(.str [98]))] e λd a=>wn [] [] (aa d) [] λb=>W.nilchk c λg=>aN 0 g [rm 0 b] 4 a λh i=>wd [rm 0 b] 5 (.fn 34 []) [h,(.Xw 2)] a (uC Q a c d f b)))
def uD(Q:R)(c a d:AV)(e:SH):Prop:=W.build [(.Xw 0),(.Xw 0),(.str []),(.str []),.nils,(.Xw 0),(.Xw 0),(.str []),.nils,.nils,.nils] [(0,1,(.Xw 1)),(2,1,(.str [113])),(4,1,c),(5,4,d)] λf=>W.store 11 a f e λb=>W.load true 11 a b λg=>Q g b
def uE(Q:R)(a b c:AV)(d:SH):Prop:=W.bslice 4 [(.Xw 0),(.Xw 0),(.str []),.nils] 1 [(0,c)] d λe f=>wc (.fn 97 []) [a,(.Xw 1)] f (uD Q e b)
def uF(Q:R)(a b e:AV)(f:SH):Prop:=W.faddr 10 a λg=>W.store 1 g e f λc=>bS 11 a c λh=>W.store 11 b h c λd=>W.load true 11 b d λi=>Q i d
def uG(Q:R)(e f c a g:AV)(b:SH):Prop:=wb .eql 3 g (.Xw 1) λh=>wk h (wb .sub 3 e (.Xw 1) λi=>wc (.fn 35 []) [f,i,(.Xw 1)] b (uF Q c a)) (bS 11 c b λj=>W.store 11 a j b λd=>W.load true 11 a d λk=>Q k d)
def uH(Q:R)(a d e f g:AV)(h:SH):Prop:=W.build [(.Xw 0),(.Xw 0),(.str []),(.str []),.nils,(.Xw 0),(.Xw 0),(.str []),.nils,.nils,.nils] [(0,1,(.Xw 2)),(5,4,e),(9,1,g)] λi=>W.alloc [(.Xw 0),(.Xw 0),(.str []),(.str []),.nils,(.Xw 0),(.Xw 0),(.str []),.nils,.nils,.nils] h λb j=>W.store 11 b i j λc=>dL 0 a c λk=>wc (.fn 34 []) [k,(.Xw 2)] c (uG Q d a b f)
def qT(Q:R)(a b c d:AV)(e:SH):Prop:=wb .sub 3 a (.Xw 1) λf=>wc (.fn 35 []) [b,f,(.Xw 1)] e (uH Q b a d c)
def qU(Q:R)(d e f g a h:AV)(i:SH):Prop:=W.bslice 11 [(.Xw 0),(.Xw 0),(.str []),(.str []),.nils,(.Xw 0),(.Xw 0),(.str []),.nils,.nils,.nils] 1 [(0,h)] i λj k=>W.append 11 176 e j k λl m=>W.build [(.Xw 0),(.Xw 0),(.str []),(.str []),.nils,(.Xw 0),(.Xw 0),(.str []),.nils,.nils,.nils] [(0,1,(.Xw 3)),(5,4,f),(9,1,l)] λn=>o6 [(.Xw 0),(.Xw 0),(.str []),(.str []),.nils,(.Xw 0),(.Xw 0),(.str []),.nils,.nils,.nils] 11 n m λo p=>W.nilchk d λq=>W.faddr 6 q λr=>W.store 1 r g p λb=>bS 11 o b λs=>W.store 11 a s b λc=>W.load true 11 a c λt=>Q t c
def qV(Q:R)(a b c d e f:AV)(g:SH):Prop:=wc (.fn 36 []) [(.str [98]),f] g (qU Q a b c d e)
def qW(Q:R)(a b c d e f g:AV)(h:SH):Prop:=wc (.fn 98 []) [(.Xw 6),b,g] h (qV Q a c d e f)
def qX(Q:R)(a b c d e f:AV)(g:SH):Prop:=wc (.fn 37 []) [(.Xw 1)] g (qW Q a f b c d e)
def qY(Q:R)(a b c d e:AV)(f:SH):Prop:=wc (.fn 99 []) [(.str [98])] f (qX Q a e b c d)
def qZ(Q:R)(b a c d e:AV)(f:SH):Prop:=wb .sub 3 b (.Xw 1) λg=>wc (.fn 35 []) [a,g,(.Xw 1)] f (qY Q a e c d)
def q6(Q:R)(a b c d e f:AV)(g:SH):Prop:=wc (.fn 98 []) [(.Xw 13),c,f] g (qZ Q a b d e)
def q7(Q:R)(a b c d e:AV)(f:SH):Prop:=wc (.fn 37 []) [(.Xw 2)] f (q6 Q a b e c d)
def uI(Q:R)(b:SH)(a c d:AV):Prop:=dL 6 a b λe=>W.nilchk a λf=>W.faddr 6 f λg=>W.store 1 g (.bool true) b λh=>wc (.fn 99 []) [(.str [98])] h (q7 Q c a e d)
def q8(Q:R)(c a d:AV)(e:SH):Prop:=W.build [(.Xw 0),(.Xw 0),(.str []),(.str []),.nils,(.Xw 0),(.Xw 0),(.str []),.nils,.nils,.nils] [(0,1,(.Xw 4)),(2,1,c),(9,1,d)] λf=>W.store 11 a f e λb=>W.load true 11 a b λg=>Q g b
def uJ(Q:R)(c:SH)(d e f g:AV):Prop:=W.bslice 1 [(.str [])] 2 [(0,(.str [109])),(1,(.str [110]))] c λh a=>wb .sub 3 f (.Xw 8) λi=>wo 1 h i a λb=>wb .sub 3 d (.Xw 1) λj=>wc (.fn 101 []) [e,b,j] a (q8 Q b g)
def q9(Q:R)(c a d:AV)(e:SH):Prop:=W.build [(.Xw 0),(.Xw 0),(.str []),(.str []),.nils,(.Xw 0),(.Xw 0),(.str []),.nils,.nils,.nils] [(0,1,c),(2,1,(.str [114])),(9,1,d)] λf=>W.store 11 a f e λb=>W.load true 11 a b λg=>Q g b
def uK(Q:R)(a:SH)(b c d e:AV):Prop:=wb .sub 3 d (.Xw 10) λf=>wb .add 3 f (.Xw 5) λg=>wb .sub 3 b (.Xw 1) λh=>wc (.fn 101 []) [c,(.str [114]),h] a (q9 Q g e)
def re(Q:R)(d a e:AV)(f:SH):Prop:=W.build [(.Xw 0),(.Xw 0),(.str []),(.str []),.nils,(.Xw 0),(.Xw 0),(.str []),.nils,.nils,.nils] [(0,1,(.Xw 7)),(9,1,e)] λg=>o6 [(.Xw 0),(.Xw 0),(.str []),(.str []),.nils,(.Xw 0),(.Xw 0),(.str []),.nils,.nils,.nils] 11 g f λh i=>W.nilchk d λj=>W.faddr 4 j λk=>W.store 1 k (.bool false) i λb=>bS 11 h b λl=>W.store 11 a l b λc=>W.load true 11 a c λm=>Q m c
def rh(Q:R)(a b c:AV)(d:SH):Prop:=wb .add 3 (.Xw 1) c λe=>wc (.fn 35 []) [a,(.Xw 0),e] d (re Q a b)
def uL(Q:R)(c:SH)(a d:AV):Prop:=W.nilchk a λe=>W.faddr 4 e λf=>W.store 1 f (.bool true) c λb=>dL 0 a b λg=>wc (.fn 34 []) [g,(.Xw 2)] b (rh Q a d)
def ri(Q:R)(d a e:AV)(f:SH):Prop:=W.build [(.Xw 0),(.Xw 0),(.str []),(.str []),.nils,(.Xw 0),(.Xw 0),(.str []),.nils,.nils,.nils] [(0,1,(.Xw 8)),(9,1,e)] λg=>o6 [(.Xw 0),(.Xw 0),(.str []),(.str []),.nils,(.Xw 0),(.Xw 0),(.str []),.nils,.nils,.nils] 11 g f λh i=>W.nilchk d λj=>W.faddr 5 j λk=>W.store 1 k (.bool false) i λb=>bS 11 h b λl=>W.store 11 a l b λc=>W.load true 11 a c λm=>Q m c
def uM(Q:R)(b:SH)(a c d:AV):Prop:=W.nilchk a λe=>W.faddr 5 e λf=>W.store 1 f (.bool true) b λg=>wb .sub 3 c (.Xw 1) λh=>wc (.fn 35 []) [a,h,(.Xw 2)] g (ri Q a d)
def rj(Q:R)(c a d:AV)(e:SH):Prop:=W.bslice 11 [(.Xw 0),(.Xw 0),(.str []),(.str []),.nils,(.Xw 0),(.Xw 0),(.str []),.nils,.nils,.nils] 2 [(0,c),(1,d)] e λf g=>W.build [(.Xw 0),(.Xw 0),(.str []),(.str []),.nils,(.Xw 0),(.Xw 0),(.str []),.nils,.nils,.nils] [(0,1,(.Xw 4)),(2,1,(.str [109])),(9,1,f)] λh=>W.store 11 a h g λb=>W.load true 11 a b λi=>Q i b
def rk(Q:R)(a b c:AV)(d:SH):Prop:=wc (.fn 36 []) [(.str [97]),c] d (rj Q a b)
def uN(Q:R)(a:SH)(b:AV):Prop:=W.build [(.Xw 0),(.Xw 0),(.str []),(.str []),.nils,(.Xw 0),(.Xw 0),(.str []),.nils,.nils,.nils] [(0,1,(.Xw 9)),(2,1,(.str [99]))] λc=>wc (.fn 99 []) [(.str [120])] a (rk Q c b)
def rl(Q:R)(a c:AV)(d:SH):Prop:=wb .add 3 (.Xw 10) c λe=>W.build [(.Xw 0),(.Xw 0),(.str []),(.str []),.nils,(.Xw 0),(.Xw 0),(.str []),.nils,.nils,.nils] [(0,1,e),(2,1,(.str [99]))] λf=>W.bslice 11 [(.Xw 0),(.Xw 0),(.str []),(.str []),.nils,(.Xw 0),(.Xw 0),(.str []),.nils,.nils,.nils] 1 [(0,f)] d λg h=>W.build [(.Xw 0),(.Xw 0),(.str []),(.str []),.nils,(.Xw 0),(.Xw 0),(.str []),.nils,.nils,.nils] [(0,1,(.Xw 4)),(2,1,(.str [109])),(9,1,g)] λi=>W.store 11 a i h λb=>W.load true 11 a b λj=>Q j b
def rn(Q:R)(a c:AV)(d:SH):Prop:=W.build [(.Xw 0),(.Xw 0),(.str []),(.str []),.nils,(.Xw 0),(.Xw 0),(.str []),.nils,.nils,.nils] [(0,1,(.Xw 14)),(2,1,(.str [102])),(5,4,c)] λe=>W.store 11 a e d λb=>W.load true 11 a b λf=>Q f b
def uO(Q:R)(b:SH)(a c:AV):Prop:=W.nilchk a λd=>W.faddr 3 d λe=>W.store 1 e (.bool true) b λf=>wc (.fn 97 []) [a,(.Xw 1)] f (rn Q c)
def uP(Q:R)(c:SH)(a:AV):Prop:=W.build [(.Xw 0),(.Xw 0),(.str []),(.str []),.nils,(.Xw 0),(.Xw 0),(.str []),.nils,.nils,.nils] [(0,1,(.Xw 15)),(2,1,(.str [97])),(3,1,(.str [102]))] λd=>W.store 11 a d c λb=>W.load true 11 a b λe=>Q e b
def rq(Q:R)(a c:AV)(d:SH):Prop:=W.store 11 a c d λb=>W.load true 11 a b λe=>Q e b
def rr(Q:R)(a b:AV)(c:SH):Prop:=wc (.fn 36 []) [(.str [120]),b] c (rq Q a)
def rt(Q:R)(i:SH)(c j d:AV):Prop:=wb .eql 3 j (.Xw 17) λb=>bH b true c i λk l=>wg b true (W.nilchk k) l λm n=>wg b true (W.faddr 4 m) n λo e=>wg b true (wl o e) e λp q=>wg b true (W.un .not p) q λr s=>W.pick b r (.bool false) λa=>bH a true c s λt u=>wg a true (W.nilchk t) u λv w=>wg a true (W.faddr 0 v) w λx f=>wg a true (wl x f) f λy g=>W.grd a true (λz=>wc (.fn 34 []) [y,(.Xw 2)] g λA B=>z A B) g λC D=>wg a true (wb .eql 3 C (.Xw 1)) D λE h=>W.pick a E (.bool false) λF=>wk F ((uP Q h d)) (wc (.fn 97 []) [c,(.Xw 1)] h (rr Q d))
def ru(Q:R)(k:SH)(d e f:AV):Prop:=wb .eql 3 e (.Xw 16) λa=>bH a true d k λl m=>wg a true (W.nilchk l) m λn o=>wg a true (W.faddr 4 n) o λp g=>wg a true (wl p g) g λq r=>wg a true (W.un .not q) r λs t=>W.pick a s (.bool false) λb=>bH b true d t λu v=>wg b true (W.nilchk u) v λw x=>wg b true (W.faddr 6 w) x λy h=>wg b true (wl y h) h λz A=>wg b true (W.un .not z) A λB C=>W.pick b B (.bool false) λc=>bH c true d C λD E=>wg c true (W.nilchk D) E λF G=>wg c true (W.faddr 3 F) G λH i=>wg c true (wl H i) i λI J=>wg c true (W.un .not I) J λM j=>W.pick c M (.bool false) λN=>wk N ((uO Q j d f)) ((rt Q j d e f))
def rv(Q:R)(h:SH)(b d i e:AV):Prop:=wb .eql 3 d (.Xw 15) λf=>bH f true i h λj k=>W.pick f j (.bool false) λa=>bH a true b k λl g=>W.grd a true (λm=>wc (.fn 100 []) [l,(.str [109])] g λn o=>m n o) g λp q=>wg a true (W.un .not p) q λr c=>W.pick a r (.bool false) λs=>wk s (dL 0 b c λt=>wc (.fn 34 []) [t,(.Xw 2)] c (rl Q e)) ((ru Q c b d e))
def rx(Q:R)(k:SH)(c d e f:AV):Prop:=wb .eql 3 d (.Xw 14) λg=>bH g true e k λl m=>W.pick g l (.bool false) λa=>bH a true c m λn o=>wg a true (W.nilchk n) o λp q=>wg a true (W.faddr 5 p) q λr h=>wg a true (wl r h) h λs t=>wg a true (W.un .not s) t λu v=>W.pick a u (.bool false) λb=>bH b true c v λw i=>W.grd b true (λx=>wc (.fn 100 []) [w,(.str [109])] i λy z=>x y z) i λA B=>wg b true (W.un .not A) B λC j=>W.pick b C (.bool false) λD=>wk D ((uN Q j f)) ((rv Q j c d e f))
def ry(Q:R)(i:SH)(b j c d e:AV):Prop:=wb .eql 3 c (.Xw 13) λf=>bH f true d i λk l=>W.pick f k (.bool false) λa=>bH a true b l λm n=>wg a true (W.nilchk m) n λo p=>wg a true (W.faddr 5 o) p λq g=>wg a true (wl q g) g λr s=>wg a true (W.un .not r) s λt h=>W.pick a t (.bool false) λu=>wk u ((uM Q h b j e)) ((rx Q h b c d e))
def rB(Q:R)(g:SH)(a h b c d:AV):Prop:=wb .eql 3 b (.Xw 12) λe=>bH e true c g λi f=>W.pick e i (.bool false) λj=>wk j ((uL Q f a d)) ((ry Q f a h b c d))
def rC(Q:R)(k:SH)(c e a f g:AV):Prop:=wb .eql 3 a (.Xw 10) λd=>bH d false a k λl m=>wg d false (wb .eql 3 l (.Xw 11)) m λn o=>W.pick d (.bool true) n λh=>bH h true f o λp q=>W.pick h p (.bool false) λb=>bH b true c q λr i=>W.grd b true (λs=>wc (.fn 100 []) [r,(.str [114])] i λt u=>s t u) i λv w=>wg b true (W.un .not v) w λx j=>W.pick b x (.bool false) λy=>wk y ((uK Q j e c a g)) ((rB Q j c e a f g))
def rD(Q:R)(n:SH)(c e b f g:AV):Prop:=wb .eql 3 b (.Xw 8) λd=>bH d false b n λo p=>wg d false (wb .eql 3 o (.Xw 9)) p λq r=>W.pick d (.bool true) q λh=>bH h true f r λs t=>W.pick h s (.bool false) λa=>bH a true c t λu i=>W.grd a true (λv=>W.bslice 1 [(.str [])] 2 [(0,(.str [109])),(1,(.str [110]))] i λw x=>v w x) i λy z=>bH a true b z λA B=>wg a true (wb .sub 3 A (.Xw 8)) B λC j=>wg a true (W.idx 1 y C j) j λD k=>wg a true (wl D k) k λE l=>W.grd a true (λF=>wc (.fn 100 []) [u,E] l λG H=>F G H) l λI J=>wg a true (W.un .not I) J λM m=>W.pick a M (.bool false) λN=>wk N ((uJ Q m e c b g)) ((rC Q m c e b f g))
def rE(Q:R)(g:SH)(a c d e h:AV):Prop:=wb .eql 3 d (.Xw 7) λb=>bH b true a g λi j=>wg b true (wb .gtr 3 i (.Xw 0)) j λk f=>W.pick b k (.bool false) λl=>wk l ((uI Q f c a e)) ((rD Q f c a d h e))
def rF(Q:R)(g:SH)(a b d e h:AV):Prop:=wb .eql 3 d (.Xw 6) λc=>bH c true a g λi j=>wg c true (wb .gtr 3 i (.Xw 0)) j λk f=>W.pick c k (.bool false) λl=>wk l (wc (.fn 97 []) [b,(.Xw 1)] f (qT Q a b e)) ((rE Q f a b d e h))
def iL(Q:R)(b:SH)(a e c d f:AV):Prop:=wb .eql 3 c (.Xw 5) λg=>wk g (wc (.fn 97 []) [a,(.Xw 0)] b (uE Q a d)) ((rF Q b e a c d f))
def rG(Q:R)(g c e d:AV)(j:SH):Prop:=wb .gtr 3 g (.Xw 0) λa=>bH a true c j λk l=>wg a true (W.nilchk k) l λm n=>wg a true (W.faddr 2 m) n λo h=>wg a true (wl o h) h λp q=>wg a true (wb .gtr 3 p (.Xw 0)) q λr s=>W.pick a r (.bool false) λb=>bH b true c s λt u=>wg b true (W.nilchk t) u λv w=>wg b true (W.faddr 4 v) w λx i=>wg b true (wl x i) i λy z=>wg b true (W.un .not y) z λA f=>W.pick b A (.bool false) λB=>wb .lss 3 d (.Xw 4) λC=>wk C ((jH Q f c d e)) (wb .eql 3 d (.Xw 4) λD=>wk D ((jI Q f c e)) ((iL Q f c g d e B)))
def gm(a d:AV)(L:SH)(Q:R):Prop:=W.alloc [(.Xw 0),(.Xw 0),(.str []),(.str []),.nils,(.Xw 0),(.Xw 0),(.str []),.nils,.nils,.nils] L λe b=>dL 2 a b λf=>wb .sub 3 f (.Xw 1) λg=>W.nilchk a λh=>W.faddr 2 h λi=>W.store 1 i g b λc=>dL 0 a c λj=>wc (.fn 34 []) [j,(.Xw 18)] c (rG Q d a e)
theorem jJ(t0 t1:AV)(L:SH)(Q:R)(h:gm t0 t1 L Q):af Tryz.prog 62 [t0,t1] L Q:=
 fs [] [] [(18,[9]),(28,[11]),(33,[12])] [(5,[0,0,3,7,0,16,63,127]),(7,[0,0,2,6,14,30,63,127,0,318,1023,2047])] Tryz.func62 h
def Cp(c:Kn)(d:Vs)(a:SH):Prop:=NR 2 3 4 5 6 7 8 d λe f b g h i j=>aB 1 b a λk=>bS 4 j a λl=>W.bslice 4 [(.str []),(.Xw 0),.nils,.nils] 1 [(0,l)] a λm n=>W.append 4 72 k m n λo p=>W.faddr 1 b λq=>W.store 1 q o p λr=>wb .add 3 i (.Xw 1) λs=>c [e,f,b,g,h,s] r
def Cq(h:Kn)(b:SH)(d f i j k l m:AV):Prop:=(true=true)∧(aN 3 d [] 1 b λa e=>di [rm 1 e] 3 1 f (.Xw 1) b λn u=>dl [rm 1 e] 4 n b λo v=>W.build [(.Xw 0),(.Xw 0),(.str []),(.str []),.nils,(.Xw 0),(.Xw 0),(.str []),.nils,.nils,.nils] [(0,1,(.Xw 13)),(2,1,o)] λp=>W.calm [rm 1 e] ⟨6,[],[],[],false,[]⟩ (W.bslice 11 [(.Xw 0),(.Xw 0),(.str []),(.str []),.nils,(.Xw 0),(.Xw 0),(.str []),.nils,.nils,.nils] 1 [(0,p)] b λc q=>wn [] [] (aa c) [] λw=>W.calm [] ⟨7,(aa a++aa c),(aa a),[],false,[]⟩ (W.append 11 176 a c q λg r=>wn (aa a++aa c) (aa a) (aa g) [] λx=>W.faddr 3 d λs=>ds [] 9 1 s g r λt y=>h [i,j,k,l,f,m,d] t)))
def Cr(p:Kn)(q:SH)(b c d e g h i j f:AV)(r:SH)(s:Ns):Prop:=wn [] s [] q.names λJ=>W.calm [] ⟨10,(aa b++aa f),(aa b),[],false,[]⟩ (W.append 11 176 b f r λk t=>wn (aa b++aa f) (aa b) (aa k) [] λM=>W.faddr 3 c λu=>ds [] 12 1 u k t λv N=>W.join (Cp p) λl=>wb .eql 3 d (.Xw 0) λa=>bH a true e v λw x=>wg a true (W.nilchk w) x λy z=>wg a true (W.faddr 0 y) z λA m=>wg a true (wl A m) m λB n=>W.grd a true (λC=>wc (.fn 34 []) [B,(.Xw 3)] n λD E=>C D E) n λF G=>wg a true (wb .eql 3 F (.Xw 2)) G λH o=>W.pick a H (.bool false) λI=>wk I ((Cq l o c g h e i j d)) (l [h,e,i,j,g,d,c] o))
def Cs(c:Kn)(d:SH)(a e f g h i j k:AV)(l:Fp)(m:AV)(b:SH)(n:Ns):Prop:=wn [] n [] d.names λp=>wb .add 3 (.Xw 1) m λo=>wd [rm 1 l] 9 (.fn 35 []) [a,(.Xw 2),o] b (Cr c b e f g a h i j k)
def cf(e:Kn)(f:Vs)(a:SH):Prop:=NR 2 3 4 5 6 7 8 f λg c h i j k d=>(true=true)∧(aN 3 d [] 1 a λl b=>W.nilchk c λm=>aN 0 m [rm 1 b] 6 a λn o=>wd [rm 1 b] 7 (.fn 34 []) [n,(.Xw 3)] a (Cs e a c l d k j g h i b))
def Ct(i:Kn)(b:SH)(d f g j k l m n:AV):Prop:=(true=true)∧(aN 3 d [] 1 b λa e=>di [rm 1 e] 4 1 f g b λo w=>dl [rm 1 e] 5 o b λp x=>W.build [(.Xw 0),(.Xw 0),(.str []),(.str []),.nils,(.Xw 0),(.Xw 0),(.str []),.nils,.nils,.nils] [(0,1,(.Xw 12)),(2,1,p)] λq=>W.calm [rm 1 e] ⟨7,[],[],[],false,[]⟩ (W.bslice 11 [(.Xw 0),(.Xw 0),(.str []),(.str []),.nils,(.Xw 0),(.Xw 0),(.str []),.nils,.nils,.nils] 1 [(0,q)] b λc r=>wn [] [] (aa c) [] λy=>W.calm [] ⟨8,(aa a++aa c),(aa a),[],false,[]⟩ (W.append 11 176 a c r λh s=>wn (aa a++aa c) (aa a) (aa h) [] λz=>W.faddr 3 d λt=>ds [] 10 1 t h s λu A=>wb .add 3 g (.Xw 1) λv=>i [j,k,l,m,f,n,d,v] u)))
def iy(j:Kn)(k:Vs)(b:SH)(l:Kn):Prop:=RV 2 3 4 5 6 7 8 9 k λc d e a f g h i=>wb .lss 3 i a λm=>wk m ((Ct l b h f i c d e a g)) (j [c,d,e,a,f,g,h] b)
def Cu(k:Kn)(l:SH)(b a c e f g:AV):Prop:=W.nilchk b λm=>W.faddr 1 m λn=>W.store 1 n a l λh=>wo 1 c a h λo=>W.bslice 1 [(.str [])] 2 [(0,(.str [97])),(1,(.str [98]))] h λp q=>W.build [(.str []),(.Xw 0),.nils,.nils] [(0,1,o),(2,1,p)] λr=>W.alloc [(.str []),(.Xw 0),.nils,.nils] q λd s=>W.store 4 d r s λi=>W.join (cf k) λj=>wb .eql 3 a (.Xw 0) λt=>wk t (W.loop (iy j) [e,b,f,g,c,a,d,(.Xw 1)] i) (j [e,b,f,g,c,a,d] i)
def Cv(Q:R)(c d a e:AV)(f:SH):Prop:=W.bslice 11 [(.Xw 0),(.Xw 0),(.str []),(.str []),.nils,(.Xw 0),(.Xw 0),(.str []),.nils,.nils,.nils] 1 [(0,e)] f λg h=>W.build [(.str []),(.Xw 0),.nils,.nils] [(0,1,(.str [109,97,105,110])),(2,1,c),(3,1,g)] λi=>W.bslice 4 [(.str []),(.Xw 0),.nils,.nils] 1 [(0,i)] h λj k=>W.build [.nils,.nils] [(0,1,d),(1,1,j)] λl=>W.store 2 a l k λb=>W.load true 2 a b λm=>Q m b
def Cw(Q:R)(a b c d:AV)(e:SH):Prop:=wc (.fn 36 []) [(.str [120]),d] e (Cv Q a b c)
def Cx(Q:R)(a b:AV)(c:SH):Prop:=W.bslice 1 [(.str [])] 2 [(0,(.str [97])),(1,(.str [98]))] c λd e=>wc (.fn 37 []) [(.Xw 1)] e (Cw Q d b a)
def Cy(Q:R)(a e c:AV)(b:SH):Prop:=W.ext 0 c λf=>W.ext 1 c λj=>wb .neq 74 f (.Xw 0) λg=>wk g (wc (.fn 33 []) [] b (Cx Q a)) (bS 2 e b λh=>W.store 2 a h b λd=>W.load true 2 a d λi=>Q i d)
def fo(Q:R)(f:Vs)(a:SH)(g:Kn):Prop:=Iv 2 3 4 5 6 7 f λc h b d i e=>wb .lss 3 e d λj=>wk j ((Cu g a h e i c b d)) (bS 2 b a λk=>wc (.fn 28 []) [k] a (Cy Q c b))
def AJ(Q:R)(a b c d:AV)(e:SH):Prop:=wb .add 3 (.Xw 2) d λf=>W.bslice 1 [(.str [])] 4 [(0,(.str [109,97,105,110])),(1,(.str [116,49])),(2,(.str [116,50])),(3,(.str [116,51]))] e λg h=>W.loop (fo Q) [a,b,c,f,g,(.Xw 0)] h
def AK(Q:R)(a d e:AV)(f:SH):Prop:=W.build [.nils,.nils] [(0,1,e)] λg=>W.alloc [.nils,.nils] f λb h=>W.store 2 b g h λc=>dL 0 a c λi=>wc (.fn 34 []) [i,(.Xw 3)] c (AJ Q d a b)
def p8(a:AV)(L:SH)(Q:R):Prop:=W.alloc [.nils,.nils] L λb c=>W.build [.nils,(.Xw 0)] [(0,1,a)] λd=>W.box d c λe f=>W.build [.nilp,(.Xw 0),(.Xw 0),(.bool false),(.bool false),(.bool false),(.bool false),.nils] [(0,1,e),(2,1,(.Xw 20))] λg=>W.box g f λh i=>wc (.fn 33 []) [] i (AK Q h b)
theorem Cz(t0:AV)(L:SH)(Q:R)(h:p8 t0 L Q):af Tryz.prog 20 [t0] L Q:=
 fs [(13,[2,3,4,5,6,7,8]),(17,[2,3,4,5,6,7,8])] [(12,[2,3,4,5,6,7,8,9]),(6,[2,3,4,5,6,7])] [] [(14,[0,1,0,0,12,28,60,124,255,511,1023]),(15,[0,1,0,0,8,24,56,120,248,508,1023,2047,4095]),(17,[0,1,0,4,12,28,60,127,255,511])] Tryz.func20 h
def Hr(Q:R)(b a:AV)(e:SH):Prop:=W.ext 0 a λf=>W.ext 1 a λj=>W.ext 2 a λk=>o6 [.nils,.nils,.nils,.nils,.nils,.nils,.nils] 7 f e λg c=>bS 7 g c λh=>W.store 7 b h c λd=>W.load true 7 b d λi=>Q i d
def Bk(a:AV)(L:SH)(Q:R):Prop:=W.alloc [.nils,.nils,.nils,.nils,.nils,.nils,.nils] L λb c=>wc (.fn 20 []) [a] c λd e=>wc (.fn 19 []) [d] e (Hr Q b)
theorem Hs(t0:AV)(L:SH)(Q:R)(h:Bk t0 L Q):af Tryz.prog 7 [t0] L Q:=
 fs [] [] [(1,[3])] [] Tryz.func7 h
end
section
set_option maxRecDepth 100000
def aO(l:List UInt8)(at_:Nat):Blk:=⟨2,[[.lst (l.map fj),.Xw (at_:Int)]]⟩
theorem LH(bt:Nat)(l:List UInt8)(a:Nat)(n:Int)(hl:l.length<2^40)(ha:a≤l.length):
  af Tryz.prog 34 [.ptr bt 0 0,.Xw n] [(bt,aO l a)] λu K=>∃r a':Nat,u=.Xw (r:Int)∧((r:Int)<n∨r=0)∧K=[(bt,aO l a')]∧a'≤l.length:=by
 unfold aO;refine yy _ _ _ _ ?_;unfold md;generalize hQ:(λ(u:AV) (K:SH)=>∃r a':Nat,u=AV.Xw (r:Int)∧((r:Int)<n∨r=0)∧K=[(bt,(⟨2,[[.lst (l.map fj),.Xw (a':Int)]]⟩:Blk))]∧a'≤l.length)=Q;have hq:∀(r a':Nat),((r:Int)<n∨r=0)→a'≤l.length→Q (.Xw (r:Int)) [(bt,⟨2,[[.lst (l.map fj),.Xw (a':Int)]]⟩)]:=λr a' h1 h2=>by subst hQ;exact⟨r,a',rfl,h1,rfl,h2⟩
 clear hQ;rcases VO a l.length with g|g
 ·have d1:decide ((l.length:Int)≤(a:Int))=false:=by simp;omega
  have hx:=ay (f:=fj) g;have e1:=aD g Xr;have e2:IntKind.i64.wrap (((a+1:Nat):Int)-1)=(a:Int):=by rw[WA _ Xr];omega
  by_cases hn:n<1
  ·have d2:decide (n<1)=true:=by simpa using hn
   repeat' (first|refine st ?_|refine sb λnb_ hnb_=>?_|refine s2 (λh=>?_) λh=>?_|fail)
   exact hq 0 a (.inr rfl) ha
  ·have d2:decide (n<1)=false:=by simpa using hn
   have hn0:n≠0:=by omega
   repeat' (first|refine st ?_|refine sb λnb_ hnb_=>?_|refine s2 (λh=>?_) λh=>?_|fail)
   have hb:(l[a].toNat:Int)<256:=by have:=l[a].toNat_lt;omega
   have e3:IntKind.i64.wrap (l[a].toNat:Int)=(l[a].toNat:Int):=by rw[WA _ Xr]
   rw[e3];have h5:(l[a].toNat:Int).tmod n=(((l[a].toNat:Int).tmod n).toNat:Nat):=by have:=Int.tmod_nonneg n (Int.natCast_nonneg l[a].toNat);omega
   rw[h5];exact hq _ (a+1) (.inl (by rw[←h5];exact Int.tmod_lt_of_pos _ Xr)) Xr
 ·have d1:decide ((l.length:Int)≤(a:Int))=true:=by simp;omega
  repeat' (first|refine st ?_|refine sb λnb_ hnb_=>?_|refine s2 (λh=>?_) λh=>?_|fail)
  exact hq 0 a (.inr rfl) ha
def Ht(n:Int):ao:=.mk 1 n [] []
def su(s:aZ):ao:=.mk 2 0 s []
theorem Hu(n:Int):ax Tryz.prog 37 [.Xw n] (.agg (Ht n).row):=by
 refine af.fz (Jr _ _ _ ?_);unfold EI
 repeat' (first|refine st ?_|refine sb λnb_ hnb_=>?_|refine s2 (λh=>?_) λh=>?_|fail)
 exact⟨_,[],aF.all (Fz.aggs (.cons (.refl _) (.cons (.refl _) (.cons (.refl _) (.cons .nils .nil))))),rfl,rfl⟩
theorem yA(s:aZ):ax Tryz.prog 99 [.str s] (.agg (su s).row):=by
 refine af.fz (Hq _ _ _ ?_);unfold Bj
 repeat' (first|refine st ?_|refine sb λnb_ hnb_=>?_|refine s2 (λh=>?_) λh=>?_|fail)
 exact⟨_,[],aF.all (Fz.aggs (.cons (.refl _) (.cons (.refl _) (.cons (.refl _) (.cons .nils .nil))))),rfl,rfl⟩
def MG(op:Int)(a b:ao):ao:=.mk op 0 [] [a,b]
theorem EL(op:Int)(a b:ao):ax Tryz.prog 98 [.Xw op,.agg a.row,.agg b.row] (.agg (MG op a b).row):=by
 refine af.fz (EJ _ _ _ _ _ ?_);unfold sn
 repeat' (first|refine st ?_|refine sb λnb_ hnb_=>?_|refine s2 (λh=>?_) λh=>?_|fail)
 exact⟨_,[],aF.all (Fz.aggs (.cons (.refl _) (.cons (.refl _) (.cons (.refl _) (.cons (Fz.sls (l:=[a,b]) (f:=ao.enc) (size:=4) (rows:=[a.row,b.row]) (.head _) (by simp[ao.enc_row]) Xv rfl) .nil))))),rfl,rfl⟩
def jK:ao:=.mk 0 0 [] []
def cy(s:aZ)(e:ao):ab:=.mk 1 0 s [] [] e [] []
theorem cB(s:aZ)(e:ao):ax Tryz.prog 36 [.str s,.agg e.row] (.agg (cy s e).row):=by
 refine af.fz (EK _ _ _ _ ?_);unfold ss
 repeat' (first|refine st ?_|refine sb λnb_ hnb_=>?_|refine s2 (λh=>?_) λh=>?_|fail)
 exact⟨_,[],aF.all (Fz.aggs (.cons (.refl _) (.cons (.refl _) (.cons (.refl _) (.cons (.refl _) (.cons .nils (.cons (.refl _) (.cons (.refl _) (.cons (.refl _) (.cons (.refl _) (.cons .nils (.cons .nils .nil)))))))))))),rfl,rfl⟩
def bD:List aG:=[⟨1,0,[120],0,0,[]⟩,⟨1,0,[121],0,1,[]⟩,⟨2,0,[118],0,0,[]⟩,⟨1,0,[113],2,0,[]⟩,⟨3,0,[109],0,0,[]⟩,⟨3,0,[110],0,0,[]⟩,⟨4,0,[114],0,0,[]⟩,⟨5,0,[99],0,0,[109]⟩,⟨6,0,[102],0,0,[]⟩]
theorem yB:ax Tryz.prog 33 [] (.lst (bD.map aG.enc)):=by
 refine af.fz (FH _ _ ?_);unfold yz
 repeat' (first|refine st ?_|refine sb λnb_ hnb_=>?_|refine s2 (λh=>?_) λh=>?_|fail)
 exact⟨_,[],aF.all (Fz.sls (l:=bD) (f:=aG.enc) (size:=6) (.head _) rfl Xv rfl),rfl,rfl⟩
theorem wz:(∀nm n,Dt 0 nm n=0)∧(∀nm n,Dt 1 nm n=0)∧(∀nm n,Dt 2 nm n=0)∧Dt 3 [113] (0+1)=0∧(∀op,Dt op [] (0+1+1)=z3 op)∧z0 1=0∧z0 2=0∧z0 3=0∧z0 6=0∧z0 13=0∧z3 6=0∧z3 13=0∧
  (∀n,zv 1 n=z0 n)∧(∀n,zv 2 n=z0 n)∧(∀n,zv 3 n=z0 n)∧(∀n,zv 14 n=z0 n)∧(∀n,zv 4 n=0)∧(∀n,zv 5 n=0)∧(∀n,zv 6 n=0)∧(∀n,zv 7 n=0)∧(∀n,zv 8 n=0)∧(∀n,zv 9 n=0)∧(∀n,zv 12 n=0)∧(∀n,zv 13 n=0)∧(∀n,zv 15 n=0)∧
  (∀nm,zi nm 0=0)∧zi [113] (0+1)=0∧(∀op n nm l,ao.wt (.mk op n nm l)=1+nm.length+Dt op nm l.length+ao.wts l)∧ao.wts []=0∧(∀x l,ao.wts (x::l)=x.wt+z0 x.op+ao.wts l)∧
  (∀op line nm arg ix e body els,ab.wt (.mk op line nm arg ix e body els)=1+nm.length+arg.length+ao.wts ix+e.wt+zv op e.op+zi nm ix.length+ab.wts body+ab.wts els)∧ab.wts []=0∧(∀x l,ab.wts (x::l)=x.wt+ab.wts l)∧
  (∀a b c l,ao.op (.mk a b c l)=a)∧(∀n,Ht n=.mk 1 n [] [])∧(∀s,su s=.mk 2 0 s [])∧(∀op a b,MG op a b=.mk op 0 [] [a,b])∧jK=.mk 0 0 [] []∧(∀s e,cy s e=.mk 1 0 s [] [] e [] []):=by
 refine⟨?_,?_,?_,?_,?_,?_,?_,?_,?_,?_,?_,?_,?_,?_,?_,?_,?_,?_,?_,?_,?_,?_,?_,?_,?_,?_,?_,?_,?_,?_,?_,?_,?_,?_,?_,?_,?_,?_,?_⟩
 all_goals first
  |rfl
  |(intros;rfl)
  |(intros;simp[Dt,z3,zi])
theorem Tm{P:Prop}(h:P:=by simp only[wz,V8,Wg];omega):P:=h
theorem UV{r:Nat}(h:(r:Int)<6∨r=0):z0 (([6,7,8,11,13,17]:List Int).getD r 0)=0∧z3 (([6,7,8,11,13,17]:List Int).getD r 0)=0:=by
 have h:r<6:=by omega
 match r,h with
 |0,_|1,_|2,_|3,_|4,_|5,_=>exact⟨rfl,rfl⟩
structure VH where
 a:Nat
 thread:Int
 left:Int
 set:Bool
 tx:Bool
 atomic:Bool
 loop:Bool
 o:Option Nat
 ar:List aZ
 k:Nat
def VH.row(bt:Nat)(s:VH):List AV:=[.ptr bt 0 0,.Xw s.thread,.Xw s.left,.bool s.set,.bool s.tx,.bool s.atomic,.bool s.loop,am s.o s.k]
theorem eH{l:List aZ}{b r:Nat}{rows:List (List AV)}{L:SH}{K:AV→Prop}(h:K (.str (l.getD r [])))(hm:(b,(⟨1,rows⟩:Blk))∈L)(hr:rows=l.map aq)(hl:r<l.length):W.load false 1 (.ptr b r 0) L K:=by subst hr;refine Dd hm (ay hl) Xt ?_;simpa[List.getD,hl]using h
theorem OX{l:List Int}{b r:Nat}{rows:List (List AV)}{L:SH}{K:AV→Prop}(h:K (.Xw (l.getD r 0)))(hm:(b,(⟨1,rows⟩:Blk))∈L)(hr:rows=l.map aj)(hl:r<l.length):W.load false 1 (.ptr b r 0) L K:=by subst hr;refine Dd hm (ay hl) Xt ?_;simpa[List.getD,hl]using h
theorem fC{bt:Nat}{t:List UInt8}{a:Nat}{n:Int}{L L':SH}{KL:R}(ht:t.length<2^40)(ha:a≤t.length)(hd:eI bt (aO t a) L L')(hq:∀r a':Nat,((r:Int)<n∨r=0)→a'≤t.length→KL (.Xw (r:Int)) ((bt,aO t a')::L')):W.callM Tryz.prog 34 [.ptr bt 0 0,.Xw n] L KL:=
 j9 (LH bt t a n ht ha) hd (by rintro _ _ ⟨r,a',rfl,h1,rfl,h2⟩;exact hq r a' h1 h2)
theorem CI{bt:Nat}{t:List UInt8}{a i:Nat}{n:Int}{us:List W.WR}{L L':SH}{KN:AV→SH→List Nat→Prop}(ht:t.length<2^40)(ha:a≤t.length)(hd:eI bt (aO t a) L L')(hq:∀r a':Nat,((r:Int)<n∨r=0)→a'≤t.length→KN (.Xw (r:Int)) ((bt,aO t a')::L') [bt])(hf:∀y∈us,W.free y ⟨i,[],[bt],[],true,[]⟩:=by(simp only[rm,rc,rz,W.free,av,↓reduceIte,Nat.reduceEqDiff,aa,dR,Xp,Wp,Wi,not_false_eq_true,implies_true,and_true,true_and,and_self,Wd,reduceCtorEq,forall_const,false_implies,VR,forall_eq,Wr,WN,VN,or_false,false_or,forall_eq_or_imp,not_or])<;>(repeat' constructor)<;>first|assumption|(exact Ne.symm Xs)|(intro e_;subst e_;simp[SH.names]at *;done)):W.dcallM Tryz.prog us i 34 [.ptr bt 0 0,.Xw n] L KN:=
 Di (LH bt t a n ht ha) hd hf (by rintro _ _ ⟨r,a',rfl,h1,rfl,h2⟩;exact hq r a' h1 h2)
def me(bt:Nat)(v1 v2 v3 v4 v5 v6 v7:AV):Blk:=⟨8,[[.ptr bt 0 0,v1,v2,v3,v4,v5,v6,v7]]⟩
def Js(d:Nat):Prop:=∀(bm bt:Nat) (t:List UInt8) (a:Nat) (v1 v2 v3 v4 v5 v6 v7:AV),t.length<2^40→a≤t.length→
  af Tryz.prog 97 [.ptr bm 0 0,.Xw (d:Int)] [(bm,me bt v1 v2 v3 v4 v5 v6 v7),(bt,aO t a)] λu K=>∃(x:ao) (a':Nat),u=.agg x.row∧x.wt+z0 x.op≤4^(d+1)∧a'≤t.length∧K=[(bm,me bt v1 v2 v3 v4 v5 v6 v7),(bt,aO t a')]
section
variable {bm bt:Nat} {t:List UInt8} {a d:Nat} {dd:Int} {v1 v2 v3 v4 v5 v6 v7:AV} {L L1 L2:SH}
theorem cC{KL:R}(hE:Js d)(hdd:dd=(d:Int))(ht:t.length<2^40)(ha:a≤t.length)(h1:eI bm (me bt v1 v2 v3 v4 v5 v6 v7) L L1)(h2:eI bt (aO t a) L1 L2)(hq:∀(x:ao) (a':Nat),x.wt+z0 x.op≤4^(d+1)→a'≤t.length→KL (.agg x.row) ((bm,me bt v1 v2 v3 v4 v5 v6 v7)::(bt,aO t a')::L2)):
  W.callM Tryz.prog 97 [.ptr bm 0 0,.Xw dd] L KL:=by
 subst hdd;exact Nz (hE bm bt t a v1 v2 v3 v4 v5 v6 v7 ht ha) h1 h2 (by rintro _ _ ⟨x,a',rfl,h1,h2,rfl⟩;exact hq x a' h1 h2)
theorem Hv{us:List W.WR}{i:Nat}{KN:AV→SH→List Nat→Prop}(hE:Js d)(hdd:dd=(d:Int))(ht:t.length<2^40)(ha:a≤t.length)(h1:eI bm (me bt v1 v2 v3 v4 v5 v6 v7) L L1)(h2:eI bt (aO t a) L1 L2)(hq:∀(x:ao) (a':Nat),x.wt+z0 x.op≤4^(d+1)→a'≤t.length→KN (.agg x.row) ((bm,me bt v1 v2 v3 v4 v5 v6 v7)::(bt,aO t a')::L2) [bm,bt])
  (hf:∀y∈us,W.free y ⟨i,[],[bm,bt],[],true,[]⟩:=by(simp only[rm,rc,rz,W.free,av,↓reduceIte,Nat.reduceEqDiff,aa,dR,Xp,Wp,Wi,not_false_eq_true,implies_true,and_true,true_and,and_self,Wd,reduceCtorEq,forall_const,false_implies,VR,forall_eq,Wr,WN,VN,or_false,false_or,forall_eq_or_imp,not_or])<;>(repeat' constructor)<;>first|assumption|(exact Ne.symm Xs)|(intro e_;subst e_;simp[SH.names]at *;done)):W.dcallM Tryz.prog us i 97 [.ptr bm 0 0,.Xw dd] L KN:=by
 subst hdd;exact Ma (hE bm bt t a v1 v2 v3 v4 v5 v6 v7 ht ha) h1 h2 hf (by rintro _ _ ⟨x,a',rfl,h1,h2,rfl⟩;exact hq x a' h1 h2)
end
theorem OY(r:Nat):(([[97],[98],[120],[121],[118],[120],[121]]:List aZ).getD r []).length≤1:=by
 rcases VO r 7 with h|h
 ·match r,h with
  |0,_|1,_|2,_|3,_|4,_|5,_|6,_=>exact VL _
 ·rw[List.getD,VP (by simpa using h)];exact WF _
theorem LI:Js 0:=by
  intro bm bt t a v1 v2 v3 v4 v5 v6 v7 ht ha;refine af.fz (jE _ _ _ _ ?_);unfold gl;generalize hQ:(λ(v:AV) (L:SH)=>∃v2_1 L2,aF [v] L [v2_1] L2∧∃(x:ao) (a':Nat),v2_1=AV.agg x.row∧x.wt+z0 x.op≤4^(0+1)∧a'≤t.length∧L2=[(bm,me bt v1 v2 v3 v4 v5 v6 v7),(bt,aO t a')])=Q;have hq:∀(v:AV) (x:ao) (a':Nat) (L L1 L2:SH),eI bm (me bt v1 v2 v3 v4 v5 v6 v7) L L1→eI bt (aO t a') L1 L2→Fz L2 v (.agg x.row)→x.wt+z0 x.op≤4→a'≤t.length→Q v L:=λv x a' L L1 L2 h1 h2 h3 h4 h5=>by subst hQ;exact⟨_,_,aF.keep2 h1 h2 h3,x,a',rfl,h4,h5,rfl⟩
  clear hQ;unfold me
  repeat' (first|refine st ?_|((with_reducible refine aY 34 ?_);(refine fC ht Xs rp (λr_ a_ hr_ ha_=>?_)))|(refine pf 37 ?_;refine pm (Hu _) ?_)|(refine pf 99 ?_;refine pm (yA _) ?_)|refine eH (l:=[[97],[98],[120],[121],[118],[120],[121]]) ?_ mm rfl (by simp;omega)|refine dx ?_ Xr|refine sb λnb_ hnb_=>?_|refine s2 (λh=>?_) λh=>?_|fail)
  all_goals first
   |exact hq _ (Ht _) _ _ _ _ rp rp (.refl _) Tm Xs
   |exact hq _ (su _) _ _ _ _ rp rp (.refl _) (by have:=OY r_;exact Tm) Xs
   |(exfalso;simp at *;omega)
theorem ca:∀d:Nat,d<1000→Js d:=by
 intro d
 induction d with
 |zero=>exact λ_=>LI
 |succ d ih=>
  intro hd1000 bm bt t a v1 v2 v3 v4 v5 v6 v7 ht ha;have ih:=ih Xr;have hE0:Js 0:=LI;have d0:decide (((d+1:Nat):Int)=0)=false:=by simp;omega
  have e1:IntKind.i64.wrap (((d+1:Nat):Int)-1)=(d:Int):=by rw[WA _ Xr];omega
  have hp:1≤4^d:=Nat.one_le_pow _ _ Xv;have hp1:4^(d+1)=4*4^d:=by rw[Nat.pow_succ,Nat.mul_comm]
  have hp2:4^(d+1+1)=16*4^d:=by rw[Nat.pow_succ,Nat.pow_succ];omega
  refine af.fz (jE _ _ _ _ ?_);unfold gl;generalize hQ:(λ(v:AV) (L:SH)=>∃v2_1 L2,aF [v] L [v2_1] L2∧∃(x:ao) (a':Nat),v2_1=AV.agg x.row∧x.wt+z0 x.op≤4^(d+1+1)∧a'≤t.length∧L2=[(bm,me bt v1 v2 v3 v4 v5 v6 v7),(bt,aO t a')])=Q;have hq:∀(v:AV) (x:ao) (a':Nat) (L L1 L2:SH),eI bm (me bt v1 v2 v3 v4 v5 v6 v7) L L1→eI bt (aO t a') L1 L2→Fz L2 v (.agg x.row)→x.wt+z0 x.op≤16*4^d→a'≤t.length→Q v L:=λv x a' L L1 L2 h1 h2 h3 h4 h5=>by subst hQ;exact⟨_,_,aF.keep2 h1 h2 h3,x,a',rfl,Xr,h5,rfl⟩
  clear hQ;unfold me
  repeat' (first|refine st ?_|((with_reducible refine aY 34 ?_);(refine fC ht Xs rp (λr_ a_ hr_ ha_=>?_)))|(refine pf 37 ?_;refine pm (Hu _) ?_)|(refine pf 99 ?_;refine pm (yA _) ?_)|(refine pf 98 ?_;refine pm (EL _ _ _) ?_)|refine eH (l:=[[97],[98],[120],[121],[118],[120],[121]]) ?_ mm rfl (by simp;omega)|refine OX (l:=[6,7,8,11,13,17]) ?_ mm rfl (by simp;omega)|refine dx ?_ Xr|((with_reducible refine ee 34 ?_);refine CI ht Xs rp (λr_ a_ hr_ ha_=>?_))|((with_reducible refine aY 97 ?_);(refine cC hE0 Xt ht Xs rp rp (λx_ a_ hx_ ha_=>?_)))|((with_reducible refine ee 97 ?_);refine Hv ih Xt ht Xs rp rp (λx_ a_ hx_ ha_=>?_))|refine sb λnb_ hnb_=>?_|refine s2 (λh=>?_) λh=>?_|fail)
  all_goals first
   |exact hq _ (Ht _) _ _ _ _ rp rp (.refl _) Tm Xs
   |exact hq _ (su _) _ _ _ _ rp rp (.refl _) (by have:=OY r_;exact Tm) Xs
   |exact hq _ (.mk 3 0 [113] [x_]) _ _ _ _ rp rp (Fz.aggs (.cons (.refl _) (.cons (.refl _) (.cons (.refl _) (.cons (Fz.sls (l:=[x_]) (f:=ao.enc) (size:=4) (rows:=[x_.row]) (.head _) (by simp[ao.enc_row]) Xv rfl) .nil))))) Tm Xs
   |exact hq _ (MG _ _ _) _ _ _ _ rp rp (.refl _) (by have:=UV hr_;exact Tm) Xs
end
section
set_option maxRecDepth 100000
set_option maxHeartbeats 2000000
def MH(b:UInt8):dU:=⟨(b.toNat:Int).tmod 4,((b.toNat:Int).tdiv 4).tmod 5-1⟩
theorem SU(b:UInt8):IntKind.i64.wrap (((b.toNat:Int).tdiv 4).tmod 5-1)=((b.toNat:Int).tdiv 4).tmod 5-1:=by
 have h:(b.toNat:Int)<256:=by have:=b.toNat_lt;omega
 have h1:((b.toNat:Int).tdiv 4).tmod 5=((b.toNat:Int) / 4) % 5:=by rw[Int.tdiv_eq_ediv_of_nonneg Xr,Int.tmod_eq_emod_of_nonneg Xr]
 rw[WA _ (by rw[h1];omega)]
theorem Jt(t:List UInt8)(ht:t.length<2^20):ax Tryz.prog 9 [.lst (t.map fj)] (.lst ((t.map MH).map dU.enc)):=by
 refine af.fz (Co _ _ _ ?_);unfold pX;generalize hQ:(λ(v:AV) (L:SH)=>∃v2 L2,aF [v] L [v2] L2∧v2=AV.lst ((t.map MH).map dU.enc)∧L2=[])=Q;have hq:∀v L,Fz L v (.lst ((t.map MH).map dU.enc))→Q v L:=λv L h=>by subst hQ;exact⟨_,[],aF.all h,rfl,rfl⟩
 clear hQ;refine cb t.length (λk (o:Option Nat)=>([.lst (t.map fj),am o k,.Xw k],ae o 2 (((t.take k).map MH).map dU.enc))) (λk o=>o=none→k=0) none (λ_=>rfl) (aF.drop (K:=[]) (.refl _) rfl (iU.at_ (.cons (.refl _) (.cons .nile (.cons (.refl _) .nil)))).2) ?_;intro k o hk ho;dsimp only;unfold nL;rcases Nat.lt_or_ge k t.length with g1|g1
 ·have hd:=bK g1;have hx:=ay (f:=fj) g1;have htk:t.take (k+1)=t.take k++[t[k]]:=VV g1;have ho2:o=none→((t.take k).map MH).map dU.enc=[]:=λe=>by rw[ho e];rfl
  have hl:((t.take k).map MH).length=k:=by simp;omega
  generalize t[k]=b at *;have hb:(b.toNat:Int)<256:=by have:=b.toNat_lt;omega
  have w1:IntKind.i64.wrap (b.toNat:Int)=(b.toNat:Int):=WA _ Xr;have w2:=SU b;have fin:∀(nb:Nat) (L:SH),gq L (ae (some nb) 2 (((t.take k).map MH).map dU.enc++[(MH b).enc]))→∃(j:Nat) (o':Option Nat),k<j∧j≤t.length∧(o'=none→j=0)∧aF [.lst (t.map fj),.sl nb 0 (k+1),.Xw (IntKind.i64.wrap ((k:Int)+1))] L [.lst (t.map fj),am o' j,.Xw j] (ae o' 2 (((t.take j).map MH).map dU.enc)):=by intro nb L hL;refine⟨k+1,some nb,Xr,Xr,nofun,?_⟩;rw[aD g1 Xr];exact aF.pickE hL rfl (by rw[htk];simp)
  rw[show(MH b).enc=[.Xw ((b.toNat:Int).tmod 4),.Xw (((b.toNat:Int).tdiv 4).tmod 5-1)]from rfl]at fin;rw[show fj b=[.int .u8 (b.toNat:Int)]from rfl]at hx;clear hq;generalize hX:((t.take k).map MH).map dU.enc=X at *;have hXl:X.length=k:=by rw[←hX];simp;omega
  repeat' (first|refine st ?_|refine cm rp rp Xr ho2 Xt Xu (by simp;omega) (by simp;omega) Xt (λnb_ hnb_=>?_)|refine sb λnb_ hnb_=>?_|refine s2 (λh=>?_) λh=>?_|fail)
  have w3:IntKind.i64.wrap ((b.toNat:Int).tdiv 4)=(b.toNat:Int).tdiv 4:=by rw[Int.tdiv_eq_ediv_of_nonneg Xr];exact WA _ Xr
  simp only[w1,w3,w2];exact fin nb_ _ rp
 ·have hd:=bO g1;have hk0:k=t.length:=by omega
  subst hk0;rw[Wx (VL _)];have fin:∀L,(∀q∈ae o 2 ((t.map MH).map dU.enc),q∈L)→Q (am o t.length) L:=λL hm=>by
   refine hq _ _ ?_;cases o with
   |none=>have:t=[]:=WS.1 (ho rfl);subst this;exact .emp
   |some b=>exact Fz.sls (hm _ (.head _)) rfl Xv Xu
  repeat' (first|refine st ?_|refine sb λnb_ hnb_=>?_|refine s2 (λh=>?_) λh=>?_|fail)
  exact fin _ λq h=>h
end
section
set_option linter.unusedSectionVars false
def Gk(T:FuncId→List AV→Option AV)(call:FuncId→List AV→ac→Option (AV×ac))(g:FuncId)(args:List AV)(H:ac):Option (AV×ac):=match T g args with
 |some v=>some (v,H)
 |none=>call g args H
def dF(P:Program)(F:TypeId→Option (List TypeId))(T:FuncId→List AV→Option AV):Nat→Code→List AV→ac→Option (Ex×List AV×ac)
 |0,_,_,_=>none
 |f+1,c,τ,H=>
  match c with
  |.skip|.label _=>some (.normal,τ,H)
  | .region _ ops draw=>match du P F (Gk T (oP P (dF P F T f))) ops draw τ H with
   |some (τ,H)=>some (.normal,τ,H)
   |none=>none
  | .seq a b=>match dF P F T f a τ H with
   |some (.normal,τ,H)=>dF P F T f b τ H
   |r=>r
  | .cond c a b=>match jT τ c with
   |.bool true=>dF P F T f a τ H
   |.bool false=>dF P F T f b τ H
   |_=>none
  | .block id b=>match dF P F T f b τ H with
   |some (.exit id',τ,H)=>if id'=id then some (.normal,τ,H)else some (.exit id',τ,H)
   |r=>r
  | .loop b=>match dF P F T f b τ H with
   |some (.normal,τ,H)=>dF P F T f (.loop b) τ H
   |r=>r
  |.exit id=>some (.exit id,τ,H)
  |.ret=>some (.ret,τ,H)
  |_=>none
def sw(P:Program)(T:FuncId→List AV→Option AV):Prop:=∀f args v,T f args=some v→gH P f args v
section
variable {P:Program} {F:TypeId→Option (List TypeId)} {T:FuncId→List AV→Option AV} {call:FuncId→List AV→ac→Option (AV×ac)}
theorem Ju(hT:sw P T)(hs:ed P call):ed P (Gk T call):=by
 refine⟨λf args H v H' hc=>?_,λf args H v H' hc=>?_,λf args H v H' hc=>?_⟩
 all_goals
  unfold Gk at hc;split at hc
 ·rename_i u hu;cases hc;exact(hT _ _ _ hu).1 _
 ·exact hs.ok _ _ _ _ _ hc
 ·cases hc;exact VL _
 ·exact hs.next _ _ _ _ _ hc
 ·rename_i u hu;cases hc;exact(hT _ _ _ hu).2
 ·exact hs.body _ _ _ _ _ hc
theorem Gl(h:∀f args H v H',Bd H→call f args H=some (v,H')→A4 H H'):∀f args H v H',Bd H→Gk T call f args H=some (v,H')→A4 H H':=λf args H v H' hb hc=>by
 unfold Gk at hc;split at hc
 ·cases hc;exact .refl _
 ·exact h _ _ _ _ _ hb hc
theorem MI(f:Nat):∀(c:Code) (τ:List AV) (H:ac) (e:Ex) (τ':List AV) (H':ac),Bd H→dF P F T f c τ H=some (e,τ',H')→A4 H H':=by
 induction f with
 |zero=>intro c τ H e τ' H' _ h;cases h
 |succ f ih=>
  intro c τ H e τ' H' hbd h;cases c with
  |skip=>cases h;exact .refl _
  |label l=>cases h;exact .refl _
  |exit id=>cases h;exact .refl _
  |ret=>cases h;exact .refl _
  |region id ops draw=>
   simp only[dF]at h;split at h
   ·rename_i hr;cases h;exact JO (λf args H v H' hb hcall=>Gl (λ_ _ _ _ _ hb hc=>CW ih hb hc) _ _ _ _ _ hb hcall) hbd hr
   ·cases h
  |seq x y=>
   simp only[dF]at h;split at h
   ·rename_i h1;have k1:=ih _ _ _ _ _ _ hbd h1;exact k1.trans (ih _ _ _ _ _ _ (k1.bd hbd) h)
   ·exact ih _ _ _ _ _ _ hbd h
  |cond x c1 c2=>
   simp only[dF]at h;split at h
   ·exact ih _ _ _ _ _ _ hbd h
   ·exact ih _ _ _ _ _ _ hbd h
   ·cases h
  |block id c1=>
   simp only[dF]at h;split at h
   ·rename_i h1;split at h
    ·cases h;exact ih _ _ _ _ _ _ hbd h1
    ·cases h;exact ih _ _ _ _ _ _ hbd h1
   ·exact ih _ _ _ _ _ _ hbd h
  |loop c1=>
   simp only[dF]at h;split at h
   ·rename_i h1;have k1:=ih _ _ _ _ _ _ hbd h1;exact k1.trans (ih _ _ _ _ _ _ (k1.bd hbd) h)
   ·exact ih _ _ _ _ _ _ hbd h
  |_=>simp[dF]at h
theorem Hw(fit:Fit P F)(hT:sw P T)(hgood:∀(g:Nat) (fn:Func) (c:Code),P.funcs[g]? =some fn→fn.body=some c→j8 c)(f:Nat):(∀(c:Code) (τ:List AV) (H:ac) (e:Ex) (τ':List AV) (H':ac),j8 c→dF P F T f c τ H=some (e,τ',H')→cF P c τ H e τ' H')∧
  (∀(c:Code) (τ:List AV) (H:ac) (e:Ex) (τ':List AV) (H':ac),j8 c→dF P F T f (.loop c) τ H=some (e,τ',H')→kJ P f c τ H e τ' H'):=by
 induction f with
 |zero=>exact⟨λc τ H e τ' H' _ h=>(by cases h),λc τ H e τ' H' _ h=>(by cases h)⟩
 |succ f ih0=>
  obtain⟨ih,ihl⟩:=ih0;have hs:=Ju hT (vS (P:=P) hgood ih);have hch:∀g args H v H',Bd H→Gk T (oP P (dF P F T f)) g args H=some (v,H')→A4 H H':=Gl (λ_ _ _ _ _ hb hc=>CW (MI f) hb hc);have hloop:∀(c:Code) (τ:List AV) (H:ac) (e:Ex) (τ':List AV) (H':ac),j8 c→dF P F T (f+1) (.loop c) τ H=some (e,τ',H')→kJ P (f+1) c τ H e τ' H':=by
   intro c1 τ H e τ' H' dr h;simp only[dF]at h;split at h
   ·rename_i τ1 H1 h1;obtain⟨n1,k1⟩:=ih c1 τ H .normal τ1 H1 dr h1;obtain⟨n2,k2⟩:=ihl c1 τ1 H1 e τ' H' dr h;refine⟨V2 n1 n2,λw σ a hW hτ Q hQ=>?_⟩;rw[rounds_succ];refine k1 w σ a hW hτ _ λa' w' haf=>?_
    obtain⟨σ1,t1,r1,e1,m1⟩:=haf;exact k2 w' σ1 a' r1 t1 Q λa2 w2 haf2=>hQ a2 w2 (haf2.trans e1 m1 n1)
   ·rename_i hne;obtain⟨n1,k1⟩:=ih c1 τ H e τ' H' dr h;refine⟨n1,λw σ a hW hτ Q hQ=>?_⟩;rw[rounds_succ];refine k1 w σ a hW hτ _ λa' w' haf=>?_
    cases e with
    |normal=>exact absurd h (hne _ _)
    |exit id=>exact hQ _ _ haf
    |ret=>exact hQ _ _ haf
  refine⟨?_,hloop⟩;intro c τ H e τ' H' dr h;cases c with
  |skip=>cases h;exact⟨VL _,λw σ a hW hτ Q hQ=>wp_skip (hQ _ _ (.refl hW hτ))⟩
  |label l=>cases h;exact⟨VL _,λw σ a hW hτ Q hQ=>wp_label (hQ _ _ (.refl hW hτ))⟩
  |exit id=>cases h;exact⟨VL _,λw σ a hW hτ Q hQ=>wp_exit (hQ _ _ (.refl hW hτ))⟩
  |ret=>cases h;exact⟨VL _,λw σ a hW hτ Q hQ=>wp_ret (hQ _ _ (.refl hW hτ))⟩
  |region id ops draw=>
   simp only[dF]at h;split at h
   ·rename_i τ1 H1 hr;cases h;cases draw with
    |false=>exact fP fit hs hr
    |true=>obtain⟨h1,h2⟩:=C1 fit hs hch (dr rfl).1 (dr rfl).2 hr;exact⟨h1,λw σ a hW hτ Q hQ=>h2 id w σ a hW hτ Q hQ⟩
   ·cases h
  |seq x y=>
   simp only[dF]at h;split at h
   ·rename_i τ1 H1 h1;obtain⟨n1,k1⟩:=ih x τ H .normal τ1 H1 dr.1 h1;obtain⟨n2,k2⟩:=ih y τ1 H1 e τ' H' dr.2 h;refine⟨V2 n1 n2,λw σ a hW hτ Q hQ=>wp_seq (k1 w σ a hW hτ _ λa' w' haf=>?_)⟩;obtain⟨σ1,t1,r1,e1,m1⟩:=haf;exact k2 w' σ1 a' r1 t1 Q λa2 w2 haf2=>hQ a2 w2 (haf2.trans e1 m1 n1)
   ·rename_i hne;obtain⟨n1,k1⟩:=ih x τ H e τ' H' dr.1 h;refine⟨n1,λw σ a hW hτ Q hQ=>wp_seq (k1 w σ a hW hτ _ λa' w' haf=>?_)⟩;cases e with
    |normal=>exact absurd h (hne _ _)
    |exit id=>exact hQ _ _ haf
    |ret=>exact hQ _ _ haf
  |cond x c1 c2=>
   simp only[dF]at h;split at h
   ·rename_i hb;obtain⟨n1,k1⟩:=ih c1 τ H e τ' H' dr.1 h;refine⟨n1,λw σ a hW hτ Q hQ=>wp_cond_true ?_ (k1 w σ a hW hτ Q hQ)⟩;have:=hτ.eval hW.glob x;rw[hb]at this;generalize a.eval x=u at this;cases this;rfl
   ·rename_i hb;obtain⟨n1,k1⟩:=ih c2 τ H e τ' H' dr.2 h;refine⟨n1,λw σ a hW hτ Q hQ=>wp_cond_false ?_ (k1 w σ a hW hτ Q hQ)⟩;have:=hτ.eval hW.glob x;rw[hb]at this;generalize a.eval x=u at this;cases this;rfl
   ·cases h
  |block id c1=>
   simp only[dF]at h;split at h
   ·rename_i id' τ1 H1 h1;obtain⟨n1,k1⟩:=ih c1 τ H _ τ1 H1 dr h1;split at h
    ·rename_i hid;cases h;exact⟨n1,λw σ a hW hτ Q hQ=>wp_block (k1 w σ a hW hτ _ λa' w' haf=>by simp only[HX,Exit.inBlock,hid,if_true];exact hQ _ _ haf)⟩
    ·rename_i hid;cases h;exact⟨n1,λw σ a hW hτ Q hQ=>wp_block (k1 w σ a hW hτ _ λa' w' haf=>by simp only[HX,Exit.inBlock,hid,if_false];exact hQ _ _ haf)⟩
   ·rename_i hne;obtain⟨n1,k1⟩:=ih c1 τ H e τ' H' dr h;refine⟨n1,λw σ a hW hτ Q hQ=>wp_block (k1 w σ a hW hτ _ λa' w' haf=>?_)⟩;cases e with
    |normal=>exact hQ _ _ haf
    |exit id=>exact absurd h (hne _ _ _)
    |ret=>exact hQ _ _ haf
  |loop c1=>obtain⟨n1,k1⟩:=hloop c1 τ H e τ' H' dr h;exact⟨n1,λw σ a hW hτ Q hQ=>wp_loop_rounds (f+1) (k1 w σ a hW hτ Q hQ)⟩
  |_=>simp[dF]at h
theorem Jv(fit:Fit P F)(hT:sw P T)(hgood:∀(g:Nat) (fn:Func) (c:Code),P.funcs[g]? =some fn→fn.body=some c→j8 c)(f:Nat)(c:Code)(τ:List AV)(H:ac)(e:Ex)(τ':List AV)(H':ac)(dr:j8 c)(h:dF P F T f c τ H=some (e,τ',H')):cF P c τ H e τ' H':=
 (Hw fit hT hgood f).1 c τ H e τ' H' dr h
end
theorem gH.of_pure{f:FuncId}{args:List AV}{v:AV}(h:ax Tryz.prog f args v)(hv:aX v)(ha:∀(i:Nat) (a:AV),args[i]? =some a→aX a):gH Tryz.prog f args v:=by
 obtain⟨fn,c,hf,hb⟩:=h.1;refine .of_v hf hb hv ha λw σ vs hW hvs=>?_
 obtain⟨u,H',L',h1,_,h3,_⟩:=h.2 ac.empty (λb _=>cS b) ⟨.nil,λp h=>by simp at h⟩;subst h3;refine(h1 w σ vs hW hvs).mono λe w' ⟨v',σ',k1,k2,k3,k4,k5⟩=>⟨v',σ',H',k1,k2,k4⟩
end
def Hy{α:Type}(f:α→α→Bool):List α→List α→Bool
 |[],[]=>true
 |a::l,b::m=>f a b&&Hy f l m
 |_,_=>false
theorem m4{α:Type}{f:α→α→Bool}(h:∀a b,f a b=true→a=b):∀{l m:List α},Hy f l m=true→l=m
 |[],[],_=>rfl
 | a::l,b::m,e=>by rw[Hy,V5]at e;rw[h _ _ e.1,m4 h e.2]
 |[],_::_,e=>by cases e
 |_::_,[],e=>by cases e
def Kz:Nat→AV→AV→Bool
 |0,_,_=>false
 | n+1,a,b=>match a,b with
  |.int k x,.int k' y=>decide (k=k')&&decide (x=y)
  |.bool x,.bool y=>x==y
  |.str x,.str y=>Hy (λ(p q:UInt8)=>decide (p=q)) x y
  |.nils,.nils=>true
  |.emp,.emp=>true
  |.nilp,.nilp=>true
  |.lst r,.lst s=>Hy (Hy (Kz n)) r s
  |.agg r,.agg s=>Hy (Kz n) r s
  |.tup r,.tup s=>Hy (Kz n) r s
  |_,_=>false
theorem LJ:∀{n:Nat} {a b:AV},Kz n a b=true→a=b:=by
 intro n
 induction n with
 |zero=>intro a b h;cases h
 |succ n ih=>
  intro a b h;unfold Kz at h;split at h
  ·simp only[V5,decide_eq_true_eq]at h;rw[h.1,h.2]
  ·rw[beq_iff_eq]at h;rw[h]
  ·rw[m4 (λp q h=>of_decide_eq_true h) h]
  ·rfl
  ·rfl
  ·rfl
  ·rw[m4 (λp q h=>m4 (λa b h=>ih h) h) h]
  ·rw[m4 (λa b h=>ih h) h]
  ·rw[m4 (λa b h=>ih h) h]
  ·cases h
def EM:Nat→AV→Bool
 |0,_=>false
 | n+1,a=>match a with
  |.int ..|.bool _|.str _|.nils|.emp|.nilp=>true
  |.lst r=>r.all λl=>l.all (EM n)
  |.agg r=>r.all (EM n)
  |.tup r=>r.all (EM n)
  |_=>false
theorem Jw:∀{n:Nat} {a:AV},EM n a=true→aX a:=by
 intro n
 induction n with
 |zero=>intro a h;cases h
 |succ n ih=>
  intro a h;unfold EM at h;split at h
  ·exact .int _ _
  ·exact .bool _
  ·exact .str _
  ·exact .nils
  ·exact .emp
  ·exact .nilp
  ·refine .lst _ λi r j a h1 h2=>?_
   rw[V0]at h;have:=h _ (Wo h1);rw[V0]at this;exact ih (this _ (Wo h2))
  ·refine .agg _ λi a h1=>?_
   rw[V0]at h;exact ih (h _ (Wo h1))
  ·refine .tup _ λi a h1=>?_
   rw[V0]at h;exact ih (h _ (Wo h1))
  ·cases h
def MJ(n:Nat):List (FuncId×List AV×AV)→(FuncId→List AV→Option AV)→FuncId→List AV→Option AV
 |[],T,f,args=>T f args
 |e::L,T,f,args=>if(Nat.beq f e.1&&Hy (Kz n) args e.2.1)=true then some e.2.2 else MJ n L T f args
theorem CJ{n:Nat}{T:FuncId→List AV→Option AV}(hT:sw Tryz.prog T):∀{L:List (FuncId×List AV×AV)},(∀e∈L,gH Tryz.prog e.1 e.2.1 e.2.2)→sw Tryz.prog (MJ n L T)
 |[],_=>hT
 | e::L,h=>λf args v hv=>by
  unfold MJ at hv;split at hv
  ·rename_i hc;rw[V5]at hc;cases hv;have h1:f=e.1:=Nat.eq_of_beq_eq_true hc.1;have h2:=m4 (λa b h=>LJ h) hc.2;rw[h1,h2];exact h e Xu
  ·exact CJ hT (λe he=>h e (by simp[he])) f args v hv
noncomputable def Rd (T:FuncId→List AV→Option AV) (n d:Nat) (f:FuncId) (args:List AV):Option AV:=match oP Tryz.prog (dF Tryz.prog Fl T n) f args ac.empty with
 |some (v,H)=>frz H d v
 |none=>none
def VJ(d:Nat)(v:AV):Option AV→Bool
 |some u=>Kz d u v
 |none=>false
theorem fJ{f:FuncId}{n d:Nat}{args:List AV}{v:AV}{T:FuncId→List AV→Option AV}(hT:sw Tryz.prog T)(hp:(EM d v&&args.all (EM d))=true)(hrun:VJ d v (Rd T n d f args)=true):gH Tryz.prog f args v:=by
 rw[V5,V0]at hp;have hd:=(QL Db).2;have hs:=vS (P:=Tryz.prog) hd (λc τ H e τ' H' dr hx=>Jv fit hT hd n c τ H e τ' H' dr hx);unfold Rd at hrun;split at hrun
 ·rename_i u H' hc;have hz:frz H' d u=some v:=by
   cases hf:frz H' d u with
   |none=>rw[hf]at hrun;cases hrun
   |some x=>rw[hf]at hrun;rw[LJ hrun]
  have hV:K0 Tryz.prog f args v:=λw σ vs hW hvs=>(hs.ok _ _ _ _ _ hc w σ vs hW hvs).mono λe w' ⟨v',σ',he,k1,k2,k3,k4⟩=>
   ⟨v',σ',ac.empty,he,wa k2 d u v v' hz k1,k3.trans (el.sub λb x hb=>by rw[cS]at hb;cases hb)⟩
  obtain⟨fn,c,hf,hb⟩:=hs.body _ _ _ _ _ hc;exact .of_v hf hb (Jw hp.1) (λi a h=>Jw (hp.2 a (Wo h))) hV
 ·cases hrun
theorem ax.of_ok{f:FuncId}{args:List AV}{v:AV}(h:gH Tryz.prog f args v):ax Tryz.prog f args v:=
 ⟨h.2,λH hb hS=>⟨v,H,[],h.1 H,.refl hb hS,rfl,rfl⟩⟩
section
set_option maxRecDepth 100000
theorem KA(s:aZ):ax Tryz.prog 86 [.str s] (.bool (ef s)):=by
 rcases VO 12 s.length with h|h
 ·have hl:(s.length:Int)<1→False:=by omega
  refine iv _ _ _ ?_;unfold fZ;have d1:decide ((s.length:Int)<1)=false:=decide_eq_false Xr;have d2:decide ((s.length:Int) > 12)=true:=decide_eq_true Xr;have e:ef s=false:=by unfold ef;rw[show decide ((s.length:Int)≤12)=false from decide_eq_false Xr];simp
  rw[e]
  repeat' (first|refine st ?_|refine sb λnb_ hnb_=>?_|refine s2 (λh=>?_) λh=>?_|fail)
  all_goals exact⟨rfl,rfl⟩
 ·exact Mn s Xr
end
end Go.Proofs.YtdnpdghlggbklaaGreatDoor.Am
