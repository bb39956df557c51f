/- A part of the proof; the statement is proved in the last part. -/
import Derived.Test.YtdnpdghlggbklaaGreatDoorQew
set_option linter.unusedSimpArgs false
set_option linter.unusedVariables false
namespace Go.Proofs.YtdnpdghlggbklaaGreatDoor.Am
section
set_option maxRecDepth 100000
def fC(Q:R)(e:Vs)(a:SH)(f:Kn):Prop:=vY 0 1 5 e λc d b=>W.len c λg=>wb .lss 3 b g λh=>wk h (fe 2 0 c b a λi=>wb .eql 9 i d λj=>wk j (Q b a) (wb .add 3 b (.Xm 1) λk=>f [c,d,k] a)) (Q (.Xm (-1)) a)
def jS(a b:AV)(L:SH)(Q:R):Prop:=W.loop (fC Q) [a,b,(.Xm 0)] L
theorem nS(t0 t1:AV)(L:SH)(Q:R)(h:jS t0 t1 L Q):af Tryz.prog 59 [t0,t1] L Q:=
 fs [] [(2,[0,1,5])] [] [] Tryz.func59 h
def nT(Q:R)(e:Vs)(a:SH)(f:Kn):Prop:=vY 1 2 5 e λd c b=>aA 0 c a λg=>W.len g λh=>wb .lss 3 b h λi=>wk i (aA 0 c a λj=>fe 5 0 j b a λk=>wb .eql 9 k d λl=>wk l (Q b a) (wb .add 3 b (.Xm 1) λm=>f [d,c,m] a)) (Q (.Xm (-1)) a)
def qm(a b:AV)(L:SH)(Q:R):Prop:=su a L λc d=>W.loop (nT Q) [b,c,(.Xm 0)] d
theorem Ct(t0 t1:AV)(L:SH)(Q:R)(h:qm t0 t1 L Q):af Tryz.prog 127 [t0,t1] L Q:=
 fs [] [(2,[1,2,5])] [(0,[2])] [] Tryz.func127 h
def Ey(b:Kn)(c d e a:AV)(f:SH):Prop:=W.ext 0 a λg=>W.ext 1 a λh=>wb .add 3 c (.Xm 1) λi=>b [g,d,h,e,i] f
def Ez(f:Kn)(a b c d:AV)(e:SH):Prop:=W.ext 0 d λg=>W.ext 1 d λh=>fe 11 10 a b e λi=>wc (.fn 60 []) [g,c,h,i] e (Ey f b c a)
def EA(g:Kn)(d:SH)(a b c e h:AV):Prop:=fe 11 1 a b d λi=>W.build [(.Xm 0),(.Xm 0),(.Xm 0)] [(0,1,c),(1,1,e),(2,1,i)] λj=>W.bslice 3 [(.Xm 0),(.Xm 0),(.Xm 0)] 1 [(0,j)] d λk l=>W.append 3 24 h k l λm f=>wb .add 3 e (.Xm 1) λn=>fe 11 9 a b f λo=>wc (.fn 60 []) [m,c,n,o] f (Ez g a b c)
def qn(Q:R)(f:Vs)(a:SH)(g:Kn):Prop:=GC 0 1 2 3 10 f λb h c d e=>W.len d λi=>wb .lss 3 e i λj=>wk j ((EA g a d e h c b)) (Q (.tup [b,c]) a)
def sP(a b c d:AV)(L:SH)(Q:R):Prop:=W.loop (qn Q) [a,b,c,d,(.Xm 0)] L
theorem EB(t0 t1 t2 t3:AV)(L:SH)(Q:R)(h:sP t0 t1 t2 t3 L Q):af Tryz.prog 60 [t0,t1,t2,t3] L Q:=
 fs [] [(2,[0,1,2,3,10])] [] [] Tryz.func60 h
def EC(e:Kn)(a:SH)(c b d f g h:AV):Prop:=aA 0 c a λi=>aA 2 b a λj=>aA 3 b a λk=>aA 0 b a λl=>wb .eql 3 l (.Xm 2) λm=>aA 4 b a λn=>W.build [(.str []),(.Xm 0),(.Xm 0),(.bool false),(.Xm 0)] [(0,1,j),(1,1,d),(2,1,k),(3,1,m),(4,1,n)] λo=>W.bslice 5 [(.str []),(.Xm 0),(.Xm 0),(.bool false),(.Xm 0)] 1 [(0,o)] a λp q=>W.append 5 48 i p q λr s=>W.faddr 0 c λt=>W.store 1 t r s λu=>wb .add 3 d (.Xm 1) λv=>e [f,g,c,h,b,v] u
def jT(h:Kn)(i:Vs)(a:SH)(j:Kn):Prop:=Ih 1 2 3 6 7 8 i λb c d e f g=>aA 3 f a λk=>W.mnx true k (.Xm 1) λl=>wb .lss 3 g l λm=>wk m ((EC j a d f g b c e)) (wb .add 3 e (.Xm 1) λn=>h [b,c,d,n] a)
def ED(d:Kn)(a:SH)(b c e f g:AV):Prop:=aA 1 b a λh=>aA 2 c a λi=>aA 0 c a λj=>wb .eql 3 j (.Xm 4) λk=>W.build [(.str []),(.bool false)] [(0,1,i),(1,1,k)] λl=>W.bslice 2 [(.str []),(.bool false)] 1 [(0,l)] a λm n=>W.append 2 24 h m n λo p=>W.faddr 1 b λq=>W.store 1 q o p λr=>wb .add 3 e (.Xm 1) λs=>d [f,g,b,s] r
def EE(e:Kn)(f:SH)(g a c h i j:AV)(k:Fp)(l:AV)(m:SH)(n:Ns):Prop:=wn [] n [] f.names λu=>W.build [(.str []),(.Xm 0)] [(0,1,g),(1,1,l)] λo=>W.calm [rm 1 k] ⟨10,[],[],[],false,[]⟩ (W.bslice 2 [(.str []),(.Xm 0)] 1 [(0,o)] m λb p=>wn [] [] (aa b) [] λv=>W.calm [] ⟨11,(aa a++aa b),(aa a),[],false,[]⟩ (W.append 2 24 a b p λd q=>wn (aa a++aa b) (aa a) (aa d) [] λw=>W.faddr 2 c λr=>ds [] 13 1 r d q λs x=>wb .add 3 h (.Xm 1) λt=>e [i,j,c,t] s))
def EF(f:Kn)(a:SH)(c e g h i:AV):Prop:=(true=true)∧(aM 2 c [] 1 a λj b=>aM 2 e [rm 1 b] 3 a λk d=>aM 1 c [rm 3 d,rm 1 b] 5 a λl m=>aM 5 e [rm 5 m,rm 3 d,rm 1 b] 7 a λn o=>wd [rm 3 d,rm 1 b] 8 (.fn 59 []) [l,n] a (EE f a k j c g h i b))
def EG(c:Kn)(a:SH)(b d e f g:AV):Prop:=aA 3 b a λh=>aA 2 d a λi=>W.bslice 1 [(.str [])] 1 [(0,i)] a λj k=>W.append 1 16 h j k λl m=>W.faddr 3 b λn=>W.store 1 n l m λo=>wb .add 3 e (.Xm 1) λp=>c [f,g,b,p] o
def EH(a:Kn)(h:Vs)(b:SH):Prop:=Nv 1 2 3 6 7 31 65 h λc d e f g i j=>wk j ((ED a b e g f c d)) (wb .eql 3 i (.Xm 5) λk=>wk k ((EF a b e g f c d)) ((EG a b e g f c d)))
def EI(j:Kn)(b:SH)(a c d e f g:AV):Prop:=W.join (EH j) λh=>wb .eql 3 a (.Xm 3) λi=>wk i (h [c,d,e,f,g,a,i] b) (wb .eql 3 a (.Xm 4) λk=>h [c,d,e,f,g,a,k] b)
def EJ(a:Kn)(h:Vs)(b:SH):Prop:=Nv 1 2 3 6 7 31 39 h λc d e f g i j=>wk j (W.loop (jT a) [c,d,e,f,g,(.Xm 0)] b) ((EI a b i c d e f g))
def jU(k:Kn)(b:SH)(c d g h:AV):Prop:=aA 0 c b λl=>lD 6 l d b λm=>qv [(.Xm 0),(.Xm 0),(.str []),(.Xm 0),(.Xm 0),(.str [])] 6 m b λe f=>aA 0 e f λa=>W.join (EJ k) λi=>wb .eql 3 a (.Xm 1) λj=>wk j (i [c,g,h,d,e,a,j] f) (wb .eql 3 a (.Xm 2) λn=>i [c,g,h,d,e,a,n] f)
def EK(c:Kn)(d:SH)(a e f g b:AV)(h:SH)(i:Ns):Prop:=wn [] i [] d.names λn=>W.ext 0 b λj=>W.ext 1 b λo=>W.faddr 5 a λk=>ds [] 14 1 k j h λl p=>wb .add 3 e (.Xm 1) λm=>c [f,g,a,m] l
def jV(k:Kn)(b:SH)(d h e l:AV):Prop:=(true=true)∧(aM 4 d [] 1 b λc f=>aM 1 h [rm 1 f] 3 b λm w=>di [rm 1 f] 5 4 m e b λn x=>aM 0 n [rm 1 f] 7 b λo y=>W.calm [rm 1 f] ⟨8,[],[],[],false,[]⟩ (W.bslice 1 [(.str [])] 1 [(0,o)] b λg p=>wn [] [] (aa g) [] λz=>W.calm [] ⟨9,(aa c++aa g),(aa c),[],false,[]⟩ (W.append 1 16 c g p λj q=>wn (aa c++aa g) (aa c) (aa j) [] λA=>W.faddr 4 d λr=>ds [] 11 1 r j q λa B=>(true=true)∧(aM 5 d [] 1 a λs i=>aM 1 h [rm 1 i] 4 a λt C=>di [rm 1 i] 6 4 t e a λu D=>aM 3 u [rm 1 i] 8 a λv E=>wd [] 9 (.fn 60 []) [s,e,(.Xm 0),v] a (EK k a d e h l)))))
def jW(Q:R)(g:Vs)(a:SH)(h:Kn):Prop:=yX 1 2 3 9 g λc b d e=>aA 1 c a λi=>W.len i λj=>wb .lss 3 e j λk=>wk k ((jV h a d c e b)) (bZ 6 d a λl=>W.store 6 b l a λf=>W.load true 6 b f λm=>Q m f)
def qo(Q:R)(f:Vs)(a:SH)(g:Kn):Prop:=yX 1 2 3 6 f λb c d e=>aA 0 b a λh=>W.len h λi=>wb .lss 3 e i λj=>wk j ((jU g a b e c d)) (W.loop (jW Q) [b,c,d,(.Xm 0)] a)
def EL(Q:R)(c a f d:AV)(b:SH):Prop:=W.ext 0 d λg=>W.ext 1 d λk=>wb .neq 74 g (.Xm 0) λh=>wk h (bZ 6 c b λi=>W.store 6 a i b λe=>W.load true 6 a e λj=>Q j e) (W.loop (qo Q) [f,a,c,(.Xm 0)] b)
def sQ(c:AV)(L:SH)(Q:R):Prop:=W.box c L λd e=>W.alloc [.nils,.nils,.nils,.nils,.nils,.nils] e λf g=>W.frz1 d g λa h=>W.alloc [.nils,.nils,.nils,.nils,.nils,.nils] h λi b=>bZ 2 a b λj=>wc (.fn 28 []) [j] b (EL Q i f a)
theorem EM(t0:AV)(L:SH)(Q:R)(h:sQ t0 L Q):af Tryz.prog 29 [t0] L Q:=
 fs [(12,[1,2,3,6,7,31,39]),(18,[1,2,3,6,7,31,65])] [(14,[1,2,3,6,7,8]),(6,[1,2,3,6]),(23,[1,2,3,9])] [(0,[1]),(8,[7])] [(21,[0,1,0,4,0,16,0,64,240,508,1020,2047,4095,8191]),(25,[0,1,0,4,0,28,60,124,252,511,1023,2047]),(26,[0,1,0,0,8,0,56,120,248,511,1023,2047,2047,4095,12287])] Tryz.func29 h
def nU(c i:AV)(L:SH)(Q:R):Prop:=W.box i L λe f=>dO 8 c f λj=>W.faddr 5 e λk=>W.store 1 k j f λd=>(true=true)∧(W.nilchk c λl=>aM 7 l [] 4 d λa g=>dr [rm 4 g] 5 6 e d λm s=>W.calm [rm 4 g] ⟨6,[],[],[],false,[]⟩ (W.bslice 6 [(.Xm 0),(.Xm 0),(.Xm 0),(.Xm 0),(.Xm 0),(.Xm 0)] 1 [(0,m)] d λb n=>wn [] [] (aa b) [] λt=>W.calm [] ⟨7,(aa a++aa b),(aa a),[],false,[]⟩ (W.append 6 48 a b n λh o=>wn (aa a++aa b) (aa a) (aa h) [] λu=>W.nilchk c λp=>W.faddr 7 p λq=>ds [] 10 1 q h o λr v=>Q (.tup []) r)))
theorem AG(t0 t1:AV)(L:SH)(Q:R)(h:nU t0 t1 L Q):af Tryz.prog 31 [t0,t1] L Q:=
 fs [] [] [] [(2,[0,0,2,6,14,0,32,126,255,511,1023])] Tryz.func31 h
def u6(Q:R)(a:SH)(b c d:AV):Prop:=aA 1 d a λe=>W.build [(.Xm 0),(.Xm 0),(.Xm 0),(.Xm 0),(.Xm 0),(.Xm 0)] [(0,1,(.Xm 1)),(1,1,b),(4,1,e)] λf=>wc (.fn 31 []) [c,f] a λh g=>Q (.tup []) g
def u7(Q:R)(a:SH)(b c d:AV):Prop:=W.build [(.Xm 0),(.Xm 0),(.Xm 0),(.Xm 0),(.Xm 0),(.Xm 0)] [(0,1,(.Xm 2)),(1,1,b),(2,1,d)] λe=>wc (.fn 31 []) [c,e] a λg f=>Q (.tup []) f
def u9(Q:R)(a:SH)(d:AV)(b:SH)(c:Ns):Prop:=wn [] c [] a.names λe=>Q (.tup []) b
def vc(Q:R)(b:SH)(c d e:AV)(a:SH)(f:Ns):Prop:=wn [] f [] b.names λh=>W.build [(.Xm 0),(.Xm 0),(.Xm 0),(.Xm 0),(.Xm 0),(.Xm 0)] [(0,1,(.Xm 6)),(1,1,c),(2,1,e)] λg=>wd [] 10 (.fn 31 []) [d,g] a (u9 Q a)
def vd(Q:R)(a:SH)(b c d:AV):Prop:=(true=true)∧(W.nilchk b λe=>W.faddr 0 e λf=>dr [] 5 6 f a λg h=>aM 2 d [rm 5 h] 7 a λi j=>wd [] 8 (.fn 127 []) [g,i] a (vc Q a c b))
def vf(Q:R)(e:SH)(a b f c:AV)(d:SH)(g:Ns):Prop:=wn [] g [] e.names λi=>wb .geq 3 c (.Xm 0) λh=>wk h ((u7 Q d a b c)) ((vd Q d b a f))
def vg(Q:R)(a:SH)(b d c:AV):Prop:=(true=true)∧(W.nilchk b λe=>aM 6 e [] 3 a λf g=>aM 2 c [rm 3 g] 5 a λh i=>wd [] 6 (.fn 90 []) [f,h] a (vf Q a d b c))
def vh(Q:R)(e:SH)(b c d:AV)(a:SH)(f:Ns):Prop:=wn [] f [] e.names λm=>W.nilchk b λg=>W.faddr 0 g λh=>aA 0 h a λi=>fe 5 2 i d a λj=>W.build [(.Xm 0),(.Xm 0),(.Xm 0),(.Xm 0),(.Xm 0),(.Xm 0)] [(0,1,(.Xm 7)),(1,1,c),(2,1,d),(3,1,c),(4,1,j)] λk=>wc (.fn 31 []) [b,k] a λn l=>Q (.tup []) l
def vj(Q:R)(b c d j:AV)(a:SH):Prop:=(true=true)∧(W.nilchk b λe=>W.faddr 0 e λf=>dr [] 3 6 f a λg h=>aM 2 d [rm 3 h] 5 a λi k=>wd [] 6 (.fn 127 []) [g,i] a (vh Q a b c))
def vk(Q:R)(a c d h:AV)(b:SH):Prop:=aA 0 d b λe=>W.build [(.Xm 0),(.Xm 0),(.Xm 0),(.Xm 0),(.Xm 0),(.Xm 0)] [(0,1,(.Xm 3)),(1,1,a),(2,1,a),(4,1,e)] λf=>wc (.fn 31 []) [c,f] b λi g=>Q (.tup []) g
def vl(Q:R)(a c d i:AV)(b:SH):Prop:=wb .add 3 a (.Xm 1) λe=>aA 0 d b λf=>W.build [(.Xm 0),(.Xm 0),(.Xm 0),(.Xm 0),(.Xm 0),(.Xm 0)] [(0,1,(.Xm 4)),(1,1,a),(2,1,a),(3,1,e),(4,1,f)] λg=>wc (.fn 31 []) [c,g] b λj h=>Q (.tup []) h
def vm(Q:R)(b c d h:AV)(a:SH):Prop:=aA 3 d a λe=>lD 4 e (.Xm 1) a λf=>wb .add 3 b (.Xm 1) λg=>wc (.fn 96 []) [c,f,g] a (vl Q b c d)
def vn(Q:R)(a:SH)(c d b:AV):Prop:=aA 3 b a λe=>W.len e λf=>wb .eql 3 f (.Xm 1) λg=>wk g (aA 3 b a λh=>lD 4 h (.Xm 0) a λi=>wc (.fn 96 []) [c,i,d] a (vk Q d c b)) (aA 3 b a λj=>lD 4 j (.Xm 0) a λk=>wc (.fn 96 []) [c,k,d] a (vm Q d c b))
def vp(Q:R)(a:SH)(c d b:AV):Prop:=aA 0 b a λe=>wb .eql 3 e (.Xm 3) λf=>wk f (aA 3 b a λg=>lD 4 g (.Xm 0) a λh=>wc (.fn 96 []) [c,h,d] a (vj Q c d b)) ((vn Q a c d b))
def kJ(c e d:AV)(L:SH)(Q:R):Prop:=su e L λa b=>aA 0 a b λf=>wb .eql 3 f (.Xm 1) λg=>wk g ((u6 Q b d c a)) (aA 0 a b λh=>wb .eql 3 h (.Xm 2) λi=>wk i ((vg Q b c d a)) ((vp Q b c d a)))
theorem vq(t0 t1 t2:AV)(L:SH)(Q:R)(h:kJ t0 t1 t2 L Q):af Tryz.prog 96 [t0,t1,t2] L Q:=
 fs [] [] [(0,[4])] [(7,[0,1,3,7,0,16,63,127]),(10,[0,0,0,4,12,28,0,64,252,510,1023]),(13,[0,1,3,7,0,16,63,127])] Tryz.func96 h
def rV(Q:R)(e:SH)(b c d:AV)(a:SH)(f:Ns):Prop:=wn [] f [] e.names λn=>wb .add 3 c (.Xm 1) λg=>W.nilchk b λh=>W.faddr 0 h λi=>aA 0 i a λj=>fe 5 2 j d a λk=>W.build [(.Xm 0),(.Xm 0),(.Xm 0),(.Xm 0),(.Xm 0),(.Xm 0)] [(0,1,(.Xm 9)),(1,1,d),(2,1,g),(3,1,c),(4,1,k)] λl=>wc (.fn 31 []) [b,l] a λo m=>Q (.tup []) m
def rW(Q:R)(b c d j:AV)(a:SH):Prop:=(true=true)∧(W.nilchk b λe=>W.faddr 0 e λf=>dr [] 3 6 f a λg h=>aM 2 c [rm 3 h] 5 a λi k=>wd [] 6 (.fn 127 []) [g,i] a (rV Q a b d))
def rX(Q:R)(a b c h:AV)(d:SH):Prop:=W.faddr 5 b λe=>bZ 4 e d λf=>wb .add 3 c (.Xm 1) λg=>wc (.fn 96 []) [a,f,g] d (rW Q a b c)
def rY(Q:R)(a:SH)(b c d:AV):Prop:=W.build [(.Xm 0),(.Xm 0),(.Xm 0),(.Xm 0),(.Xm 0),(.Xm 0)] [(0,1,(.Xm 2)),(1,1,c),(2,1,d)] λe=>wc (.fn 31 []) [b,e] a λg f=>Q (.tup []) f
def rZ(Q:R)(a:SH)(d:AV)(b:SH)(c:Ns):Prop:=wn [] c [] a.names λe=>Q (.tup []) b
def r6(Q:R)(b:SH)(c d e:AV)(a:SH)(f:Ns):Prop:=wn [] f [] b.names λh=>W.build [(.Xm 0),(.Xm 0),(.Xm 0),(.Xm 0),(.Xm 0),(.Xm 0)] [(0,1,(.Xm 8)),(1,1,e),(2,1,d)] λg=>wd [] 10 (.fn 31 []) [c,g] a (rZ Q a)
def r7(Q:R)(a:SH)(b c d:AV):Prop:=(true=true)∧(W.nilchk b λe=>W.faddr 0 e λf=>dr [] 4 6 f a λg h=>aM 2 c [rm 4 h] 6 a λi j=>wd [] 7 (.fn 127 []) [g,i] a (r6 Q a b d))
def r8(Q:R)(e:SH)(a b f c:AV)(d:SH)(g:Ns):Prop:=wn [] g [] e.names λi=>wb .geq 3 c (.Xm 0) λh=>wk h ((rY Q d a c b)) ((r7 Q d a f b))
def r9(Q:R)(b c d i:AV)(a:SH):Prop:=(true=true)∧(W.nilchk b λe=>aM 6 e [] 3 a λf g=>aM 2 c [rm 3 g] 5 a λh j=>wd [] 6 (.fn 90 []) [f,h] a (r8 Q a b d c))
def jX(b e:AV)(L:SH)(Q:R):Prop:=su e L λc a=>dO 6 b a λf=>W.len f λd=>aA 4 c a λg=>W.len g λh=>wb .gtr 3 h (.Xm 0) λi=>wk i (aA 4 c a λj=>lD 4 j (.Xm 0) a λk=>wc (.fn 96 []) [b,k,d] a (rX Q b c d)) (W.faddr 5 c λl=>bZ 4 l a λm=>wc (.fn 96 []) [b,m,d] a (r9 Q b c d))
theorem sa(t0 t1:AV)(L:SH)(Q:R)(h:jX t0 t1 L Q):af Tryz.prog 92 [t0,t1] L Q:=
 fs [] [] [(0,[3])] [(5,[0,1,3,7,0,16,63,127]),(8,[0,1,3,7,0,16,63,127]),(11,[0,0,2,6,14,0,32,126,0,510,1023])] Tryz.func92 h
def oI(Q:R)(b c m:AV)(a:SH):Prop:=(true=true)∧(W.nilchk b λd=>aM 7 d [] 3 a λe f=>W.nilchk b λg=>aM 7 g [rm 3 f] 8 a λh n=>W.len h λi=>di [] 10 6 e c a λj o=>W.faddr 2 j λk=>ds [] 12 1 k i a λl p=>Q (.tup []) l)
def oJ(Q:R)(b:SH)(a c d:AV):Prop:=W.build [(.Xm 0),(.Xm 0),(.Xm 0),(.Xm 0),(.Xm 0),(.Xm 0)] [(0,1,(.Xm 5)),(1,1,c)] λe=>wc (.fn 31 []) [a,e] b (oI Q a d)
def oK(Q:R)(a:SH)(b c:AV):Prop:=(true=true)∧(W.nilchk b λd=>aM 7 d [] 3 a λe f=>W.nilchk b λg=>aM 7 g [rm 3 f] 8 a λh m=>W.len h λi=>di [] 10 6 e c a λj n=>W.faddr 2 j λk=>ds [] 12 1 k i a λl o=>Q (.tup []) l)
def oL(Q:R)(b c m:AV)(a:SH):Prop:=(true=true)∧(W.nilchk b λd=>aM 7 d [] 3 a λe f=>W.nilchk b λg=>aM 7 g [rm 3 f] 8 a λh n=>W.len h λi=>di [] 10 6 e c a λj o=>W.faddr 1 j λk=>ds [] 12 1 k i a λl p=>Q (.tup []) l)
def oM(Q:R)(a d e f p:AV)(b:SH):Prop:=(true=true)∧(W.nilchk a λg=>aM 7 g [] 3 b λh i=>W.nilchk a λj=>aM 7 j [rm 3 i] 8 b λk q=>W.len k λl=>di [] 10 6 h d b λm r=>W.faddr 2 m λn=>ds [] 12 1 n l b λc s=>aA 10 e c λo=>wc (.fn 30 []) [a,o] c (oL Q a f))
def oN(Q:R)(b:SH)(a c d:AV):Prop:=dO 7 a b λe=>W.len e λf=>W.build [(.Xm 0),(.Xm 0),(.Xm 0),(.Xm 0),(.Xm 0),(.Xm 0)] [(0,1,(.Xm 5))] λg=>wc (.fn 31 []) [a,g] b (oM Q a c d f)
def oO(Q:R)(a:SH)(b c d:AV):Prop:=aA 10 c a λe=>W.len e λf=>wb .eql 3 f (.Xm 0) λg=>wk g ((oK Q a b d)) ((oN Q a b d c))
def oP(Q:R)(a e c f d l:AV)(g:SH):Prop:=W.nilchk a λh=>W.faddr 8 h λi=>W.store 1 i e g λb=>aA 0 c b λj=>wb .eql 3 j (.Xm 3) λk=>wk k ((oJ Q b a f d)) ((oO Q b a c d))
def oQ(Q:R)(a b d e f h:AV)(c:SH):Prop:=aA 9 b c λg=>wc (.fn 30 []) [a,g] c (oP Q a d b e f)
def oR(Q:R)(c:SH)(a d e f m:AV)(b:SH)(g:Ns):Prop:=wn [] g [] c.names λn=>dO 7 a b λh=>W.len h λi=>dO 6 a b λj=>W.len j λk=>W.build [(.Xm 0),(.Xm 0),(.Xm 0),(.Xm 0),(.Xm 0),(.Xm 0)] [(0,1,(.Xm 10)),(1,1,k)] λl=>wc (.fn 31 []) [a,l] b (oQ Q a d e f i)
def io(b d:AV)(L:SH)(Q:R):Prop:=su d L λc a=>dO 8 b a λe=>dO 7 b a λf=>W.len f λg=>(true=true)∧(W.faddr 5 c λh=>dr [] 2 4 h a λi j=>W.nilchk b λk=>aM 6 k [rm 2 j] 6 a λl n=>W.len l λm=>wd [] 8 (.fn 96 []) [b,i,m] a (oR Q a b c e g))
theorem oS(t0 t1:AV)(L:SH)(Q:R)(h:io t0 t1 L Q):af Tryz.prog 93 [t0,t1] L Q:=
 fs [] [] [(0,[3])] [(3,[0,0,2,0,8,24,56,120,255]),(10,[0,1,3,7,0,0,32,96,224,480,1023,2047,4095]),(12,[0,1,3,7,0,0,32,96,224,480,1023,2047,4095]),(15,[0,1,3,7,0,0,32,96,224,480,1023,2047,4095]),(17,[0,1,3,7,0,0,32,96,224,480,1023,2047,4095])] Tryz.func93 h
def sd(Q:R)(a b c d k:AV)(e:SH):Prop:=W.nilchk a λf=>W.faddr 8 f λg=>W.store 1 g d e λh=>W.build [(.Xm 0),(.Xm 0),(.Xm 0),(.Xm 0),(.Xm 0),(.Xm 0)] [(0,1,b),(1,1,c)] λi=>wc (.fn 31 []) [a,i] h λl j=>Q (.tup []) j
def sf(Q:R)(a c d e f h:AV)(b:SH):Prop:=aA 9 e b λg=>wc (.fn 30 []) [a,g] b (sd Q a c d f)
def jY(a d e f b:AV)(L:SH)(Q:R):Prop:=su d L λg c=>dO 8 a c λh=>W.build [(.Xm 0),(.Xm 0),(.Xm 0),(.Xm 0),(.Xm 0),(.Xm 0)] [(0,1,e),(1,1,b)] λi=>wc (.fn 31 []) [a,i] c (sf Q a f b g h)
theorem sg(t0 t1 t2 t3 t4:AV)(L:SH)(Q:R)(h:jY t0 t1 t2 t3 t4 L Q):af Tryz.prog 94 [t0,t1,t2,t3,t4] L Q:=
 fs [] [] [(0,[6])] [] Tryz.func94 h
def yA(Q:R)(e:Kn)(a:SH)(c b d:AV):Prop:=W.nilchk c λf=>W.faddr 0 f λg=>aA 2 g a λh=>fe 2 0 h b a λi=>wb .eql 9 i d λj=>wk j (Q b a) (wb .add 3 b (.Xm 1) λk=>e [c,d,k] a)
def kK(Q:R)(d:Vs)(a:SH)(e:Kn):Prop:=vY 0 1 5 d λb f c=>W.nilchk b λg=>W.faddr 0 g λh=>aA 2 h a λi=>W.len i λj=>wb .lss 3 c j λk=>wk k ((yA Q e a b c f)) (Q (.Xm (-1)) a)
def mn(a b:AV)(L:SH)(Q:R):Prop:=W.loop (kK Q) [a,b,(.Xm 0)] L
theorem yB(t0 t1:AV)(L:SH)(Q:R)(h:mn t0 t1 L Q):af Tryz.prog 95 [t0,t1] L Q:=
 fs [] [(2,[0,1,5])] [] [] Tryz.func95 h
def yC(Q:R)(a:SH)(d:AV)(b:SH)(c:Ns):Prop:=wn [] c [] a.names λe=>Q (.tup []) b
def yD(Q:R)(b:SH)(c d e:AV)(a:SH)(f:Ns):Prop:=wn [] f [] b.names λg=>wd [] 10 (.fn 94 []) [c,d,(.Xm 11),(.Xm 12),e] a (yC Q a)
def yE(Q:R)(a:SH)(c d:AV):Prop:=(true=true)∧(dr [] 1 11 c a λe b=>W.nilchk d λf=>W.faddr 0 f λg=>aM 1 g [rm 1 b] 6 a λh i=>aM 2 c [rm 6 i,rm 1 b] 8 a λj k=>wd [rm 1 b] 9 (.fn 59 []) [h,j] a (yD Q a d e))
def yF(Q:R)(a:SH)(d:AV)(b:SH)(c:Ns):Prop:=wn [] c [] a.names λe=>Q (.tup []) b
def yG(Q:R)(b:SH)(c d e:AV)(a:SH)(f:Ns):Prop:=wn [] f [] b.names λg=>wd [] 10 (.fn 94 []) [c,d,(.Xm 13),(.Xm 14),e] a (yF Q a)
def yH(Q:R)(a:SH)(c d:AV):Prop:=(true=true)∧(dr [] 1 11 c a λe b=>W.nilchk d λf=>W.faddr 0 f λg=>aM 1 g [rm 1 b] 6 a λh i=>aM 2 c [rm 6 i,rm 1 b] 8 a λj k=>wd [rm 1 b] 9 (.fn 59 []) [h,j] a (yG Q a d e))
def yI(Q:R)(a:SH)(d:AV)(b:SH)(c:Ns):Prop:=wn [] c [] a.names λe=>Q (.tup []) b
def yJ(Q:R)(b:SH)(c d e:AV)(a:SH)(f:Ns):Prop:=wn [] f [] b.names λg=>wd [] 10 (.fn 94 []) [c,d,(.Xm 15),(.Xm 16),e] a (yI Q a)
def yK(Q:R)(a:SH)(c d:AV):Prop:=(true=true)∧(dr [] 1 11 c a λe b=>W.nilchk d λf=>W.faddr 0 f λg=>aM 1 g [rm 1 b] 6 a λh i=>aM 2 c [rm 6 i,rm 1 b] 8 a λj k=>wd [rm 1 b] 9 (.fn 59 []) [h,j] a (yJ Q a d e))
def yL(Q:R)(a b:AV)(c:SH):Prop:=W.build [(.Xm 0),(.Xm 0),(.Xm 0),(.Xm 0),(.Xm 0),(.Xm 0)] [(0,1,(.Xm 21)),(1,1,b)] λd=>wc (.fn 31 []) [a,d] c λf e=>Q (.tup []) e
def yM(Q:R)(a b:AV)(c:SH):Prop:=W.build [(.Xm 0),(.Xm 0),(.Xm 0),(.Xm 0),(.Xm 0),(.Xm 0)] [(0,1,(.Xm 22)),(1,1,b)] λd=>wc (.fn 31 []) [a,d] c λf e=>Q (.tup []) e
def yN(Q:R)(a b:AV)(c:SH):Prop:=W.build [(.Xm 0),(.Xm 0),(.Xm 0),(.Xm 0),(.Xm 0),(.Xm 0)] [(0,1,(.Xm 23)),(1,1,b)] λd=>wc (.fn 31 []) [a,d] c λf e=>Q (.tup []) e
def yO(Q:R)(a:SH)(d:AV)(b:SH)(c:Ns):Prop:=wn [] c [] a.names λe=>Q (.tup []) b
def vt(Q:R)(b:SH)(c d:AV)(a:SH)(e:Ns):Prop:=wn [] e [] b.names λg=>W.build [(.Xm 0),(.Xm 0),(.Xm 0),(.Xm 0),(.Xm 0),(.Xm 0)] [(0,1,(.Xm 24)),(1,1,d)] λf=>wd [] 10 (.fn 31 []) [c,f] a (yO Q a)
def yP(Q:R)(a:SH)(b c:AV):Prop:=(true=true)∧(W.nilchk b λd=>W.faddr 0 d λe=>aM 4 e [] 5 a λf g=>aM 2 c [rm 5 g] 7 a λh i=>wd [] 8 (.fn 90 []) [f,h] a (vt Q a b))
def vu(Q:R)(a:SH)(d:AV)(b:SH)(c:Ns):Prop:=wn [] c [] a.names λe=>Q (.tup []) b
def vv(Q:R)(b:SH)(c d:AV)(a:SH)(e:Ns):Prop:=wn [] e [] b.names λg=>W.build [(.Xm 0),(.Xm 0),(.Xm 0),(.Xm 0),(.Xm 0),(.Xm 0)] [(0,1,(.Xm 25)),(1,1,d)] λf=>wd [] 10 (.fn 31 []) [c,f] a (vu Q a)
def yQ(Q:R)(a:SH)(b c:AV):Prop:=(true=true)∧(W.nilchk b λd=>W.faddr 0 d λe=>aM 4 e [] 5 a λf g=>aM 2 c [rm 5 g] 7 a λh i=>wd [] 8 (.fn 90 []) [f,h] a (vv Q a b))
def vw(Q:R)(a:SH)(d:AV)(b:SH)(c:Ns):Prop:=wn [] c [] a.names λe=>Q (.tup []) b
def vx(Q:R)(b:SH)(c d e:AV)(a:SH)(f:Ns):Prop:=wn [] f [] b.names λh=>W.build [(.Xm 0),(.Xm 0),(.Xm 0),(.Xm 0),(.Xm 0),(.Xm 0)] [(0,1,(.Xm 26)),(1,1,e),(2,1,c)] λg=>wd [] 11 (.fn 31 []) [d,g] a (vw Q a)
def vy(Q:R)(b c d j:AV)(a:SH):Prop:=(true=true)∧(W.nilchk b λe=>W.faddr 0 e λf=>aM 3 f [] 5 a λg h=>aM 2 c [rm 5 h] 7 a λi k=>wd [] 8 (.fn 90 []) [g,i] a (vx Q a d b))
def vz(Q:R)(a:SH)(d:AV)(b:SH)(c:Ns):Prop:=wn [] c [] a.names λe=>Q (.tup []) b
def vA(Q:R)(b:SH)(c d e:AV)(a:SH)(f:Ns):Prop:=wn [] f [] b.names λh=>W.build [(.Xm 0),(.Xm 0),(.Xm 0),(.Xm 0),(.Xm 0),(.Xm 0)] [(0,1,(.Xm 27)),(1,1,c),(2,1,e)] λg=>wd [] 17 (.fn 31 []) [d,g] a (vz Q a)
def vC(Q:R)(f:SH)(b g:AV)(c d:Fp)(h:AV)(a:SH)(i:Ns):Prop:=wn [] i [] f.names λe=>W.nilchk b λj=>W.faddr 0 j λk=>aM 3 k [rc 7 e,rm 6 c,rm 4 d] 12 a λl m=>aM 3 g [rm 12 m,rc 7 e,rm 6 c,rm 4 d] 14 a λn o=>wd [] 15 (.fn 90 []) [l,n] a (vA Q a h b)
def yR(Q:R)(a:SH)(b c:AV):Prop:=(true=true)∧(W.nilchk b λe=>aM 6 e [] 4 a λf d=>aM 2 c [rm 4 d] 6 a λg h=>wd [] 7 (.fn 90 []) [f,g] a (vC Q a b c h d))
def yS(Q:R)(a:SH)(d b c e:AV):Prop:=wb .eql 3 d (.Xm 14) λf=>wk f (W.faddr 5 b λg=>bZ 4 g a λh=>wc (.fn 96 []) [c,h,e] a (vy Q c b e)) (wb .eql 3 d (.Xm 15) λi=>wk i ((yR Q a c b)) (Q (.tup []) a))
def yT(Q:R)(a:SH)(b c d e:AV):Prop:=wb .eql 3 b (.Xm 12) λf=>wk f ((yP Q a c d)) (wb .eql 3 b (.Xm 13) λg=>wk g ((yQ Q a c d)) ((yS Q a b d c e)))
def yU(Q:R)(a:SH)(c d b e:AV):Prop:=wb .eql 3 c (.Xm 11) λf=>wk f (aA 2 d a λg=>wc (.fn 95 []) [b,g] a (yN Q b)) ((yT Q a c b d e))
def yV(Q:R)(a:SH)(c d b e:AV):Prop:=wb .eql 3 c (.Xm 10) λf=>wk f (aA 2 d a λg=>wc (.fn 95 []) [b,g] a (yM Q b)) ((yU Q a c d b e))
def vD(Q:R)(a:SH)(c d b e:AV):Prop:=wb .eql 3 c (.Xm 9) λf=>wk f (aA 2 d a λg=>wc (.fn 95 []) [b,g] a (yL Q b)) ((yV Q a c d b e))
def vF(Q:R)(a:SH)(b c d e:AV):Prop:=wb .eql 3 b (.Xm 8) λf=>wk f (bZ 11 c a λg=>wc (.fn 94 []) [d,g,(.Xm 19),(.Xm 20),(.Xm 0)] a λi h=>Q (.tup []) h) ((vD Q a b c d e))
def vG(Q:R)(a:SH)(b c d e:AV):Prop:=wb .eql 3 b (.Xm 7) λf=>wk f (bZ 11 c a λg=>wc (.fn 94 []) [d,g,(.Xm 17),(.Xm 18),(.Xm 0)] a λi h=>Q (.tup []) h) ((vF Q a b c d e))
def vH(Q:R)(a:SH)(b c d e:AV):Prop:=wb .eql 3 b (.Xm 5) λf=>wk f ((yH Q a c d)) (wb .eql 3 b (.Xm 6) λg=>wk g ((yK Q a c d)) ((vG Q a b c d e)))
def vJ(Q:R)(e:Vs)(a:SH):Prop:=GC 0 3 4 25 31 e λb c f d g=>wk g (bZ 11 c a λh=>wc (.fn 93 []) [b,h] a λk i=>Q (.tup []) i) (wb .eql 3 d (.Xm 4) λj=>wk j ((yE Q a c b)) ((vH Q a d c b f)))
def vK(Q:R)(b:SH)(c a d e:AV):Prop:=W.join (vJ Q) λf=>wb .eql 3 a (.Xm 2) λg=>wk g (f [c,d,e,a,g] b) (wb .eql 3 a (.Xm 3) λh=>f [c,d,e,a,h] b)
def mo(a g:AV)(L:SH)(Q:R):Prop:=su g L λc d=>dO 9 a d λh=>W.nilchk a λi=>W.faddr 8 i λj=>W.store 1 j h d λe=>dO 9 a e λk=>wb .add 3 k (.Xm 1) λl=>W.nilchk a λm=>W.faddr 9 m λn=>W.store 1 n l e λb=>dO 6 a b λo=>W.len o λp=>aA 0 c b λf=>wb .eql 3 f (.Xm 1) λq=>wk q (bZ 11 c b λr=>wc (.fn 92 []) [a,r] b λt s=>Q (.tup []) s) ((vK Q b a f c p))
theorem yW(t0 t1:AV)(L:SH)(Q:R)(h:mo t0 t1 L Q):af Tryz.prog 61 [t0,t1] L Q:=
 fs [(8,[0,3,4,25,31])] [] [(0,[3])] [(11,[0,0,0,4,12,28,60,0,128,508,1023]),(13,[0,0,0,4,12,28,60,0,128,508,1023]),(15,[0,0,0,4,12,28,60,0,128,508,1023]),(27,[0,0,2,6,14,30,0,64,254,510,1023]),(29,[0,0,2,6,14,30,0,64,254,510,1023]),(32,[0,0,2,6,14,30,0,64,254,0,1022,2047]),(34,[0,0,2,6,14,0,32,126,0,256,768,1792,3840,0,8192,32766,65534,131071])] Tryz.func61 h
def vL(a:Kn)(b c d g:AV)(e:SH):Prop:=wb .add 3 b (.Xm 1) λf=>a [c,d,f] e
def jZ(Q:R)(e:Vs)(a:SH)(f:Kn):Prop:=vY 0 1 4 e λd b c=>W.len b λg=>wb .lss 3 c g λh=>wk h (lD 11 b c a λi=>wc (.fn 61 []) [d,i] a (vL f c d b)) (Q (.tup []) a)
def kL(a b:AV)(L:SH)(Q:R):Prop:=W.loop (jZ Q) [a,b,(.Xm 0)] L
theorem vM(t0 t1:AV)(L:SH)(Q:R)(h:kL t0 t1 L Q):af Tryz.prog 30 [t0,t1] L Q:=
 fs [] [(1,[0,1,4])] [] [] Tryz.func30 h
def AH(Q:R)(c:SH)(a d e:AV):Prop:=W.build [.nils,.nils,.nils,.nils,.nils,.nils,.nils] [] λf=>W.store 7 a f c λb=>W.load true 7 a b λg=>Q (.tup [g,d,e]) b
def AI(f:Kn)(a:SH)(b c d g h i j k l m:AV):Prop:=(true=true)∧(aM 0 b [] 1 a λn e=>di [rm 1 e] 4 1 c d a λo v=>dl [rm 1 e] 5 o a λp w=>wb .add 3 p (.Xm 1) λq=>W.mnx true n q λr=>W.faddr 0 b λs=>ds [] 9 1 s r a λt x=>wb .add 3 d (.Xm 1) λu=>f [g,h,i,j,k,l,b,m,c,u] t)
def gW(l:Kn)(m:Vs)(a:SH)(n:Kn):Prop:=Pz 1 2 7 8 9 10 11 12 13 14 m λb c d e f g h i j k=>W.len j λo=>wb .lss 3 k o λp=>wk p ((AI n a h j k b c d e f g i)) (wb .add 3 i (.Xm 1) λq=>l [b,c,d,e,f,g,h,q] a)
def AJ(a:Kn)(b c d e f g h i j:AV)(k:SH):Prop:=W.loop (gW a) [b,c,d,e,f,g,h,i,j,(.Xm 0)] k
def gX(c:Kn)(a:SH)(b d e f g h:AV):Prop:=aA 6 b a λi=>bZ 2 d a λj=>W.bslice 2 [(.Xm 0),.nils] 1 [(0,j)] a λk l=>W.append 2 32 i k l λm n=>W.faddr 6 b λo=>W.store 1 o m n λp=>wb .add 3 e (.Xm 1) λq=>c [f,g,b,h,q] p
def gY(j:Kn)(k:Vs)(a:SH)(l:Kn):Prop:=RI 1 2 7 8 9 10 11 12 k λd e f g h b i c=>dO 7 b a λm=>W.len m λn=>wb .lss 3 c n λo=>wk o (dO 7 b a λp=>lD 6 p c a λq=>wc (.fn 32 []) [q] a (AJ l d e f g h b i c)) ((gX j a f i h d e g))
def AK(e:Kn)(a f g h i j t:AV)(b:SH):Prop:=(true=true)∧(W.nilchk a λk=>aM 6 k [] 3 b λl d=>W.len l λm=>W.nilchk a λn=>aM 7 n [rm 3 d] 8 b λo p=>W.build [(.Xm 0),.nils] [(0,1,m),(1,1,o)] λq=>W.calm [rm 8 p,rm 3 d] ⟨10,[],[],[],false,[]⟩ (W.alloc [(.Xm 0),.nils] b λc r=>wn [] [] (aa c) [] λu=>ds [] 11 2 c q r λs v=>W.loop (gY e) [f,g,h,i,j,a,c,(.Xm 0)] s))
def AL(c:Kn)(a d e f g m:AV)(b:SH):Prop:=dO 9 a b λh=>W.nilchk a λi=>W.faddr 8 i λj=>W.store 1 j (.Xm (-1)) b λk=>W.build [(.Xm 0),(.Xm 0),(.Xm 0),(.Xm 0),(.Xm 0),(.Xm 0)] [(0,1,(.Xm 28))] λl=>wc (.fn 31 []) [a,l] k (AK c a d e f h g)
def gZ(h:Kn)(a:SH)(g b c i j:AV):Prop:=(true=true)∧(W.faddr 0 g λk=>dr [] 1 6 k a λl d=>aM 1 b [rm 1 d] 3 a λm s=>di [rm 1 d] 5 4 m c a λn t=>aM 2 n [rm 1 d] 7 a λo u=>W.build [.nils,.nils,.nils,.nils,.nils,.nils,.nils,.nils,(.Xm 0),(.Xm 0)] [(0,6,l),(6,1,o),(9,1,i)] λp=>W.calm [] ⟨10,[],[],[],false,[]⟩ (W.box p a λe f=>wn [] [] (aa e) [] λv=>aA 1 b f λq=>fe 4 3 q c f λr=>wc (.fn 30 []) [e,r] f (AL h e b j g c)))
def mq(Q:R)(g:Vs)(a:SH)(h:Kn):Prop:=GC 1 2 7 8 9 g λc b d i e=>aA 1 c a λj=>W.len j λk=>wb .lss 3 e k λl=>wk l ((gZ h a d c e i b)) (bZ 7 d a λm=>W.store 7 b m a λf=>W.load true 7 b f λn=>Q (.tup [n,(.Xm 0),(.Xm 0)]) f)
def AM(Q:R)(b c d:AV)(e:SH):Prop:=W.build [.nils,.nils,.nils,.nils,.nils,.nils,.nils] [(0,6,d)] λf=>W.alloc [.nils,.nils,.nils,.nils,.nils,.nils,.nils] e λa g=>W.store 7 a f g λh=>W.loop (mq Q) [b,c,a,(.Xm 0),(.Xm 0)] h
def AN(Q:R)(b c d:AV)(a:SH):Prop:=W.ext 0 d λe=>W.ext 1 d λf=>wb .neq 74 e (.Xm 0) λg=>wk g ((AH Q a b e f)) (bZ 2 c a λh=>wc (.fn 29 []) [h] a (AM Q c b))
def nV(c:AV)(L:SH)(Q:R):Prop:=W.box c L λd e=>W.alloc [.nils,.nils,.nils,.nils,.nils,.nils,.nils] e λf g=>W.frz1 d g λa b=>bZ 2 a b λh=>wc (.fn 28 []) [h] b (AN Q f a)
theorem AO(t0:AV)(L:SH)(Q:R)(h:nV t0 L Q):af Tryz.prog 19 [t0] L Q:=
 fs [] [(20,[1,2,7,8,9,10,11,12,13,14]),(16,[1,2,7,8,9,10,11,12]),(7,[1,2,7,8,9])] [(0,[1])] [(9,[0,1,0,4,0,28,60,124,0,511,1023,2047]),(14,[0,1,3,7,15,0,32,96,224,511,0,2047]),(22,[0,1,0,0,12,28,60,127,255,511])] Tryz.func19 h
end
section
set_option maxRecDepth 100000
theorem Ms(l:List ca)(s:aZ)(hl:l.length<2^62):az Tryz.prog 59 [.lst (l.map ca.enc),.str s] (.Xm (fX l s)):=by
 refine nS _ _ _ _ ?_;unfold jS;refine fw l (λx=>decide (x.name=s)) (λi=>[.lst (l.map ca.enc),.str s,.Xm i]) hl rfl (λi h1 hd hi hno nx hn=>?_) (λi h1 hd hno nx=>?_)
 all_goals unfold fC
 ·have hx:=aw (f:=ca.enc) h1
  repeat' (first|refine st ?_|refine sb λnb_ hnb_=>?_|refine s2 (λh=>?_) λh=>?_|fail)
  ·exact⟨by rw[fX,pn h1 hno h],rfl⟩
  ·exact hn h
 ·repeat' (first|refine st ?_|refine sb λnb_ hnb_=>?_|refine s2 (λh=>?_) λh=>?_|fail)
  exact⟨by rw[fX,gQ hno],rfl⟩
theorem F7(w:aH)(s:aZ)(hl:w.cells.length<2^62):az Tryz.prog 127 [.agg w.enc,.str s] (.Xm (xi w.cells s)):=by
 refine Ct _ _ _ _ ?_;unfold qm;refine GA ?_;refine fw w.cells (λx=>decide (x.name=s)) (λi=>[.str s,.pptr [w.enc] 0 0,.Xm i]) hl rfl (λi h1 hd hi hno nx hn=>?_) (λi h1 hd hno nx=>?_)
 all_goals unfold nT
 ·have hx:=aw (f:=aY.enc) h1
  repeat' (first|refine st ?_|refine sb λnb_ hnb_=>?_|refine s2 (λh=>?_) λh=>?_|fail)
  ·exact⟨by rw[xi,pn h1 hno h],rfl⟩
  ·exact hn h
 ·repeat' (first|refine st ?_|refine sb λnb_ hnb_=>?_|refine s2 (λh=>?_) λh=>?_|fail)
  exact⟨by rw[xi,gQ hno],rfl⟩
end
section
set_option maxRecDepth 100000
set_option maxHeartbeats 2000000
def gt(w:aH)(loc:List aZ)(v:AV)(site next:Int):Blk:=⟨10,[[.lst (w.cells.map aY.enc),.lst (w.locks.map ca.enc),.lst (w.conds.map cP.enc),.lst (w.futures.map au),.lst (w.threads.map au),.lst (w.sites.map cM.enc),.lst (loc.map au),v,.Xm site,.Xm next]]⟩
def bj.at_(i:bj)(s:Int):bj:={i with site:=s}
theorem SJ(bg:Nat)(w:aH)(loc:List aZ)(o:Option Nat)(out:List bj)(site next:Int)(i:bj)(h0:o=none→out=[])(hl:out.length<2^30):
  af Tryz.prog 31 [.ptr bg 0 0,.agg i.enc] ((bg,gt w loc (am o out.length) site next)::ae o 6 (out.map bj.enc)) λu K=>∃(v:AV) (b:Nat),u=v∧v=.tup []∧K=(bg,gt w loc (am (some b) (out.length+1)) site next)::ae (some b) 6 ((out++[i.at_ site]).map bj.enc):=by
 refine af.fz (AG _ _ _ _ ?_);unfold nU;generalize hQ:(λ(v:AV) (L:SH)=>∃v2 L2,aJ [v] L [v2] L2∧∃(v:AV) (b:Nat),v2=v∧v=AV.tup []∧L2=(bg,gt w loc (am (some b) (out.length+1)) site next)::ae (some b) 6 ((out++[i.at_ site]).map bj.enc))=Q;have hq:∀(b:Nat) (L:SH),gN L ((bg,gt w loc (am (some b) (out.length+1)) site next)::ae (some b) 6 (out.map bj.enc++[(i.at_ site).enc]))→Q (.tup []) L:=λb L h=>by subst hQ;refine⟨_,_,aJ.pickE h rfl (R2:=(bg,gt w loc (am (some b) (out.length+1)) site next)::ae (some b) 6 ((out++[i.at_ site]).map bj.enc)) (by rw[VF];rfl),_,b,rfl,rfl,rfl⟩
 clear hQ;unfold gt at *
 repeat' (first|refine st ?_|refine cz rp rp Xk (λe=>by first|simp[h0 e]) Xj Xk (by simp;omega) (by simp;omega) Xj (λnb_ hnb_=>?_)|refine sb λnb_ hnb_=>?_|refine s2 (λh=>?_) λh=>?_|fail)
 cases i;exact hq nb_ _ (.one (.there _ (.there _ (.there _ (.here _)))) (.one (.here _) (.nil _)))
section
variable {bg:Nat} {w:aH} {loc:List aZ} {o:Option Nat} {out:List bj} {site next:Int} {L L1 L2:SH}
theorem SK{i:bj}{KL:R}(h1:eQ bg (gt w loc (am o out.length) site next) L L1)(h2:dP o 6 (out.map bj.enc) L1 L2)(h0:o=none→out=[])(hl:out.length<2^30)
  (hq:∀b:Nat,KL (.tup []) ((bg,gt w loc (am (some b) (out++[i.at_ site]).length) site next)::(L2++ae (some b) 6 ((out++[i.at_ site]).map bj.enc)))):W.callM Tryz.prog 31 [.ptr bg 0 0,.agg i.enc] L KL:=by
 refine xV (M:=L2) (SJ bg w loc o out site next i h0 hl) (h1.perm.trans (h2.perm.cons _)) ?_;rintro _ _ ⟨v,b,rfl,rfl,rfl⟩;refine⟨_,.cons _ V6,?_⟩;have:=hq b;rw[VL]at this;exact this
end
end
section
set_option maxRecDepth 100000
set_option maxHeartbeats 4000000
theorem an{P:Prop}(h:P:=by first|assumption|exact nofun|fail):P:=h
theorem om{P:Prop}(h:P:=by omega):P:=h
def ms(f:FuncId)(args:List AV)(w:aH)(loc:List aZ)(k:Nat):Prop:=∀(bg:Nat) (o:Option Nat) (out:List bj) (site next:Int),(o=none→out=[])→out.length+k<2^30→
 af Tryz.prog f (.ptr bg 0 0::args) ((bg,gt w loc (am o out.length) site next)::ae o 6 (out.map bj.enc)) λu K=>∃(o':Option Nat) (out':List bj) (site' next':Int),u=.tup []∧(o'=none→out'=[])∧out.length≤out'.length∧out'.length≤out.length+k∧K=(bg,gt w loc (am o' out'.length) site' next')::ae o' 6 (out'.map bj.enc)
section
variable {f:FuncId} {args:List AV} {w:aH} {loc:List aZ} {k m bg:Nat} {o:Option Nat} {out:List bj} {site next:Int} {L L1 L2:SH} {KL:R}
theorem cW(h:ms f args w loc k)(h1:eQ bg (gt w loc (am o m) site next) L L1)(h2:dP o 6 (out.map bj.enc) L1 L2)(hm:m=out.length)(h0:o=none→out=[])(hl:out.length+k<2^30)
  (hq:∀(o':Option Nat) (out':List bj) (site' next':Int),(o'=none→out'=[])→out.length≤out'.length→out'.length≤out.length+k→KL (.tup []) ((bg,gt w loc (am o' out'.length) site' next')::(L2++ae o' 6 (out'.map bj.enc)))):W.callM Tryz.prog f (.ptr bg 0 0::args) L KL:=by
 subst hm;refine xV (M:=L2) (h bg o out site next h0 hl) (h1.perm.trans (h2.perm.cons _)) ?_;rintro _ _ ⟨o',out',s',n',rfl,h3,h4,h5,rfl⟩;exact⟨_,.cons _ V6,hq o' out' s' n' h3 h4 h5⟩
theorem qp{b:Nat}(h:ms f args w loc k)(h1:eQ bg (gt w loc (am (some b) m) site next) L L1)(h2:dP (some b) 6 (out.map bj.enc) L1 L2)(hm:m=out.length)(hp:0<out.length)(hl:out.length+k<2^30)
  (hq:∀(b':Nat) (out':List bj) (site' next':Int),out.length≤out'.length→out'.length≤out.length+k→KL (.tup []) ((bg,gt w loc (am (some b') out'.length) site' next')::(L2++ae (some b') 6 (out'.map bj.enc)))):W.callM Tryz.prog f (.ptr bg 0 0::args) L KL:=by
 refine cW h h1 h2 hm nofun hl λo' out' s' n' h3 h4 h5=>?_
 rcases o' with _|b'
 ·have:=h3 rfl;subst this;have h6:out.length≤0:=h4;omega
 ·exact hq b' out' s' n' h4 h5
theorem dB{a0 a1 a2 a3 a4 a5:Int}(h1:eQ bg (gt w loc (am o m) site next) L L1)(h2:dP o 6 (out.map bj.enc) L1 L2)(hm:m=out.length)(h0:o=none→out=[])(hl:out.length<2^30)
  (hq:∀(b:Nat) (out':List bj),out'.length=out.length+1→KL (.tup []) ((bg,gt w loc (am (some b) out'.length) site next)::(L2++ae (some b) 6 (out'.map bj.enc)))):W.callM Tryz.prog 31 [.ptr bg 0 0,.agg [.Xm a0,.Xm a1,.Xm a2,.Xm a3,.Xm a4,.Xm a5]] L KL:=by
 subst hm;exact SK (i:=⟨a0,a1,a2,a3,a4,a5⟩) h1 h2 h0 hl λb=>hq b _ Xk
theorem AP{Q:R}
  (hQ:(λ(v:AV) (L:SH)=>∃v2 L2,aJ [v] L [v2] L2∧∃(o':Option Nat) (out':List bj) (site' next':Int),v2=.tup []∧(o'=none→out'=[])∧out.length≤out'.length∧out'.length≤out.length+k∧L2=(bg,gt w loc (am o' out'.length) site' next')::ae o' 6 (out'.map bj.enc))=Q)
  (o':Option Nat) (out':List bj) (site' next':Int) (j:Nat) (L:SH) (h:gN L ((bg,gt w loc (am o' j) site' next')::ae o' 6 (out'.map bj.enc))) (hj:j=out'.length) (hn:o'=none→out'=[]) (h1:out.length≤out'.length) (h2:out'.length≤out.length+k):Q (.tup []) L:=by
 subst hQ hj;exact⟨_,_,aJ.pick h rfl,o',out',site',next',rfl,hn,h1,h2,rfl⟩
theorem ms.mono{k2:Nat}(h:ms f args w loc k)(hk:k≤k2):ms f args w loc k2:=λbg o out site next h0 hl=>(h bg o out site next h0 Xh).mono λu K ⟨o',out',s',n',a,b,c,d,e⟩=>⟨o',out',s',n',a,b,c,Xh,e⟩
theorem Hk{K:AV→Prop}(h:K (.Xm (out.length:Int)))(h0:o=none→out=[]:=by assumption):W.len (am o out.length) K:=Cy h λe=>by rw[h0 e];rfl
end
theorem SL{op:Int}{name:aZ}{n:Nat}(h:Dl op name n+z0 op<2^50):op≠0∧(n=0→op=1∨op=2)∧(op=3→name=[113]):=by
 unfold Dl z0 z3 at h;refine⟨λe=>?_,λe=>?_,λe=>?_⟩
 ·rw[if_pos e]at h;omega
 ·rw[if_pos e]at h;by_cases g:op=0∨op=1∨op=2
  ·rcases g with g|g|g
   ·rw[if_pos g]at h;omega
   ·exact .inl g
   ·exact .inr g
  ·rw[if_neg g]at h;omega
 ·by_cases g:name=[113]
  ·exact g
  ·rw[if_neg g,if_pos e]at h;omega
theorem Qf:∀(l:List ao) (h:1<l.length),(l[0]'Xh).wt+l[1].wt≤ao.wts l
 |x::y::l,_=>by simp only[ao.wts,List.getElem_cons_zero,List.getElem_cons_succ];omega
structure WQ(w:aH):Prop where
 c:w.cells.length<2^40
 l:w.locks.length<2^40
 d:w.conds.length<2^40
 f:w.futures.length<2^40
 t:w.threads.length<2^40
 q:∃b:Nat,b<w.cells.length∧xi w.cells [113]=b
section
variable {w:aH} {loc:List aZ} (hw:WQ w) (hlo:loc.length<2^40)
include hw hlo
theorem CD:∀(n:Nat) (e:ao) (d:Int),e.wt+z0 e.op≤n→n<2^29→ms 96 [.agg e.row,.Xm d] w loc e.wt:=by
 intro n
 induction n using Nat.strongRecOn with
 |_ n ih=>
 intro e d hn hn2 bg o out site next h0 hl
 have hwe:=e.wt_eq;have kids:∀(i:Nat) (h:i<e.l.length) (d:Int),ms 96 [.agg e.l[i].row,.Xm d] w loc e.l[i].wt:=λi h d=>ih _ (by have:=ao.wts_get0 e.l i h;omega) e.l[i] d (VC _) (by have:=ao.wts_get0 e.l i h;omega)
 have kw:=ao.wts_get0 e.l;have kw2:=Qf e.l;have hx:=λ(i:Nat) (h:i<e.l.length)=>Dk h;obtain⟨b1,b2,b3⟩:=SL (op:=e.op) (name:=e.name) (n:=e.l.length) Xh;have ha:=I5 loc e.name Xh;have hc:=F7 w e.name (by have:=hw.c;omega);refine af.fz (vq _ _ _ _ _ ?_);unfold kJ;generalize hQ:(λ(v:AV) (L:SH)=>∃v2 L2,aJ [v] L [v2] L2∧∃(o':Option Nat) (out':List bj) (site' next':Int),_)=Q;have fin:=AP hQ;clear hQ;unfold ao.row;clear ih hn;generalize e.l=l at *;generalize e.op=op at *;generalize e.name=name at *;by_cases p1:op=1
 ·subst p1
  repeat' (first|refine st ?_|((with_reducible refine aX 31 ?_);(refine dB rp rp om an om (λb_ out_ hl_=>?_)))|refine sb λnb_ hnb_=>?_|refine s2 (λh=>?_) λh=>?_|fail)
  exact fin _ _ _ _ _ _ (.one (.here _) (.slotl .last)) om an om om
 by_cases p2:op=2
 ·subst p2
  repeat' (first|refine st ?_|((with_reducible refine aX 31 ?_);(refine dB rp rp om an om (λb_ out_ hl_=>?_)))|((with_reducible refine ef 31 ?_);refine m8 ?_;refine dB rp rp om an om (λb_ out_ hl_ ks_=>?_))|(refine pf 90 ?_;refine pm (ha) ?_)|(refine pf 127 ?_;refine pm (hc) ?_)|refine sb λnb_ hnb_=>?_|refine s2 (λh=>?_) λh=>?_|fail)
  all_goals exact fin _ _ _ _ _ _ (.one (.here _) (.slotl .last)) om an om om
 have d1:decide (op=1)=false:=decide_eq_false p1;have d2:decide (op=2)=false:=decide_eq_false p2;have hl0:0<l.length:=by
  rcases Wv l.length with h|h
  ·rcases b2 h with h|h
   ·exact absurd h p1
   ·exact absurd h p2
  ·exact h
 have k0:=kids 0 hl0;have x0:=hx 0 hl0;have g0:=kw 0 hl0;by_cases p3:op=3
 ·subst p3;obtain⟨b,hb,hcb⟩:=hw.q;rw[b3 rfl,hcb]at hc;have e3:=b3 rfl;subst e3;have hxc:=aw (f:=aY.enc) hb;clear kids kw kw2 hx b1 b2 b3;generalize l[0]=a at *
  repeat' (first|refine st ?_|((with_reducible refine aX 96 ?_);(refine cW (k0 _) rp rp om an om (λo_ out_ s_ n_ ho_ hl_ hm_=>?_)))|(refine pf 127 ?_;refine pm (hc) ?_)|((with_reducible refine aX 31 ?_);(refine dB rp rp om an om (λb_ out_ hl_=>?_)))|refine sb λnb_ hnb_=>?_|refine s2 (λh=>?_) λh=>?_|fail)
  exact fin _ _ _ _ _ _ (.one (.here _) (.slotl .last)) om an om om
 have d3:decide (op=3)=false:=decide_eq_false p3;by_cases p4:l.length=1
 ·have d4:decide ((l.length:Int)=1)=true:=decide_eq_true Xh;clear kids kw kw2 hx b1 b2 b3;generalize l[0]=a at *
  repeat' (first|refine st ?_|((with_reducible refine aX 96 ?_);(refine cW (k0 _) rp rp om an om (λo_ out_ s_ n_ ho_ hl_ hm_=>?_)))|((with_reducible refine aX 31 ?_);(refine dB rp rp om an om (λb_ out_ hl_=>?_)))|refine sb λnb_ hnb_=>?_|refine s2 (λh=>?_) λh=>?_|fail)
  exact fin _ _ _ _ _ _ (.one (.here _) (.slotl .last)) om an om om
 ·have d4:decide ((l.length:Int)=1)=false:=decide_eq_false Xh;have hl1:1<l.length:=by omega
  have k1:=kids 1 hl1;have x1:=hx 1 hl1;have g1:=kw2 hl1;clear kids kw kw2 hx b1 b2 b3;generalize l[0]=a at *;generalize l[1]=c at *
  repeat' (first|refine st ?_|((with_reducible refine aX 96 ?_);(refine cW (k0 _) rp rp om an om (λo_ out_ s_ n_ ho_ hl_ hm_=>?_)))|((with_reducible refine aX 96 ?_);(refine cW (k1 _) rp rp om an om (λo_ out_ s_ n_ ho_ hl_ hm_=>?_)))|((with_reducible refine aX 31 ?_);(refine dB rp rp om an om (λb_ out_ hl_=>?_)))|refine sb λnb_ hnb_=>?_|refine s2 (λh=>?_) λh=>?_|fail)
  exact fin _ _ _ _ _ _ (.one (.here _) (.slotl .last)) om an om om
end
end
section
set_option maxRecDepth 100000
set_option maxHeartbeats 4000000
theorem Lp{b N off m m2 k:Nat}{kd:IntKind}{out:List bj}{v:AV}{L:SH}{g:Nat×Blk}{KS:SH→Fp→Prop}(hk:k<out.length)(hL:L=g::ae (some b) 6 (out.map bj.enc))(hN:N=out.length)(f:bj→bj)(he:∀i:bj,i.enc.set off v=(f i).enc)(ho:off<6)(hv:v.cells? =some [v])(h1:v.one=true)
  (kk:∀(out2:List bj) (r:Fp),out2.length=out.length→KS (g::ae (some b) 6 (out2.map bj.enc)) r):di [] m 6 (am (some b) N) (.int kd (k:Int)) L λx r=>W.faddr off x λy=>ds [] m2 1 y v L KS:=by
 subst hN hL;refine Ry (GB (dC (sX (zk (TV (GB ?_)))) hk (.tail _ (.head _)) rfl));refine A3 (x:=⟨6,out.map bj.enc⟩) (r:=out[k].enc) (x':=⟨6,(out.set k (f out[k])).map bj.enc⟩) (.there _ (.here _)) (aw hk) hv h1 (by rw[Ww];exact ho) ?_ (sX (kk _ _ Xk));rw[Wx,Ww,he]
theorem Vv{b N m m2 k:Nat}{kd:IntKind}{n:Int}{out:List bj}{L:SH}{g:Nat×Blk}{KS:SH→Fp→Prop}(hL:L=g::ae (some b) 6 (out.map bj.enc))(hN:N=out.length)(hk:k<out.length)
  (kk:∀(out2:List bj) (r:Fp),out2.length=out.length→KS (g::ae (some b) 6 (out2.map bj.enc)) r):di [] m 6 (am (some b) N) (.int kd (k:Int)) L λx r=>W.faddr 2 x λy=>ds [] m2 1 y (.Xm n) L KS:=
 Lp hk hL hN (λi=>{i with b:=n}) (λ_=>rfl) Xl rfl rfl kk
theorem Vw{b N m m2 k:Nat}{kd:IntKind}{n:Int}{out:List bj}{L:SH}{g:Nat×Blk}{KS:SH→Fp→Prop}(hL:L=g::ae (some b) 6 (out.map bj.enc))(hN:N=out.length)(hk:k<out.length)
  (kk:∀(out2:List bj) (r:Fp),out2.length=out.length→KS (g::ae (some b) 6 (out2.map bj.enc)) r):di [] m 6 (am (some b) N) (.int kd (k:Int)) L λx r=>W.faddr 1 x λy=>ds [] m2 1 y (.Xm n) L KS:=
 Lp hk hL hN (λi=>{i with a:=n}) (λ_=>rfl) Xl rfl rfl kk
theorem SM(bg:Nat)(w:aH)(loc:List aZ)(v:AV)(site next:Int)(s:aZ)(hl:w.conds.length<2^62):
  af Tryz.prog 95 [.ptr bg 0 0,.str s] [(bg,gt w loc v site next)] λu K=>∃n:Int,u=.Xm n∧K=[(bg,gt w loc v site next)]:=by
 refine yB _ _ _ _ ?_;unfold mn;refine mb w.conds.length (λi=>[.ptr bg 0 0,.str s,.Xm i]) hl rfl (λi h1 hd hi nx hn=>?_) (λi h1 hd nx=>?_)
 all_goals unfold kK
 ·have hx:=aw (f:=cP.enc) h1;unfold gt at *
  repeat' (first|refine st ?_|refine sb λnb_ hnb_=>?_|refine s2 (λh=>?_) λh=>?_|fail)
  all_goals first|exact⟨_,rfl,rfl⟩|exact hn
 ·unfold gt at *
  repeat' (first|refine st ?_|refine sb λnb_ hnb_=>?_|refine s2 (λh=>?_) λh=>?_|fail)
  exact⟨_,rfl,rfl⟩
section
variable {w:aH} {loc:List aZ} (hw:WQ w) (hlo:loc.length<2^40)
include hw hlo
theorem OJ(x:ab)(hx:x.wt<2^29)(h1:x.op=1):ms 92 [.agg x.row] w loc (ao.wts x.index+x.expr.wt+1):=by
 intro bg o out site next h0 hl
 have hwe:=x.wt_eq;rw[h1,show zv 1 x.expr.op=z0 x.expr.op from rfl]at hwe;have ve:=λd=>CD hw hlo _ x.expr d (VC _) Xh
 have vi:=λ(i:Nat) (h:i<x.index.length) d=>CD hw hlo _ x.index[i] d (VC _) (by have:=ao.wts_get0 x.index i h;omega);have gi:=ao.wts_get0 x.index;have hxi:=λ(i:Nat) (h:i<x.index.length)=>Dk h;have ha:=I5 loc x.name Xh;have hc:=F7 w x.name (by have:=hw.c;omega);refine af.fz (sa _ _ _ _ ?_);unfold jX;generalize hQ:(λ(v:AV) (L:SH)=>∃v2 L2,aJ [v] L [v2] L2∧∃(o':Option Nat) (out':List bj) (site' next':Int),_)=Q;have fin:=AP hQ;clear hQ;unfold ab.row ao.row at *;by_cases p:x.index.length=0
 ·have d1:decide ((0:Int)<(x.index.length:Int))=false:=decide_eq_false Xh;clear vi gi hxi
  repeat' (first|refine st ?_|((with_reducible refine aX 96 ?_);(refine cW (ve _) rp rp om an om (λo_ out_ s_ n_ ho_ hl_ hm_=>?_)))|(refine pf 90 ?_;refine pm (ha) ?_)|(refine pf 127 ?_;refine pm (hc) ?_)|((with_reducible refine aX 31 ?_);(refine dB rp rp om an om (λb_ out_ hl_=>?_)))|((with_reducible refine ef 31 ?_);refine m8 ?_;refine dB rp rp om an om (λb_ out_ hl_ ks_=>?_))|refine sb λnb_ hnb_=>?_|refine s2 (λh=>?_) λh=>?_|fail)
  all_goals exact fin _ _ _ _ _ _ (.one (.here _) (.slotl .last)) om an om om
 ·have d1:decide ((0:Int)<(x.index.length:Int))=true:=decide_eq_true Xh;have p0:0<x.index.length:=by omega
  have v0:=vi 0 p0;have g0:=gi 0 p0;have x0:=hxi 0 p0;obtain⟨b,hb,hcb⟩:=hw.q;have e3:x.name=[113]:=by
   by_cases g:x.name=[113]
   ·exact g
   ·unfold zi at hwe;rw[if_neg (by rintro(h|h);exact p h;exact g h)]at hwe;omega
  rw[e3,hcb]at hc;rw[e3];have hxc:=aw (f:=aY.enc) hb;clear vi gi hxi;generalize x.index[0]=a at *
  repeat' (first|refine st ?_|((with_reducible refine aX 96 ?_);(refine cW (v0 _) rp rp om an om (λo_ out_ s_ n_ ho_ hl_ hm_=>?_)))|((with_reducible refine aX 96 ?_);(refine cW (ve _) rp rp om an om (λo_ out_ s_ n_ ho_ hl_ hm_=>?_)))|(refine pf 127 ?_;refine pm (hc) ?_)|((with_reducible refine aX 31 ?_);(refine dB rp rp om an om (λb_ out_ hl_=>?_)))|refine sb λnb_ hnb_=>?_|refine s2 (λh=>?_) λh=>?_|fail)
  exact fin _ _ _ _ _ _ (.one (.here _) (.slotl .last)) om an om om
theorem Ki(x:ab){kb ke:Nat}(hx:x.wt<2^29)(h1:x.op=2∨x.op=3)(hB:ms 30 [.lst (x.body.map ab.enc)] w loc kb)(hE:ms 30 [.lst (x.els.map ab.enc)] w loc ke):ms 93 [.agg x.row] w loc (x.expr.wt+kb+ke+2):=by
 intro bg o out site next h0 hl
 have hwe:=x.wt_eq;have hz:zv x.op x.expr.op=z0 x.expr.op:=if_pos Xh;have ve:=λd=>CD hw hlo _ x.expr d (VC _) Xh
 refine af.fz (oS _ _ _ _ ?_);unfold io;generalize hQ:(λ(v:AV) (L:SH)=>∃v2 L2,aJ [v] L [v2] L2∧∃(o':Option Nat) (out':List bj) (site' next':Int),_)=Q;have fin:=AP hQ;clear hQ;unfold ab.row ao.row at *;clear hwe hz hx;generalize x.op=op at *;have h9:decide (op=3)=true∨decide (op=3)=false:=by cases decide (op=3)<;>simp
 have e9:decide ((x.els.length:Int)=0)=true∨decide ((x.els.length:Int)=0)=false:=by cases decide ((x.els.length:Int)=0)<;>simp
 clear h1;rcases h9 with h9|h9
 ·repeat' (first|refine Vv Xj om om (λout_ r_ hp_=>?_)|refine Vw Xj om om (λout_ r_ hp_=>?_)|refine st ?_|refine Hk ?_|((with_reducible refine ef 96 ?_);refine m8 ?_;refine cW (ve _) rp rp om an om (λo_ out_ s_ n_ ho_ hl_ hm_ ks_=>?_))|((with_reducible refine aX 31 ?_);(refine dB rp rp om an om (λb_ out_ hl_=>?_)))|((with_reducible refine aX 30 ?_);(refine qp hB rp rp om om om (λb_ out_ s_ n_ hl_ hm_=>?_)))|refine sb λnb_ hnb_=>?_|fail)
  exact fin _ _ _ _ _ _ (.one (.here _) (.slotl .last)) om an om om
 rcases e9 with e9|e9
 ·repeat' (first|refine Vv Xj om om (λout_ r_ hp_=>?_)|refine Vw Xj om om (λout_ r_ hp_=>?_)|refine st ?_|refine Hk ?_|((with_reducible refine ef 96 ?_);refine m8 ?_;refine cW (ve _) rp rp om an om (λo_ out_ s_ n_ ho_ hl_ hm_ ks_=>?_))|((with_reducible refine aX 31 ?_);(refine dB rp rp om an om (λb_ out_ hl_=>?_)))|((with_reducible refine aX 30 ?_);(refine qp hB rp rp om om om (λb_ out_ s_ n_ hl_ hm_=>?_)))|refine sb λnb_ hnb_=>?_|fail)
  exact fin _ _ _ _ _ _ (.one (.here _) (.slotl .last)) om an om om
 ·repeat' (first|refine Vv Xj om om (λout_ r_ hp_=>?_)|refine Vw Xj om om (λout_ r_ hp_=>?_)|refine st ?_|refine Hk ?_|((with_reducible refine ef 96 ?_);refine m8 ?_;refine cW (ve _) rp rp om an om (λo_ out_ s_ n_ ho_ hl_ hm_ ks_=>?_))|((with_reducible refine aX 31 ?_);(refine dB rp rp om an om (λb_ out_ hl_=>?_)))|((with_reducible refine aX 30 ?_);(refine qp hB rp rp om om om (λb_ out_ s_ n_ hl_ hm_=>?_)))|((with_reducible refine aX 30 ?_);(refine qp hE rp rp om om om (λb_ out_ s_ n_ hl_ hm_=>?_)))|refine sb λnb_ hnb_=>?_|fail)
  exact fin _ _ _ _ _ _ (.one (.here _) (.slotl .last)) om an om om
omit hw hlo in
theorem OK(x:ab){kb:Nat}{f l ob:Int}(hB:ms 30 [.lst (x.body.map ab.enc)] w loc kb):ms 94 [.agg x.row,.Xm f,.Xm l,.Xm ob] w loc (kb+2):=by
 intro bg o out site next h0 hl
 refine af.fz (sg _ _ _ _ _ _ _ ?_);unfold jY;generalize hQ:(λ(v:AV) (L:SH)=>∃v2 L2,aJ [v] L [v2] L2∧∃(o':Option Nat) (out':List bj) (site' next':Int),_)=Q;have fin:=AP hQ;clear hQ;unfold ab.row at *
 repeat' (first|refine st ?_|((with_reducible refine aX 31 ?_);(refine dB rp rp om an om (λb_ out_ hl_=>?_)))|((with_reducible refine aX 30 ?_);(refine qp hB rp rp om om om (λb_ out_ s_ n_ hl_ hm_=>?_)))|refine sb λnb_ hnb_=>?_|fail)
 exact fin _ _ _ _ _ _ (.one (.here _) (.slotl .last)) om an om om
theorem SN(x:ab){kb ke:Nat}(hx:x.wt<2^29)(hB:ms 30 [.lst (x.body.map ab.enc)] w loc kb)(hE:ms 30 [.lst (x.els.map ab.enc)] w loc ke):ms 61 [.agg x.row] w loc (ao.wts x.index+x.expr.wt+kb+ke+2):=by
 intro bg o out site next h0 hl
 have hwe:=x.wt_eq;have c1:=Ms w.locks x.name (by have:=hw.l;omega);have c2:=I5 w.threads x.name (by have:=hw.t;omega);have c3:=I5 w.futures x.name (by have:=hw.f;omega);have c4:=I5 w.futures x.arg (by have:=hw.f;omega);have c5:=I5 loc x.name Xh;have cc:=λ(v:AV) (site next:Int)=>SM bg w loc v site next x.name (by have:=hw.d;omega)
 have ve:=λ(h:x.op=14) d=>CD hw hlo _ x.expr d (VC _) (by rw[h,show zv 14 x.expr.op=z0 x.expr.op from rfl]at hwe;omega);have va:=OJ hw hlo x hx;have vb:=λh=>Ki hw hlo x hx h hB hE
 have vr:=λ(f l ob:Int)=>OK x (f:=f) (l:=l) (ob:=ob) hB;refine af.fz (yW _ _ _ _ ?_);unfold mo;generalize hQ:(λ(v:AV) (L:SH)=>∃v2 L2,aJ [v] L [v2] L2∧∃(o':Option Nat) (out':List bj) (site' next':Int),_)=Q;have fin:=AP hQ;clear hQ;clear hB hE hwe hx;obtain⟨op,line,name,arg,index,e,body,els⟩:=x;unfold ab.row ao.row at *;dsimp only[ab.op,ab.line,ab.name,ab.arg,ab.index,ab.expr,ab.body,ab.els]at *
 repeat' (first|refine st ?_|((with_reducible refine aX 92 ?_);(refine cW (va (of_decide_eq_true Xi)) rp rp om an om (λo_ out_ s_ n_ ho_ hl_ hm_=>?_)))|((with_reducible refine aX 93 ?_);(refine cW (vb (by first|exact .inl (of_decide_eq_true Xi)|exact .inr (of_decide_eq_true Xi))) rp rp om an om (λo_ out_ s_ n_ ho_ hl_ hm_=>?_)))|((with_reducible refine ef 94 ?_);refine m8 ?_;refine cW (vr _ _ _) rp rp om an om (λo_ out_ s_ n_ ho_ hl_ hm_ ks_=>?_))|((with_reducible refine aX 94 ?_);(refine cW (vr _ _ _) rp rp om an om (λo_ out_ s_ n_ ho_ hl_ hm_=>?_)))|((with_reducible refine aX 95 ?_);(refine km (cc _ _ _) rp ?_;rintro _ _ ⟨n_,rfl,rfl⟩;dsimp only[List.cons_append,List.nil_append]))|((with_reducible refine ef 95 ?_);refine m8 ?_;refine km (cc _ _ _) rp ?_;rintro _ _ ⟨n_,rfl,rfl⟩ ks_;dsimp only[List.cons_append,List.nil_append])|(refine pf 59 ?_;refine pm (c1) ?_)|(refine pf 90 ?_;refine pm (c2) ?_)|(refine pf 90 ?_;refine pm (c3) ?_)|(refine pf 90 ?_;refine pm (c4) ?_)|(refine pf 90 ?_;refine pm (c5) ?_)|((with_reducible refine aX 96 ?_);(refine cW (ve (of_decide_eq_true Xi) _) rp rp om an om (λo_ out_ s_ n_ ho_ hl_ hm_=>?_)))|((with_reducible refine aX 31 ?_);(refine dB rp rp om an om (λb_ out_ hl_=>?_)))|((with_reducible refine ef 31 ?_);refine m8 ?_;refine dB rp rp om an om (λb_ out_ hl_ ks_=>?_))|refine sb λnb_ hnb_=>?_|refine s2 (λh=>?_) λh=>?_|fail)
 all_goals exact fin _ _ _ _ _ _ (.one (.here _) (.slotl .last)) om an om om
end
end
mutual
def Kj(t:Nat):Nat→ab→List cM
 |n,.mk _ line _ _ _ _ body els=>⟨t,n,line⟩::(sitL t (n+1) body++sitL t (n+1+ab.cnts body) els)
def sitL(t:Nat):Nat→List ab→List cM
 |_,[]=>[]
 |n,x::l=>Kj t n x++sitL t (n+1+x.cnt) l
end
theorem Qg(t n:Nat)(x:ab):Kj t n x=⟨t,n,x.line⟩::(sitL t (n+1) x.body++sitL t (n+1+ab.cnts x.body) x.els):=by cases x;rw[Kj];rfl
mutual
theorem OL(t:Nat):∀(n:Nat) (x:ab),(Kj t n x).length=1+x.cnt
 |n,.mk a b c d e f body els=>by rw[Kj];simp only[VZ,VL,sitL_len t _ body,sitL_len t _ els,ab.cnt];omega
theorem sitL_len(t:Nat):∀(n:Nat) (l:List ab),(sitL t n l).length=ab.cnts l
 |n,[]=>rfl
 |n,x::l=>by rw[sitL];simp only[VL,OL t _ x,sitL_len t _ l,ab.cnts]
end
theorem ab.cnts_append:∀l m:List ab,ab.cnts (l++m)=ab.cnts l+ab.cnts m
 |[],m=>by simp[ab.cnts]
 |x::l,m=>by simp only[WO,ab.cnts,ab.cnts_append l m];omega
theorem Be(t:Nat):∀(n:Nat) (l m:List ab),sitL t n (l++m)=sitL t n l++sitL t (n+ab.cnts l) m
 |n,[],m=>by simp[sitL,ab.cnts]
 | n,x::l,m=>by simp only[WO,sitL,Be t _ l m,ab.cnts,Wh];rw[show n+1+x.cnt+ab.cnts l=n+(1+x.cnt+ab.cnts l) by omega]
def aI.celW(d:aI):List aY:=(List.range (max d.size 1).toNat).map λk=>⟨d.name,(k:Nat),d.size,decide (d.kind=2),d.init⟩
def bS(w:aH)(d:aI):aH:=
 if d.kind=1∨d.kind=2 then {w with cells:=w.cells++d.celW} else
 if d.kind=3∨d.kind=4 then {w with locks:=w.locks++[⟨d.name,decide (d.kind=4)⟩]} else
 if d.kind=5 then {w with conds:=w.conds++[⟨d.name,fX w.locks d.on⟩]} else {w with futures:=w.futures++[d.name]}
def aH.zero:aH:=⟨[],[],[],[],[],[]⟩
def du(w:aH)(t:ah):aH:={w with threads:=w.threads++[t.name],sites:=w.sites++sitL w.threads.length 0 t.body}
def lB(p:bP):aH:=p.threads.foldl du (p.decls.foldl bS aH.zero)
theorem vN{α β:Type}{f:β→α→β}{l:List α}{a:β}{i:Nat}(h:i<l.length):(l.take (i+1)).foldl f a=f ((l.take i).foldl f a) l[i]:=by rw[VJ h,List.foldl_append];rfl
section
set_option maxRecDepth 100000
set_option maxHeartbeats 2000000
def UQ(t:Nat)(l:List ab):Prop:=∀(o:Option Nat) (out:List cM) (n:Nat),(o=none→out=[])→out.length+ab.cnts l<2^30→n+ab.cnts l<2^30→
 af Tryz.prog 60 [am o out.length,.Xm t,.Xm n,.lst (l.map ab.enc)] (ae o 3 (out.map cM.enc)) λu K=>∃(v:AV) (o':Option Nat),u=v∧v=.tup [am o' (out++sitL t n l).length,.Xm ((n+ab.cnts l:Nat):Int)]∧(o'=none→out++sitL t n l=[])∧K=ae o' 3 ((out++sitL t n l).map cM.enc)
theorem Kk{t n k:Nat}{l:List ab}{o:Option Nat}{out:List cM}{rows:List (List AV)}{L L2:SH}{KL:R}(h:UQ t l)(h2:dP o 3 rows L L2)(hr:rows=out.map cM.enc)(hk:k=out.length)(h0:o=none→out=[])(hl:out.length+ab.cnts l<2^30)(hn:n+ab.cnts l<2^30)
  (hq:∀o':Option Nat,(o'=none→out++sitL t n l=[])→KL (.tup [am o' (out++sitL t n l).length,.Xm ((n+ab.cnts l:Nat):Int)]) (L2++ae o' 3 ((out++sitL t n l).map cM.enc))):W.callM Tryz.prog 60 [am o k,.Xm t,.Xm n,.lst (l.map ab.enc)] L KL:=by
 subst hr hk;refine xV (M:=L2) (h o out n h0 hl hn) h2.perm ?_;rintro _ _ ⟨v,o',rfl,rfl,h3,rfl⟩;exact⟨_,V6,hq o' h3⟩
theorem OM(t:Nat):∀(k:Nat) (l:List ab),ab.wts l≤k→k<2^40→UQ t l:=by
 intro k
 induction k using Nat.strongRecOn with
 |_ k ih=>
  intro l hl hk o out n h0 h1 h2;have hlen:=ab.wts_len l;refine af.fz (EB _ _ _ _ _ _ ?_);unfold sP;generalize hQ:(λ(v:AV) (L:SH)=>∃v2 L2,aJ [v] L [v2] L2∧∃(v:AV) (o':Option Nat),_)=Q;have fin:∀o':Option Nat,(o'=none→out++sitL t n l=[])→Q (.tup [am o' (out++sitL t n l).length,.Xm ((n+ab.cnts l:Nat):Int)]) (ae o' 3 ((out++sitL t n l).map cM.enc)):=λo' h=>by subst hQ;exact⟨_,_,.refl _ _,_,o',rfl,rfl,h,rfl⟩
  clear hQ;refine cg l.length (λi o'=>([am o' (out++sitL t n (l.take i)).length,.Xm t,.Xm ((n+ab.cnts (l.take i):Nat):Int),.lst (l.map ab.enc),.Xm i],ae o' 3 ((out++sitL t n (l.take i)).map cM.enc))) (λi o'=>o'=none→out++sitL t n (l.take i)=[]) o (by simpa[sitL]using h0) (by simpa[sitL,ab.cnts]using aJ.refl _ _) ?_;rintro i o1 hi hG;dsimp only;unfold qn;generalize hnx:(λ(vs':List AV) (L':SH)=>∃j o',i<j∧j≤l.length∧_)=nx;rcases Nat.lt_or_ge i l.length with g1|g1
  ·have hd:=bF g1;have hi1:=aE g1 Xh;have hx:=FK g1;have hwi:=ab.wts_get l i g1;have hwe:=(l[i]).wt_eq;have hce:=(l[i]).cnt_eq;have c1:=ih _ Xh l[i].body (VC _) Xh;have c2:=ih _ Xh l[i].els (VC _) Xh;have e1:l=l.take i++(l[i]::l.drop (i+1)):=by rw[List.getElem_cons_drop,List.take_append_drop]
   have e2:ab.cnts l=ab.cnts (l.take i)+(1+l[i].cnt+ab.cnts (l.drop (i+1))):=by
    conv=>lhs;rw[e1]
    rw[ab.cnts_append];rfl
   have e3:sitL t n (l.take (i+1))=sitL t n (l.take i)++Kj t (n+ab.cnts (l.take i)) l[i]:=by rw[VJ g1,Be];simp[sitL]
   have e4:ab.cnts (l.take (i+1))=ab.cnts (l.take i)+(1+l[i].cnt):=by rw[VJ g1,ab.cnts_append];simp[ab.cnts]
   have hn:∀(o':Option Nat) (out':List cM) (m:Nat),out'=out++sitL t n (l.take i)++Kj t (n+ab.cnts (l.take i)) l[i]→m=n+ab.cnts (l.take i)+(1+l[i].cnt)→(o'=none→out'=[])→∀L':SH,gN L' (ae o' 3 (out'.map cM.enc))→nx [am o' out'.length,.Xm t,.Xm (m:Nat),.lst (l.map ab.enc),.Xm ((i+1:Nat):Int)] L':=by
    intro o' out' m q1 q2 q3 L' q4;subst hnx;refine⟨i+1,o',Xh,Xh,?_,?_⟩
    ·rw[e3,←Wh,←q1];exact q3
    ·rw[e3,←Wh,←q1,e4,←Wt,←q2];exact .pick q4 rfl
   clear hnx;have hlo:(out++sitL t n (l.take i)).length=out.length+ab.cnts (l.take i):=by rw[VL,sitL_len]
   generalize out++sitL t n (l.take i)=OUT at *;generalize hN:n+ab.cnts (l.take i)=N at *;generalize l[i]=x at *;have a1:IntKind.i64.wrap ((N:Int)+1)=((N+1:Nat):Int):=by rw[Wr _ Xh];omega
   have ho':o1=none→OUT.map cM.enc=[]:=λe=>by rw[hG e];rfl
   repeat' (first|refine st ?_|refine cz rp rp Xk (λe=>by first|simp[ho' e]) Xj Xk (by simp;omega) (by simp;omega) Xj (λnb_ hnb_=>?_)|((with_reducible refine aX 60 ?_);(refine Kk c1 (o:=some _) (out:=OUT++[⟨t,N,x.line⟩]) rp (by rw[List.map_append];rfl) Xk nofun (by simp;omega) Xh (λo_ ho_=>?_);dsimp only[List.cons_append,List.nil_append]))|((with_reducible refine aX 60 ?_);(refine Kk c2 rp rfl rfl ho_ (by simp[sitL_len];omega) Xh (λo_ ho_=>?_);dsimp only[List.cons_append,List.nil_append]))|refine sb λnb_ hnb_=>?_|refine s2 (λh=>?_) λh=>?_|fail)
   exact hn o_ _ _ (by simp[Qg,Wh]) Xh ho_ _ (.slotl rp)
  ·have hd:=bI g1;have:i=l.length:=by omega
   subst this;rw[List.take_length]at *
   repeat' (first|refine st ?_|refine sb λnb_ hnb_=>?_|refine s2 (λh=>?_) λh=>?_|fail)
   exact fin _ hG
end
section
set_option maxRecDepth 100000
set_option maxHeartbeats 2000000
theorem EN(o:Option Nat)(l:List ca)(x:aZ)(h0:o=none→l=[])(hl:l.length<2^62):
  af Tryz.prog 59 [am o l.length,.str x] (ae o 2 (l.map ca.enc)) λu K=>u=.Xm (fX l x)∧K=ae o 2 (l.map ca.enc):=by
 refine nS _ _ _ _ ?_;unfold jS;generalize hL:ae o 2 (l.map ca.enc)=L;generalize hQ:(λ(u:AV) (K:SH)=>u=AV.Xm (fX l x)∧K=L)=Q;have hq:∀r:Int,r=fX l x→Q (.Xm r) L:=λr h=>by subst hQ h;exact⟨rfl,rfl⟩
 clear hQ;subst hL;cases o with
 |none=>
  have:=h0 rfl;subst this;dsimp only[ae,am,List.length_nil]at *;refine pk 0 (λ_=>True) (λi=>[.emp,.str x,.Xm i]) Xh trivial rfl (λi h1 hd hi _ nx hn=>by omega) (λi h1 hd _ nx=>?_);unfold fC
  repeat' (first|refine st ?_|refine sb λnb_ hnb_=>?_|refine s2 (λh=>?_) λh=>?_|fail)
  exact hq _ rfl
 |some b1=>
  dsimp only[ae,am]at *;refine fw l (λy=>decide (y.name=x)) (λi=>[.sl b1 0 l.length,.str x,.Xm i]) hl rfl (λi h1 hd hi hno nx hn=>?_) (λi h1 hd hno nx=>?_)
  all_goals unfold fC
  ·have hx:=aw (f:=ca.enc) h1
   repeat' (first|refine st ?_|refine sb λnb_ hnb_=>?_|refine s2 (λh=>?_) λh=>?_|fail)
   ·exact hq _ (by rw[fX,pn h1 hno h])
   ·exact hn h
  ·repeat' (first|refine st ?_|refine sb λnb_ hnb_=>?_|refine s2 (λh=>?_) λh=>?_|fail)
   exact hq _ (by rw[fX,gQ hno])
def SO:List AV:=[.nils,.nils,.nils,.nils,.nils,.nils]
def EU(b2 b6:Nat)(oc ol od of ot os:Option Nat)(w:aH):SH:=
 (b6,⟨6,[[am oc w.cells.length,am ol w.locks.length,am od w.conds.length,am of w.futures.length,am ot w.threads.length,am os w.sites.length]]⟩)::(b2,⟨6,[SO]⟩) ::
  (ae oc 5 (w.cells.map aY.enc)++(ae ol 2 (w.locks.map ca.enc)++(ae od 2 (w.conds.map cP.enc)++(ae of 1 (w.futures.map au)++(ae ot 1 (w.threads.map au)++ae os 3 (w.sites.map cM.enc))))))
structure Fo(b6:Nat)(oc ol od of ot os:Option Nat)(w:aH):Prop where
 c:oc=none→w.cells=[]
 l:ol=none→w.locks=[]
 d:od=none→w.conds=[]
 f:of=none→w.futures=[]
 t:ot=none→w.threads=[]
 s:os=none→w.sites=[]
 n:∀b,ol=some b→b6≠b
def QZ(K:SH→Prop)(b2 b6:Nat)(w:aH):Prop:=∀(oc ol od of ot os:Option Nat) (L':SH) (v0 v1 v2 v3 v4 v5:AV) (r0 r1 r2 r3 r4 r5:List (List AV)),Fo b6 oc ol od of ot os w→
 gN L' ((b6,⟨6,[[v0,v1,v2,v3,v4,v5]]⟩)::(b2,⟨6,[SO]⟩)::(ae oc 5 r0++(ae ol 2 r1++(ae od 2 r2++(ae of 1 r3++(ae ot 1 r4++ae os 3 r5))))))→
 [v0,v1,v2,v3,v4,v5]=[am oc w.cells.length,am ol w.locks.length,am od w.conds.length,am of w.futures.length,am ot w.threads.length,am os w.sites.length]→
 r0=w.cells.map aY.enc→r1=w.locks.map ca.enc→r2=w.conds.map cP.enc→r3=w.futures.map au→r4=w.threads.map au→r5=w.sites.map cM.enc→K L'
theorem QZ.of{K:SH→Prop}{b2 b6:Nat}{w:aH}(h:∀(oc ol od of ot os:Option Nat) (L':SH),Fo b6 oc ol od of ot os w→gN L' (EU b2 b6 oc ol od of ot os w)→K L'):QZ K b2 b6 w:=by intro oc ol od of ot os L' v0 v1 v2 v3 v4 v5 r0 r1 r2 r3 r4 r5 h1 h2 h3 e0 e1 e2 e3 e4 e5;simp only[List.cons.injEq,and_true]at h3;obtain⟨rfl,rfl,rfl,rfl,rfl,rfl⟩:=h3;subst e0 e1 e2 e3 e4 e5;exact h oc ol od of ot os L' h1 h2
section
variable {n18:Kn} {b2 b6 i:Nat} {oc ol od of ot os:Option Nat} {w:aH} {rows tl:List (List AV)}
theorem Q0{line size init:Int}{name on:aZ}{kind:Int}(hk:kind=1∨kind=2)(hs:size≤1000)(hi1:IntKind.i64.wrap ((i:Int)+1)=((i+1:Nat):Int))(ho:Fo b6 oc ol od of ot os w)(hlen:w.cells.length<2^30)
  (hn:QZ (n18 [.pptr [[.lst rows,.lst tl]] 0 0,.ptr b2 0 0,.ptr b6 0 0,.Xm ((i+1:Nat):Int)]) b2 b6 {w with cells:=w.cells++aI.celW ⟨kind,line,name,size,init,on⟩}) :
  W.loop (jT n18) [.pptr [[.lst rows,.lst tl]] 0 0,.ptr b2 0 0,.ptr b6 0 0,.Xm i,.pptr [[.Xm kind,.Xm line,.str name,.Xm size,.Xm init,.str on]] 0 0,.Xm 0] (EU b2 b6 oc ol od of ot os w):=by
 generalize hN:(max size 1).toNat=N at *;have hN1:N≤1000:=by omega
 have hcl:aI.celW ⟨kind,line,name,size,init,on⟩=(List.range N).map λk=>⟨name,(k:Nat),size,decide (kind=2),init⟩:=by unfold aI.celW;rw[hN]
 rw[hcl]at hn;obtain⟨WK,hWK⟩:∃f:Nat→aH,f=λk=>{w with cells:=w.cells++(List.range k).map λk=>⟨name,(k:Nat),size,decide (kind=2),init⟩}:=⟨_,rfl⟩
 refine cg (β:=Option Nat×Option Nat×Option Nat×Option Nat×Option Nat×Option Nat) N (λk q=>([.pptr [[.lst rows,.lst tl]] 0 0,.ptr b2 0 0,.ptr b6 0 0,.Xm i,.pptr [[.Xm kind,.Xm line,.str name,.Xm size,.Xm init,.str on]] 0 0,.Xm k],EU b2 b6 q.1 q.2.1 q.2.2.1 q.2.2.2.1 q.2.2.2.2.1 q.2.2.2.2.2 (WK k)))
  (λk q=>Fo b6 q.1 q.2.1 q.2.2.1 q.2.2.2.1 q.2.2.2.2.1 q.2.2.2.2.2 (WK k)) (oc,ol,od,of,ot,os) (by subst hWK;show Fo b6 oc ol od of ot os {w with cells:=w.cells++[]};rw[Wi];exact ho) (by subst hWK;show aJ _ _ _ (EU b2 b6 oc ol od of ot os {w with cells:=w.cells++[]});rw[Wi];exact aJ.refl _ _) ?_
 rintro k ⟨oc,ol,od,of,ot,os⟩ hk ho;dsimp only at ho ⊢;unfold jT;generalize hnx:(λ(vs':List AV) (L':SH)=>∃j o',k<j∧j≤N∧_)=nx;rcases Nat.lt_or_ge k N with g1|g1
 ·have hd:=bF g1;have hk1:=aE g1 Xh;have hrs:List.range (k+1)=List.range k++[k]:=List.range_succ;have hgo:QZ (nx [.pptr [[.lst rows,.lst tl]] 0 0,.ptr b2 0 0,.ptr b6 0 0,.Xm i,.pptr [[.Xm kind,.Xm line,.str name,.Xm size,.Xm init,.str on]] 0 0,.Xm ((k+1:Nat):Int)]) b2 b6 {w with cells:=w.cells++(List.range k).map (λk=>(⟨name,(k:Nat),size,decide (kind=2),init⟩:aY))++[⟨name,(k:Nat),size,decide (kind=2),init⟩]}:=.of λoc2 ol2 od2 of2 ot2 os2 L' q1 q2=>by
   subst hnx;subst hWK;have e:(λk=>({w with cells:=w.cells++(List.range k).map λk=>(⟨name,(k:Nat),size,decide (kind=2),init⟩:aY)}:aH)) (k+1)={w with cells:=w.cells++(List.range k).map (λk=>(⟨name,(k:Nat),size,decide (kind=2),init⟩:aY))++[⟨name,(k:Nat),size,decide (kind=2),init⟩]}:=by show({w with cells:=w.cells++(List.range (k+1)).map (λk=>(⟨name,(k:Nat),size,decide (kind=2),init⟩:aY))}:aH)=_;rw[hrs,VF,←Wh];rfl
   exact⟨k+1,(oc2,ol2,od2,of2,ot2,os2),Xh,Xh,by rw[e];exact q1,by rw[e];exact aJ.pick q2 rfl⟩
  clear hnx;have hCl:(w.cells++(List.range k).map (λk=>(⟨name,(k:Nat),size,decide (kind=2),init⟩:aY))).length<2^31:=by simp;omega
  obtain⟨wc,wl,wd,wf,wt,ws⟩:=w;subst hWK;dsimp only at *;generalize wc++(List.range k).map (λk=>(⟨name,(k:Nat),size,decide (kind=2),init⟩:aY))=C at *;have hC0:oc=none→C.map aY.enc=[]:=λe=>by have hc:=ho.c e;dsimp only at hc;rw[hc];rfl
  unfold EU
  repeat' (first|rw[hN]|refine st ?_|refine cz rp rp Xk (λe=>by first|simp[hC0 e]) Xj Xk (by simp;omega) (by simp;omega) Xj (λnb_ hnb_=>?_)|refine Oy ?_|refine sb λnb_ hnb_=>?_|refine s2 (λh=>?_) λh=>?_|fail)
  exact hgo (some nb_) ol od of ot os _ _ _ _ _ _ _ _ _ _ _ _ _ ⟨nofun,ho.l,ho.d,ho.f,ho.t,ho.s,ho.n⟩ rp (by simp[am]) (by rw[VF];rfl) rfl rfl rfl rfl rfl
 ·have hd:=bI g1;have e:k=N:=by omega
  subst e;subst hWK;dsimp only at *;unfold EU
  repeat' (first|rw[hN]|refine st ?_|refine Oy ?_|refine sb λnb_ hnb_=>?_|refine s2 (λh=>?_) λh=>?_|fail)
  exact hn oc ol od of ot os _ _ _ _ _ _ _ _ _ _ _ _ _ ho rp rfl rfl rfl rfl rfl rfl rfl
theorem Qh{o:Option Nat}{l:List ca}{x:aZ}{i:Nat}{us:List W.WR}{L L':SH}{KN:AV→SH→List Nat→Prop}(h0:o=none→l=[])(hl:l.length<2^62)(h2:dP o 2 (l.map ca.enc) L L')(hf:∀z∈us,W.free z ⟨i,[],(ae o 2 (l.map ca.enc)).names,[],true,[]⟩)
  (hk:KN (.Xm (fX l x)) (ae o 2 (l.map ca.enc)++L') (ae o 2 (l.map ca.enc)).names):W.dcallM Tryz.prog us i 59 [am o l.length,.str x] L KN:=
 ⟨ae o 2 (l.map ca.enc),L',h2.perm,hf,(EN o l x h0 hl).mono λu K ⟨h1,h3⟩=>by subst h1 h3;exact hk⟩
theorem Qi{o:Option Nat}{b6 n i j k:Nat}{rows:List (List AV)}(h:∀b,o=some b→b6≠b):∀z∈[rm i rz,rm j ⟨aa (.ptr b6 0 n),[],[],[]⟩],W.free z ⟨k,[],(ae o 2 rows).names,[],true,[]⟩:=by
 intro z hz;simp only[VE,V9,or_false]at hz;rcases hz with rfl|rfl
 ·exact⟨nofun,nofun,nofun,nofun,λ_=>rfl⟩
 ·refine⟨nofun,?_,nofun,nofun,λ_=>rfl⟩;intro c hc;have:c=b6:=by simpa[rm,aa]using hc
  subst this;cases o with
  |none=>simp[ae,SH.names]
  |some b=>have:=h b rfl;simpa[ae,SH.names]using this
theorem SP{d:aI}(hr:rows[i]? =some d.enc)(hk:1≤d.kind∧d.kind≤6)(hs:d.size≤1000)(hi1:IntKind.i64.wrap ((i:Int)+1)=((i+1:Nat):Int))(ho:Fo b6 oc ol od of ot os w)(h1:w.cells.length<2^30)(h2:w.locks.length<2^30)(h3:w.conds.length<2^30)(h4:w.futures.length<2^30)
  (hn:QZ (n18 [.pptr [[.lst rows,.lst tl]] 0 0,.ptr b2 0 0,.ptr b6 0 0,.Xm ((i+1:Nat):Int)]) b2 b6 (bS w d)) :
  jU n18 (EU b2 b6 oc ol od of ot os w) (.pptr [[.lst rows,.lst tl]] 0 0) (.Xm i) (.ptr b2 0 0) (.ptr b6 0 0):=by
 obtain⟨kind,line,name,size,init,on⟩:=d;have hr':rows[i]? =some [.Xm kind,.Xm line,.str name,.Xm size,.Xm init,.str on]:=hr;clear hr;dsimp only at hk hs;have hl0:ol=none→w.locks.map ca.enc=[]:=λe=>by rw[ho.l e];rfl
 have hd0:od=none→w.conds.map cP.enc=[]:=λe=>by rw[ho.d e];rfl
 have hf0:of=none→w.futures.map au=[]:=λe=>by rw[ho.f e];rfl
 have hlk:=EN ol w.locks on ho.l Xh;have hc:kind=1∨kind=2∨kind=3∨kind=4∨kind=5∨kind=6:=by omega
 unfold jU;rcases hc with rfl|rfl|rfl|rfl|rfl|rfl
 ·have hst:bS w ⟨1,line,name,size,init,on⟩={w with cells:=w.cells++aI.celW ⟨1,line,name,size,init,on⟩}:=by unfold bS;rw[if_pos (.inl rfl)]
  rw[hst]at hn;have hw:=Q0 (.inl rfl) hs hi1 ho h1 hn;unfold EU at hw ⊢
  repeat' (first|exact hw|refine st ?_|refine sb λnb_ hnb_=>?_|refine s2 (λh=>?_) λh=>?_|fail)
 ·have hst:bS w ⟨2,line,name,size,init,on⟩={w with cells:=w.cells++aI.celW ⟨2,line,name,size,init,on⟩}:=by unfold bS;rw[if_pos (.inr rfl)]
  rw[hst]at hn;have hw:=Q0 (.inr rfl) hs hi1 ho h1 hn;unfold EU at hw ⊢
  repeat' (first|exact hw|refine st ?_|refine sb λnb_ hnb_=>?_|refine s2 (λh=>?_) λh=>?_|fail)
 ·have hst:bS w ⟨3,line,name,size,init,on⟩={w with locks:=w.locks++[⟨name,decide ((3:Int)=4)⟩]}:=rfl;rw[hst]at hn;unfold EU
  repeat' (first|refine st ?_|refine cz rp rp Xk (λe=>by first|simp[hl0 e]) Xj Xk (by simp;omega) (by simp;omega) Xj (λnb_ hnb_=>?_)|refine sb λnb_ hnb_=>?_|refine s2 (λh=>?_) λh=>?_|fail)
  exact hn oc (some nb_) od of ot os _ _ _ _ _ _ _ _ _ _ _ _ _ ⟨ho.c,nofun,ho.d,ho.f,ho.t,ho.s,λb e=>by cases e;rintro rfl;exact hnb_ (by simp[SH.names])⟩ rp (by simp[am]) rfl (by rw[VF];rfl) rfl rfl rfl rfl
 ·have hst:bS w ⟨4,line,name,size,init,on⟩={w with locks:=w.locks++[⟨name,decide ((4:Int)=4)⟩]}:=rfl;rw[hst]at hn;unfold EU
  repeat' (first|refine st ?_|refine cz rp rp Xk (λe=>by first|simp[hl0 e]) Xj Xk (by simp;omega) (by simp;omega) Xj (λnb_ hnb_=>?_)|refine sb λnb_ hnb_=>?_|refine s2 (λh=>?_) λh=>?_|fail)
  exact hn oc (some nb_) od of ot os _ _ _ _ _ _ _ _ _ _ _ _ _ ⟨ho.c,nofun,ho.d,ho.f,ho.t,ho.s,λb e=>by cases e;rintro rfl;exact hnb_ (by simp[SH.names])⟩ rp (by simp[am]) rfl (by rw[VF];rfl) rfl rfl rfl rfl
 ·have hst:bS w ⟨5,line,name,size,init,on⟩={w with conds:=w.conds++[⟨name,fX w.locks on⟩]}:=rfl;rw[hst]at hn;unfold EU;rcases ol with _|bl_
  all_goals
   repeat' (first|refine st ?_|refine cz rp rp Xk (λe=>by first|simp[hd0 e]) Xj Xk (by simp;omega) (by simp;omega) Xj (λnb_ hnb_=>?_)|((with_reducible refine ef 59 ?_);refine Qh ho.l Xh rp (Qi ho.n) ?_;dsimp only[Cz,CA,List.nil_append,List.cons_append])|refine sb λnb_ hnb_=>?_|refine s2 (λh=>?_) λh=>?_|fail)
  ·exact hn oc none (some nb_) of ot os _ _ _ _ _ _ _ _ _ _ _ _ _ ⟨ho.c,ho.l,nofun,ho.f,ho.t,ho.s,ho.n⟩ rp (by simp[am]) rfl rfl (by rw[VF];rfl) rfl rfl rfl
  ·exact hn oc (some bl_) (some nb_) of ot os _ _ _ _ _ _ _ _ _ _ _ _ _ ⟨ho.c,ho.l,nofun,ho.f,ho.t,ho.s,ho.n⟩ rp (by simp[am]) rfl rfl (by rw[VF];rfl) rfl rfl rfl
 ·have hst:bS w ⟨6,line,name,size,init,on⟩={w with futures:=w.futures++[name]}:=rfl;rw[hst]at hn;unfold EU
  repeat' (first|refine st ?_|refine cz rp rp Xk (λe=>by first|simp[hf0 e]) Xj Xk (by simp;omega) (by simp;omega) Xj (λnb_ hnb_=>?_)|refine sb λnb_ hnb_=>?_|refine s2 (λh=>?_) λh=>?_|fail)
  exact hn oc ol od (some nb_) ot os _ _ _ _ _ _ _ _ _ _ _ _ _ ⟨ho.c,ho.l,ho.d,nofun,ho.t,ho.s,ho.n⟩ rp (by simp[am]) rfl rfl rfl (by rw[VF];rfl) rfl rfl
end
end
section
set_option maxRecDepth 100000
theorem SQ(o:Option Nat)(l:List aZ)(k:Nat)(R:SH)(x:aZ)(h0:o=none→l=[])(hk:k≤l.length)(hl:k<2^62):
  af Tryz.prog 90 [am o k,.str x] (ae o 1 (l.map au)++R) λu K=>∃r:Int,u=.Xm r∧K=ae o 1 (l.map au)++R:=by
 refine pN _ _ _ _ ?_;unfold m4;generalize hL:ae o 1 (l.map au)++R=L;generalize hQ:(λ(u:AV) (K:SH)=>∃r:Int,u=AV.Xm r∧K=L)=Q;have hq:∀r:Int,Q (.Xm r) L:=λr=>by subst hQ;exact⟨r,rfl,rfl⟩
 clear hQ;subst hL;cases o with
 |none=>
  have:=h0 rfl;subst this;obtain rfl:k=0:=by simpa using hk
  dsimp only[ae,am,List.nil_append]at *;refine pk 0 (λ_=>True) (λi=>[.emp,.str x,.Xm i]) Xh trivial rfl (λi h1 hd hi _ nx hn=>by omega) (λi h1 hd _ nx=>?_);unfold fO
  repeat' (first|refine st ?_|refine sb λnb_ hnb_=>?_|refine s2 (λh=>?_) λh=>?_|fail)
  exact hq _
 |some b1=>
  dsimp only[ae,am,List.cons_append,List.nil_append]at *;refine pk k (λ_=>True) (λi=>[.sl b1 0 k,.str x,.Xm i]) Xh trivial rfl (λi h1 hd hi _ nx hn=>?_) (λi h1 hd _ nx=>?_)
  all_goals unfold fO
  ·have hx:=aw (f:=au) (l:=l) (i:=i) Xh
   repeat' (first|refine st ?_|refine sb λnb_ hnb_=>?_|refine s2 (λh=>?_) λh=>?_|fail)
   all_goals first
    |exact hq _
    |exact hn trivial
  ·repeat' (first|refine st ?_|refine sb λnb_ hnb_=>?_|refine s2 (λh=>?_) λh=>?_|fail)
   exact hq _
def de(bt:Nat)(th le:Int)(se tx at_ lo:Bool)(o:Option Nat)(k:Nat):Blk:=ml bt (.Xm th) (.Xm le) (.bool se) (.bool tx) (.bool at_) (.bool lo) (am o k)
def Tb(f:FuncId)(args:List AV)(d:Nat)(good:AV→Prop):Prop:=∀(bm bt:Nat) (t:List UInt8) (a:Nat) (th le:Int) (se tx at_ lo:Bool) (o:Option Nat) (ar:List aZ) (k:Nat),t.length<2^40→a≤t.length→(o=none→ar=[])→k≤ar.length→k+d≤900→
 af Tryz.prog f (.ptr bm 0 0::args) ((bm,de bt th le se tx at_ lo o k)::(bt,aN t a)::ae o 1 (ar.map au)) λu K=>∃(v:AV) (a':Nat) (th' le':Int) (se' tx' at' lo':Bool) (o':Option Nat) (ar':List aZ),u=v∧good v∧a'≤t.length∧(o'=none→ar'=[])∧k≤ar'.length∧K=(bm,de bt th' le' se' tx' at' lo' o' k)::(bt,aN t a')::ae o' 1 (ar'.map au)
theorem mt{b1 b2:Nat}{x1 x2:Blk}{o:Option Nat}{n:Nat}{rows:List (List AV)}{L L1 L2 L3:SH}(h1:eQ b1 x1 L L1)(h2:eQ b2 x2 L1 L2)(h3:dP o n rows L2 L3):L.Perm (((b1,x1)::(b2,x2)::ae o n rows)++L3):=
 h1.perm.trans ((h2.perm.trans ((h3.perm).cons _)).cons _)
section
variable {f:FuncId} {args:List AV} {d:Nat} {good:AV→Prop} {bm bt:Nat} {t:List UInt8} {a:Nat} {th le:Int} {se tx at_ lo:Bool} {o:Option Nat} {ar:List aZ} {k:Nat} {L L1 L2 L3:SH}
theorem Lq{KL:R}(h:Tb f args d good)(h1:eQ bm (de bt th le se tx at_ lo o k) L L1)(h2:eQ bt (aN t a) L1 L2)(h3:dP o 1 (ar.map au) L2 L3)(ht:t.length<2^40)(ha:a≤t.length)(ho:o=none→ar=[])(hk:k≤ar.length)(hd:k+d≤900)
  (hq:∀(v:AV) (a':Nat) (th' le':Int) (se' tx' at' lo':Bool) (o':Option Nat) (ar':List aZ),good v→a'≤t.length→(o'=none→ar'=[])→k≤ar'.length→KL v ((bm,de bt th' le' se' tx' at' lo' o' k)::(bt,aN t a')::(ae o' 1 (ar'.map au)++L3))):W.callM Tryz.prog f (.ptr bm 0 0::args) L KL:=by
 refine Gx (h bm bt t a th le se tx at_ lo o ar k ht ha ho hk hd) (mt h1 h2 h3) ?_;rintro _ _ ⟨v,a',th',le',se',tx',at',lo',o',ar',rfl,q1,q2,q3,q4,rfl⟩;exact hq _ a' th' le' se' tx' at' lo' o' ar' q1 q2 q3 q4
theorem ON{i:Nat}{us:List W.WR}{KN:AV→SH→List Nat→Prop}(h:Tb f args d good)(h1:eQ bm (de bt th le se tx at_ lo o k) L L1)(h2:eQ bt (aN t a) L1 L2)(h3:dP o 1 (ar.map au) L2 L3)(ht:t.length<2^40)(ha:a≤t.length)(ho:o=none→ar=[])(hk:k≤ar.length)(hd:k+d≤900)
  (hf:∀y∈us,W.free y ⟨i,[],SH.names ((bm,de bt th le se tx at_ lo o k)::(bt,aN t a)::ae o 1 (ar.map au)),[],true,[]⟩)
  (hq:∀(v:AV) (a':Nat) (th' le':Int) (se' tx' at' lo':Bool) (o':Option Nat) (ar':List aZ) (ks:List Nat),good v→a'≤t.length→(o'=none→ar'=[])→k≤ar'.length→KN v ((bm,de bt th' le' se' tx' at' lo' o' k)::(bt,aN t a')::(ae o' 1 (ar'.map au)++L3)) ks):W.dcallM Tryz.prog us i f (.ptr bm 0 0::args) L KN:=by
 refine⟨_,L3,mt h1 h2 h3,hf,(h bm bt t a th le se tx at_ lo o ar k ht ha ho hk hd).mono ?_⟩;rintro _ _ ⟨v,a',th',le',se',tx',at',lo',o',ar',rfl,q1,q2,q3,q4,rfl⟩;exact hq _ a' th' le' se' tx' at' lo' o' ar' _ q1 q2 q3 q4
theorem EO{v v2:AV}{x1 x2:Blk}{rows:List (List AV)}(h1:eQ bm x1 L L1)(h2:eQ bt x2 L1 L2)(h3:dP o 1 rows L2 L3)(hv:Fz L3 v v2):aJ [v] L [v2] ((bm,x1)::(bt,x2)::ae o 1 rows):=by
 refine .drop (K:=L3) ((mt h1 h2 h3).trans V6) rfl λi a a2 e1 e2=>?_
 match i with
 |0=>cases e1;cases e2;exact hv
 |i+1=>simp at e1
end
def cq(d:Nat):Nat:=100*10^d
def OO(d:Nat)(v:AV):Prop:=∃x:ab,v=.agg x.row∧x.wt≤cq d
def EP(n:Nat)(v:AV):Prop:=∃l:List ab,v=.lst (l.map ab.enc)∧ab.wts l≤n
def OP(d:Nat):Prop:=Tb 62 [.Xm (d:Int)] d (OO d)
def OQ(d:Nat):Prop:=∀n:Nat,n≤10→Tb 35 [.Xm (d:Int),.Xm (n:Int)] d (EP (n*cq d))
def SR(d:Nat):Prop:=∀s:aZ,Tb 101 [.str s,.Xm (d:Int)] (d+1) (EP (2*cq d))
theorem EQ(l:List ab)(x:ab):ab.wts (l++[x])=ab.wts l+x.wt:=by
 induction l with
 |nil=>simp[ab.wts]
 |cons y l ih=>simp only[WO,ab.wts,ih];omega
def df(d:Nat):Prop:=∀n:Nat,n≤10→∀(bm bt:Nat) (t:List UInt8) (a:Nat) (th le:Int) (se tx at_ lo:Bool) (o:Option Nat) (ar:List aZ) (k:Nat),t.length<2^40→a≤t.length→(o=none→ar=[])→k≤ar.length→k+d≤900→
 af Tryz.prog 35 [.ptr bm 0 0,.Xm (d:Int),.Xm (n:Int)] ((bm,de bt th le se tx at_ lo o k)::(bt,aN t a)::ae o 1 (ar.map au)) λu K=>∃(a':Nat) (th' le':Int) (se' tx' at' lo':Bool) (o':Option Nat) (ar':List aZ) (l:List ab) (ol:Option Nat),u=am ol l.length∧(ol=none→l=[])∧ab.wts l≤n*cq d∧a'≤t.length∧(o'=none→ar'=[])∧k≤ar'.length∧K=(bm,de bt th' le' se' tx' at' lo' o' k)::(bt,aN t a')::(ae o' 1 (ar'.map au)++ae ol 11 (l.map ab.enc))
theorem Hl(d:Nat)(hS:OP d):df d:=by
  intro n hn bm bt t a th le se tx at_ lo o ar k ht ha ho hk hd;refine ri _ _ _ _ _ ?_;unfold jN;generalize hQ:(λ(u:AV) (K:SH)=>∃(a':Nat) (th' le':Int) (se' tx' at' lo':Bool) (o':Option Nat) (ar':List aZ) (l:List ab) (ol:Option Nat),u=am ol l.length∧(ol=none→l=[])∧ab.wts l≤n*cq d∧a'≤t.length∧(o'=none→ar'=[])∧k≤ar'.length∧K=(bm,de bt th' le' se' tx' at' lo' o' k)::(bt,aN t a')::(ae o' 1 (ar'.map au)++ae ol 11 (l.map ab.enc)))=Q;have hq:∀(l:List ab) (ol:Option Nat) (a':Nat) (th' le':Int) (se' tx' at' lo':Bool) (o':Option Nat) (ar':List aZ),(ol=none→l=[])→ab.wts l≤n*cq d→a'≤t.length→(o'=none→ar'=[])→k≤ar'.length→Q (am ol l.length) ((bm,de bt th' le' se' tx' at' lo' o' k)::(bt,aN t a')::(ae o' 1 (ar'.map au)++ae ol 11 (l.map ab.enc))):=λl ol a' th' le' se' tx' at' lo' o' ar' h4 h5 h6 h7 h8=>by subst hQ;exact⟨a',th',le',se',tx',at',lo',o',ar',l,ol,rfl,h4,h5,h6,h7,h8,rfl⟩
  clear hQ;refine cg (β:=Nat×Int×Int×Bool×Bool×Bool×Bool×Option Nat×List aZ×Option Nat×List ab) n (λi ⟨a,th,le,se,tx,at_,lo,o,ar,ol,xs⟩=>([.ptr bm 0 0,.Xm d,.Xm n,am ol i,.Xm i],(bm,de bt th le se tx at_ lo o k)::(bt,aN t a)::(ae o 1 (ar.map au)++ae ol 11 (xs.map ab.enc))))
    (λi ⟨a,th,le,se,tx,at_,lo,o,ar,ol,xs⟩=>a≤t.length∧(o=none→ar=[])∧k≤ar.length∧(ol=none→xs=[])∧xs.length=i∧ab.wts xs≤i*cq d) ⟨a,th,le,se,tx,at_,lo,o,ar,none,[]⟩ ⟨ha,ho,hk,λ_=>rfl,rfl,by simp[ab.wts]⟩ ?_ ?_
  · exact aJ.vals (.cons (.refl _) (.cons (.refl _) (.cons (.refl _) (.cons .nile (.cons (.refl _) .nil))))) |> λh=>by simpa[am,ae]using h
  · rintro i ⟨a,th,le,se,tx,at_,lo,o,ar,ol,xs⟩ hi ⟨ha,ho,hk,hol,hxl,hxw⟩
    dsimp only at ha ho hk hol hxl hxw ⊢;unfold iR;generalize hnx:(λ(vs':List AV) (L':SH)=>_)=nx;have hn:∀(a:Nat) (th le:Int) (se tx at_ lo:Bool) (o:Option Nat) (ar:List aZ) (nb:Nat) (x:ab) (L':SH),i<n→gN L' ((bm,de bt th le se tx at_ lo o k)::(bt,aN t a)::(ae o 1 (ar.map au)++ae (some nb) 11 ((xs++[x]).map ab.enc)))→a≤t.length→(o=none→ar=[])→k≤ar.length→x.wt≤cq d→nx [.ptr bm 0 0,.Xm d,.Xm n,.sl nb 0 (i+1),.Xm ((i+1:Nat):Int)] L':=by intro a th le se tx at_ lo o ar nb x L' q0 q1 q2 q3 q4 q5;subst hnx;refine⟨i+1,⟨a,th,le,se,tx,at_,lo,o,ar,some nb,xs++[x]⟩,Xh,Xh,⟨q2,q3,q4,nofun,by simp;omega,?_⟩,aJ.pick q1 rfl⟩;dsimp only;rw[EQ,Nat.add_mul,Nat.one_mul];omega
    clear hnx;subst hxl;have hfin:∀(L:SH) (v:AV),L=(bm,de bt th le se tx at_ lo o k)::(bt,aN t a)::(ae o 1 (ar.map au)++ae ol 11 (xs.map ab.enc))→v=am ol xs.length→Q v L:=by rintro _ _ rfl rfl;exact hq xs ol a th le se tx at_ lo o ar hol (VT hxw (VU _ hi)) ha ho hk
    rcases VG xs.length n with g|g
    · have hd1:=bF g
      have hi1:=aE g Xh;unfold de ml at hfin ⊢
      repeat' (first|refine st ?_|((with_reducible refine aX 62 ?_);(refine Lq hS rp rp rp ht Xi Xi Xi hd ?_;rintro _ a_ th_ le_ se_ tx_ at_ lo_ o_ ar_ ⟨x_,rfl,hx_⟩ ha_ ho_ hk_))|refine cz rp rp Xk (λe=>by first|simp[hol e]) Xj Xk (by simp;omega) (by simp;omega) Xj (λnb_ hnb_=>?_)|refine sb λnb_ hnb_=>?_|refine s2 (λh=>?_) λh=>?_|fail)
      all_goals first
        |exact hfin _ _ rfl rfl
        | (have e_ : ae (some nb_) 11 ((xs ++ [x_]).map ab.enc) = [(nb_, ⟨11, xs.map ab.enc ++ [x_.row]⟩)] := by rw [ae, VF, VD, Wm, ab.enc_row]
           refine hn a_ th_ le_ se_ tx_ at_ lo_ o_ ar_ nb_ x_ _ g ?_ ha_ ho_ hk_ hx_;rw[e_];exact .one (.there _ (.there _ (.here _))) (.one (.there _ (.there _ (.here _))) (.slot (.there _ (.there _ (.here _))) (.one (.here _) (.nil _)))))
    · have hd1:=bI g
      unfold de ml at hfin ⊢
      repeat' (first|refine st ?_|refine sb λnb_ hnb_=>?_|refine s2 (λh=>?_) λh=>?_|fail)
      exact hfin _ _ rfl rfl
theorem Hm(d:Nat)(hS:df d):OQ d:=by intro n hn bm bt t a th le se tx at_ lo o ar k ht ha ho hk hd;refine af.fz ((hS n hn bm bt t a th le se tx at_ lo o ar k ht ha ho hk hd).mono ?_);rintro _ _ ⟨a',th',le',se',tx',at',lo',o',ar',l,ol,rfl,h1,h2,h3,h4,h5,rfl⟩;exact⟨_,_,EO (.here _) (.here _) (.here _) (Fz.slot (f:=ab.enc) (g:=ab.enc) rfl (λe=>by simp[h1 e]) Xl (λ_ _=>rfl) λy _ q a a2 h1 h2=>by rw[h1]at h2;cases h2;exact .refl _),_,a',th',le',se',tx',at',lo',o',ar',rfl,⟨l,rfl,h2⟩,h3,h4,h5,rfl⟩
theorem Qj{r:Nat}(h:r<100):IntKind.i64.wrap (1+(r:Int))=((1+r:Nat):Int):=by rw[Wr _ Xh];omega
theorem EP.le{n m:Nat}{v:AV}(h:EP n v)(hm:n≤m):EP m v:=by obtain⟨l,h1,h2⟩:=h;exact⟨l,h1,Xh⟩
theorem Qk(d:Nat)(hS:OQ d):SR d:=by
 intro s bm bt t a th le se tx at_ lo o ar k ht ha ho hk hd;refine af.fz (re _ _ _ _ _ ?_);unfold jM;generalize hQ:(λ(v:AV) (L:SH)=>∃v2 L2,aJ [v] L [v2] L2∧∃(v:AV) (a':Nat) (th' le':Int) (se' tx' at' lo':Bool) (o':Option Nat) (ar':List aZ),v2=v∧EP (2*cq d) v∧a'≤t.length∧(o'=none→ar'=[])∧k≤ar'.length∧L2=(bm,de bt th' le' se' tx' at' lo' o' k)::(bt,aN t a')::ae o' 1 (ar'.map au))=Q;have hq:∀(v:AV) (a':Nat) (th' le':Int) (se' tx' at' lo':Bool) (o':Option Nat) (ar':List aZ) (L:SH),EP (2*cq d) v→gN L ((bm,de bt th' le' se' tx' at' lo' o' k)::(bt,aN t a')::ae o' 1 (ar'.map au))→a'≤t.length→(o'=none→ar'=[])→k≤ar'.length→Q v L:=λv a' th' le' se' tx' at' lo' o' ar' L h1 h2 h6 h7 h8=>by subst hQ;exact⟨_,_,aJ.pick h2 rfl,_,a',th',le',se',tx',at',lo',o',ar',rfl,h1,h6,h7,h8,rfl⟩
 clear hQ;unfold de ml
 repeat' (first|refine mK (sZ ?_ (Qj Xh))|refine st ?_|refine I2 (r:=[.str s]) rp Xj rp (by simpa using hk) (λe=>by simp[ho e]) Xh Xh Xj (λnb_ hnb_=>?_)|((with_reducible refine aX 34 ?_);(refine fI ht Xi rp (λr_ a_ hr_ ha_=>?_)))|refine sb λnb_ hnb_=>?_|refine s2 (λh=>?_) λh=>?_|fail)
 have er:List.take k (ar.map au)++[[.str s]]=(ar.take k++[s]).map au:=by rw[VF,List.map_take];rfl
 rw[er];refine Lq (o:=some nb_) (ar:=ar.take k++[s]) (k:=k+1) (hS (1+r_) Xh) rp rp (.here _) ht ha_ nofun (by simp[Wq hk]) Xh ?_;intro v a2 th2 le2 se2 tx2 at2 lo2 o2 ar2 hg ha2 ho2 hk2;rcases o2 with _|b2
 ·exfalso;have:=ho2 rfl;subst this;simp at hk2
 unfold iQ de ml;dsimp only[ae,am,List.cons_append,List.nil_append];have es:IntKind.i64.wrap (((k+1:Nat):Int)-1)=(k:Int):=by rw[IntWalk.i64_in _ Xh];omega
 repeat' (first|refine st ?_|refine Ao ?_ (WZ _) rp rfl|refine sb λnb_ hnb_=>?_|refine s2 (λh=>?_) λh=>?_|fail)
 exact hq v a2 th2 le2 se2 tx2 at2 lo2 (some b2) ar2 _ (hg.le (VU _ Xh)) (.one (.here _) (.one (.here _) (.one (.here _) (.nil _)))) ha2 nofun Xh
end
end Go.Proofs.YtdnpdghlggbklaaGreatDoor.Am
