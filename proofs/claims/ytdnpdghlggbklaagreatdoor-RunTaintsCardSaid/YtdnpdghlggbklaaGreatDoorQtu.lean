/- A part of the proof; the statement is proved in the last part. -/
import Derived.Test.YtdnpdghlggbklaaGreatDoorQtt
set_option linter.unusedSimpArgs false
set_option linter.unusedVariables false
namespace Go.Proofs.YtdnpdghlggbklaaGreatDoor.Am
section
set_option maxRecDepth 100000
def FO(Q:R)(c:Kn)(a:SH)(b d e f g h i j:AV):Prop:=fb 6 0 b d a λk=>wb .neq 3 k (.ZO 3) λl=>wk l ((true=true)∧(aN 1 e [] 1 a λm o=>Q (.tup [(.ZO 6),m]) a)) (wb .add 3 f (.ZO 1) λn=>c [b,g,h,i,j,n] a)
def FP(Q:R)(d:Kn)(e:SH)(b f g h i j k c:AV)(a:SH)(l:Ns):Prop:=wn [] l [] e.names λo=>wb .lss 3 c (.ZO 0) λm=>wk m ((true=true)∧(aN 1 b [] 1 a λn p=>Q (.tup [(.ZO 5),n]) a)) ((FO Q d a f c b g h i j k))
def FQ(Q:R)(e:Kn)(a:SH)(b c d f g h i:AV):Prop:=(true=true)∧(W.calm [] ⟨2,(ed b),[],[],false,[]⟩ (W.slice 6 b none (some c) none a λj=>wn (ed b) [] [] [] λk=>aN 5 d [rm 2 k] 4 a λl m=>wd [] 5 (.fn 88 []) [j,l] a (FP Q e a d b c f g h i)))
def FR(Q:R)(b:Kn)(a:SH)(c d e f g h i:AV):Prop:=aC 0 c a λj=>wb .eql 3 j (.ZO 5) λk=>wk k ((FQ Q b a d e c f g h i)) (wb .add 3 e (.ZO 1) λl=>b [d,f,g,h,i,l] a)
def jW(Q:R)(j:Kn)(k:Vs)(l:SH):Prop:=NN 0 4 5 6 7 8 9 k λm e f g h n i=>wb .gtr 3 e (.ZO 12) λa=>bJ a false f l λo p=>wg a false (wb .gtr 3 o (.ZO 4)) p λq r=>W.pick a (.bool true) q λb=>bJ b false g r λs t=>wg b false (wb .gtr 3 s (.ZO 2)) t λu v=>W.pick b (.bool true) u λc=>bJ c false h v λw x=>wg c false (wb .gtr 3 w (.ZO 2)) x λy d=>W.pick c (.bool true) y λz=>wk z ((true=true)∧(aN 1 i [] 1 d λA B=>Q (.tup [(.ZO 2),A]) d)) ((FR Q j d i m n e f g h))
def FS(a:Kn)(b:SH)(j c d e f g h i:AV):Prop:=wb .eql 3 j (.ZO 5) λk=>wk k (wb .add 3 c (.ZO 1) λl=>a [d,e,f,l,g,h,i] b) (wb .add 3 g (.ZO 1) λm=>a [d,e,f,c,m,h,i] b)
def FT(a:Kn)(j:Vs)(b:SH):Prop:=OJ 0 4 5 6 7 8 9 36 47 j λc d e f g h i k l=>wk l (wb .add 3 e (.ZO 1) λm=>a [c,d,m,f,g,h,i] b) ((FS a b k f c d e g h i))
def FU(l:Kn)(b:SH)(a c d e f g h i:AV):Prop:=W.join (FT l) λj=>wb .eql 3 a (.ZO 3) λk=>wk k (j [c,d,e,f,g,h,i,a,k] b) (wb .eql 3 a (.ZO 4) λm=>j [c,d,e,f,g,h,i,a,m] b)
def FV(c:Kn)(j:Vs)(a:SH):Prop:=OJ 0 4 5 6 7 8 9 36 39 j λd e f g h i b k l=>wk l (aC 3 b a λm=>W.mnx true m (.ZO 1) λn=>wb .add 3 e n λo=>c [d,o,f,g,h,i,b] a) ((FU c a k d e f g h i b))
def FW(Q:R)(l:Kn)(b:SH)(c d e f g h i:AV):Prop:=W.join (jW Q l) λm=>aC 0 c b λa=>W.join (FV m) λj=>wb .eql 3 a (.ZO 1) λk=>wk k (j [d,e,f,g,h,i,c,a,k] b) (wb .eql 3 a (.ZO 2) λn=>j [d,e,f,g,h,i,c,a,n] b)
def FX(Q:R)(c:Kn)(a:SH)(b d e f g h i:AV):Prop:=aC 3 b a λj=>wb .gtr 3 j (.ZO 4) λk=>wk k ((true=true)∧(aN 1 b [] 1 a λl m=>Q (.tup [(.ZO 2),l]) a)) ((FW Q c a b d e f g h i))
def FY(Q:R)(c:Kn)(d:SH)(b e f g h i j k:AV)(a:SH)(l:Ns):Prop:=wn [] l [] d.names λo=>wb .geq 3 k (.ZO 0) λm=>wk m ((true=true)∧(aN 1 b [] 1 a λn p=>Q (.tup [(.ZO 4),n]) a)) ((FX Q c a b e f g h i j))
def FZ(Q:R)(f:Kn)(d:SH)(a c g h i j:AV):Prop:=ma 6 a c d λk=>rE [(.ZO 0),(.ZO 0),(.str []),(.ZO 0),(.ZO 0),(.str [])] 6 k d λe b=>(true=true)∧(W.calm [] ⟨2,(ed a),[],[],false,[]⟩ (W.slice 6 a none (some c) none b λl=>wn (ed a) [] [] [] λm=>aN 2 e [rm 2 m] 4 b λn o=>wd [] 5 (.fn 88 []) [l,n] b (FY Q f b e a g h i j c)))
def qZ(Q:R)(d:Vs)(a:SH)(e:Kn):Prop:=J1 0 4 5 6 7 8 d λb f g h i c=>W.len b λj=>wb .lss 3 c j λk=>wk k ((FZ Q e a b c f g h i)) (Q (.tup [(.ZO 0),(.ZO 0)]) a)
def tS(a:AV)(L:SH)(Q:R):Prop:=W.loop (qZ Q) [a,(.ZO 0),(.ZO 0),(.ZO 0),(.ZO 0),(.ZO 0)] L
theorem F0(t0:AV)(L:SH)(Q:R)(h:tS t0 L Q):af Tryz.prog 55 [t0] L Q:=
 fs [(11,[0,4,5,6,7,8,9]),(13,[0,4,5,6,7,8,9,36,39]),(16,[0,4,5,6,7,8,9,36,47])] [(3,[0,4,5,6,7,8])] [(5,[9])] [(6,[0,0,3,0,8,31,63]),(7,[0,1,0,7]),(9,[0,1,0,7]),(21,[0,1,0,7]),(23,[0,0,3,0,8,31,63]),(25,[0,1,0,7]),(27,[0,1,0,7])] Tryz.func55 h
def BI(Q:R)(o:Kn)(p:SH)(h i j q:AV)(k:SH)(r:Ns):Prop:=wn [] r [] p.names λa4=>wb .geq 3 q (.ZO 0) λa=>W.dgrd a false (λs=>W.faddr 1 h λt=>s t k rz) k λu b a5=>W.dgrd a false (λv=>dl [] 8 u b λw x=>v w b x) b λc l y=>W.dgrd a false (λz=>z i l rz) l λA d a6=>W.dgrd a false (λB=>W.calm [] ⟨10,(ed c),[],[],false,[]⟩ (W.slice 4 c none (some A) none d λC=>wn (ed c) [] [] [] λD=>B C d D)) d λE m F=>W.dgrd a false (λG=>W.faddr 0 j λH=>G H m rz) m λI e a7=>W.dgrd a false (λJ=>dl [rm 10 F,rm 8 y] 12 I e λM N=>J M e N) e λO f a8=>W.dgrd a false (λP=>wd [] 13 (.fn 89 []) [E,O] f λS T U=>wn [] U [] f.names λV=>P S T V) f λX n a9=>W.dgrd a false (λY=>wb .geq 3 X (.ZO 0) λZ=>Y Z n rz) n λa0 g b0=>W.pick a (.bool true) a0 λa1=>wk a1 ((true=true)∧(aN 1 j [] 1 g λa2 b1=>Q (.tup [(.ZO 4),a2]) g)) (wb .add 3 i (.ZO 1) λa3=>o [h,a3] g)
def BJ(Q:R)(f:Kn)(b:SH)(c d:AV):Prop:=aC 1 c b λg=>ma 4 g d b λh=>rE [(.str []),(.ZO 0),.nils,.nils] 4 h b λe a=>(true=true)∧(aN 0 c [] 1 a λi j=>aN 0 e [rm 1 j] 3 a λk l=>wd [] 4 (.fn 88 []) [i,k] a (BI Q f a c d e))
def BK(Q:R)(m:Kn)(e f c g n o:AV)(p:SH):Prop:=wb .geq 3 o (.ZO 0) λb=>wg b false (W.faddr 1 e) p λq h=>wg b false (wl q h) h λr s=>bJ b false f s λt i=>W.grd b false (λu=>wc (.fn 89 []) [r,t] i λv w=>u v w) i λx y=>wg b false (wb .geq 3 x (.ZO 0)) y λz A=>W.pick b (.bool true) z λa=>wg a false (W.faddr 2 c) A λB j=>wg a false (wl B j) j λC D=>bJ a false g D λE k=>wg a false (W.slice 1 C none (some E) none k) k λF G=>bJ a false f G λH l=>W.grd a false (λI=>wc (.fn 90 []) [F,H] l λJ M=>I J M) l λN O=>wg a false (wb .geq 3 N (.ZO 0)) O λP d=>W.pick a (.bool true) P λS=>wk S ((true=true)∧(aN 1 c [] 1 d λT V=>Q (.tup [(.ZO 4),T]) d)) (wb .add 3 g (.ZO 1) λU=>m [e,n,c,U] d)
def BL(Q:R)(f:Kn)(a:SH)(b c d g:AV):Prop:=aC 2 b a λh=>tH 1 h c a λe=>aC 0 d a λi=>wc (.fn 88 []) [i,e] a (BK Q f d e b c g)
def mP(Q:R)(f:Kn)(g:Vs)(a:SH)(h:Kn):Prop:=ug 1 6 7 8 g λb c d e=>aC 2 d a λi=>W.len i λj=>wb .lss 3 e j λk=>wk k ((BL Q h a d e b c)) (wb .add 3 c (.ZO 1) λl=>f [b,l] a)
def BM(Q:R)(f:Kn)(b:SH)(d e:AV):Prop:=aC 1 d b λg=>ma 4 g e b λh=>rE [(.str []),(.ZO 0),.nils,.nils] 4 h b λc a=>aC 2 c a λi=>W.len i λj=>wb .gtr 3 j (.ZO 4) λk=>wk k ((true=true)∧(aN 1 c [] 1 a λl m=>Q (.tup [(.ZO 2),l]) a)) (W.loop (mP Q f) [d,e,c,(.ZO 0)] a)
def mQ(Q:R)(d:Vs)(a:SH)(e:Kn):Prop:=RV 1 6 d λb c=>aC 1 b a λf=>W.len f λg=>wb .lss 3 c g λh=>wk h ((BM Q e a b c)) (Q (.tup [(.ZO 0),(.ZO 0)]) a)
def mR(Q:R)(d:Vs)(a:SH)(e:Kn):Prop:=RV 1 4 d λb c=>aC 1 b a λf=>W.len f λg=>wb .lss 3 c g λh=>wk h ((BJ Q e a b c)) (W.loop (mQ Q) [b,(.ZO 0)] a)
def pe(a:AV)(L:SH)(Q:R):Prop:=rF a L λb c=>W.loop (mR Q) [b,(.ZO 0)] c
theorem BN(t0:AV)(L:SH)(Q:R)(h:pe t0 L Q):af Tryz.prog 56 [t0] L Q:=
 fs [] [(2,[1,4]),(14,[1,6,7,8]),(8,[1,6])] [(0,[1]),(4,[5]),(10,[7])] [(5,[0,1,0,4,15,31,63,127,255,127,1023,127,2175,8191,16383,32767]),(6,[0,1,0,7]),(12,[0,1,0,7]),(18,[0,1,0,7])] Tryz.func56 h
def BO(a:Kn)(b c d e:AV)(f:SH):Prop:=wb .add 3 b e λg=>wb .add 3 c (.ZO 1) λh=>a [d,g,h] f
def BP(Q:R)(d:Kn)(e f g a:AV)(b:SH):Prop:=W.ext 0 a λc=>W.ext 1 a λh=>wb .neq 74 c (.ZO 0) λi=>wk i (Q (.tup [c,h]) b) (wb .add 3 e (.ZO 1) λj=>d [f,g,j] b)
def BQ(Q:R)(e:Kn)(f:SH)(a b d:AV):Prop:=W.nilchk a λg=>W.faddr 2 g λh=>W.store 1 h b f λc=>aC 1 d c λi=>fb 4 3 i b c λj=>wc (.fn 58 []) [a,j] c (BP Q e b d a)
def mS(Q:R)(d:Vs)(a:SH)(e:Kn):Prop:=tI 1 10 11 d λb f c=>aC 1 b a λg=>W.len g λh=>wb .lss 3 c h λi=>wk i ((BQ Q e a f c b)) (Q (.tup [(.ZO 0),(.ZO 0)]) a)
def BR(Q:R)(a:SH)(b:AV):Prop:=cp 2 b a λc=>W.build [.nils,.nils,(.ZO 0),.nils,.nils,.nils] [(0,2,c)] λd=>W.box d a λe f=>W.loop (mS Q) [b,e,(.ZO 0)] f
def mT(Q:R)(e:Vs)(a:SH)(f:Kn):Prop:=tI 1 8 9 e λb d c=>aC 1 b a λg=>W.len g λh=>wb .lss 3 c h λi=>wk i (aC 1 b a λj=>fb 4 3 j c a λk=>wc (.fn 57 []) [k] a (BO f d c b)) (wb .gtr 3 d (.ZO 60) λl=>wk l (Q (.tup [(.ZO 2),(.ZO 0)]) a) ((BR Q a b)))
def BS(Q:R)(d a:AV)(b:SH):Prop:=W.ext 0 a λc=>W.ext 1 a λe=>wb .neq 74 c (.ZO 0) λf=>wk f (Q (.tup [c,e]) b) (W.loop (mT Q) [d,(.ZO 0),(.ZO 0)] b)
def BT(Q:R)(a:SH)(b:AV):Prop:=aC 1 b a λc=>W.len c λd=>wb .gtr 3 d (.ZO 4) λe=>wk e (Q (.tup [(.ZO 2),(.ZO 0)]) a) (cp 2 b a λf=>wc (.fn 56 []) [f] a (BS Q b))
def BU(Q:R)(d a:AV)(b:SH):Prop:=W.ext 0 a λc=>W.ext 1 a λe=>wb .neq 74 c (.ZO 0) λf=>wk f (Q (.tup [c,e]) b) ((BT Q b d))
def BV(Q:R)(b c:AV)(a:SH):Prop:=W.un .not c λd=>wk d (Q (.tup [(.ZO 3),(.ZO 0)]) a) (aC 0 b a λe=>wc (.fn 55 []) [e] a (BU Q b))
def pg(c:AV)(L:SH)(Q:R):Prop:=rF c L λa b=>cp 2 a b λd=>wc (.fn 54 []) [d] b (BV Q a)
theorem BW(t0:AV)(L:SH)(Q:R)(h:pg t0 L Q):af Tryz.prog 28 [t0] L Q:=
 fs [] [(13,[1,8,9]),(20,[1,10,11])] [(0,[1])] [] Tryz.func28 h
def q6(Q:R)(o:Kn)(d:SH)(g h i j e:AV):Prop:=dV 3 g d λp=>ma 11 p h d λq=>rE [(.ZO 0),(.ZO 0),(.str []),(.str []),.nils,(.ZO 0),(.ZO 0),(.str []),.nils,.nils,.nils] 11 q d λf k=>aC 0 f k λr=>wb .eql 3 r i λa=>wg a false (W.faddr 0 f) k λs l=>wg a false (wl s l) l λt u=>bJ a false j u λv w=>wg a false (wb .eql 3 t v) w λx y=>W.pick a (.bool true) x λb=>bJ b true e y λz A=>wg b true (wb .eql 9 z (.str [])) A λB C=>bJ b true B C λc D=>wg c false (W.faddr 2 f) D λE m=>wg c false (wl E m) m λF G=>bJ c false e G λH I=>wg c false (wb .eql 9 F H) I λJ M=>wg b true (W.pick c (.bool true) J) M λN n=>W.pick b N (.bool false) λO=>wk O (Q (.bool true) n) (wb .add 3 h (.ZO 1) λP=>o [g,i,j,e,P] n)
def eY(Q:R)(d:Vs)(a:SH)(e:Kn):Prop:=Jd 0 1 2 3 9 d λb f g h c=>dV 3 b a λi=>W.len i λj=>wb .lss 3 c j λk=>wk k ((q6 Q e a b c f g h)) (Q (.bool false) a)
def jd(a b c d:AV)(L:SH)(Q:R):Prop:=W.loop (eY Q) [a,b,c,d,(.ZO 0)] L
theorem q7(t0 t1 t2 t3:AV)(L:SH)(Q:R)(h:jd t0 t1 t2 t3 L Q):af Tryz.prog 122 [t0,t1,t2,t3] L Q:=
 fs [] [(2,[0,1,2,3,9])] [(4,[10])] [] Tryz.func122 h
def zo(Q:R)(a:SH)(b:AV)(c:SH)(d:Ns):Prop:=wn [] d [] a.names λe=>Q b c
def zp(Q:R)(b:SH)(c d:AV)(a:SH)(e:Ns):Prop:=wn [] e [] b.names λf=>wd [] 13 (.fn 123 []) [c,d] a (zo Q a)
def zq(Q:R)(b:SH)(c d e:AV)(a:SH)(f:Ns):Prop:=wn [] f [] b.names λg=>wd [] 12 (.fn 123 []) [c,e] a (zp Q a d)
def zr(Q:R)(b:SH)(c d e:AV)(a:SH)(f:Ns):Prop:=wn [] f [] b.names λg=>wd [] 11 (.fn 126 []) [c] a (zq Q a e d)
def zt(Q:R)(e:SH)(f g h i:AV)(b c:Fp)(j:AV)(a:SH)(k:Ns):Prop:=wn [] k [] e.names λd=>dr [rc 4 d,rm 3 b,rm 0 c] 5 2 f a λl m=>aN 3 g [rm 5 m,rc 4 d,rm 3 b,rm 0 c] 8 a λn o=>wd [] 9 (.fn 124 []) [l,h,n,(.ZO 6),(.ZO 6)] a (zr Q a i j)
def zu(Q:R)(f:Vs)(a:SH):Prop:=Jd 3 4 5 6 7 f λb k c d g=>(true=true)∧(dr [] 0 2 c a λh e=>aN 2 b [rm 0 e] 3 a λi j=>wd [] 4 (.fn 124 []) [h,d,i,(.ZO 8),(.ZO 8)] a (zt Q a c b d g j e))
def zw(Q:R)(a:SH)(b:AV)(c:SH)(d:Ns):Prop:=wn [] d [] a.names λe=>Q b c
def zx(Q:R)(b:SH)(c d:AV)(a:SH)(e:Ns):Prop:=wn [] e [] b.names λf=>wd [] 10 (.fn 123 []) [c,d] a (zw Q a)
def zy(Q:R)(e:SH)(f g h:AV)(b c:Fp)(i:AV)(a:SH)(j:Ns):Prop:=wn [] j [] e.names λd=>dr [rc 4 d,rm 3 b,rm 0 c] 5 2 f a λk l=>W.faddr 5 g λm=>dr [rm 5 l,rc 4 d,rm 3 b,rm 0 c] 8 4 m a λn o=>wd [] 9 (.fn 125 []) [k,h,n] a (zx Q a i)
def zz(Q:R)(a:SH)(b c d:AV):Prop:=(true=true)∧(dr [] 0 2 b a λf e=>aN 2 c [rm 0 e] 3 a λg h=>wd [] 4 (.fn 124 []) [f,d,g,(.ZO 8),(.ZO 1)] a (zy Q a b c d h e))
def zA(Q:R)(a:SH)(b:AV)(c:SH)(d:Ns):Prop:=wn [] d [] a.names λe=>Q b c
def uW(Q:R)(b:SH)(c d:AV)(a:SH)(e:Ns):Prop:=wn [] e [] b.names λf=>wd [] 18 (.fn 123 []) [c,d] a (zA Q a)
def uX(Q:R)(b:SH)(c d e:AV)(a:SH)(f:Ns):Prop:=wn [] f [] b.names λg=>wd [] 17 (.fn 123 []) [c,e] a (uW Q a d)
def uY(Q:R)(j:SH)(k l m n:AV)(b c d e f g h:Fp)(o:AV)(a:SH)(p:Ns):Prop:=wn [] p [] j.names λi=>dr [rc 11 i,rm 10 b,rm 9 c,rm 8 d,rm 5 e,rc 4 f,rm 3 g,rm 0 h] 12 2 k a λq r=>W.faddr 5 l λs=>dr [rm 12 r,rc 11 i,rm 10 b,rm 9 c,rm 8 d,rm 5 e,rc 4 f,rm 3 g,rm 0 h] 15 4 s a λt u=>wd [] 16 (.fn 125 []) [q,m,t] a (uX Q a o n)
def uZ(Q:R)(i:SH)(f g h:AV)(b c:Fp)(j:AV)(a:SH)(k:Ns):Prop:=wn [] k [] i.names λd=>dr [rc 4 d,rm 3 b,rm 0 c] 5 2 f a λl e=>aN 4 g [rm 5 e,rc 4 d,rm 3 b,rm 0 c] 8 a λm n=>di [rm 5 e,rc 4 d,rm 3 b,rm 0 c] 9 4 m (.ZO 0) a λo p=>dr [rm 5 e,rc 4 d,rm 3 b,rm 0 c] 10 4 o a λq r=>wd [] 11 (.fn 125 []) [l,h,q] a (uY Q a f g h j r p n e d b c)
def zB(Q:R)(a:SH)(b c d:AV):Prop:=(true=true)∧(dr [] 0 2 b a λf e=>aN 2 c [rm 0 e] 3 a λg h=>wd [] 4 (.fn 124 []) [f,d,g,(.ZO 2),(.ZO 2)] a (uZ Q a b c d h e))
def zC(Q:R)(a:SH)(b c d:AV):Prop:=aC 4 b a λe=>W.len e λf=>wb .eql 3 f (.ZO 0) λg=>wk g ((zz Q a c b d)) ((zB Q a c b d))
def u0(Q:R)(a b:AV)(c:SH):Prop:=wc (.fn 123 []) [a,b] c λd e=>Q d e
def u3(Q:R)(a d e f:AV)(g:SH):Prop:=bJ a false d g λh i=>wg a false (W.faddr 2 e) i λj b=>wg a false (wl j b) b λk c=>W.grd a false (λl=>wc (.fn 122 []) [h,(.ZO 4),(.ZO 4),k] c λm n=>l m n) c λo p=>W.pick a (.bool true) o λq=>wc (.fn 126 []) [q] p (u0 Q f)
def zD(Q:R)(a:SH)(c b d e f:AV):Prop:=cp 2 c a λg=>aC 2 b a λh=>wc (.fn 124 []) [g,d,h,(.ZO 3),(.ZO 3)] a (u3 Q e f b)
def u4(Q:R)(a b:AV)(c:SH):Prop:=wc (.fn 123 []) [a,b] c λd e=>Q d e
def u5(Q:R)(a d e f:AV)(g:SH):Prop:=bJ a false d g λh i=>wg a false (W.faddr 2 e) i λj b=>wg a false (wl j b) b λk c=>W.grd a false (λl=>wc (.fn 122 []) [h,(.ZO 5),(.ZO 6),k] c λm n=>l m n) c λo p=>W.pick a (.bool true) o λq=>wc (.fn 126 []) [q] p (u4 Q f)
def zE(Q:R)(a:SH)(c b d e f:AV):Prop:=cp 2 c a λg=>aC 2 b a λh=>wc (.fn 124 []) [g,d,h,(.ZO 4),(.ZO 4)] a (u5 Q e f b)
def u6(Q:R)(e:SH)(b f g h:AV)(i:SH)(j:Ns):Prop:=wn [] j [] e.names λB=>bJ b false h i λk l=>wg b false (W.un .not k) l λm n=>W.pick b (.bool true) m λa=>wg a false (W.faddr 0 f) n λo c=>wg a false (wl o c) c λp q=>wg a false (wb .eql 3 p (.ZO 9)) q λr s=>bJ a false r s λd t=>bJ d true g t λu v=>wg a false (W.pick d u (.bool false)) v λw x=>W.pick a (.bool true) w λy=>wc (.fn 126 []) [y] x λz A=>Q z A
def u7(Q:R)(b:SH)(c d e f g h:AV)(a:SH)(i:Ns):Prop:=wn [] i [] b.names λl=>di [] 8 6 c h a λj m=>aN 5 j [] 10 a λk n=>wd [] 11 (.fn 122 []) [d,(.ZO 4),(.ZO 4),k] a (u6 Q a e f g)
def zF(Q:R)(a:SH)(c d e f g:AV):Prop:=(true=true)∧(aN 0 c [] 2 a λh b=>aN 0 c [rm 2 b] 4 a λi j=>aN 2 d [rm 4 j,rm 2 b] 6 a λk l=>wd [rm 2 b] 7 (.fn 88 []) [i,k] a (u7 Q a h e f d g))
def u9(Q:R)(c d e f g a:AV)(b:SH):Prop:=wb .neq 74 a (.ZO 0) λh=>wk h (Q a b) ((zF Q b c d e f g))
def zG(Q:R)(a:SH)(b c d e f g:AV):Prop:=cp 2 b a λh=>aC 2 c a λi=>wc (.fn 124 []) [h,d,i,(.ZO 5),(.ZO 5)] a (u9 Q b c e f g)
def zH(Q:R)(c:SH)(d g:AV):Prop:=(true=true)∧(W.nilchk d λh=>aN 4 h [] 4 c λa e=>aN 2 g [rm 4 e] 6 c λi o=>W.calm [rm 4 e] ⟨7,[],[],[],false,[]⟩ (W.bslice 1 [(.str [])] 1 [(0,i)] c λb j=>wn [] [] (aa b) [] λp=>W.calm [] ⟨8,(aa a++aa b),(aa a),[],false,[]⟩ (W.append 1 16 a b j λf k=>wn (aa a++aa b) (aa a) (aa f) [] λq=>W.nilchk d λl=>W.faddr 4 l λm=>ds [] 11 1 m f k λn r=>Q (.ZO 0) n)))
def vc(Q:R)(b:SH)(c d e:AV)(a:SH)(f:Ns):Prop:=wn [] f [] b.names λh=>wb .geq 3 e (.ZO 0) λg=>wk g (Q (.ZO 8) a) ((zH Q a c d))
def zI(Q:R)(a:SH)(b c:AV):Prop:=(true=true)∧(W.nilchk b λd=>aN 4 d [] 3 a λe f=>aN 2 c [rm 3 f] 5 a λg h=>wd [] 6 (.fn 90 []) [e,g] a (vc Q a b c))
def vd(Q:R)(c g h i j k d:AV)(l:SH):Prop:=bJ c false g l λm n=>W.pick c (.bool true) m λe=>bJ e false h n λo p=>W.pick e (.bool true) o λa=>bJ a false d p λq r=>bJ a false i r λs t=>wg a false (wb .eql 3 q s) t λu v=>W.pick a (.bool true) u λb=>bJ b false d v λw x=>wg b false (wb .eql 3 w (.ZO 0)) x λy f=>W.pick b (.bool true) y λz=>wk z (Q (.ZO 7) f) ((zI Q f j k))
def vf(Q:R)(d b e f g h i c:AV)(a:SH):Prop:=wb .neq 74 c (.ZO 0) λj=>wk j (Q c a) (aC 1 d a λk=>aC 2 b a λl=>wc (.fn 89 []) [k,l] a (vd Q e f g h i b))
def zJ(Q:R)(a:SH)(b c d e f g h:AV):Prop:=cp 2 b a λi=>aC 2 c a λj=>wc (.fn 124 []) [i,d,j,(.ZO 7),(.ZO 7)] a (vf Q b c e f g d h)
def vg(Q:R)(a b:AV)(c:SH):Prop:=wc (.fn 123 []) [a,b] c λd e=>Q d e
def vh(Q:R)(b f g h i j:AV)(k:SH):Prop:=bJ b false f k λl m=>W.pick b (.bool true) l λa=>wg a false (W.faddr 1 g) m λn c=>wg a false (wl n c) c λo p=>wg a false (W.faddr 2 h) p λq d=>wg a false (wl q d) d λr e=>W.grd a false (λs=>wc (.fn 89 []) [o,r] e λt u=>s t u) e λv w=>bJ a false i w λx y=>wg a false (wb .eql 3 v x) y λz A=>W.pick a (.bool true) z λB=>wc (.fn 126 []) [B] A (vg Q j)
def vj(Q:R)(a:SH)(b c d e f:AV):Prop:=cp 2 b a λg=>aC 2 c a λh=>wc (.fn 124 []) [g,d,h,(.ZO 7),(.ZO 7)] a (vh Q e f b c d)
def vk(Q:R)(a:Vs)(b:SH):Prop:=Jd 3 4 5 6 7 a λd c e f g=>Q c b
def vl(a:Kn)(b:Vs)(c d e f:AV)(g:SH):Prop:=a [c,f,d,e,(aw [0,3,5,6,14] b 7)] g
def vm(a:Kn)(b:Vs)(c d e f g:AV)(h:SH):Prop:=wc (.fn 123 []) [c,g] h (vl a b d e f)
def vn(Q:R)(f:Vs)(c:SH):Prop:=Jd 0 3 5 6 14 f λg d h i l=>(true=true)∧(W.nilchk g λm=>aN 5 m [] 4 c λa j=>aN 2 d [rm 4 j] 6 c λn w=>W.calm [rm 4 j] ⟨7,[],[],[],false,[]⟩ (W.bslice 1 [(.str [])] 1 [(0,n)] c λb o=>wn [] [] (aa b) [] λx=>W.calm [] ⟨8,(aa a++aa b),(aa a),[],false,[]⟩ (W.append 1 16 a b o λk p=>wn (aa a++aa b) (aa a) (aa k) [] λy=>W.nilchk g λq=>W.faddr 5 q λr=>ds [] 11 1 r k p λe z=>W.join (vk Q) λs=>cp 2 h e λt=>W.faddr 5 d λu=>cp 4 u e λv=>wc (.fn 125 []) [t,i,v] e (vm s f l d h i))))
def vp(Q:R)(b c g h i:AV)(j:SH):Prop:=W.join (vn Q) λk=>(true=true)∧(wb .eql 74 i (.ZO 0) λa=>W.dgrd a true (λq=>q b j rz) j λr l Z=>W.dgrd a true (λs=>W.nilchk r λt=>s t l rz) l λu m a0=>W.dgrd a true (λv=>W.faddr 5 u λw=>v w m rz) m λx d a1=>W.dgrd a true (λy=>dl [] 6 x d λz A=>y z d A) d λB n C=>W.dgrd a true (λD=>W.faddr 2 c λE=>D E n rz) n λF e a2=>W.dgrd a true (λG=>dl [rm 6 C] 8 F e λH I=>G H e I) e λJ f a3=>W.dgrd a true (λM=>wd [] 9 (.fn 90 []) [B,J] f λN O P=>wn [] P [] f.names λS=>M N O S) f λT o a4=>W.dgrd a true (λU=>wb .geq 3 T (.ZO 0) λV=>U V o rz) o λX p a5=>W.pick a X (.bool false) λY=>wk Y (k [b,c,g,h,(.ZO 8)] p) (k [b,c,g,h,i] p))
def vq(Q:R)(a b c d e f:AV)(g:SH):Prop:=wc (.fn 123 []) [a,f] g (vp Q b c d e)
def vt(Q:R)(a b c d e f g:AV)(h:SH):Prop:=bJ a false b h λi j=>W.pick a (.bool true) i λk=>wc (.fn 126 []) [k] j (vq Q g c d e f)
def vu(Q:R)(a:SH)(b c d e f g:AV):Prop:=cp 2 b a λh=>aC 2 c a λi=>wc (.fn 124 []) [h,d,i,(.ZO 6),(.ZO 6)] a (vt Q e f g c b d)
def vv(Q:R)(f:Kn)(g:Vs)(a:SH)(h b c d e i j:AV):Prop:=wb .eql 3 h (.ZO 14) λk=>wk k ((vu Q a b c d e i j)) (f [c,(aw [0,3,5,6,7,8,9,30,119] g 4),b,d,e] a)
def vw(Q:R)(g:Kn)(h:Vs)(a:SH)(b c d e f i j k:AV):Prop:=wb .eql 3 b (.ZO 13) λl=>wk l ((vj Q a c d e f i)) ((vv Q g h a b c d e f j k))
def vx(Q:R)(j:Kn)(k:Vs)(a:SH)(b c d e f g h i:AV):Prop:=wb .eql 3 b (.ZO 12) λl=>wk l ((zJ Q a c d e f g h i)) ((vw Q j k a b c d e f g h i))
def vy(Q:R)(i:Kn)(a:Vs)(b:SH):Prop:=OJ 0 3 5 6 7 8 9 30 119 a λc d e f g h j k l=>wk l ((zG Q b e d f c g h)) ((vx Q i a b k e d f g h j c))
def vz(b:Kn)(c:SH)(a d e f g h i j:AV):Prop:=wb .eql 3 a (.ZO 10) λk=>wk k (b [d,e,f,g,h,i,j,a,k] c) (wb .eql 3 a (.ZO 11) λl=>b [d,e,f,g,h,i,j,a,l] c)
def vA(Q:R)(l:Kn)(b:SH)(a c d e f g h i:AV):Prop:=W.join (vy Q l) λj=>wb .eql 3 a (.ZO 9) λk=>wk k (j [c,d,e,f,g,h,i,a,k] b) ((vz j b a c d e f g h i))
def vC(Q:R)(e:Kn)(b:SH)(c a d f g h i j:AV):Prop:=wb .eql 3 c (.ZO 8) λk=>wk k (bJ a false d b λl m=>W.pick a (.bool true) l λn=>wc (.fn 126 []) [n] m λo p=>Q o p) ((vA Q e b c f g h i a d j))
def vD(Q:R)(d:Kn)(a:SH)(b c e f g h i j:AV):Prop:=wb .eql 3 b (.ZO 7) λk=>wk k (wc (.fn 126 []) [c] a λl m=>Q l m) ((vC Q d a b c e f g h i j))
def vF(Q:R)(g:Kn)(h:Vs)(a:SH):Prop:=OJ 0 3 5 6 7 8 9 30 91 h λb c d e f i j k l=>wk l ((zE Q a d c e f b)) ((vD Q g a k f i b c d e j))
def vG(Q:R)(l:Kn)(b:SH)(a c d e f g h i:AV):Prop:=W.join (vF Q l) λj=>wb .eql 3 a (.ZO 5) λk=>wk k (j [c,d,e,f,g,h,i,a,k] b) (wb .eql 3 a (.ZO 6) λm=>j [c,d,e,f,g,h,i,a,m] b)
def vH(Q:R)(h:Kn)(a:SH)(b c d e f g i j:AV):Prop:=wb .eql 3 b (.ZO 4) λk=>wk k ((zD Q a c d e f g)) ((vG Q h a b g d c e f i j))
def vJ(Q:R)(e:Kn)(f:Vs)(a:SH):Prop:=OJ 0 3 5 6 7 8 9 30 67 f λg b c d h i j k l=>wk l (cp 2 c a λm=>W.faddr 5 b λn=>cp 4 n a λo=>wc (.fn 125 []) [m,d,o] a λp q=>Q p q) ((vH Q e a k c b d h g i j))
def vK(Q:R)(l:Kn)(b:SH)(c a d e f g h i:AV):Prop:=W.join (vJ Q l) λj=>wb .eql 3 a (.ZO 2) λk=>wk k (j [c,d,e,f,g,h,i,a,k] b) (wb .eql 3 a (.ZO 3) λm=>j [c,d,e,f,g,h,i,a,m] b)
def vL(Q:R)(f a c d g h i:AV)(b:SH):Prop:=W.join (zu Q) λj=>aC 0 a b λe=>wb .eql 3 e (.ZO 1) λk=>wk k ((zC Q b a c d)) ((vK Q j b f e a c d g h i))
def vM(Q:R)(a b c d e f:AV)(g:SH):Prop:=wc (.fn 122 []) [a,(.ZO 3),(.ZO 3),(.str [])] g (vL Q a b c d e f)
def vN(Q:R)(a b c d e:AV)(f:SH):Prop:=wc (.fn 122 []) [a,(.ZO 8),(.ZO 8),(.str [])] f (vM Q a b c d e)
def mU(a f:AV)(L:SH)(Q:R):Prop:=rF f L λg b=>(true=true)∧(W.nilchk a λh=>W.faddr 0 h λi=>dr [] 3 2 i b λj d=>W.nilchk a λk=>aN 2 k [rm 3 d] 7 b λl e=>W.calm [rm 7 e,rm 3 d] ⟨8,[],[],[],false,[]⟩ (W.alloc [.nils,.nils] b λc m=>wn [] [] (aa c) [] λq=>ds [rm 7 e] 9 2 c j m λn r=>W.frz1 c n λo p=>wc (.fn 122 []) [a,(.ZO 7),(.ZO 7),(.str [])] p (vN Q a g o l)))
theorem zK(t0 t1:AV)(L:SH)(Q:R)(h:mU t0 t1 L Q):af Tryz.prog 91 [t0,t1] L Q:=
 fs [(48,[3,4,5,6,7]),(11,[0,3,5,6,7,8,9,30,67]),(16,[0,3,5,6,7,8,9,30,91]),(24,[0,3,5,6,7,8,9,30,119]),(46,[0,3,5,6,14])] [] [(0,[3]),(1,[5])] [(1,[0,1,3,7,0,16,48,112,0,271,1023]),(8,[0,0,0,4,15,0,0,0,128,511,1023,2047]),(9,[0,0,0,4,15,0,0,0,128,384,896,2047,0,0,0,16384,65535,131071,262143,524287]),(28,[0,0,2,0,8,0,32,120,254,510,1022,2047,4095]),(37,[0,1,3,7,0,16,63,127]),(39,[0,0,2,6,14,0,32,96,254,511,1023,2047]),(45,[0,1,3,7,15,31,63,7,135,511,1023,2047]),(47,[0,0,2,6,14,0,32,96,254,511,1023,2047]),(49,[0,0,0,4,15,0,0,0,128,511,0,2047,4095,8191,16383])] Tryz.func91 h
def gC(Q:R)(f:Kn)(g:Vs)(a:SH):Prop:=Jd 0 1 6 8 9 g λb h i d j=>(true=true)∧(W.nilchk b λk=>aN 3 k [] 4 a λc l=>W.nilchk b λm=>aN 3 m [rm 4 l] 8 a λn v=>W.len n λo=>wb .sub 3 o (.ZO 1) λp=>W.calm [] ⟨11,(ed c),[],[],false,[]⟩ (W.slice 11 c none (some p) none a λq=>wn (ed c) [] [] [] λw=>W.nilchk b λr=>W.faddr 3 r λs=>ds [] 14 1 s q a λe x=>wb .neq 74 d (.ZO 0) λt=>wk t (Q (.tup [d,j]) e) (wb .add 3 i (.ZO 1) λu=>f [b,h,u] e)))
def lg(b:Kn)(c d e a:AV)(f:SH):Prop:=W.ext 0 a λg=>W.ext 1 a λh=>b [c,d,e,g,h] f
def gD(Q:R)(h:Kn)(i a c d e:AV)(b:SH):Prop:=W.ext 0 e λf=>W.ext 1 e λj=>W.join (gC Q h) λg=>wb .eql 74 f (.ZO 0) λk=>wk k (aC 10 i b λl=>wc (.fn 58 []) [a,l] b (lg g a c d)) (g [a,c,d,f,j] b)
def zL(Q:R)(j:Kn)(d:SH)(b e k l:AV):Prop:=(true=true)∧(W.nilchk b λm=>aN 3 m [] 3 d λa g=>dr [rm 3 g] 4 11 e d λn o=>W.len a λp=>W.calm [rm 4 o,rm 3 g] ⟨6,[],[],[],false,[]⟩ (W.bslice 11 [(.ZO 0),(.ZO 0),(.str []),(.str []),.nils,(.ZO 0),(.ZO 0),(.str []),.nils,.nils,.nils] 1 [(0,(.agg [(.ZO 0),(.ZO 0),(.str []),(.str []),.nils,(.ZO 0),(.ZO 0),(.str []),.nils,.nils,.nils]))] d λc q=>wn [] [] (aa c) [] λy=>W.calm [] ⟨7,(aa a++aa c),(aa a),[],false,[]⟩ (W.append 11 176 a c q λf h=>wn (aa a++aa c) (aa a) (aa f) [] λz=>di [] 8 11 f p h λr s=>ds [] 9 11 r n h λt u=>W.nilchk b λv=>W.faddr 3 v λw=>ds [rm 9 u,rm 8 s] 12 1 w f t λi A=>aC 9 e i λx=>wc (.fn 58 []) [b,x] i (gD Q j e b k l))))
def gE(Q:R)(d:Kn)(e:Vs)(a:SH):Prop:=Jd 0 1 6 7 8 e λf g h b c=>wb .neq 74 c (.ZO 0) λi=>wk i ((true=true)∧(aN 1 b [] 2 a λj k=>Q (.tup [c,j]) a)) ((zL Q d a f b g h))
def zM(Q:R)(g:Kn)(a c d e h:AV)(b:SH):Prop:=W.join (gE Q g) λf=>dV 3 a b λi=>W.len i λj=>wb .add 3 j (.ZO 1) λk=>wb .gtr 3 k (.ZO 6) λl=>wk l (f [a,c,d,e,(.ZO 2)] b) (f [a,c,d,e,h] b)
def zN(Q:R)(g:Kn)(a:SH)(b c d:AV):Prop:=ma 11 b c a λh=>rE [(.ZO 0),(.ZO 0),(.str []),(.str []),.nils,(.ZO 0),(.ZO 0),(.str []),.nils,.nils,.nils] 11 h a λe f=>cp 11 e f λi=>wc (.fn 91 []) [d,i] f (zM Q g d b c e)
def lh(Q:R)(d:Vs)(a:SH)(e:Kn):Prop:=tI 0 1 6 d λf b c=>W.len b λg=>wb .lss 3 c g λh=>wk h ((zN Q e a b c f)) (Q (.tup [(.ZO 0),(.ZO 0)]) a)
def mV(a b:AV)(L:SH)(Q:R):Prop:=W.loop (lh Q) [a,b,(.ZO 0)] L
theorem zO(t0 t1:AV)(L:SH)(Q:R)(h:mV t0 t1 L Q):af Tryz.prog 58 [t0,t1] L Q:=
 fs [(7,[0,1,6,7,8]),(13,[0,1,6,8,9])] [(2,[0,1,6])] [(4,[7])] [(9,[0,0,2,1,15]),(10,[0,1,3,7,0,15,0,127,255,511,255,1279,3327]),(14,[0,0,2,6,14,0,32,96,224,480,992,2046,4095,8191,16383])] Tryz.func58 h
end
section
set_option maxRecDepth 100000
set_option maxHeartbeats 4000000
def gF(l:List aJ)(s:bC):Int:=nL (λx=>decide (x.name=s)) l 0
theorem jv(l:List aJ)(s:bC)(hl:l.length<2^62):az Tryz.prog 88 [.lst (l.map aJ.enc),.str s] (.ZO (gF l s)):=by
 refine Dq _ _ _ _ ?_;unfold qN;refine fH l (λx=>decide (x.name=s)) (λi=>[.lst (l.map aJ.enc),.str s,.ZO i]) hl rfl (λi h1 hd hi hno nx hn=>?_) (λi h1 hd hno nx=>?_)
 all_goals unfold oR
 ·have hx:=ay (f:=aJ.enc) h1
  repeat' (first|refine st ?_|refine sb λnb_ hnb_=>?_|refine s2 (λh=>?_) λh=>?_|fail)
  ·exact⟨by rw[gF,qo h1 hno h],rfl⟩
  ·exact hn h
 ·repeat' (first|refine st ?_|refine sb λnb_ hnb_=>?_|refine s2 (λh=>?_) λh=>?_|fail)
  exact⟨by rw[gF,hZ hno],rfl⟩
theorem KW(l:List bC)(s:bC)(hl:l.length<2^62):TI 90 [.lst (l.map av),.str s]:=by
 refine ti λQ hq=>qM _ _ _ _ ?_
 unfold og;refine mO l.length (λi=>[.lst (l.map av),.str s,.ZO i]) hl rfl (λi h1 hd hi nx hn=>?_) (λi h1 hd nx=>?_)
 all_goals unfold ge
 ·have hx:=ay (f:=av) h1
  repeat' (first|refine st ?_|refine sb λnb_ hnb_=>?_|refine s2 (λh=>?_) λh=>?_|fail)
  all_goals first|exact hq _ _|exact hn
 ·repeat' (first|refine st ?_|refine sb λnb_ hnb_=>?_|refine s2 (λh=>?_) λh=>?_|fail)
  exact hq _ _
theorem ov(l:List ah)(s:bC)(hl:l.length<2^62):TI 89 [.lst (l.map ah.enc),.str s]:=by
 refine ti λQ hq=>yY _ _ _ _ ?_
 unfold mF;refine mO l.length (λi=>[.lst (l.map ah.enc),.str s,.ZO i]) hl rfl (λi h1 hd hi nx hn=>?_) (λi h1 hd nx=>?_)
 all_goals unfold kY
 ·have hx:=ay (f:=ah.enc) h1
  repeat' (first|refine st ?_|refine sb λnb_ hnb_=>?_|refine s2 (λh=>?_) λh=>?_|fail)
  all_goals first|exact hq _ _|exact hn
 ·repeat' (first|refine st ?_|refine sb λnb_ hnb_=>?_|refine s2 (λh=>?_) λh=>?_|fail)
  exact hq _ _
theorem rC(b:Bool):TI 126 [.bool b]:=by
 refine ti λQ hq=>Bq _ _ _ ?_
 unfold oS
 repeat' (first|refine st ?_|refine sb λnb_ hnb_=>?_|refine s2 (λh=>?_) λh=>?_|fail)
 all_goals exact hq _ _
theorem Su(a b:Int):TI 123 [.ZO a,.ZO b]:=by
 refine ti λQ hq=>Ko _ _ _ _ ?_
 unfold Fb
 repeat' (first|refine st ?_|refine sb λnb_ hnb_=>?_|refine s2 (λh=>?_) λh=>?_|fail)
 all_goals exact hq _ _
theorem QM(p:bZ)(t:Nat)(s:bC)(hw:p.wt<2^40)(ht:t<p.threads.length):∃n:Int,(n=5→∃k:Nat,k<p.decls.length∧gF p.decls s=k)∧az Tryz.prog 145 [.agg p.enc,.ZO t,.str s] (.ZO n):=by
 have hl1:=p.decls_len;have hl2:=p.threads_len;have hwt:=p.thread_wt ht;have hll:p.threads[t].locals.length<p.threads[t].wt:=by unfold ah.wt;omega
 have c1:=KW p.threads[t].locals s ZJ;have c2:=jv p.decls s ZJ;have c3:=ov p.threads s ZJ;have d0:decide (0≤(t:Int))=true:=by simp
 have d1:=bE ht;have hx:=ay (f:=ah.enc) ht;refine XZ λQ hq=>Dx _ _ _ _ _ ?_
 unfold qO;rcases uV (p:=λx:aJ=>decide (x.name=s)) p.decls 0 with⟨h1,h2⟩|⟨k,h1,h2,h3⟩
 ·have e1:gF p.decls s=-1:=h1;rw[e1]at c2
  repeat' (first|refine st ?_|(refine pf 90 ?_;refine pm (c1) ?_)|(refine pf 88 ?_;refine pm (c2) ?_)|(refine pf 89 ?_;refine pm (c3) ?_)|refine sb λnb_ hnb_=>?_|refine s2 (λh=>?_) λh=>?_|fail)
  all_goals exact hq _ _ (λh=>absurd h ZN)
 ·have e1:gF p.decls s=(k:Nat):=by rw[gF,h2];simp
  rw[e1]at c2;have d2:decide ((k:Int)<0)=false:=by simp
  have hy:=ay (f:=aJ.enc) h1
  repeat' (first|refine st ?_|(refine pf 90 ?_;refine pm (c1) ?_)|(refine pf 88 ?_;refine pm (c2) ?_)|(refine pf 89 ?_;refine pm (c3) ?_)|refine sb λnb_ hnb_=>?_|refine s2 (λh=>?_) λh=>?_|fail)
  all_goals exact hq _ _ λ_=>⟨k,h1,e1⟩
theorem QN(p:bZ)(t:Nat)(s:bC)(a b:Int)(hw:p.wt<2^40)(ht:t<p.threads.length):TI 124 [.agg p.enc,.ZO t,.str s,.ZO a,.ZO b]:=by
 obtain⟨n,_,c1⟩:=QM p t s hw ht;refine ti λQ hq=>tM _ _ _ _ _ _ _ ?_
 unfold oh
 repeat' (first|refine st ?_|(refine pf 145 ?_;refine pm (c1) ?_)|refine sb λnb_ hnb_=>?_|refine s2 (λh=>?_) λh=>?_|fail)
 all_goals exact hq _ _
theorem Sv(p:bZ)(t:Nat)(s:bC)(hw:p.wt<2^40)(ht:t<p.threads.length):∃n:Int,(n=0→∃k:Nat,k<p.decls.length∧gF p.decls s=k)∧az Tryz.prog 124 [.agg p.enc,.ZO t,.str s,.ZO 5,.ZO 5] (.ZO n):=by
 obtain⟨n,g,c1⟩:=QM p t s hw ht;refine XZ λQ hq=>tM _ _ _ _ _ _ _ ?_
 unfold oh
 repeat' (first|refine st ?_|(refine pf 145 ?_;refine pm (c1) ?_)|refine sb λnb_ hnb_=>?_|refine s2 (λh=>?_) λh=>?_|fail)
 all_goals first
  |exact hq _ _ (λh0=>absurd h0 ZN)
  |exact hq _ _ (λ_=>g (by simp_all))
theorem Sw:∀(k:Nat) (x:aq),x.wt≤k→k<2^40→TE 146 [.agg x.row]:=by
 intro k
 induction k with
 |zero=>intro x h;have:=x.wt_eq;omega
 |succ k ih=>
  intro x hk hb;have hlen:=x.len;refine te λQ hq=>E6 _ _ _ ?_
  unfold tN
  repeat' (first|refine st ?_|refine sb λnb_ hnb_=>?_|refine s2 (λh=>?_) λh=>?_|fail)
  refine HH (β:=Int×Int) x.l.length (λi n=>[.pptr [x.row] 0 0,.ZO n.1,.ZO n.2,.ZO i]) (1,0) ZJ rfl (λi n h1 hd hi nx hn=>?_) (λi n h1 hd nx=>?_)
  all_goals unfold qP
  ·have hx:=EI h1;have hc:=ih x.l[i] (by have:=x.kid h1;omega) ZJ
   repeat' (first|refine st ?_|(refine pf 146 ?_;refine pm (hc) ?_)|refine Me ?_|refine sb λnb_ hnb_=>?_|refine s2 (λh=>?_) λh=>?_|fail)
   exact hn (_,_)
  ·repeat' (first|refine st ?_|refine sb λnb_ hnb_=>?_|refine s2 (λh=>?_) λh=>?_|fail)
   exact hq _ _ _
theorem Sx(p:bZ)(t:Nat)(hw:p.wt<2^40)(ht:t<p.threads.length):∀(k:Nat) (x:aq),x.wt≤k→k<2^40→TI 147 [.agg p.enc,.ZO t,.agg x.row]:=by
 intro k
 induction k with
 |zero=>intro x h;have:=x.wt_eq;omega
 |succ k ih=>
  intro x hk hb;have hlen:=x.len;have cw:=λa b=>QN p t x.name a b hw ht
  refine ti λQ hq=>Fa _ _ _ _ _ ?_
  unfold tO;have key:∀r:Int,jR Q [.ZO t,.pptr [p.enc] 0 0,.pptr [x.row] 0 0,.ZO r] []:=by
   intro r;unfold jR
   repeat' (first|refine st ?_|refine sb λnb_ hnb_=>?_|refine s2 (λh=>?_) λh=>?_|fail)
   refine HH x.l.length (λi r=>[.ZO t,.pptr [p.enc] 0 0,.pptr [x.row] 0 0,.ZO r,.ZO i]) r ZJ rfl (λi r h1 hd hi nx hn=>?_) (λi r h1 hd nx=>?_)
   all_goals unfold qQ
   ·have hx:=EI h1;have hc:=ih x.l[i] (by have:=x.kid h1;omega) ZJ
    repeat' (first|refine st ?_|(refine pf 147 ?_;refine pm (hc) ?_)|refine sb λnb_ hnb_=>?_|refine s2 (λh=>?_) λh=>?_|fail)
    all_goals first|exact hq _ _|exact hn _
   ·repeat' (first|refine st ?_|refine sb λnb_ hnb_=>?_|refine s2 (λh=>?_) λh=>?_|fail)
    all_goals exact hq _ _
  repeat' (first|with_reducible exact key _|refine st ?_|(refine pf 124 ?_;refine pm (cw _ _) ?_)|refine sb λnb_ hnb_=>?_|refine s2 (λh=>?_) λh=>?_|fail)
theorem U1(p:bZ)(t:Nat)(x:aq)(hw:p.wt<2^40)(ht:t<p.threads.length)(hx:x.wt<2^40):TI 125 [.agg p.enc,.ZO t,.agg x.row]:=by
 have c1:=QJ _ x (X7 _) hx;have c2:=Sw _ x (X7 _) hx;have c3:=Sx p t hw ht _ x (X7 _) hx;refine ti λQ hq=>GO _ _ _ _ _ ?_
 unfold yZ
 repeat' (first|refine st ?_|(refine pf 143 ?_;refine pm (c1) ?_)|(refine pf 146 ?_;refine pm (c2) ?_)|(refine pf 147 ?_;refine pm (c3) ?_)|refine sb λnb_ hnb_=>?_|refine s2 (λh=>?_) λh=>?_|fail)
 all_goals exact hq _ _
theorem Sy:∀(k:Nat) (l:List ab),ab.wts l≤k→k<2^40→TI 57 [.lst (l.map ab.enc)]:=by
 intro k
 induction k using Nat.strongRecOn with
 |_ k ih=>
  intro l hl hk;have hlen:=ab.wts_len l;refine ti λQ hq=>Fe _ _ _ ?_
  unfold tP
  repeat' (first|refine st ?_|refine sb λnb_ hnb_=>?_|refine s2 (λh=>?_) λh=>?_|fail)
  refine HH l.length (λi n=>[.lst (l.map ab.enc),.ZO n,.ZO i]) _ ZJ rfl (λi n h1 hd hi nx hn=>?_) (λi n h1 hd nx=>?_)
  all_goals unfold qR
  ·have hx:=Hp h1;have hwi:=ab.wts_get l i h1;have hwe:=(l[i]).wt_eq;have c1:=ih _ ZJ l[i].body (X7 _) ZJ;have c2:=ih _ ZJ l[i].els (X7 _) ZJ
   repeat' (first|refine st ?_|(refine pf 57 ?_;refine pm (c1) ?_)|(refine pf 57 ?_;refine pm (c2) ?_)|refine sb λnb_ hnb_=>?_|refine s2 (λh=>?_) λh=>?_|fail)
   exact hn _
  ·repeat' (first|refine st ?_|refine sb λnb_ hnb_=>?_|refine s2 (λh=>?_) λh=>?_|fail)
   exact hq _ _
theorem Sz(l:List aJ)(hl:l.length<2^40):TE 55 [.lst (l.map aJ.enc)]:=by
 refine te λQ hq=>F0 _ _ _ ?_
 unfold tS;refine HH (β:=Int×Int×Int×Int) l.length (λi n=>[.lst (l.map aJ.enc),.ZO n.1,.ZO n.2.1,.ZO n.2.2.1,.ZO n.2.2.2,.ZO i]) (0,0,0,0) ZJ rfl (λi n h1 hd hi nx hn=>?_) (λi n h1 hd nx=>?_)
 all_goals unfold qZ
 ·have hx:=ay (f:=aJ.enc) h1;have c1:=jv (l.take i) l[i].name (by rw[Yx];omega);have c2:=jv (l.take i) l[i].on (by rw[Yx];omega);have key:∀a b c d:Int,jW Q nx [.lst (l.map aJ.enc),.ZO a,.ZO b,.ZO c,.ZO d,.ZO (i:Int),.pptr [l[i].enc] 0 0] []:=by
   intro a b c d;unfold jW;rcases uV (p:=λx:aJ=>decide (x.name=l[i].on)) (l.take i) 0 with⟨g1,g2⟩|⟨k,g1,g2,g3⟩
   ·have e1:gF (l.take i) l[i].on=-1:=g1;rw[e1]at c2
    repeat' (first|refine st ?_|refine gB ?_|(refine pf 88 ?_;refine pm (c2) ?_)|refine sb λnb_ hnb_=>?_|refine s2 (λh=>?_) λh=>?_|fail)
    all_goals first|exact hq _ _ _|exact hn (_,_,_,_)
   ·have e1:gF (l.take i) l[i].on=(k:Nat):=by rw[gF,g2];simp
    have hkl:k<l.length:=by rw[Yx]at g1;omega
    rw[e1]at c2;have hy:=ay (f:=aJ.enc) hkl;have d2:decide ((k:Int)<0)=false:=by simp
    repeat' (first|refine st ?_|refine gB ?_|(refine pf 88 ?_;refine pm (c2) ?_)|refine sb λnb_ hnb_=>?_|refine s2 (λh=>?_) λh=>?_|fail)
    all_goals first|exact hq _ _ _|exact hn (_,_,_,_)
  repeat' (first|with_reducible exact key _ _ _ _|refine st ?_|refine gB ?_|(refine pf 88 ?_;refine pm (c1) ?_)|refine Me ?_|refine sb λnb_ hnb_=>?_|refine s2 (λh=>?_) λh=>?_|fail)
  all_goals exact hq _ _ _
 ·repeat' (first|refine st ?_|refine sb λnb_ hnb_=>?_|refine s2 (λh=>?_) λh=>?_|fail)
  exact hq _ _ _
theorem Om(p:bZ)(hw:p.wt<2^40):TE 56 [.agg p.enc]:=by
 have hl1:=p.decls_len;have hl2:=p.threads_len;refine te λQ hq=>BN _ _ _ ?_
 unfold pe
 repeat' (first|refine st ?_|refine sb λnb_ hnb_=>?_|refine s2 (λh=>?_) λh=>?_|fail)
 refine mO p.threads.length (λi=>[.pptr [p.enc] 0 0,.ZO i]) ZJ rfl (λi h1 hd hi nx hn=>?_) (λi h1 hd nx=>?_)
 all_goals unfold mR
 ·have hx:=ay (f:=ah.enc) h1;have c1:=jv p.decls p.threads[i].name ZJ;have c2:=ov (p.threads.take i) p.threads[i].name (by rw[Yx];omega)
  repeat' (first|refine st ?_|refine gB ?_|(refine pf 88 ?_;refine pm (c1) ?_)|(refine pf 89 ?_;refine pm (c2) ?_)|refine sb λnb_ hnb_=>?_|refine s2 (λh=>?_) λh=>?_|fail)
  all_goals first|exact hq _ _ _|exact hn
 ·repeat' (first|refine st ?_|refine sb λnb_ hnb_=>?_|refine s2 (λh=>?_) λh=>?_|fail)
  refine mO p.threads.length (λi=>[.pptr [p.enc] 0 0,.ZO i]) ZJ rfl (λi h1 hd hi nx hn=>?_) (λi h1 hd nx=>?_)
  all_goals unfold mQ
  ·have hx:=ay (f:=ah.enc) h1;generalize p.threads[i]=t at *
   repeat' (first|refine st ?_|refine sb λnb_ hnb_=>?_|refine s2 (λh=>?_) λh=>?_|fail)
   ·exact hq _ _ _
   ·have h4:t.locals.length≤4:=by simp at h;omega
    refine mO t.locals.length (λk=>[.pptr [p.enc] 0 0,.ZO i,.pptr [t.enc] 0 0,.ZO k]) ZJ rfl (λk g1 gd gi ny gn=>?_) (λk g1 gd ny=>?_)
    all_goals unfold mP
    ·have hy:=ay (f:=av) g1;have c1:=jv p.decls t.locals[k] ZJ;have c2:=ov p.threads t.locals[k] ZJ;have c3:=KW (t.locals.take k) t.locals[k] (by rw[Yx];omega)
     repeat' (first|refine st ?_|refine gB ?_|(refine pf 88 ?_;refine pm (c1) ?_)|(refine pf 89 ?_;refine pm (c2) ?_)|(refine pf 90 ?_;refine pm (c3) ?_)|refine sb λnb_ hnb_=>?_|refine s2 (λh=>?_) λh=>?_|fail)
     all_goals first|exact hq _ _ _|exact gn
    ·repeat' (first|refine st ?_|refine sb λnb_ hnb_=>?_|refine s2 (λh=>?_) λh=>?_|fail)
     exact hn
  ·repeat' (first|refine st ?_|refine sb λnb_ hnb_=>?_|refine s2 (λh=>?_) λh=>?_|fail)
   exact hq _ _ _
theorem On(bw:Nat)(v0 v1 v2 v4 v5:AV)(o1:Option Nat)(ar:List ab)(k:Nat)(R:SH)(a b:Int)(name:bC)(h0:o1=none→ar=[])(hk:k≤ar.length)(h6:k≤6):
  af Tryz.prog 122 [.ptr bw 0 0,.ZO a,.ZO b,.str name] ((bw,⟨6,[[v0,v1,v2,ao o1 k,v4,v5]]⟩)::(ae o1 11 (ar.map ab.enc)++R)) λu K=>∃r:Bool,u=.bool r∧K=(bw,⟨6,[[v0,v1,v2,ao o1 k,v4,v5]]⟩)::(ae o1 11 (ar.map ab.enc)++R):=by
 refine q7 _ _ _ _ _ _ ?_;unfold jd;generalize hL:(bw,(⟨6,[[v0,v1,v2,ao o1 k,v4,v5]]⟩:Blk))::(ae o1 11 (ar.map ab.enc)++R)=L;generalize hQ:(λ(u:AV) (K:SH)=>∃r:Bool,u=AV.bool r∧K=L)=Q;have hq:∀r:Bool,Q (.bool r) L:=λr=>by subst hQ;exact⟨r,rfl,rfl⟩
 clear hQ;subst hL;cases o1 with
 |none=>
  have:=h0 rfl;subst this;obtain rfl:k=0:=by simpa using hk
  dsimp only[ae,ao,List.nil_append]at *;refine mu 0 (λ_=>True) (λi=>[.ptr bw 0 0,.ZO a,.ZO b,.str name,.ZO i]) ZJ trivial rfl (λi h1 hd hi _ nx hn=>by omega) (λi h1 hd _ nx=>?_);unfold eY
  repeat' (first|refine st ?_|refine sb λnb_ hnb_=>?_|refine s2 (λh=>?_) λh=>?_|fail)
  exact hq _
 |some b1=>
  dsimp only[ae,ao,List.cons_append,List.nil_append]at *;refine mu k (λ_=>True) (λi=>[.ptr bw 0 0,.ZO a,.ZO b,.str name,.ZO i]) ZJ trivial rfl (λi h1 hd hi _ nx hn=>?_) (λi h1 hd _ nx=>?_)
  all_goals unfold eY
  ·have hx:=Hp (l:=ar) (i:=i) ZJ;generalize ar[i]'ZJ=x at *
   repeat' (first|refine st ?_|refine sb λnb_ hnb_=>?_|refine s2 (λh=>?_) λh=>?_|fail)
   all_goals first
    |exact hq _
    |exact hn trivial
  ·repeat' (first|refine st ?_|refine sb λnb_ hnb_=>?_|refine s2 (λh=>?_) λh=>?_|fail)
   exact hq _
theorem QO(o:Option Nat)(l:List bC)(R:SH)(x:bC)(h0:o=none→l=[])(hl:l.length<2^62):
  af Tryz.prog 90 [ao o l.length,.str x] (ae o 1 (l.map av)++R) λu K=>∃r:Int,u=.ZO r∧K=ae o 1 (l.map av)++R:=by
 refine qM _ _ _ _ ?_;unfold og;generalize hL:ae o 1 (l.map av)++R=L;generalize hQ:(λ(u:AV) (K:SH)=>∃r:Int,u=AV.ZO r∧K=L)=Q;have hq:∀r:Int,Q (.ZO r) L:=λr=>by subst hQ;exact⟨r,rfl,rfl⟩
 clear hQ;subst hL;cases o with
 |none=>
  have:=h0 rfl;subst this;dsimp only[ae,ao,List.nil_append,List.length_nil]at *;refine mu 0 (λ_=>True) (λi=>[.emp,.str x,.ZO i]) ZJ trivial rfl (λi h1 hd hi _ nx hn=>by omega) (λi h1 hd _ nx=>?_);unfold ge
  repeat' (first|refine st ?_|refine sb λnb_ hnb_=>?_|refine s2 (λh=>?_) λh=>?_|fail)
  exact hq _
 |some b1=>
  dsimp only[ae,ao,List.cons_append,List.nil_append]at *;refine mu l.length (λ_=>True) (λi=>[.sl b1 0 l.length,.str x,.ZO i]) ZJ trivial rfl (λi h1 hd hi _ nx hn=>?_) (λi h1 hd _ nx=>?_)
  all_goals unfold ge
  ·have hx:=ay (f:=av) h1
   repeat' (first|refine st ?_|refine sb λnb_ hnb_=>?_|refine s2 (λh=>?_) λh=>?_|fail)
   all_goals first
    |exact hq _
    |exact hn trivial
  ·repeat' (first|refine st ?_|refine sb λnb_ hnb_=>?_|refine s2 (λh=>?_) λh=>?_|fail)
   exact hq _
end
end Go.Proofs.YtdnpdghlggbklaaGreatDoor.Am
