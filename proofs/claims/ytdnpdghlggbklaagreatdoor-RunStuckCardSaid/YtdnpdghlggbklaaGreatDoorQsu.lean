/- A part of the proof; the statement is proved in the last part. -/
import Derived.Test.YtdnpdghlggbklaaGreatDoorQst
set_option linter.unusedSimpArgs false
set_option linter.unusedVariables false
namespace Go.Proofs.YtdnpdghlggbklaaGreatDoor.Am
section
set_option maxRecDepth 100000
def Eu(Q:R)(c:Kn)(a:SH)(b d e f g h i j:AV):Prop:=eB 6 0 b d a λk=>wb .neq 3 k (.Xw 3) λl=>wk l ((true=true)∧(aN 1 e [] 1 a λm o=>Q (.tup [(.Xw 6),m]) a)) (wb .add 3 f (.Xw 1) λn=>c [b,g,h,i,j,n] a)
def Ev(Q:R)(d:Kn)(e:SH)(b f g h i j k c:AV)(a:SH)(l:Ns):Prop:=wn [] l [] e.names λo=>wb .lss 3 c (.Xw 0) λm=>wk m ((true=true)∧(aN 1 b [] 1 a λn p=>Q (.tup [(.Xw 5),n]) a)) ((Eu Q d a f c b g h i j k))
def Ew(Q:R)(e:Kn)(a:SH)(b c d f g h i:AV):Prop:=(true=true)∧(W.calm [] ⟨2,(dR b),[],[],false,[]⟩ (W.slice 6 b none (some c) none a λj=>wn (dR b) [] [] [] λk=>aN 5 d [rm 2 k] 4 a λl m=>wd [] 5 (.fn 88 []) [j,l] a (Ev Q e a d b c f g h i)))
def Ey(Q:R)(b:Kn)(a:SH)(c d e f g h i:AV):Prop:=aB 0 c a λj=>wb .eql 3 j (.Xw 5) λk=>wk k ((Ew Q b a d e c f g h i)) (wb .add 3 e (.Xw 1) λl=>b [d,f,g,h,i,l] a)
def jC(Q:R)(j:Kn)(k:Vs)(l:SH):Prop:=NR 0 4 5 6 7 8 9 k λm e f g h n i=>wb .gtr 3 e (.Xw 12) λa=>bH a false f l λo p=>wg a false (wb .gtr 3 o (.Xw 4)) p λq r=>W.pick a (.bool true) q λb=>bH b false g r λs t=>wg b false (wb .gtr 3 s (.Xw 2)) t λu v=>W.pick b (.bool true) u λc=>bH c false h v λw x=>wg c false (wb .gtr 3 w (.Xw 2)) x λy d=>W.pick c (.bool true) y λz=>wk z ((true=true)∧(aN 1 i [] 1 d λA B=>Q (.tup [(.Xw 2),A]) d)) ((Ey Q j d i m n e f g h))
def Ez(a:Kn)(b:SH)(j c d e f g h i:AV):Prop:=wb .eql 3 j (.Xw 5) λk=>wk k (wb .add 3 c (.Xw 1) λl=>a [d,e,f,l,g,h,i] b) (wb .add 3 g (.Xw 1) λm=>a [d,e,f,c,m,h,i] b)
def EA(a:Kn)(j:Vs)(b:SH):Prop:=NS 0 4 5 6 7 8 9 36 47 j λc d e f g h i k l=>wk l (wb .add 3 e (.Xw 1) λm=>a [c,d,m,f,g,h,i] b) ((Ez a b k f c d e g h i))
def EB(l:Kn)(b:SH)(a c d e f g h i:AV):Prop:=W.join (EA l) λj=>wb .eql 3 a (.Xw 3) λk=>wk k (j [c,d,e,f,g,h,i,a,k] b) (wb .eql 3 a (.Xw 4) λm=>j [c,d,e,f,g,h,i,a,m] b)
def EC(c:Kn)(j:Vs)(a:SH):Prop:=NS 0 4 5 6 7 8 9 36 39 j λd e f g h i b k l=>wk l (aB 3 b a λm=>W.mnx true m (.Xw 1) λn=>wb .add 3 e n λo=>c [d,o,f,g,h,i,b] a) ((EB c a k d e f g h i b))
def ED(Q:R)(l:Kn)(b:SH)(c d e f g h i:AV):Prop:=W.join (jC Q l) λm=>aB 0 c b λa=>W.join (EC m) λj=>wb .eql 3 a (.Xw 1) λk=>wk k (j [d,e,f,g,h,i,c,a,k] b) (wb .eql 3 a (.Xw 2) λn=>j [d,e,f,g,h,i,c,a,n] b)
def EE(Q:R)(c:Kn)(a:SH)(b d e f g h i:AV):Prop:=aB 3 b a λj=>wb .gtr 3 j (.Xw 4) λk=>wk k ((true=true)∧(aN 1 b [] 1 a λl m=>Q (.tup [(.Xw 2),l]) a)) ((ED Q c a b d e f g h i))
def EF(Q:R)(c:Kn)(d:SH)(b e f g h i j k:AV)(a:SH)(l:Ns):Prop:=wn [] l [] d.names λo=>wb .geq 3 k (.Xw 0) λm=>wk m ((true=true)∧(aN 1 b [] 1 a λn p=>Q (.tup [(.Xw 4),n]) a)) ((EE Q c a b e f g h i j))
def EG(Q:R)(f:Kn)(d:SH)(a c g h i j:AV):Prop:=lE 6 a c d λk=>o6 [(.Xw 0),(.Xw 0),(.str []),(.Xw 0),(.Xw 0),(.str [])] 6 k d λe b=>(true=true)∧(W.calm [] ⟨2,(dR a),[],[],false,[]⟩ (W.slice 6 a none (some c) none b λl=>wn (dR a) [] [] [] λm=>aN 2 e [rm 2 m] 4 b λn o=>wd [] 5 (.fn 88 []) [l,n] b (EF Q f b e a g h i j c)))
def pY(Q:R)(d:Vs)(a:SH)(e:Kn):Prop:=Iv 0 4 5 6 7 8 d λb f g h i c=>W.len b λj=>wb .lss 3 c j λk=>wk k ((EG Q e a b c f g h i)) (Q (.tup [(.Xw 0),(.Xw 0)]) a)
def sk(a:AV)(L:SH)(Q:R):Prop:=W.loop (pY Q) [a,(.Xw 0),(.Xw 0),(.Xw 0),(.Xw 0),(.Xw 0)] L
theorem EH(t0:AV)(L:SH)(Q:R)(h:sk t0 L Q):af Tryz.prog 55 [t0] L Q:=
 fs [(11,[0,4,5,6,7,8,9]),(13,[0,4,5,6,7,8,9,36,39]),(16,[0,4,5,6,7,8,9,36,47])] [(3,[0,4,5,6,7,8])] [(5,[9])] [(6,[0,0,3,0,8,31,63]),(7,[0,1,0,7]),(9,[0,1,0,7]),(21,[0,1,0,7]),(23,[0,0,3,0,8,31,63]),(25,[0,1,0,7]),(27,[0,1,0,7])] Tryz.func55 h
def Au(Q:R)(o:Kn)(p:SH)(h i j q:AV)(k:SH)(r:Ns):Prop:=wn [] r [] p.names λa4=>wb .geq 3 q (.Xw 0) λa=>W.dgrd a false (λs=>W.faddr 1 h λt=>s t k rz) k λu b a5=>W.dgrd a false (λv=>dl [] 8 u b λw x=>v w b x) b λc l y=>W.dgrd a false (λz=>z i l rz) l λA d a6=>W.dgrd a false (λB=>W.calm [] ⟨10,(dR c),[],[],false,[]⟩ (W.slice 4 c none (some A) none d λC=>wn (dR c) [] [] [] λD=>B C d D)) d λE m F=>W.dgrd a false (λG=>W.faddr 0 j λH=>G H m rz) m λI e a7=>W.dgrd a false (λJ=>dl [rm 10 F,rm 8 y] 12 I e λM N=>J M e N) e λO f a8=>W.dgrd a false (λP=>wd [] 13 (.fn 89 []) [E,O] f λS T U=>wn [] U [] f.names λV=>P S T V) f λX n a9=>W.dgrd a false (λY=>wb .geq 3 X (.Xw 0) λZ=>Y Z n rz) n λa0 g b0=>W.pick a (.bool true) a0 λa1=>wk a1 ((true=true)∧(aN 1 j [] 1 g λa2 b1=>Q (.tup [(.Xw 4),a2]) g)) (wb .add 3 i (.Xw 1) λa3=>o [h,a3] g)
def Av(Q:R)(f:Kn)(b:SH)(c d:AV):Prop:=aB 1 c b λg=>lE 4 g d b λh=>o6 [(.str []),(.Xw 0),.nils,.nils] 4 h b λe a=>(true=true)∧(aN 0 c [] 1 a λi j=>aN 0 e [rm 1 j] 3 a λk l=>wd [] 4 (.fn 88 []) [i,k] a (Au Q f a c d e))
def Aw(Q:R)(m:Kn)(e f c g n o:AV)(p:SH):Prop:=wb .geq 3 o (.Xw 0) λb=>wg b false (W.faddr 1 e) p λq h=>wg b false (wl q h) h λr s=>bH b false f s λt i=>W.grd b false (λu=>wc (.fn 89 []) [r,t] i λv w=>u v w) i λx y=>wg b false (wb .geq 3 x (.Xw 0)) y λz A=>W.pick b (.bool true) z λa=>wg a false (W.faddr 2 c) A λB j=>wg a false (wl B j) j λC D=>bH a false g D λE k=>wg a false (W.slice 1 C none (some E) none k) k λF G=>bH a false f G λH l=>W.grd a false (λI=>wc (.fn 90 []) [F,H] l λJ M=>I J M) l λN O=>wg a false (wb .geq 3 N (.Xw 0)) O λP d=>W.pick a (.bool true) P λS=>wk S ((true=true)∧(aN 1 c [] 1 d λT V=>Q (.tup [(.Xw 4),T]) d)) (wb .add 3 g (.Xw 1) λU=>m [e,n,c,U] d)
def Ax(Q:R)(f:Kn)(a:SH)(b c d g:AV):Prop:=aB 2 b a λh=>wo 1 h c a λe=>aB 0 d a λi=>wc (.fn 88 []) [i,e] a (Aw Q f d e b c g)
def l6(Q:R)(f:Kn)(g:Vs)(a:SH)(h:Kn):Prop:=wu 1 6 7 8 g λb c d e=>aB 2 d a λi=>W.len i λj=>wb .lss 3 e j λk=>wk k ((Ax Q h a d e b c)) (wb .add 3 c (.Xw 1) λl=>f [b,l] a)
def Ay(Q:R)(f:Kn)(b:SH)(d e:AV):Prop:=aB 1 d b λg=>lE 4 g e b λh=>o6 [(.str []),(.Xw 0),.nils,.nils] 4 h b λc a=>aB 2 c a λi=>W.len i λj=>wb .gtr 3 j (.Xw 4) λk=>wk k ((true=true)∧(aN 1 c [] 1 a λl m=>Q (.tup [(.Xw 2),l]) a)) (W.loop (l6 Q f) [d,e,c,(.Xw 0)] a)
def l7(Q:R)(d:Vs)(a:SH)(e:Kn):Prop:=PV 1 6 d λb c=>aB 1 b a λf=>W.len f λg=>wb .lss 3 c g λh=>wk h ((Ay Q e a b c)) (Q (.tup [(.Xw 0),(.Xw 0)]) a)
def l8(Q:R)(d:Vs)(a:SH)(e:Kn):Prop:=PV 1 4 d λb c=>aB 1 b a λf=>W.len f λg=>wb .lss 3 c g λh=>wk h ((Av Q e a b c)) (W.loop (l7 Q) [b,(.Xw 0)] a)
def nM(a:AV)(L:SH)(Q:R):Prop:=qo a L λb c=>W.loop (l8 Q) [b,(.Xw 0)] c
theorem Az(t0:AV)(L:SH)(Q:R)(h:nM t0 L Q):af Tryz.prog 56 [t0] L Q:=
 fs [] [(2,[1,4]),(14,[1,6,7,8]),(8,[1,6])] [(0,[1]),(4,[5]),(10,[7])] [(5,[0,1,0,4,15,31,63,127,255,127,1023,127,2175,8191,16383,32767]),(6,[0,1,0,7]),(12,[0,1,0,7]),(18,[0,1,0,7])] Tryz.func56 h
def AA(a:Kn)(b c d e:AV)(f:SH):Prop:=wb .add 3 b e λg=>wb .add 3 c (.Xw 1) λh=>a [d,g,h] f
def AB(Q:R)(d:Kn)(e f g a:AV)(b:SH):Prop:=W.ext 0 a λc=>W.ext 1 a λh=>wb .neq 74 c (.Xw 0) λi=>wk i (Q (.tup [c,h]) b) (wb .add 3 e (.Xw 1) λj=>d [f,g,j] b)
def AC(Q:R)(e:Kn)(f:SH)(a b d:AV):Prop:=W.nilchk a λg=>W.faddr 2 g λh=>W.store 1 h b f λc=>aB 1 d c λi=>eB 4 3 i b c λj=>wc (.fn 58 []) [a,j] c (AB Q e b d a)
def l9(Q:R)(d:Vs)(a:SH)(e:Kn):Prop:=wq 1 10 11 d λb f c=>aB 1 b a λg=>W.len g λh=>wb .lss 3 c h λi=>wk i ((AC Q e a f c b)) (Q (.tup [(.Xw 0),(.Xw 0)]) a)
def AD(Q:R)(a:SH)(b:AV):Prop:=bS 2 b a λc=>W.build [.nils,.nils,(.Xw 0),.nils,.nils,.nils] [(0,2,c)] λd=>W.box d a λe f=>W.loop (l9 Q) [b,e,(.Xw 0)] f
def ma(Q:R)(e:Vs)(a:SH)(f:Kn):Prop:=wq 1 8 9 e λb d c=>aB 1 b a λg=>W.len g λh=>wb .lss 3 c h λi=>wk i (aB 1 b a λj=>eB 4 3 j c a λk=>wc (.fn 57 []) [k] a (AA f d c b)) (wb .gtr 3 d (.Xw 60) λl=>wk l (Q (.tup [(.Xw 2),(.Xw 0)]) a) ((AD Q a b)))
def AE(Q:R)(d a:AV)(b:SH):Prop:=W.ext 0 a λc=>W.ext 1 a λe=>wb .neq 74 c (.Xw 0) λf=>wk f (Q (.tup [c,e]) b) (W.loop (ma Q) [d,(.Xw 0),(.Xw 0)] b)
def AF(Q:R)(a:SH)(b:AV):Prop:=aB 1 b a λc=>W.len c λd=>wb .gtr 3 d (.Xw 4) λe=>wk e (Q (.tup [(.Xw 2),(.Xw 0)]) a) (bS 2 b a λf=>wc (.fn 56 []) [f] a (AE Q b))
def AG(Q:R)(d a:AV)(b:SH):Prop:=W.ext 0 a λc=>W.ext 1 a λe=>wb .neq 74 c (.Xw 0) λf=>wk f (Q (.tup [c,e]) b) ((AF Q b d))
def AH(Q:R)(b c:AV)(a:SH):Prop:=W.un .not c λd=>wk d (Q (.tup [(.Xw 3),(.Xw 0)]) a) (aB 0 b a λe=>wc (.fn 55 []) [e] a (AG Q b))
def nN(c:AV)(L:SH)(Q:R):Prop:=qo c L λa b=>bS 2 a b λd=>wc (.fn 54 []) [d] b (AH Q a)
theorem AI(t0:AV)(L:SH)(Q:R)(h:nN t0 L Q):af Tryz.prog 28 [t0] L Q:=
 fs [] [(13,[1,8,9]),(20,[1,10,11])] [(0,[1])] [] Tryz.func28 h
def pZ(Q:R)(o:Kn)(d:SH)(g h i j e:AV):Prop:=dL 3 g d λp=>lE 11 p h d λq=>o6 [(.Xw 0),(.Xw 0),(.str []),(.str []),.nils,(.Xw 0),(.Xw 0),(.str []),.nils,.nils,.nils] 11 q d λf k=>aB 0 f k λr=>wb .eql 3 r i λa=>wg a false (W.faddr 0 f) k λs l=>wg a false (wl s l) l λt u=>bH a false j u λv w=>wg a false (wb .eql 3 t v) w λx y=>W.pick a (.bool true) x λb=>bH b true e y λz A=>wg b true (wb .eql 9 z (.str [])) A λB C=>bH b true B C λc D=>wg c false (W.faddr 2 f) D λE m=>wg c false (wl E m) m λF G=>bH c false e G λH I=>wg c false (wb .eql 9 F H) I λJ M=>wg b true (W.pick c (.bool true) J) M λN n=>W.pick b N (.bool false) λO=>wk O (Q (.bool true) n) (wb .add 3 h (.Xw 1) λP=>o [g,i,j,e,P] n)
def eG(Q:R)(d:Vs)(a:SH)(e:Kn):Prop:=HE 0 1 2 3 9 d λb f g h c=>dL 3 b a λi=>W.len i λj=>wb .lss 3 c j λk=>wk k ((pZ Q e a b c f g h)) (Q (.bool false) a)
def iI(a b c d:AV)(L:SH)(Q:R):Prop:=W.loop (eG Q) [a,b,c,d,(.Xw 0)] L
theorem p7(t0 t1 t2 t3:AV)(L:SH)(Q:R)(h:iI t0 t1 t2 t3 L Q):af Tryz.prog 122 [t0,t1,t2,t3] L Q:=
 fs [] [(2,[0,1,2,3,9])] [(4,[10])] [] Tryz.func122 h
def xW(Q:R)(a:SH)(b:AV)(c:SH)(d:Ns):Prop:=wn [] d [] a.names λe=>Q b c
def xX(Q:R)(b:SH)(c d:AV)(a:SH)(e:Ns):Prop:=wn [] e [] b.names λf=>wd [] 13 (.fn 123 []) [c,d] a (xW Q a)
def xY(Q:R)(b:SH)(c d e:AV)(a:SH)(f:Ns):Prop:=wn [] f [] b.names λg=>wd [] 12 (.fn 123 []) [c,e] a (xX Q a d)
def xZ(Q:R)(b:SH)(c d e:AV)(a:SH)(f:Ns):Prop:=wn [] f [] b.names λg=>wd [] 11 (.fn 126 []) [c] a (xY Q a e d)
def x7(Q:R)(e:SH)(f g h i:AV)(b c:Fp)(j:AV)(a:SH)(k:Ns):Prop:=wn [] k [] e.names λd=>dr [rc 4 d,rm 3 b,rm 0 c] 5 2 f a λl m=>aN 3 g [rm 5 m,rc 4 d,rm 3 b,rm 0 c] 8 a λn o=>wd [] 9 (.fn 124 []) [l,h,n,(.Xw 6),(.Xw 6)] a (xZ Q a i j)
def x9(Q:R)(f:Vs)(a:SH):Prop:=HE 3 4 5 6 7 f λb k c d g=>(true=true)∧(dr [] 0 2 c a λh e=>aN 2 b [rm 0 e] 3 a λi j=>wd [] 4 (.fn 124 []) [h,d,i,(.Xw 8),(.Xw 8)] a (x7 Q a c b d g j e))
def yb(Q:R)(a:SH)(b:AV)(c:SH)(d:Ns):Prop:=wn [] d [] a.names λe=>Q b c
def yd(Q:R)(b:SH)(c d:AV)(a:SH)(e:Ns):Prop:=wn [] e [] b.names λf=>wd [] 10 (.fn 123 []) [c,d] a (yb Q a)
def ye(Q:R)(e:SH)(f g h:AV)(b c:Fp)(i:AV)(a:SH)(j:Ns):Prop:=wn [] j [] e.names λd=>dr [rc 4 d,rm 3 b,rm 0 c] 5 2 f a λk l=>W.faddr 5 g λm=>dr [rm 5 l,rc 4 d,rm 3 b,rm 0 c] 8 4 m a λn o=>wd [] 9 (.fn 125 []) [k,h,n] a (yd Q a i)
def yf(Q:R)(a:SH)(b c d:AV):Prop:=(true=true)∧(dr [] 0 2 b a λf e=>aN 2 c [rm 0 e] 3 a λg h=>wd [] 4 (.fn 124 []) [f,d,g,(.Xw 8),(.Xw 1)] a (ye Q a b c d h e))
def yg(Q:R)(a:SH)(b:AV)(c:SH)(d:Ns):Prop:=wn [] d [] a.names λe=>Q b c
def tu(Q:R)(b:SH)(c d:AV)(a:SH)(e:Ns):Prop:=wn [] e [] b.names λf=>wd [] 18 (.fn 123 []) [c,d] a (yg Q a)
def tv(Q:R)(b:SH)(c d e:AV)(a:SH)(f:Ns):Prop:=wn [] f [] b.names λg=>wd [] 17 (.fn 123 []) [c,e] a (tu Q a d)
def tw(Q:R)(j:SH)(k l m n:AV)(b c d e f g h:Fp)(o:AV)(a:SH)(p:Ns):Prop:=wn [] p [] j.names λi=>dr [rc 11 i,rm 10 b,rm 9 c,rm 8 d,rm 5 e,rc 4 f,rm 3 g,rm 0 h] 12 2 k a λq r=>W.faddr 5 l λs=>dr [rm 12 r,rc 11 i,rm 10 b,rm 9 c,rm 8 d,rm 5 e,rc 4 f,rm 3 g,rm 0 h] 15 4 s a λt u=>wd [] 16 (.fn 125 []) [q,m,t] a (tv Q a o n)
def tz(Q:R)(i:SH)(f g h:AV)(b c:Fp)(j:AV)(a:SH)(k:Ns):Prop:=wn [] k [] i.names λd=>dr [rc 4 d,rm 3 b,rm 0 c] 5 2 f a λl e=>aN 4 g [rm 5 e,rc 4 d,rm 3 b,rm 0 c] 8 a λm n=>di [rm 5 e,rc 4 d,rm 3 b,rm 0 c] 9 4 m (.Xw 0) a λo p=>dr [rm 5 e,rc 4 d,rm 3 b,rm 0 c] 10 4 o a λq r=>wd [] 11 (.fn 125 []) [l,h,q] a (tw Q a f g h j r p n e d b c)
def yh(Q:R)(a:SH)(b c d:AV):Prop:=(true=true)∧(dr [] 0 2 b a λf e=>aN 2 c [rm 0 e] 3 a λg h=>wd [] 4 (.fn 124 []) [f,d,g,(.Xw 2),(.Xw 2)] a (tz Q a b c d h e))
def yi(Q:R)(a:SH)(b c d:AV):Prop:=aB 4 b a λe=>W.len e λf=>wb .eql 3 f (.Xw 0) λg=>wk g ((yf Q a c b d)) ((yh Q a c b d))
def tB(Q:R)(a b:AV)(c:SH):Prop:=wc (.fn 123 []) [a,b] c λd e=>Q d e
def tC(Q:R)(a d e f:AV)(g:SH):Prop:=bH a false d g λh i=>wg a false (W.faddr 2 e) i λj b=>wg a false (wl j b) b λk c=>W.grd a false (λl=>wc (.fn 122 []) [h,(.Xw 4),(.Xw 4),k] c λm n=>l m n) c λo p=>W.pick a (.bool true) o λq=>wc (.fn 126 []) [q] p (tB Q f)
def yj(Q:R)(a:SH)(c b d e f:AV):Prop:=bS 2 c a λg=>aB 2 b a λh=>wc (.fn 124 []) [g,d,h,(.Xw 3),(.Xw 3)] a (tC Q e f b)
def tD(Q:R)(a b:AV)(c:SH):Prop:=wc (.fn 123 []) [a,b] c λd e=>Q d e
def tE(Q:R)(a d e f:AV)(g:SH):Prop:=bH a false d g λh i=>wg a false (W.faddr 2 e) i λj b=>wg a false (wl j b) b λk c=>W.grd a false (λl=>wc (.fn 122 []) [h,(.Xw 5),(.Xw 6),k] c λm n=>l m n) c λo p=>W.pick a (.bool true) o λq=>wc (.fn 126 []) [q] p (tD Q f)
def yk(Q:R)(a:SH)(c b d e f:AV):Prop:=bS 2 c a λg=>aB 2 b a λh=>wc (.fn 124 []) [g,d,h,(.Xw 4),(.Xw 4)] a (tE Q e f b)
def tF(Q:R)(e:SH)(b f g h:AV)(i:SH)(j:Ns):Prop:=wn [] j [] e.names λB=>bH b false h i λk l=>wg b false (W.un .not k) l λm n=>W.pick b (.bool true) m λa=>wg a false (W.faddr 0 f) n λo c=>wg a false (wl o c) c λp q=>wg a false (wb .eql 3 p (.Xw 9)) q λr s=>bH a false r s λd t=>bH d true g t λu v=>wg a false (W.pick d u (.bool false)) v λw x=>W.pick a (.bool true) w λy=>wc (.fn 126 []) [y] x λz A=>Q z A
def tG(Q:R)(b:SH)(c d e f g h:AV)(a:SH)(i:Ns):Prop:=wn [] i [] b.names λl=>di [] 8 6 c h a λj m=>aN 5 j [] 10 a λk n=>wd [] 11 (.fn 122 []) [d,(.Xw 4),(.Xw 4),k] a (tF Q a e f g)
def yl(Q:R)(a:SH)(c d e f g:AV):Prop:=(true=true)∧(aN 0 c [] 2 a λh b=>aN 0 c [rm 2 b] 4 a λi j=>aN 2 d [rm 4 j,rm 2 b] 6 a λk l=>wd [rm 2 b] 7 (.fn 88 []) [i,k] a (tG Q a h e f d g))
def tH(Q:R)(c d e f g a:AV)(b:SH):Prop:=wb .neq 74 a (.Xw 0) λh=>wk h (Q a b) ((yl Q b c d e f g))
def ym(Q:R)(a:SH)(b c d e f g:AV):Prop:=bS 2 b a λh=>aB 2 c a λi=>wc (.fn 124 []) [h,d,i,(.Xw 5),(.Xw 5)] a (tH Q b c e f g)
def yn(Q:R)(c:SH)(d g:AV):Prop:=(true=true)∧(W.nilchk d λh=>aN 4 h [] 4 c λa e=>aN 2 g [rm 4 e] 6 c λi o=>W.calm [rm 4 e] ⟨7,[],[],[],false,[]⟩ (W.bslice 1 [(.str [])] 1 [(0,i)] c λb j=>wn [] [] (aa b) [] λp=>W.calm [] ⟨8,(aa a++aa b),(aa a),[],false,[]⟩ (W.append 1 16 a b j λf k=>wn (aa a++aa b) (aa a) (aa f) [] λq=>W.nilchk d λl=>W.faddr 4 l λm=>ds [] 11 1 m f k λn r=>Q (.Xw 0) n)))
def tI(Q:R)(b:SH)(c d e:AV)(a:SH)(f:Ns):Prop:=wn [] f [] b.names λh=>wb .geq 3 e (.Xw 0) λg=>wk g (Q (.Xw 8) a) ((yn Q a c d))
def yo(Q:R)(a:SH)(b c:AV):Prop:=(true=true)∧(W.nilchk b λd=>aN 4 d [] 3 a λe f=>aN 2 c [rm 3 f] 5 a λg h=>wd [] 6 (.fn 90 []) [e,g] a (tI Q a b c))
def tJ(Q:R)(c g h i j k d:AV)(l:SH):Prop:=bH c false g l λm n=>W.pick c (.bool true) m λe=>bH e false h n λo p=>W.pick e (.bool true) o λa=>bH a false d p λq r=>bH a false i r λs t=>wg a false (wb .eql 3 q s) t λu v=>W.pick a (.bool true) u λb=>bH b false d v λw x=>wg b false (wb .eql 3 w (.Xw 0)) x λy f=>W.pick b (.bool true) y λz=>wk z (Q (.Xw 7) f) ((yo Q f j k))
def tK(Q:R)(d b e f g h i c:AV)(a:SH):Prop:=wb .neq 74 c (.Xw 0) λj=>wk j (Q c a) (aB 1 d a λk=>aB 2 b a λl=>wc (.fn 89 []) [k,l] a (tJ Q e f g h i b))
def yp(Q:R)(a:SH)(b c d e f g h:AV):Prop:=bS 2 b a λi=>aB 2 c a λj=>wc (.fn 124 []) [i,d,j,(.Xw 7),(.Xw 7)] a (tK Q b c e f g d h)
def tL(Q:R)(a b:AV)(c:SH):Prop:=wc (.fn 123 []) [a,b] c λd e=>Q d e
def tM(Q:R)(b f g h i j:AV)(k:SH):Prop:=bH b false f k λl m=>W.pick b (.bool true) l λa=>wg a false (W.faddr 1 g) m λn c=>wg a false (wl n c) c λo p=>wg a false (W.faddr 2 h) p λq d=>wg a false (wl q d) d λr e=>W.grd a false (λs=>wc (.fn 89 []) [o,r] e λt u=>s t u) e λv w=>bH a false i w λx y=>wg a false (wb .eql 3 v x) y λz A=>W.pick a (.bool true) z λB=>wc (.fn 126 []) [B] A (tL Q j)
def tN(Q:R)(a:SH)(b c d e f:AV):Prop:=bS 2 b a λg=>aB 2 c a λh=>wc (.fn 124 []) [g,d,h,(.Xw 7),(.Xw 7)] a (tM Q e f b c d)
def tO(Q:R)(a:Vs)(b:SH):Prop:=HE 3 4 5 6 7 a λd c e f g=>Q c b
def tP(a:Kn)(b:Vs)(c d e f:AV)(g:SH):Prop:=a [c,f,d,e,(av [0,3,5,6,14] b 7)] g
def tQ(a:Kn)(b:Vs)(c d e f g:AV)(h:SH):Prop:=wc (.fn 123 []) [c,g] h (tP a b d e f)
def tR(Q:R)(f:Vs)(c:SH):Prop:=HE 0 3 5 6 14 f λg d h i l=>(true=true)∧(W.nilchk g λm=>aN 5 m [] 4 c λa j=>aN 2 d [rm 4 j] 6 c λn w=>W.calm [rm 4 j] ⟨7,[],[],[],false,[]⟩ (W.bslice 1 [(.str [])] 1 [(0,n)] c λb o=>wn [] [] (aa b) [] λx=>W.calm [] ⟨8,(aa a++aa b),(aa a),[],false,[]⟩ (W.append 1 16 a b o λk p=>wn (aa a++aa b) (aa a) (aa k) [] λy=>W.nilchk g λq=>W.faddr 5 q λr=>ds [] 11 1 r k p λe z=>W.join (tO Q) λs=>bS 2 h e λt=>W.faddr 5 d λu=>bS 4 u e λv=>wc (.fn 125 []) [t,i,v] e (tQ s f l d h i))))
def tS(Q:R)(b c g h i:AV)(j:SH):Prop:=W.join (tR Q) λk=>(true=true)∧(wb .eql 74 i (.Xw 0) λa=>W.dgrd a true (λq=>q b j rz) j λr l Z=>W.dgrd a true (λs=>W.nilchk r λt=>s t l rz) l λu m a0=>W.dgrd a true (λv=>W.faddr 5 u λw=>v w m rz) m λx d a1=>W.dgrd a true (λy=>dl [] 6 x d λz A=>y z d A) d λB n C=>W.dgrd a true (λD=>W.faddr 2 c λE=>D E n rz) n λF e a2=>W.dgrd a true (λG=>dl [rm 6 C] 8 F e λH I=>G H e I) e λJ f a3=>W.dgrd a true (λM=>wd [] 9 (.fn 90 []) [B,J] f λN O P=>wn [] P [] f.names λS=>M N O S) f λT o a4=>W.dgrd a true (λU=>wb .geq 3 T (.Xw 0) λV=>U V o rz) o λX p a5=>W.pick a X (.bool false) λY=>wk Y (k [b,c,g,h,(.Xw 8)] p) (k [b,c,g,h,i] p))
def tT(Q:R)(a b c d e f:AV)(g:SH):Prop:=wc (.fn 123 []) [a,f] g (tS Q b c d e)
def tU(Q:R)(a b c d e f g:AV)(h:SH):Prop:=bH a false b h λi j=>W.pick a (.bool true) i λk=>wc (.fn 126 []) [k] j (tT Q g c d e f)
def tV(Q:R)(a:SH)(b c d e f g:AV):Prop:=bS 2 b a λh=>aB 2 c a λi=>wc (.fn 124 []) [h,d,i,(.Xw 6),(.Xw 6)] a (tU Q e f g c b d)
def tW(Q:R)(f:Kn)(g:Vs)(a:SH)(h b c d e i j:AV):Prop:=wb .eql 3 h (.Xw 14) λk=>wk k ((tV Q a b c d e i j)) (f [c,(av [0,3,5,6,7,8,9,30,119] g 4),b,d,e] a)
def tX(Q:R)(g:Kn)(h:Vs)(a:SH)(b c d e f i j k:AV):Prop:=wb .eql 3 b (.Xw 13) λl=>wk l ((tN Q a c d e f i)) ((tW Q g h a b c d e f j k))
def tY(Q:R)(j:Kn)(k:Vs)(a:SH)(b c d e f g h i:AV):Prop:=wb .eql 3 b (.Xw 12) λl=>wk l ((yp Q a c d e f g h i)) ((tX Q j k a b c d e f g h i))
def tZ(Q:R)(i:Kn)(a:Vs)(b:SH):Prop:=NS 0 3 5 6 7 8 9 30 119 a λc d e f g h j k l=>wk l ((ym Q b e d f c g h)) ((tY Q i a b k e d f g h j c))
def t6(b:Kn)(c:SH)(a d e f g h i j:AV):Prop:=wb .eql 3 a (.Xw 10) λk=>wk k (b [d,e,f,g,h,i,j,a,k] c) (wb .eql 3 a (.Xw 11) λl=>b [d,e,f,g,h,i,j,a,l] c)
def t7(Q:R)(l:Kn)(b:SH)(a c d e f g h i:AV):Prop:=W.join (tZ Q l) λj=>wb .eql 3 a (.Xw 9) λk=>wk k (j [c,d,e,f,g,h,i,a,k] b) ((t6 j b a c d e f g h i))
def t8(Q:R)(e:Kn)(b:SH)(c a d f g h i j:AV):Prop:=wb .eql 3 c (.Xw 8) λk=>wk k (bH a false d b λl m=>W.pick a (.bool true) l λn=>wc (.fn 126 []) [n] m λo p=>Q o p) ((t7 Q e b c f g h i a d j))
def ua(Q:R)(d:Kn)(a:SH)(b c e f g h i j:AV):Prop:=wb .eql 3 b (.Xw 7) λk=>wk k (wc (.fn 126 []) [c] a λl m=>Q l m) ((t8 Q d a b c e f g h i j))
def ub(Q:R)(g:Kn)(h:Vs)(a:SH):Prop:=NS 0 3 5 6 7 8 9 30 91 h λb c d e f i j k l=>wk l ((yk Q a d c e f b)) ((ua Q g a k f i b c d e j))
def uc(Q:R)(l:Kn)(b:SH)(a c d e f g h i:AV):Prop:=W.join (ub Q l) λj=>wb .eql 3 a (.Xw 5) λk=>wk k (j [c,d,e,f,g,h,i,a,k] b) (wb .eql 3 a (.Xw 6) λm=>j [c,d,e,f,g,h,i,a,m] b)
def ud(Q:R)(h:Kn)(a:SH)(b c d e f g i j:AV):Prop:=wb .eql 3 b (.Xw 4) λk=>wk k ((yj Q a c d e f g)) ((uc Q h a b g d c e f i j))
def ue(Q:R)(e:Kn)(f:Vs)(a:SH):Prop:=NS 0 3 5 6 7 8 9 30 67 f λg b c d h i j k l=>wk l (bS 2 c a λm=>W.faddr 5 b λn=>bS 4 n a λo=>wc (.fn 125 []) [m,d,o] a λp q=>Q p q) ((ud Q e a k c b d h g i j))
def uf(Q:R)(l:Kn)(b:SH)(c a d e f g h i:AV):Prop:=W.join (ue Q l) λj=>wb .eql 3 a (.Xw 2) λk=>wk k (j [c,d,e,f,g,h,i,a,k] b) (wb .eql 3 a (.Xw 3) λm=>j [c,d,e,f,g,h,i,a,m] b)
def ug(Q:R)(f a c d g h i:AV)(b:SH):Prop:=W.join (x9 Q) λj=>aB 0 a b λe=>wb .eql 3 e (.Xw 1) λk=>wk k ((yi Q b a c d)) ((uf Q j b f e a c d g h i))
def uh(Q:R)(a b c d e f:AV)(g:SH):Prop:=wc (.fn 122 []) [a,(.Xw 3),(.Xw 3),(.str [])] g (ug Q a b c d e f)
def ui(Q:R)(a b c d e:AV)(f:SH):Prop:=wc (.fn 122 []) [a,(.Xw 8),(.Xw 8),(.str [])] f (uh Q a b c d e)
def mb(a f:AV)(L:SH)(Q:R):Prop:=qo f L λg b=>(true=true)∧(W.nilchk a λh=>W.faddr 0 h λi=>dr [] 3 2 i b λj d=>W.nilchk a λk=>aN 2 k [rm 3 d] 7 b λl e=>W.calm [rm 7 e,rm 3 d] ⟨8,[],[],[],false,[]⟩ (W.alloc [.nils,.nils] b λc m=>wn [] [] (aa c) [] λq=>ds [rm 7 e] 9 2 c j m λn r=>W.frz1 c n λo p=>wc (.fn 122 []) [a,(.Xw 7),(.Xw 7),(.str [])] p (ui Q a g o l)))
theorem yq(t0 t1:AV)(L:SH)(Q:R)(h:mb t0 t1 L Q):af Tryz.prog 91 [t0,t1] L Q:=
 fs [(48,[3,4,5,6,7]),(11,[0,3,5,6,7,8,9,30,67]),(16,[0,3,5,6,7,8,9,30,91]),(24,[0,3,5,6,7,8,9,30,119]),(46,[0,3,5,6,14])] [] [(0,[3]),(1,[5])] [(1,[0,1,3,7,0,16,48,112,0,271,1023]),(8,[0,0,0,4,15,0,0,0,128,511,1023,2047]),(9,[0,0,0,4,15,0,0,0,128,384,896,2047,0,0,0,16384,65535,131071,262143,524287]),(28,[0,0,2,0,8,0,32,120,254,510,1022,2047,4095]),(37,[0,1,3,7,0,16,63,127]),(39,[0,0,2,6,14,0,32,96,254,511,1023,2047]),(45,[0,1,3,7,15,31,63,7,135,511,1023,2047]),(47,[0,0,2,6,14,0,32,96,254,511,1023,2047]),(49,[0,0,0,4,15,0,0,0,128,511,0,2047,4095,8191,16383])] Tryz.func91 h
def gg(Q:R)(f:Kn)(g:Vs)(a:SH):Prop:=HE 0 1 6 8 9 g λb h i d j=>(true=true)∧(W.nilchk b λk=>aN 3 k [] 4 a λc l=>W.nilchk b λm=>aN 3 m [rm 4 l] 8 a λn v=>W.len n λo=>wb .sub 3 o (.Xw 1) λp=>W.calm [] ⟨11,(dR c),[],[],false,[]⟩ (W.slice 11 c none (some p) none a λq=>wn (dR c) [] [] [] λw=>W.nilchk b λr=>W.faddr 3 r λs=>ds [] 14 1 s q a λe x=>wb .neq 74 d (.Xw 0) λt=>wk t (Q (.tup [d,j]) e) (wb .add 3 i (.Xw 1) λu=>f [b,h,u] e)))
def ky(b:Kn)(c d e a:AV)(f:SH):Prop:=W.ext 0 a λg=>W.ext 1 a λh=>b [c,d,e,g,h] f
def gh(Q:R)(h:Kn)(i a c d e:AV)(b:SH):Prop:=W.ext 0 e λf=>W.ext 1 e λj=>W.join (gg Q h) λg=>wb .eql 74 f (.Xw 0) λk=>wk k (aB 10 i b λl=>wc (.fn 58 []) [a,l] b (ky g a c d)) (g [a,c,d,f,j] b)
def yr(Q:R)(j:Kn)(d:SH)(b e k l:AV):Prop:=(true=true)∧(W.nilchk b λm=>aN 3 m [] 3 d λa g=>dr [rm 3 g] 4 11 e d λn o=>W.len a λp=>W.calm [rm 4 o,rm 3 g] ⟨6,[],[],[],false,[]⟩ (W.bslice 11 [(.Xw 0),(.Xw 0),(.str []),(.str []),.nils,(.Xw 0),(.Xw 0),(.str []),.nils,.nils,.nils] 1 [(0,(.agg [(.Xw 0),(.Xw 0),(.str []),(.str []),.nils,(.Xw 0),(.Xw 0),(.str []),.nils,.nils,.nils]))] d λc q=>wn [] [] (aa c) [] λy=>W.calm [] ⟨7,(aa a++aa c),(aa a),[],false,[]⟩ (W.append 11 176 a c q λf h=>wn (aa a++aa c) (aa a) (aa f) [] λz=>di [] 8 11 f p h λr s=>ds [] 9 11 r n h λt u=>W.nilchk b λv=>W.faddr 3 v λw=>ds [rm 9 u,rm 8 s] 12 1 w f t λi A=>aB 9 e i λx=>wc (.fn 58 []) [b,x] i (gh Q j e b k l))))
def gj(Q:R)(d:Kn)(e:Vs)(a:SH):Prop:=HE 0 1 6 7 8 e λf g h b c=>wb .neq 74 c (.Xw 0) λi=>wk i ((true=true)∧(aN 1 b [] 2 a λj k=>Q (.tup [c,j]) a)) ((yr Q d a f b g h))
def yu(Q:R)(g:Kn)(a c d e h:AV)(b:SH):Prop:=W.join (gj Q g) λf=>dL 3 a b λi=>W.len i λj=>wb .add 3 j (.Xw 1) λk=>wb .gtr 3 k (.Xw 6) λl=>wk l (f [a,c,d,e,(.Xw 2)] b) (f [a,c,d,e,h] b)
def yv(Q:R)(g:Kn)(a:SH)(b c d:AV):Prop:=lE 11 b c a λh=>o6 [(.Xw 0),(.Xw 0),(.str []),(.str []),.nils,(.Xw 0),(.Xw 0),(.str []),.nils,.nils,.nils] 11 h a λe f=>bS 11 e f λi=>wc (.fn 91 []) [d,i] f (yu Q g d b c e)
def kz(Q:R)(d:Vs)(a:SH)(e:Kn):Prop:=wq 0 1 6 d λf b c=>W.len b λg=>wb .lss 3 c g λh=>wk h ((yv Q e a b c f)) (Q (.tup [(.Xw 0),(.Xw 0)]) a)
def mc(a b:AV)(L:SH)(Q:R):Prop:=W.loop (kz Q) [a,b,(.Xw 0)] L
theorem yw(t0 t1:AV)(L:SH)(Q:R)(h:mc t0 t1 L Q):af Tryz.prog 58 [t0,t1] L Q:=
 fs [(7,[0,1,6,7,8]),(13,[0,1,6,8,9])] [(2,[0,1,6])] [(4,[7])] [(9,[0,0,2,1,15]),(10,[0,1,3,7,0,15,0,127,255,511,255,1279,3327]),(14,[0,0,2,6,14,0,32,96,224,480,992,2046,4095,8191,16383])] Tryz.func58 h
end
section
set_option maxRecDepth 100000
set_option maxHeartbeats 4000000
def gk(l:List aG)(s:aZ):Int:=mF (λx=>decide (x.name=s)) l 0
theorem iY(l:List aG)(s:aZ)(hl:l.length<2^62):ax Tryz.prog 88 [.lst (l.map aG.enc),.str s] (.Xw (gk l s)):=by
 refine Cc _ _ _ _ ?_;unfold pK;refine fi l (λx=>decide (x.name=s)) (λi=>[.lst (l.map aG.enc),.str s,.Xw i]) hl rfl (λi h1 hd hi hno nx hn=>?_) (λi h1 hd hno nx=>?_)
 all_goals unfold nC
 ·have hx:=ay (f:=aG.enc) h1
  repeat' (first|refine st ?_|refine sb λnb_ hnb_=>?_|refine s2 (λh=>?_) λh=>?_|fail)
  ·exact⟨by rw[gk,pi h1 hno h],rfl⟩
  ·exact hn h
 ·repeat' (first|refine st ?_|refine sb λnb_ hnb_=>?_|refine s2 (λh=>?_) λh=>?_|fail)
  exact⟨by rw[gk,gM hno],rfl⟩
theorem Jq(l:List aZ)(s:aZ)(hl:l.length<2^62):TI 90 [.lst (l.map aq),.str s]:=by
 refine ti λQ hq=>pJ _ _ _ _ ?_
 unfold mV;refine l5 l.length (λi=>[.lst (l.map aq),.str s,.Xw i]) hl rfl (λi h1 hd hi nx hn=>?_) (λi h1 hd nx=>?_)
 all_goals unfold fI
 ·have hx:=ay (f:=aq) h1
  repeat' (first|refine st ?_|refine sb λnb_ hnb_=>?_|refine s2 (λh=>?_) λh=>?_|fail)
  all_goals first|exact hq _ _|exact hn
 ·repeat' (first|refine st ?_|refine sb λnb_ hnb_=>?_|refine s2 (λh=>?_) λh=>?_|fail)
  exact hq _ _
theorem m3(l:List ah)(s:aZ)(hl:l.length<2^62):TI 89 [.lst (l.map ah.enc),.str s]:=by
 refine ti λQ hq=>xB _ _ _ _ ?_
 unfold lR;refine l5 l.length (λi=>[.lst (l.map ah.enc),.str s,.Xw i]) hl rfl (λi h1 hd hi nx hn=>?_) (λi h1 hd nx=>?_)
 all_goals unfold ko
 ·have hx:=ay (f:=ah.enc) h1
  repeat' (first|refine st ?_|refine sb λnb_ hnb_=>?_|refine s2 (λh=>?_) λh=>?_|fail)
  all_goals first|exact hq _ _|exact hn
 ·repeat' (first|refine st ?_|refine sb λnb_ hnb_=>?_|refine s2 (λh=>?_) λh=>?_|fail)
  exact hq _ _
theorem qm(b:Bool):TI 126 [.bool b]:=by
 refine ti λQ hq=>Ab _ _ _ ?_
 unfold nD
 repeat' (first|refine st ?_|refine sb λnb_ hnb_=>?_|refine s2 (λh=>?_) λh=>?_|fail)
 all_goals exact hq _ _
theorem Ql(a b:Int):TI 123 [.Xw a,.Xw b]:=by
 refine ti λQ hq=>IS _ _ _ _ ?_
 unfold DT
 repeat' (first|refine st ?_|refine sb λnb_ hnb_=>?_|refine s2 (λh=>?_) λh=>?_|fail)
 all_goals exact hq _ _
theorem OU(p:bQ)(t:Nat)(s:aZ)(hw:p.wt<2^40)(ht:t<p.threads.length):∃n:Int,(n=5→∃k:Nat,k<p.decls.length∧gk p.decls s=k)∧ax Tryz.prog 145 [.agg p.enc,.Xw t,.str s] (.Xw n):=by
 have hl1:=p.decls_len;have hl2:=p.threads_len;have hwt:=p.thread_wt ht;have hll:p.threads[t].locals.length<p.threads[t].wt:=by unfold ah.wt;omega
 have c1:=Jq p.threads[t].locals s Xr;have c2:=iY p.decls s Xr;have c3:=m3 p.threads s Xr;have d0:decide (0≤(t:Int))=true:=by simp
 have d1:=bK ht;have hx:=ay (f:=ah.enc) ht;refine VD λQ hq=>Cj _ _ _ _ _ ?_
 unfold pL;rcases tt (p:=λx:aG=>decide (x.name=s)) p.decls 0 with⟨h1,h2⟩|⟨k,h1,h2,h3⟩
 ·have e1:gk p.decls s=-1:=h1;rw[e1]at c2
  repeat' (first|refine st ?_|(refine pf 90 ?_;refine pm (c1) ?_)|(refine pf 88 ?_;refine pm (c2) ?_)|(refine pf 89 ?_;refine pm (c3) ?_)|refine sb λnb_ hnb_=>?_|refine s2 (λh=>?_) λh=>?_|fail)
  all_goals exact hq _ _ (λh=>absurd h Xv)
 ·have e1:gk p.decls s=(k:Nat):=by rw[gk,h2];simp
  rw[e1]at c2;have d2:decide ((k:Int)<0)=false:=by simp
  have hy:=ay (f:=aG.enc) h1
  repeat' (first|refine st ?_|(refine pf 90 ?_;refine pm (c1) ?_)|(refine pf 88 ?_;refine pm (c2) ?_)|(refine pf 89 ?_;refine pm (c3) ?_)|refine sb λnb_ hnb_=>?_|refine s2 (λh=>?_) λh=>?_|fail)
  all_goals exact hq _ _ λ_=>⟨k,h1,e1⟩
theorem OV(p:bQ)(t:Nat)(s:aZ)(a b:Int)(hw:p.wt<2^40)(ht:t<p.threads.length):TI 124 [.agg p.enc,.Xw t,.str s,.Xw a,.Xw b]:=by
 obtain⟨n,_,c1⟩:=OU p t s hw ht;refine ti λQ hq=>r9 _ _ _ _ _ _ _ ?_
 unfold mW
 repeat' (first|refine st ?_|(refine pf 145 ?_;refine pm (c1) ?_)|refine sb λnb_ hnb_=>?_|refine s2 (λh=>?_) λh=>?_|fail)
 all_goals exact hq _ _
theorem Qm(p:bQ)(t:Nat)(s:aZ)(hw:p.wt<2^40)(ht:t<p.threads.length):∃n:Int,(n=0→∃k:Nat,k<p.decls.length∧gk p.decls s=k)∧ax Tryz.prog 124 [.agg p.enc,.Xw t,.str s,.Xw 5,.Xw 5] (.Xw n):=by
 obtain⟨n,g,c1⟩:=OU p t s hw ht;refine VD λQ hq=>r9 _ _ _ _ _ _ _ ?_
 unfold mW
 repeat' (first|refine st ?_|(refine pf 145 ?_;refine pm (c1) ?_)|refine sb λnb_ hnb_=>?_|refine s2 (λh=>?_) λh=>?_|fail)
 all_goals first
  |exact hq _ _ (λh0=>absurd h0 Xv)
  |exact hq _ _ (λ_=>g (by simp_all))
theorem Qn:∀(k:Nat) (x:ao),x.wt≤k→k<2^40→TE 146 [.agg x.row]:=by
 intro k
 induction k with
 |zero=>intro x h;have:=x.wt_eq;omega
 |succ k ih=>
  intro x hk hb;have hlen:=x.len;refine te λQ hq=>DO _ _ _ ?_
  unfold sa
  repeat' (first|refine st ?_|refine sb λnb_ hnb_=>?_|refine s2 (λh=>?_) λh=>?_|fail)
  refine Gi (β:=Int×Int) x.l.length (λi n=>[.pptr [x.row] 0 0,.Xw n.1,.Xw n.2,.Xw i]) (1,0) Xr rfl (λi n h1 hd hi nx hn=>?_) (λi n h1 hd nx=>?_)
  all_goals unfold pM
  ·have hx:=Ds h1;have hc:=ih x.l[i] (by have:=x.kid h1;omega) Xr
   repeat' (first|refine st ?_|(refine pf 146 ?_;refine pm (hc) ?_)|refine Kv ?_|refine sb λnb_ hnb_=>?_|refine s2 (λh=>?_) λh=>?_|fail)
   exact hn (_,_)
  ·repeat' (first|refine st ?_|refine sb λnb_ hnb_=>?_|refine s2 (λh=>?_) λh=>?_|fail)
   exact hq _ _ _
theorem Qo(p:bQ)(t:Nat)(hw:p.wt<2^40)(ht:t<p.threads.length):∀(k:Nat) (x:ao),x.wt≤k→k<2^40→TI 147 [.agg p.enc,.Xw t,.agg x.row]:=by
 intro k
 induction k with
 |zero=>intro x h;have:=x.wt_eq;omega
 |succ k ih=>
  intro x hk hb;have hlen:=x.len;have cw:=λa b=>OV p t x.name a b hw ht
  refine ti λQ hq=>DS _ _ _ _ _ ?_
  unfold sd;have key:∀r:Int,jw Q [.Xw t,.pptr [p.enc] 0 0,.pptr [x.row] 0 0,.Xw r] []:=by
   intro r;unfold jw
   repeat' (first|refine st ?_|refine sb λnb_ hnb_=>?_|refine s2 (λh=>?_) λh=>?_|fail)
   refine Gi x.l.length (λi r=>[.Xw t,.pptr [p.enc] 0 0,.pptr [x.row] 0 0,.Xw r,.Xw i]) r Xr rfl (λi r h1 hd hi nx hn=>?_) (λi r h1 hd nx=>?_)
   all_goals unfold pN
   ·have hx:=Ds h1;have hc:=ih x.l[i] (by have:=x.kid h1;omega) Xr
    repeat' (first|refine st ?_|(refine pf 147 ?_;refine pm (hc) ?_)|refine sb λnb_ hnb_=>?_|refine s2 (λh=>?_) λh=>?_|fail)
    all_goals first|exact hq _ _|exact hn _
   ·repeat' (first|refine st ?_|refine sb λnb_ hnb_=>?_|refine s2 (λh=>?_) λh=>?_|fail)
    all_goals exact hq _ _
  repeat' (first|with_reducible exact key _|refine st ?_|(refine pf 124 ?_;refine pm (cw _ _) ?_)|refine sb λnb_ hnb_=>?_|refine s2 (λh=>?_) λh=>?_|fail)
theorem SP(p:bQ)(t:Nat)(x:ao)(hw:p.wt<2^40)(ht:t<p.threads.length)(hx:x.wt<2^40):TI 125 [.agg p.enc,.Xw t,.agg x.row]:=by
 have c1:=OR _ x (VL _) hx;have c2:=Qn _ x (VL _) hx;have c3:=Qo p t hw ht _ x (VL _) hx;refine ti λQ hq=>Ft _ _ _ _ _ ?_
 unfold xC
 repeat' (first|refine st ?_|(refine pf 143 ?_;refine pm (c1) ?_)|(refine pf 146 ?_;refine pm (c2) ?_)|(refine pf 147 ?_;refine pm (c3) ?_)|refine sb λnb_ hnb_=>?_|refine s2 (λh=>?_) λh=>?_|fail)
 all_goals exact hq _ _
theorem Qp:∀(k:Nat) (l:List ab),ab.wts l≤k→k<2^40→TI 57 [.lst (l.map ab.enc)]:=by
 intro k
 induction k using Nat.strongRecOn with
 |_ k ih=>
  intro l hl hk;have hlen:=ab.wts_len l;refine ti λQ hq=>DW _ _ _ ?_
  unfold sf
  repeat' (first|refine st ?_|refine sb λnb_ hnb_=>?_|refine s2 (λh=>?_) λh=>?_|fail)
  refine Gi l.length (λi n=>[.lst (l.map ab.enc),.Xw n,.Xw i]) _ Xr rfl (λi n h1 hd hi nx hn=>?_) (λi n h1 hd nx=>?_)
  all_goals unfold pO
  ·have hx:=F1 h1;have hwi:=ab.wts_get l i h1;have hwe:=(l[i]).wt_eq;have c1:=ih _ Xr l[i].body (VL _) Xr;have c2:=ih _ Xr l[i].els (VL _) Xr
   repeat' (first|refine st ?_|(refine pf 57 ?_;refine pm (c1) ?_)|(refine pf 57 ?_;refine pm (c2) ?_)|refine sb λnb_ hnb_=>?_|refine s2 (λh=>?_) λh=>?_|fail)
   exact hn _
  ·repeat' (first|refine st ?_|refine sb λnb_ hnb_=>?_|refine s2 (λh=>?_) λh=>?_|fail)
   exact hq _ _
theorem Qq(l:List aG)(hl:l.length<2^40):TE 55 [.lst (l.map aG.enc)]:=by
 refine te λQ hq=>EH _ _ _ ?_
 unfold sk;refine Gi (β:=Int×Int×Int×Int) l.length (λi n=>[.lst (l.map aG.enc),.Xw n.1,.Xw n.2.1,.Xw n.2.2.1,.Xw n.2.2.2,.Xw i]) (0,0,0,0) Xr rfl (λi n h1 hd hi nx hn=>?_) (λi n h1 hd nx=>?_)
 all_goals unfold pY
 ·have hx:=ay (f:=aG.enc) h1;have c1:=iY (l.take i) l[i].name (by rw[We];omega);have c2:=iY (l.take i) l[i].on (by rw[We];omega);have key:∀a b c d:Int,jC Q nx [.lst (l.map aG.enc),.Xw a,.Xw b,.Xw c,.Xw d,.Xw (i:Int),.pptr [l[i].enc] 0 0] []:=by
   intro a b c d;unfold jC;rcases tt (p:=λx:aG=>decide (x.name=l[i].on)) (l.take i) 0 with⟨g1,g2⟩|⟨k,g1,g2,g3⟩
   ·have e1:gk (l.take i) l[i].on=-1:=g1;rw[e1]at c2
    repeat' (first|refine st ?_|refine gf ?_|(refine pf 88 ?_;refine pm (c2) ?_)|refine sb λnb_ hnb_=>?_|refine s2 (λh=>?_) λh=>?_|fail)
    all_goals first|exact hq _ _ _|exact hn (_,_,_,_)
   ·have e1:gk (l.take i) l[i].on=(k:Nat):=by rw[gk,g2];simp
    have hkl:k<l.length:=by rw[We]at g1;omega
    rw[e1]at c2;have hy:=ay (f:=aG.enc) hkl;have d2:decide ((k:Int)<0)=false:=by simp
    repeat' (first|refine st ?_|refine gf ?_|(refine pf 88 ?_;refine pm (c2) ?_)|refine sb λnb_ hnb_=>?_|refine s2 (λh=>?_) λh=>?_|fail)
    all_goals first|exact hq _ _ _|exact hn (_,_,_,_)
  repeat' (first|with_reducible exact key _ _ _ _|refine st ?_|refine gf ?_|(refine pf 88 ?_;refine pm (c1) ?_)|refine Kv ?_|refine sb λnb_ hnb_=>?_|refine s2 (λh=>?_) λh=>?_|fail)
  all_goals exact hq _ _ _
 ·repeat' (first|refine st ?_|refine sb λnb_ hnb_=>?_|refine s2 (λh=>?_) λh=>?_|fail)
  exact hq _ _ _
theorem ME(p:bQ)(hw:p.wt<2^40):TE 56 [.agg p.enc]:=by
 have hl1:=p.decls_len;have hl2:=p.threads_len;refine te λQ hq=>Az _ _ _ ?_
 unfold nM
 repeat' (first|refine st ?_|refine sb λnb_ hnb_=>?_|refine s2 (λh=>?_) λh=>?_|fail)
 refine l5 p.threads.length (λi=>[.pptr [p.enc] 0 0,.Xw i]) Xr rfl (λi h1 hd hi nx hn=>?_) (λi h1 hd nx=>?_)
 all_goals unfold l8
 ·have hx:=ay (f:=ah.enc) h1;have c1:=iY p.decls p.threads[i].name Xr;have c2:=m3 (p.threads.take i) p.threads[i].name (by rw[We];omega)
  repeat' (first|refine st ?_|refine gf ?_|(refine pf 88 ?_;refine pm (c1) ?_)|(refine pf 89 ?_;refine pm (c2) ?_)|refine sb λnb_ hnb_=>?_|refine s2 (λh=>?_) λh=>?_|fail)
  all_goals first|exact hq _ _ _|exact hn
 ·repeat' (first|refine st ?_|refine sb λnb_ hnb_=>?_|refine s2 (λh=>?_) λh=>?_|fail)
  refine l5 p.threads.length (λi=>[.pptr [p.enc] 0 0,.Xw i]) Xr rfl (λi h1 hd hi nx hn=>?_) (λi h1 hd nx=>?_)
  all_goals unfold l7
  ·have hx:=ay (f:=ah.enc) h1;generalize p.threads[i]=t at *
   repeat' (first|refine st ?_|refine sb λnb_ hnb_=>?_|refine s2 (λh=>?_) λh=>?_|fail)
   ·exact hq _ _ _
   ·have h4:t.locals.length≤4:=by simp at h;omega
    refine l5 t.locals.length (λk=>[.pptr [p.enc] 0 0,.Xw i,.pptr [t.enc] 0 0,.Xw k]) Xr rfl (λk g1 gd gi ny gn=>?_) (λk g1 gd ny=>?_)
    all_goals unfold l6
    ·have hy:=ay (f:=aq) g1;have c1:=iY p.decls t.locals[k] Xr;have c2:=m3 p.threads t.locals[k] Xr;have c3:=Jq (t.locals.take k) t.locals[k] (by rw[We];omega)
     repeat' (first|refine st ?_|refine gf ?_|(refine pf 88 ?_;refine pm (c1) ?_)|(refine pf 89 ?_;refine pm (c2) ?_)|(refine pf 90 ?_;refine pm (c3) ?_)|refine sb λnb_ hnb_=>?_|refine s2 (λh=>?_) λh=>?_|fail)
     all_goals first|exact hq _ _ _|exact gn
    ·repeat' (first|refine st ?_|refine sb λnb_ hnb_=>?_|refine s2 (λh=>?_) λh=>?_|fail)
     exact hn
  ·repeat' (first|refine st ?_|refine sb λnb_ hnb_=>?_|refine s2 (λh=>?_) λh=>?_|fail)
   exact hq _ _ _
theorem MF(bw:Nat)(v0 v1 v2 v4 v5:AV)(o1:Option Nat)(ar:List ab)(k:Nat)(R:SH)(a b:Int)(name:aZ)(h0:o1=none→ar=[])(hk:k≤ar.length)(h6:k≤6):
  af Tryz.prog 122 [.ptr bw 0 0,.Xw a,.Xw b,.str name] ((bw,⟨6,[[v0,v1,v2,am o1 k,v4,v5]]⟩)::(ae o1 11 (ar.map ab.enc)++R)) λu K=>∃r:Bool,u=.bool r∧K=(bw,⟨6,[[v0,v1,v2,am o1 k,v4,v5]]⟩)::(ae o1 11 (ar.map ab.enc)++R):=by
 refine p7 _ _ _ _ _ _ ?_;unfold iI;generalize hL:(bw,(⟨6,[[v0,v1,v2,am o1 k,v4,v5]]⟩:Blk))::(ae o1 11 (ar.map ab.enc)++R)=L;generalize hQ:(λ(u:AV) (K:SH)=>∃r:Bool,u=AV.bool r∧K=L)=Q;have hq:∀r:Bool,Q (.bool r) L:=λr=>by subst hQ;exact⟨r,rfl,rfl⟩
 clear hQ;subst hL;cases o1 with
 |none=>
  have:=h0 rfl;subst this;obtain rfl:k=0:=by simpa using hk
  dsimp only[ae,am,List.nil_append]at *;refine ph 0 (λ_=>True) (λi=>[.ptr bw 0 0,.Xw a,.Xw b,.str name,.Xw i]) Xr trivial rfl (λi h1 hd hi _ nx hn=>by omega) (λi h1 hd _ nx=>?_);unfold eG
  repeat' (first|refine st ?_|refine sb λnb_ hnb_=>?_|refine s2 (λh=>?_) λh=>?_|fail)
  exact hq _
 |some b1=>
  dsimp only[ae,am,List.cons_append,List.nil_append]at *;refine ph k (λ_=>True) (λi=>[.ptr bw 0 0,.Xw a,.Xw b,.str name,.Xw i]) Xr trivial rfl (λi h1 hd hi _ nx hn=>?_) (λi h1 hd _ nx=>?_)
  all_goals unfold eG
  ·have hx:=F1 (l:=ar) (i:=i) Xr;generalize ar[i]'Xr=x at *
   repeat' (first|refine st ?_|refine sb λnb_ hnb_=>?_|refine s2 (λh=>?_) λh=>?_|fail)
   all_goals first
    |exact hq _
    |exact hn trivial
  ·repeat' (first|refine st ?_|refine sb λnb_ hnb_=>?_|refine s2 (λh=>?_) λh=>?_|fail)
   exact hq _
theorem OW(o:Option Nat)(l:List aZ)(R:SH)(x:aZ)(h0:o=none→l=[])(hl:l.length<2^62):
  af Tryz.prog 90 [am o l.length,.str x] (ae o 1 (l.map aq)++R) λu K=>∃r:Int,u=.Xw r∧K=ae o 1 (l.map aq)++R:=by
 refine pJ _ _ _ _ ?_;unfold mV;generalize hL:ae o 1 (l.map aq)++R=L;generalize hQ:(λ(u:AV) (K:SH)=>∃r:Int,u=AV.Xw r∧K=L)=Q;have hq:∀r:Int,Q (.Xw r) L:=λr=>by subst hQ;exact⟨r,rfl,rfl⟩
 clear hQ;subst hL;cases o with
 |none=>
  have:=h0 rfl;subst this;dsimp only[ae,am,List.nil_append,List.length_nil]at *;refine ph 0 (λ_=>True) (λi=>[.emp,.str x,.Xw i]) Xr trivial rfl (λi h1 hd hi _ nx hn=>by omega) (λi h1 hd _ nx=>?_);unfold fI
  repeat' (first|refine st ?_|refine sb λnb_ hnb_=>?_|refine s2 (λh=>?_) λh=>?_|fail)
  exact hq _
 |some b1=>
  dsimp only[ae,am,List.cons_append,List.nil_append]at *;refine ph l.length (λ_=>True) (λi=>[.sl b1 0 l.length,.str x,.Xw i]) Xr trivial rfl (λi h1 hd hi _ nx hn=>?_) (λi h1 hd _ nx=>?_)
  all_goals unfold fI
  ·have hx:=ay (f:=aq) h1
   repeat' (first|refine st ?_|refine sb λnb_ hnb_=>?_|refine s2 (λh=>?_) λh=>?_|fail)
   all_goals first
    |exact hq _
    |exact hn trivial
  ·repeat' (first|refine st ?_|refine sb λnb_ hnb_=>?_|refine s2 (λh=>?_) λh=>?_|fail)
   exact hq _
end
end Go.Proofs.YtdnpdghlggbklaaGreatDoor.Am
