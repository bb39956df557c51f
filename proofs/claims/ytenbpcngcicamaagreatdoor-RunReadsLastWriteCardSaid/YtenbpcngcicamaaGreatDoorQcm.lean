/- A part of the proof; the statement is proved in the last part. -/
import Derived.Test.YtenbpcngcicamaaGreatDoorQcl
set_option linter.unusedSimpArgs false
set_option linter.unusedVariables false
namespace Go.Proofs.YtenbpcngcicamaaGreatDoor.Am
section
set_option maxRecDepth 100000
def JQ(Q:R)(d:SH)(b c:AV):Prop:=W.build [.nils,.nils,.nils,.nils,.nils,.nils,.nils] [] λe=>W.build [.nils,(.W9 0),.nils,.nils,.nils,.nils,.nils] [] λf=>W.store 7 b e d λg=>W.store 7 c f g λa=>W.load true 7 b a λh=>W.load true 7 c a λi=>Q (.tup [h,i]) a
def JR(Q:R)(e:SH)(f g b c:AV)(h:Fp)(i:AV)(d:SH)(j:Ns):Prop:=wn [] j [] e.names λk=>W.build [.nils,.nils,.nils,.nils,.nils,.nils,.nils] [(0,6,i),(6,1,f)] λl=>dr [rc 2 k,rm 1 h] 5 7 g d λm n=>ds [rm 5 n] 6 7 b l d λo r=>ds [] 7 7 c m o λa s=>W.load true 7 b a λp=>W.load true 7 c a λq=>Q (.tup [p,q]) a
def JS(Q:R)(c d e b:AV)(f:SH):Prop:=W.ext 0 b λg=>W.ext 1 b λh=>qn [.nils,(.W9 0),.nils,.nils,.nils,.nils,.nils] 7 h f λi a=>(true=true)∧(W.faddr 0 c λj=>dr [] 1 6 j a λk l=>wd [] 2 (.fn 15 []) [k] a (JR Q a g i d e l))
def JT(Q:R)(e b c d f:AV)(a:SH):Prop:=W.un .not f λg=>wk g ((JQ Q a b c)) (ca 7 d a λh=>wc (.fn 14 []) [h,e] a (JS Q d b c))
def FS(c d:AV)(L:SH)(Q:R):Prop:=W.box c L λe f=>W.alloc [.nils,.nils,.nils,.nils,.nils,.nils,.nils] f λg h=>W.alloc [.nils,(.W9 0),.nils,.nils,.nils,.nils,.nils] h λi j=>W.frz1 e j λa b=>ca 7 a b λk=>wc (.fn 13 []) [k] b (JT Q d g i a)
theorem JU(t0 t1:AV)(L:SH)(Q:R)(h:FS t0 t1 L Q):ai Tryz.prog 8 [t0,t1] L Q:=
 fs [] [] [(0,[2]),(3,[7])] [(4,[0,1,3,0,15,0,31,127])] Tryz.func8 h
def GL(f:Kn)(c:SH)(d e a g h i:AV):Prop:=lE 5 d e c λj=>qn [(.str []),(.W9 0),(.W9 0),(.bool false),(.W9 0)] 5 j c λk b=>aC 4 a b λl=>aC 4 k b λm=>W.bslice 1 [(.W9 0)] 1 [(0,m)] b λn o=>W.append 1 8 l n o λp q=>W.faddr 4 a λr=>W.store 1 r p q λs=>wb .add 3 e (.W9 1) λt=>f [g,h,a,d,i,t] s
def GM(r:Kn)(f:SH)(g h d s t:AV):Prop:=lE 2 g h f λu=>qn [(.W9 0),.nils] 2 u f λi e=>(true=true)∧(aO 6 d [] 1 e λa b=>aO 0 i [rm 1 b] 3 e λj k=>W.calm [rm 1 b] ⟨4,[],[],[],false,[]⟩ (W.mslice 1 8 [(.W9 0)] j j e λl m=>wn [] [] (aa l) [] λn=>aO 0 i [rm 4 n,rm 3 k,rm 1 b] 6 m λo C=>W.calm [rm 4 n,rm 3 k,rm 1 b] ⟨7,[],[],[],false,[]⟩ (W.mslice 1 24 [.nils] o o m λp v=>wn [] [] (aa p) [] λD=>W.build [(.W9 0),.nils,.nils,(.W9 0)] [(1,1,l),(2,1,p)] λw=>W.calm [rm 1 b] ⟨9,[],[],[],false,[]⟩ (W.bslice 4 [(.W9 0),.nils,.nils,(.W9 0)] 1 [(0,w)] v λc x=>wn [] [] (aa c) [] λE=>W.calm [] ⟨10,(aa a++aa c),(aa a),[],false,[]⟩ (W.append 4 64 a c x λq y=>wn (aa a++aa c) (aa a) (aa q) [] λF=>W.faddr 6 d λz=>ds [] 12 1 z q y λA G=>wb .add 3 h (.W9 1) λB=>r [s,d,g,t,B] A)))))
def iU(Q:R)(g:Vs)(a:SH)(h:Kn):Prop:=He 2 3 43 44 45 g λb c i d e=>wb .lss 3 e d λj=>wk j ((GM h a i e c b d)) (ca 7 c a λk=>W.store 7 b k a λf=>W.load true 7 b f λl=>Q l f)
def iV(Q:R)(h:Vs)(a:SH)(i:Kn):Prop:=Hf 1 2 3 28 29 30 h λb c d j e f=>wb .lss 3 f e λk=>wk k ((GL i a j f d b c e)) (aC 6 b a λg=>W.len g λl=>W.loop (iU Q) [c,d,g,l,(.W9 0)] a)
def GN(Q:R)(r:SH)(c s:AV)(a:Fp)(t:AV)(i:SH)(u:Ns):Prop:=wn [] u [] r.names λb=>W.faddr 0 c λv=>aO 0 v [rc 2 b,rm 1 a] 5 i λw d=>W.len w λx=>W.calm [rc 2 b,rm 1 a] ⟨7,[],[],[],false,[]⟩ (W.mslice 1 8 [(.W9 0)] (.W9 0) x i λj k=>wn [] [] (aa j) [] λe=>W.faddr 0 c λy=>aO 3 y [rm 7 e,rm 5 d,rc 2 b,rm 1 a] 10 k λz f=>W.len z λl=>W.calm [rm 7 e,rm 5 d,rc 2 b,rm 1 a] ⟨12,[],[],[],false,[]⟩ (W.mslice 1 8 [(.W9 0)] l l k λm n=>wn [] [] (aa m) [] λg=>aO 6 c [rm 12 g,rm 10 f,rm 7 e,rm 5 d,rc 2 b,rm 1 a] 14 n λA B=>W.len A λC=>W.calm [rm 12 g,rm 10 f,rm 7 e,rm 5 d,rc 2 b,rm 1 a] ⟨16,[],[],[],false,[]⟩ (W.mslice 4 64 [(.W9 0),.nils,.nils,(.W9 0)] (.W9 0) C n λo D=>wn [] [] (aa o) [] λE=>W.build [.nils,(.W9 0),.nils,.nils,.nils,.nils,.nils] [(0,4,t),(4,1,j),(5,1,m),(6,1,o)] λF=>W.calm [rm 16 E,rm 14 B,rm 12 g,rm 10 f,rm 7 e,rm 5 d,rc 2 b,rm 1 a] ⟨18,[],[],[],false,[]⟩ (W.alloc [.nils,(.W9 0),.nils,.nils,.nils,.nils,.nils] D λh G=>wn [] [] (aa h) [] λJ=>ds [] 19 7 h F G λp M=>W.faddr 0 c λH=>aC 0 H p λq=>W.len q λI=>W.loop (iV Q) [c,s,h,q,I,(.W9 0)] p))))
def A0(c:AV)(L:SH)(Q:R):Prop:=W.box c L λd e=>W.alloc [.nils,(.W9 0),.nils,.nils,.nils,.nils,.nils] e λf g=>W.frz1 d g λb a=>(true=true)∧(W.faddr 0 b λh=>dr [] 1 6 h a λi j=>wd [] 2 (.fn 54 []) [i] a (GN Q a b f j))
theorem GO(t0:AV)(L:SH)(Q:R)(h:A0 t0 L Q):ai Tryz.prog 29 [t0] L Q:=
 fs [] [(3,[1,2,3,28,29,30]),(8,[2,3,43,44,45])] [(0,[1]),(4,[5]),(9,[7])] [(1,[0,1,3,0,8,24,56,120,0,256,768,1792,3840,0,8192,24576,57344,131071,0,524287]),(10,[0,1,0,4,12,0,32,96,252,508,1023,2047,4095])] Tryz.func29 h
def gW(Q:R)(d:Vs)(a:SH):Prop:=vO 5 6 7 d λb e f=>(true=true)∧(dr [] 1 7 e a λg i=>ds [] 3 7 b g a λc j=>W.load true 7 b c λh=>Q (.tup [f,h]) c)
def E7(g:Kn)(c:SH)(h a i d j k l m n:AV):Prop:=(true=true)∧(dr [] 1 7 h c λo p=>W.calm [] ⟨2,[],[],[],false,[]⟩ (W.bslice 7 [(.W9 0),(.W9 0),(.W9 0),(.W9 0),(.W9 0),.nils,.nils] 1 [(0,o)] c λb q=>wn [] [] (aa b) [] λr=>W.calm [] ⟨3,(aa a++aa b),(aa a),[],false,[]⟩ (W.append 7 88 a b q λe f=>wn (aa a++aa b) (aa a) (aa e) [] λs=>dr [rm 3 s,rm 2 r,rm 1 p] 4 7 i f λt w=>ds [] 6 7 d t f λu x=>wb .add 3 j (.W9 1) λv=>g [k,l,d,e,m,n,v] u)))
def E8(b:Kn)(c d e f g h i a:AV)(m:SH):Prop:=W.ext 0 a λn=>W.ext 1 a λo=>W.ext 2 a λp=>W.alloc [.nils,(.W9 0),.nils,.nils,.nils,.nils,.nils] m λj q=>W.alloc [(.W9 0),(.W9 0),(.W9 0),(.W9 0),(.W9 0),.nils,.nils] q λk r=>W.store 7 j n r λs=>W.store 7 k o s λt=>W.frz1 j t λu v=>W.frz1 k v λw l=>wk p ((E7 b l w c u d e f g h i)) (wb .add 3 e (.W9 1) λx=>b [f,g,d,c,h,i,x] l)
def E9(i j:Kn)(d:SH)(e f b g c h k:AV):Prop:=lE 2 e f d λl=>qn [(.W9 0),(.W9 0)] 2 l d λm a=>W.len b λn=>wb .geq 3 n (.W9 400) λo=>wk o (j [g,c,b] a) (ca 7 h a λp=>ca 7 c a λq=>ca 2 m a λr=>wc (.fn 30 []) [p,q,r] a (E8 i b c f h g e k))
def lB(a:Kn)(h:Vs)(b:SH)(i:Kn):Prop:=Mw 2 5 6 7 15 16 17 h λj c d e k f g=>wb .lss 3 g f λl=>wk l ((E9 i a b k g e c d j f)) (a [c,d,e] b)
def Fa(Q:R)(a c d e:AV)(f:SH):Prop:=W.alloc [.nils,(.W9 0),.nils,.nils,.nils,.nils,.nils] f λb g=>W.store 7 b e g λh=>W.join (gW Q) λi=>W.len a λj=>W.loop (lB i) [c,d,b,.nils,a,j,(.W9 0)] h
def xF(c d:AV)(L:SH)(Q:R):Prop:=W.box c L λe f=>W.alloc [.nils,(.W9 0),.nils,.nils,.nils,.nils,.nils] f λg h=>W.frz1 e h λa b=>ca 7 a b λi=>wc (.fn 29 []) [i] b (Fa Q d a g)
theorem Fb(t0 t1:AV)(L:SH)(Q:R)(h:xF t0 t1 L Q):ai Tryz.prog 14 [t0,t1] L Q:=
 fs [(10,[5,6,7])] [(4,[2,5,6,7,15,16,17])] [(0,[2]),(5,[9]),(7,[10,11])] [(9,[0,0,2,7,0,15,63]),(11,[0,0,1,7])] Tryz.func14 h
def DM(Q:R)(c:SH)(a:AV):Prop:=W.build [(.W9 0),(.W9 0),(.W9 0),(.W9 0),(.W9 0),.nils,.nils] [] λd=>W.store 7 a d c λb=>W.load true 7 a b λe=>Q (.tup [e,(.bool false)]) b
def DN(Q:R)(c:SH)(a:AV):Prop:=W.build [(.W9 0),(.W9 0),(.W9 0),(.W9 0),(.W9 0),.nils,.nils] [] λd=>W.store 7 a d c λb=>W.load true 7 a b λe=>Q (.tup [e,(.bool false)]) b
def DO(Q:R)(c:SH)(d a:AV):Prop:=W.build [(.W9 0),(.W9 0),(.W9 0),(.W9 0),(.W9 0),.nils,.nils] [(0,1,d),(1,1,(.W9 1)),(2,1,(.W9 (-1))),(4,1,(.W9 (-1)))] λe=>W.store 7 a e c λb=>W.load true 7 a b λf=>Q (.tup [f,(.bool true)]) b
def DP(Q:R)(a:SH)(d e f b:AV):Prop:=aC 1 e a λg=>aC 5 f a λh=>W.build [(.W9 0),(.W9 0),(.W9 0),(.W9 0),(.W9 0),.nils,.nils] [(0,1,d),(1,1,(.W9 17)),(2,1,g),(4,1,h)] λi=>W.store 7 b i a λc=>W.load true 7 b c λj=>Q (.tup [j,(.bool true)]) c
def DQ(Q:R)(a c:AV)(d:SH):Prop:=W.store 7 a c d λb=>W.load true 7 a b λe=>Q (.tup [e,(.bool true)]) b
def DR(Q:R)(c:SH)(a:AV):Prop:=W.build [(.W9 0),(.W9 0),(.W9 0),(.W9 0),(.W9 0),.nils,.nils] [] λd=>W.store 7 a d c λb=>W.load true 7 a b λe=>Q (.tup [e,(.bool false)]) b
def DS(Q:R)(a:SH)(d b e c:AV):Prop:=aC 0 b a λf=>W.idxP 29 1 (OY 0) f λg=>wl g a λh=>wb .neq 3 h (.W9 0) λi=>wk i (ca 6 b a λj=>ca 4 e a λk=>wc (.fn 83 []) [j,k,d] a (DQ Q c)) ((DR Q a c))
def DT(Q:R)(c:SH)(a:AV):Prop:=W.build [(.W9 0),(.W9 0),(.W9 0),(.W9 0),(.W9 0),.nils,.nils] [] λd=>W.store 7 a d c λb=>W.load true 7 a b λe=>Q (.tup [e,(.bool false)]) b
def DU(Q:R)(a:SH)(c d f e b g:AV):Prop:=wb .eql 3 d (.W9 4) λh=>wk h ((DP Q a c f e b)) (wb .eql 3 d (.W9 2) λi=>wk i ((DS Q a c e g b)) ((DT Q a b)))
def DV(Q:R)(a:SH)(c h d e f:AV):Prop:=aC 1 h a λi=>aC 0 d a λj=>lE 6 i j a λk=>qn [(.W9 0),(.W9 0),(.W9 0),(.W9 0),(.W9 0),(.W9 0)] 6 k a λl b=>aC 0 e b λg=>wb .eql 3 g (.W9 1) λm=>wk m ((DO Q b c f)) ((DU Q b c g e l f d))
def DW(Q:R)(a:SH)(o E t u:AV):Prop:=(true=true)∧(aO 6 E [] 1 a λF b=>di [] 3 2 F o a λG c=>dr [] 4 2 G a λH d=>aO 6 t [rm 4 d,rm 3 c,rm 1 b] 6 a λI e=>di [rm 4 d,rm 3 c,rm 1 b] 8 4 I o a λJ f=>dr [rm 4 d,rm 3 c,rm 1 b] 9 4 J a λM g=>W.faddr 0 t λN=>aO 3 N [rm 9 g,rm 8 f,rm 6 e,rm 4 d,rm 3 c,rm 1 b] 12 a λO k=>di [rm 9 g,rm 8 f,rm 6 e,rm 4 d,rm 3 c,rm 1 b] 14 3 O o a λP l=>dr [rm 9 g,rm 8 f,rm 6 e,rm 4 d,rm 3 c,rm 1 b] 15 3 P a λS m=>W.calm [rm 15 m,rm 14 l,rm 12 k,rm 9 g,rm 8 f,rm 6 e,rm 4 d,rm 3 c,rm 1 b] ⟨16,[],[],[],false,[]⟩ (W.alloc [(.W9 0),.nils] a λq T=>wn [] [] (aa q) [] λv=>W.calm [rm 16 v,rm 15 m,rm 14 l,rm 12 k,rm 9 g,rm 8 f,rm 6 e,rm 4 d,rm 3 c,rm 1 b] ⟨17,[],[],[],false,[]⟩ (W.alloc [(.W9 0),.nils,.nils,(.W9 0)] T λr U=>wn [] [] (aa r) [] λV=>W.calm [rm 17 V,rm 16 v,rm 15 m,rm 14 l,rm 12 k,rm 9 g,rm 8 f,rm 6 e,rm 4 d,rm 3 c,rm 1 b] ⟨18,[],[],[],false,[]⟩ (W.alloc [(.W9 0),(.W9 0),(.bool false)] U λs X=>wn [] [] (aa s) [] λd5=>ds [rm 15 m,rm 14 l,rm 12 k,rm 9 g,rm 8 f,rm 6 e] 19 2 q H X λY d6=>ds [rm 15 m,rm 14 l,rm 12 k] 20 4 r M Y λZ d7=>ds [] 21 3 s S Z λa0 d8=>W.frz1 q a0 λp a1=>W.frz1 r a1 λn a2=>W.frz1 s a2 λa3 w=>aC 0 n w λa4=>wb .lss 3 a4 (.W9 0) λh=>wg h false (W.faddr 0 n) w λa5 x=>wg h false (wl a5 x) x λa6 a7=>wg h false (W.faddr 1 p) a7 λa8 y=>wg h false (wl a8 y) y λa9 b0=>wg h false (W.len a9) b0 λb1 b2=>wg h false (wb .geq 3 a6 b1) b2 λb3 b4=>W.pick h (.bool true) b3 λi=>wg i false (W.faddr 1 n) b4 λb5 z=>wg i false (wl b5 z) z λb6 b7=>wg i false (W.len b6) b7 λb8 b9=>wg i false (W.faddr 0 p) b9 λc0 A=>wg i false (wl c0 A) A λc1 c2=>wg i false (wb .neq 3 b8 c1) c2 λc3 c4=>W.pick i (.bool true) c3 λj=>wg j false (W.faddr 2 n) c4 λc5 B=>wg j false (wl c5 B) B λc6 c7=>wg j false (W.len c6) c7 λc8 c9=>wg j false (W.faddr 0 p) c9 λd0 C=>wg j false (wl d0 C) C λd1 d2=>wg j false (wb .neq 3 c8 d1) d2 λd3 D=>W.pick j (.bool true) d3 λd4=>wk d4 ((DN Q D u)) ((DV Q D o p n a3 u))))))
def sw(l m d:AV)(L:SH)(Q:R):Prop:=W.box l L λn o=>W.box m o λp q=>W.alloc [(.W9 0),(.W9 0),(.W9 0),(.W9 0),(.W9 0),.nils,.nils] q λf r=>W.frz1 n r λg s=>W.frz1 p s λe t=>wb .lss 3 d (.W9 0) λb=>bH b false d t λu v=>wg b false (W.faddr 6 g) v λw h=>wg b false (wl w h) h λx y=>wg b false (W.len x) y λz A=>wg b false (wb .geq 3 u z) A λB C=>W.pick b (.bool true) B λc=>bH c false d C λD E=>wg c false (W.faddr 6 e) E λF i=>wg c false (wl F i) i λG H=>wg c false (W.len G) H λI J=>wg c false (wb .geq 3 D I) J λM N=>W.pick c (.bool true) M λa=>bH a false d N λO P=>wg a false (W.faddr 0 e) P λS T=>wg a false (W.faddr 3 S) T λU j=>wg a false (wl U j) j λV X=>wg a false (W.len V) X λY Z=>wg a false (wb .geq 3 O Y) Z λa0 k=>W.pick a (.bool true) a0 λa1=>wk a1 ((DM Q k f)) ((DW Q k d g e f))
theorem DX(t0 t1 t2:AV)(L:SH)(Q:R)(h:sw t0 t1 t2 L Q):ai Tryz.prog 55 [t0,t1,t2] L Q:=
 fs [] [] [(0,[3,4]),(3,[8,9,10]),(6,[11])] [(3,[0,1,0,7,15,0,32,0,224,480,0,1024,3072,0,15360,31744,0,0,0,458783,984063,2097151])] Tryz.func55 h
def sX(Q:R)(a:SH)(f b c:AV):Prop:=aC 2 f a λg=>W.faddr 2 b λh=>W.store 1 h g a λd=>ca 7 b d λi=>W.store 7 c i d λe=>W.load true 7 c e λj=>Q j e
def sY(Q:R)(a b e:AV)(f:SH):Prop:=W.faddr 5 a λg=>W.store 1 g e f λc=>ca 7 a c λh=>W.store 7 b h c λd=>W.load true 7 b d λi=>Q i d
def sZ(Q:R)(c:SH)(d b e f g h:AV)(i:SH)(j:Ns):Prop:=wn [] j [] c.names λp=>wb .add 3 d h λk=>W.faddr 2 b λl=>ds [] 13 1 l k i λa q=>aC 2 e a λm=>aC 3 f a λn=>wx 1 m n a λo=>wc (.fn 93 []) [o] a (sY Q b g)
def s5(Q:R)(a:SH)(c d f g:AV):Prop:=(true=true)∧(aO 2 c [] 1 a λh b=>aO 1 d [rm 1 b] 3 a λi e=>aO 3 c [rm 3 e,rm 1 b] 5 a λj k=>di [rm 1 b] 6 1 i j a λl m=>dl [rm 1 b] 7 l a λn o=>aO 4 c [rm 7 o,rm 6 m,rm 5 k,rm 3 e,rm 1 b] 9 a λp q=>wd [rm 1 b] 10 (.fn 108 []) [n,p] a (sZ Q a h f d c g))
def s6(Q:R)(a b e:AV)(f:SH):Prop:=W.faddr 6 a λg=>W.store 1 g e f λc=>ca 7 a c λh=>W.store 7 b h c λd=>W.load true 7 b d λi=>Q i d
def s7(Q:R)(a b e:AV)(f:SH):Prop:=W.faddr 6 a λg=>W.store 1 g e f λc=>ca 7 a c λh=>W.store 7 b h c λd=>W.load true 7 b d λi=>Q i d
def s8(Q:R)(b c d e f:AV)(g:SH):Prop:=W.faddr 5 b λh=>W.store 1 h f g λa=>aC 2 c a λi=>aC 2 d a λj=>wx 1 i j a λk=>wc (.fn 93 []) [k] a (s7 Q b e)
def s9(Q:R)(e:SH)(f b c d g h:AV)(i:SH)(j:Ns):Prop:=wn [] j [] e.names λp=>wb .add 3 f h λk=>W.faddr 2 b λl=>ds [] 13 1 l k i λa q=>aC 2 c a λm=>aC 3 d a λn=>wx 1 m n a λo=>wc (.fn 93 []) [o] a (s8 Q b c d g)
def ta(Q:R)(a:SH)(c d f g:AV):Prop:=(true=true)∧(aO 1 c [] 1 a λh b=>aO 1 d [rm 1 b] 3 a λi e=>aO 3 c [rm 3 e,rm 1 b] 5 a λj k=>di [rm 1 b] 6 1 i j a λl m=>dl [rm 1 b] 7 l a λn o=>aO 4 c [rm 7 o,rm 6 m,rm 5 k,rm 3 e,rm 1 b] 9 a λp q=>wd [rm 1 b] 10 (.fn 108 []) [n,p] a (s9 Q a h f d c g))
def td(Q:R)(a b e:AV)(f:SH):Prop:=W.faddr 5 a λg=>W.store 1 g e f λc=>ca 7 a c λh=>W.store 7 b h c λd=>W.load true 7 b d λi=>Q i d
def tf(Q:R)(c:SH)(b d e f:AV):Prop:=W.faddr 2 b λg=>W.store 1 g (.W9 (-1)) c λa=>aC 2 d a λh=>aC 1 e a λi=>wx 1 h i a λj=>wc (.fn 93 []) [j] a (td Q b f)
def tg(Q:R)(e:SH)(a b:AV):Prop:=W.faddr 2 a λf=>W.store 1 f (.W9 (-1)) e λc=>ca 7 a c λg=>W.store 7 b g c λd=>W.load true 7 b d λh=>Q h d
def tj(Q:R)(e:SH)(a b:AV):Prop:=W.faddr 2 a λf=>W.store 1 f (.W9 (-1)) e λc=>ca 7 a c λg=>W.store 7 b g c λd=>W.load true 7 b d λh=>Q h d
def tm(Q:R)(e:SH)(a b:AV):Prop:=W.faddr 2 a λf=>W.store 1 f (.W9 (-1)) e λc=>ca 7 a c λg=>W.store 7 b g c λd=>W.load true 7 b d λh=>Q h d
def tp(Q:R)(e:SH)(a b:AV):Prop:=W.faddr 2 a λf=>W.store 1 f (.W9 (-1)) e λc=>ca 7 a c λg=>W.store 7 b g c λd=>W.load true 7 b d λh=>Q h d
def tq(Q:R)(e:SH)(a b:AV):Prop:=W.faddr 2 a λf=>W.store 1 f (.W9 (-1)) e λc=>ca 7 a c λg=>W.store 7 b g c λd=>W.load true 7 b d λh=>Q h d
def tt(Q:R)(a:SH)(e c b:AV):Prop:=wb .eql 3 e (.W9 20) λf=>wk f ((tq Q a c b)) (ca 7 c a λg=>W.store 7 b g a λd=>W.load true 7 b d λh=>Q h d)
def qN(Q:R)(a:SH)(d c b:AV):Prop:=wb .eql 3 d (.W9 19) λe=>wk e (wk e ((tp Q a c b)) (ca 7 c a λg=>W.store 7 b g a λf=>W.load true 7 b f λh=>Q h f)) ((tt Q a d c b))
def qO(Q:R)(a:SH)(d c b:AV):Prop:=wb .eql 3 d (.W9 18) λe=>wk e (wk e ((tm Q a c b)) (ca 7 c a λg=>W.store 7 b g a λf=>W.load true 7 b f λh=>Q h f)) ((qN Q a d c b))
def qP(Q:R)(a:SH)(d c b:AV):Prop:=wb .eql 3 d (.W9 17) λe=>wk e (wk e ((tj Q a c b)) (ca 7 c a λg=>W.store 7 b g a λf=>W.load true 7 b f λh=>Q h f)) ((qO Q a d c b))
def qQ(Q:R)(a:SH)(d c b:AV):Prop:=wb .eql 3 d (.W9 28) λe=>wk e (wk e ((tg Q a c b)) (ca 7 c a λg=>W.store 7 b g a λf=>W.load true 7 b f λh=>Q h f)) ((qP Q a d c b))
def qR(Q:R)(a:SH)(b e f c d:AV):Prop:=wb .eql 3 b (.W9 9) λg=>wk g ((ta Q a e f c d)) (wb .eql 3 b (.W9 10) λh=>wk h ((tf Q a c f e d)) ((qQ Q a b c d)))
def tu(Q:R)(f:Vs)(a:SH):Prop:=Hf 3 4 6 7 19 49 f λb c d e g h=>wk h (aC 2 c a λi=>aC 2 b a λj=>wx 1 i j a λk=>wc (.fn 93 []) [k] a (s6 Q e d)) ((qR Q a g b c e d))
def qS(Q:R)(b:SH)(a c d e f:AV):Prop:=W.join (tu Q) λg=>wb .eql 3 a (.W9 8) λh=>wk h (g [c,d,e,f,a,h] b) (wb .eql 3 a (.W9 26) λi=>g [c,d,e,f,a,i] b)
def tv(Q:R)(g:Vs)(a:SH):Prop:=Hf 3 4 6 7 19 20 g λb e c d f h=>wk h ((sX Q a b d c)) (wb .eql 3 f (.W9 7) λi=>wk i ((s5 Q a b e d c)) ((qS Q a f b e c d)))
def bv(n o p:AV)(L:SH)(Q:R):Prop:=W.box n L λq r=>W.box o r λs t=>W.alloc [(.W9 0),(.W9 0),(.W9 0),(.W9 0),(.W9 0),.nils,.nils] t λi u=>W.frz1 q u λa v=>W.frz1 s v λj b=>(true=true)∧(aO 0 a [] 2 b λw e=>W.calm [] ⟨3,(dT (OY 0)),[],[],false,[]⟩ (W.idxP 29 1 (OY 0) w λx=>wn (dT (OY 0)) [] [] [] λf=>dl [] 4 x b λy g=>aO 1 a [rm 4 g,rm 3 f,rm 2 e] 6 b λz k=>aO 5 a [rm 6 k,rm 4 g,rm 3 f,rm 2 e] 8 b λA B=>W.build [(.W9 0),(.W9 0),(.W9 0),(.W9 0),(.W9 0),.nils,.nils] [(0,1,p),(1,1,y),(2,1,z),(4,1,A)] λC=>W.calm [rm 8 B,rm 6 k,rm 4 g,rm 3 f,rm 2 e] ⟨10,[],[],[],false,[]⟩ (W.alloc [(.W9 0),(.W9 0),(.W9 0),(.W9 0),(.W9 0),.nils,.nils] b λc D=>wn [] [] (aa c) [] λF=>ds [] 11 7 c C D λh G=>aC 0 a h λd=>W.join (tv Q) λl=>wb .eql 3 d (.W9 6) λm=>wk m (l [a,j,i,c,d,m] h) (wb .eql 3 d (.W9 27) λE=>l [a,j,i,c,d,E] h))))
theorem tw(t0 t1 t2:AV)(L:SH)(Q:R)(h:bv t0 t1 t2 L Q):ai Tryz.prog 83 [t0,t1,t2] L Q:=
 fs [(4,[3,4,6,7,19,20]),(10,[3,4,6,7,19,49])] [] [(0,[3,4])] [(1,[0,0,2,6,14,0,32,0,128,511,0,2047]),(7,[0,1,0,4,0,16,60,124,0,256,1020,2047,4095,8191]),(13,[0,1,0,4,0,16,60,124,0,256,1020,2047,4095,8191])] Tryz.func83 h
def Iz(Q:R)(d:SH)(b c:AV):Prop:=W.build [.nils,(.W9 0),.nils,.nils,.nils,.nils,.nils] [] λe=>W.build [(.W9 0),(.W9 0),(.W9 0),(.W9 0),(.W9 0),.nils,.nils] [] λf=>W.store 7 b e d λg=>W.store 7 c f g λa=>W.load true 7 b a λh=>W.load true 7 c a λi=>Q (.tup [h,i,(.bool false)]) a
def IA(Q:R)(d:SH)(b c:AV):Prop:=W.build [.nils,(.W9 0),.nils,.nils,.nils,.nils,.nils] [] λe=>W.build [(.W9 0),(.W9 0),(.W9 0),(.W9 0),(.W9 0),.nils,.nils] [] λf=>W.store 7 b e d λg=>W.store 7 c f g λa=>W.load true 7 b a λh=>W.load true 7 c a λi=>Q (.tup [h,i,(.bool false)]) a
def IB(Q:R)(e:Vs)(a:SH):Prop:=yO 6 7 9 13 e λc d f g=>(true=true)∧(dr [] 0 7 g a λh i=>dr [rm 0 i] 1 7 f a λj k=>ds [rm 1 k] 2 7 c h a λl o=>ds [] 3 7 d j l λb p=>W.load true 7 c b λm=>W.load true 7 d b λn=>Q (.tup [m,n,(.bool true)]) b)
def IC(Q:R)(d:SH)(b c:AV):Prop:=W.build [.nils,(.W9 0),.nils,.nils,.nils,.nils,.nils] [] λe=>W.build [(.W9 0),(.W9 0),(.W9 0),(.W9 0),(.W9 0),.nils,.nils] [] λf=>W.store 7 b e d λg=>W.store 7 c f g λa=>W.load true 7 b a λh=>W.load true 7 c a λi=>Q (.tup [h,i,(.bool false)]) a
def pY(Q:R)(f:Kn)(g:SH)(c d h i j:AV)(k l m n o:Fp)(e:AV)(p:SH)(q:Ns):Prop:=wn [] q [] g.names λr=>W.ext 0 e λs=>W.ext 1 e λt=>W.calm [rc 9 r,rm 8 k,rm 5 l,rm 4 m,rm 3 n,rm 1 o] ⟨13,[],[],[],false,[]⟩ (W.alloc [(.W9 0),.nils,.nils,(.W9 0)] p λa u=>wn [] [] (aa a) [] λB=>ds [] 14 4 a s u λv C=>W.frz1 a v λw b=>W.un .not t λx=>wk x ((IC Q b c d)) (ca 4 w b λy=>W.nilchk h λz=>W.store 4 z y b λA=>f [c,d,i,j] A))
def ID(Q:R)(g:Kn)(a:SH)(h i c j k l m:AV):Prop:=(true=true)∧(aO 6 h [] 1 a λn b=>aO 0 i [rm 1 b] 3 a λo d=>di [] 4 2 n o a λp e=>dr [] 5 2 p a λq f=>W.nilchk c λr=>dr [rm 5 f,rm 4 e,rm 3 d,rm 1 b] 8 4 r a λs t=>wd [] 9 (.fn 58 []) [q,s] a (pY Q g a j k c l m t f e d b))
def bI(Q:R)(l:Vs)(m:SH):Prop:=RB 3 5 6 7 9 13 14 17 l λn o d e a f b p=>W.nilchk b λq=>W.faddr 0 q λr=>W.store 1 r p m λg=>dP 3 b g λs=>wb .add 3 s (.W9 1) λt=>W.nilchk b λu=>W.faddr 3 u λv=>W.store 1 v t g λh=>W.join (IB Q) λi=>aC 1 a h λw=>wb .neq 3 w (.W9 16) λc=>wg c true (W.faddr 1 a) h λx j=>wg c true (wl x j) j λy z=>wg c true (wb .neq 3 y (.W9 2)) z λA k=>W.pick c A (.bool false) λB=>wk B ((ID Q i k n o b d e a f)) (i [d,e,a,f] k)
def A3(o:Kn)(c:SH)(i d g j p q r s t u:AV):Prop:=aC 4 i c λv=>aC 2 d c λw=>wx 1 v w c λx=>W.faddr 3 d λy=>W.store 1 y x c λa=>(true=true)∧(W.nilchk g λz=>aO 1 z [] 3 a λA b=>aO 1 j [rm 3 b] 5 a λB e=>W.nilchk g λC=>aO 2 C [rm 5 e,rm 3 b] 9 a λD h=>aO 1 j [rm 9 h,rm 5 e,rm 3 b] 11 a λE f=>aO 3 d [rm 11 f,rm 9 h,rm 5 e,rm 3 b] 13 a λF G=>W.calm [rm 13 G,rm 11 f,rm 9 h,rm 5 e,rm 3 b] ⟨15,[],[],[],false,[]⟩ (W.bslice 1 [(.W9 0)] 1 [(0,p)] a λk l=>wn [] [] (aa k) [] λm=>di [rm 15 m,rm 11 f] 16 1 A B l λH M=>ds [rm 15 m,rm 11 f] 17 1 H F l λn N=>di [] 18 1 D E n λI O=>ds [] 19 1 I k n λJ P=>o [q,r,s,t,d,i,g,u] J))
def IE(o:Kn)(c:SH)(i d g j p q r s t u:AV):Prop:=aC 5 i c λv=>aC 2 d c λw=>wx 1 v w c λx=>W.faddr 3 d λy=>W.store 1 y x c λa=>(true=true)∧(W.nilchk g λz=>aO 1 z [] 3 a λA b=>aO 1 j [rm 3 b] 5 a λB e=>W.nilchk g λC=>aO 2 C [rm 5 e,rm 3 b] 9 a λD h=>aO 1 j [rm 9 h,rm 5 e,rm 3 b] 11 a λE f=>aO 3 d [rm 11 f,rm 9 h,rm 5 e,rm 3 b] 13 a λF G=>W.calm [rm 13 G,rm 11 f,rm 9 h,rm 5 e,rm 3 b] ⟨15,[],[],[],false,[]⟩ (W.bslice 1 [(.W9 0)] 1 [(0,p)] a λk l=>wn [] [] (aa k) [] λm=>di [rm 15 m,rm 11 f] 16 1 A B l λH M=>ds [rm 15 m,rm 11 f] 17 1 H F l λn N=>di [] 18 1 D E n λI O=>ds [] 19 1 I k n λJ P=>o [q,r,s,t,d,i,g,u] J))
def IF(f:Kn)(a:SH)(d g c e h i j k l:AV):Prop:=(true=true)∧(W.nilchk d λm=>aO 1 m [] 3 a λn o=>aO 2 g [rm 3 o] 5 a λp y=>di [] 6 1 n p a λq z=>dl [] 7 q a λr A=>W.faddr 3 c λs=>ds [] 9 1 s r a λb B=>aC 4 e b λt=>aC 2 c b λu=>aC 3 c b λv=>W.idx 1 t u b λw=>W.store 1 w v b λx=>f [h,i,j,k,c,e,d,l] x)
def IG(f:Kn)(a:SH)(d g c e h i j k l:AV):Prop:=(true=true)∧(W.nilchk d λm=>aO 1 m [] 3 a λn o=>aO 2 g [rm 3 o] 5 a λp y=>di [] 6 1 n p a λq z=>dl [] 7 q a λr A=>W.faddr 3 c λs=>ds [] 9 1 s r a λb B=>aC 5 e b λt=>aC 2 c b λu=>aC 3 c b λv=>W.idx 1 t u b λw=>W.store 1 w v b λx=>f [h,i,j,k,c,e,d,l] x)
def IH(d:Kn)(a:SH)(b e c f g h i j k:AV):Prop:=(true=true)∧(W.nilchk b λl=>aO 1 l [] 3 a λm n=>aO 1 e [rm 3 n] 5 a λo v=>di [] 6 1 m o a λp w=>dl [] 7 p a λq x=>wb .neq 2 q (.W9 0) λr=>wk r (W.faddr 3 c λs=>W.store 1 s (.W9 1) a λt=>d [f,g,h,i,c,j,b,k] t) (aC 2 e a λu=>d [f,g,h,i,c,j,b,u] a))
def II(c:Kn)(j:Vs)(a:SH):Prop:=No 3 5 6 7 9 13 14 17 215 j λd e f g h i b k l=>wk l (dP 0 b a λm=>c [d,e,f,g,h,i,b,m] a) (c [d,e,f,g,h,i,b,k] a)
def IJ(a:Kn)(b:SH)(c d e f g h i j k:AV):Prop:=wb .eql 3 c (.W9 16) λl=>wk l (a [d,e,f,g,h,i,j,k,l] b) (wb .eql 3 c (.W9 2) λm=>a [d,e,f,g,h,i,j,k,m] b)
def GP(m:Kn)(a:SH)(b c d e f g h i j:AV):Prop:=W.join (II m) λk=>wb .eql 3 b (.W9 1) λl=>wk l (k [c,d,e,f,g,h,i,j,l] a) ((IJ k a b c d e f g h i j))
def IK(b:Kn)(k:Vs)(c:SH):Prop:=RE 3 5 6 7 9 12 13 14 17 105 210 k λd e f g a l h i j m n=>wk n (W.faddr 3 a λo=>W.store 1 o l c λp=>b [d,e,f,g,a,h,i,j] p) ((GP b c m d e f g a h i j))
def GQ(n:Kn)(b:SH)(a c d e f g h i j k:AV):Prop:=W.join (IK n) λl=>wb .eql 3 a (.W9 18) λm=>wk m (l [c,d,e,f,g,h,i,j,k,a,m] b) (wb .eql 3 a (.W9 19) λo=>l [c,d,e,f,g,h,i,j,k,a,o] b)
def GR(a:Kn)(b:SH)(c d l e f g h i j k m:AV):Prop:=wb .eql 3 c (.W9 5) λn=>wk n ((IH a b d l e f g h i j k)) ((GQ a b c f g h i e m j d k))
def GS(a:Kn)(b:SH)(c d e f g h i j k l m:AV):Prop:=wb .eql 3 c (.W9 22) λn=>wk n ((IG a b d e f g h i j k l)) ((GR a b c d e f h i j k g l m))
def GT(a:Kn)(b:SH)(c d e f g h i j k l m:AV):Prop:=wb .eql 3 c (.W9 4) λn=>wk n ((IF a b d e f g h i j k l)) ((GS a b c d e f g h i j k l m))
def xG(a:Kn)(b:SH)(c d e f g m h i j k l n:AV):Prop:=wb .eql 3 c (.W9 23) λo=>wk o ((IE a b d e f g m h i j k l)) ((GT a b c f g e d h i j k l n))
def kG(Q:R)(u e f g j k v w:AV)(x:SH):Prop:=W.alloc [.nils,(.W9 0),.nils,.nils,.nils,.nils,.nils] x λb y=>W.store 7 b w y λl=>ca 4 u l λz=>W.faddr 0 b λA=>W.store 4 A z l λa=>aC 6 b a λB=>aC 0 e a λC=>W.idx 4 B C a λc=>(true=true)∧(aO 6 f [] 1 a λD h=>aO 0 e [rm 1 h] 3 a λE m=>di [] 4 2 D E a λF n=>aO 1 F [] 6 a λG o=>W.nilchk c λH=>aO 0 H [rm 6 o,rm 4 n,rm 3 m,rm 1 h] 10 a λI J=>di [] 11 6 G I a λM N=>dr [] 12 6 M a λO P=>W.calm [rm 12 P,rm 11 N,rm 10 J,rm 6 o,rm 4 n,rm 3 m,rm 1 h] ⟨13,[],[],[],false,[]⟩ (W.alloc [(.W9 0),(.W9 0),(.W9 0),(.W9 0),(.W9 0),(.W9 0)] a λi S=>wn [] [] (aa i) [] λa0=>ds [] 14 6 i O S λT a1=>W.frz1 i T λp d=>(true=true)∧(W.nilchk c λU=>aO 3 U [] 3 d λq V=>W.nilchk c λX=>aO 0 X [rm 3 V] 7 d λY a2=>wb .add 3 Y (.W9 1) λr=>W.join (bI Q) λs=>aC 1 g d λt=>wb .eql 3 t (.W9 3) λZ=>wk Z ((A3 s d b g c p q f e j k r)) ((xG s d t b g c p q f e j k r v)))))
def IL(Q:R)(c d e f g h a:AV)(i:SH):Prop:=W.ext 0 a λj=>W.ext 1 a λk=>W.ext 2 a λl=>qn [.nils,(.W9 0),.nils,.nils] 4 j i λm b=>W.un .not l λn=>wk n ((IA Q b c d)) (ca 7 e b λo=>wc (.fn 57 []) [o] b (kG Q m f g h c d k))
def GU(Q:R)(a:SH)(d e b c f g:AV):Prop:=W.faddr 0 d λh=>ca 6 h a λi=>W.faddr 0 e λj=>ca 4 j a λk=>aC 0 b a λl=>aC 1 c a λm=>aC 2 c a λn=>aC 1 b a λo=>wc (.fn 56 []) [i,k,l,m,n,o] a (IL Q f g e b d c)
def IM(Q:R)(c d e f n g:AV)(o:SH):Prop:=W.ext 0 g λp=>W.ext 1 g λq=>W.alloc [(.W9 0),(.W9 0),(.W9 0),(.W9 0),(.W9 0),.nils,.nils] o λh r=>W.store 7 h p r λs=>W.un .not q λa=>wg a false (W.faddr 4 c) s λt i=>wg a false (wl t i) i λu v=>wg a false (W.len u) v λw x=>wg a false (W.faddr 0 d) x λy z=>wg a false (W.faddr 0 y) z λA j=>wg a false (wl A j) j λB C=>wg a false (W.len B) C λD E=>wg a false (wb .neq 3 w D) E λF G=>W.pick a (.bool true) F λb=>wg b false (W.faddr 5 c) G λH k=>wg b false (wl H k) k λI J=>wg b false (W.len I) J λM N=>wg b false (W.faddr 0 d) N λO P=>wg b false (W.faddr 3 O) P λS l=>wg b false (wl S l) l λT U=>wg b false (W.len T) U λV X=>wg b false (wb .neq 3 M V) X λY m=>W.pick b (.bool true) Y λZ=>wk Z ((Iz Q m e f)) ((GU Q m d c n h e f))
def DY(e f g:AV)(L:SH)(Q:R):Prop:=W.box e L λh i=>W.box f i λj k=>W.box g k λl m=>W.alloc [.nils,(.W9 0),.nils,.nils,.nils,.nils,.nils] m λn o=>W.alloc [(.W9 0),(.W9 0),(.W9 0),(.W9 0),(.W9 0),.nils,.nils] o λp q=>W.frz1 h q λb r=>W.frz1 j r λc s=>W.frz1 l s λd a=>ca 7 b a λt=>ca 7 c a λu=>aC 0 d a λv=>wc (.fn 55 []) [t,u,v] a (IM Q c b n p d)
theorem IN(t0 t1 t2:AV)(L:SH)(Q:R)(h:DY t0 t1 t2 L Q):ai Tryz.prog 30 [t0,t1,t2] L Q:=
 fs [(35,[3,5,6,7,9,13,14,17]),(42,[6,7,9,13]),(30,[3,5,6,7,9,12,13,14,17,105,210]),(34,[3,5,6,7,9,13,14,17,215])] [] [(0,[3,4,5]),(4,[11]),(10,[15]),(39,[18])] [(10,[0,1,0,4,15,31,63,0,128,384,896,2047,4095,0,16383]),(11,[0,1,3,7,0,16,48,112,240,15,1023]),(15,[0,1,3,7,0,16,0,64,192,448,0,1024,0,4096,0,16384,13311,78847,262143,524287]),(18,[0,1,3,7,0,16,0,64,192,448,0,1024,0,4096,0,16384,13311,78847,262143,524287]),(20,[0,1,3,7,0,16,63,127,255,511]),(23,[0,1,3,7,0,16,63,127,255,511]),(26,[0,1,3,7,0,16,63,127,255]),(39,[0,1,0,4,15,31,0,64,192,511,1023,2047,2047,0,12287,32767]),(43,[0,0,1,7,15])] Tryz.func30 h
def zU(e:Kn)(f:SH)(a c g h i j k l m n:AV)(o:Fp)(p:AV)(q:SH)(r:Ns):Prop:=wn [] r [] f.names λx=>W.calm [rm 1 o] ⟨4,[],[],[],false,[]⟩ (W.bslice 1 [.nils] 1 [(0,p)] q λb s=>wn [] [] (aa b) [] λy=>W.calm [] ⟨5,(aa a++aa b),(aa a),[],false,[]⟩ (W.append 1 24 a b s λd t=>wn (aa a++aa b) (aa a) (aa d) [] λz=>W.faddr 2 c λu=>ds [] 7 1 u d t λv A=>wb .add 3 g (.W9 1) λw=>e [h,i,c,j,k,l,m,n,w] v))
def zV(f:Kn)(a:SH)(b c d g h i j k l:AV):Prop:=wx 1 b c a λm=>(true=true)∧(aO 2 d [] 1 a λn e=>wd [rm 1 e] 3 (.fn 93 []) [m] a (zU f a n d c g h i j k b l e))
def eP(c:Kn)(a:SH)(b d e f g h:AV):Prop:=aC 6 b a λi=>ca 4 d a λj=>W.bslice 4 [(.W9 0),.nils,.nils,(.W9 0)] 1 [(0,j)] a λk l=>W.append 4 64 i k l λm n=>W.faddr 6 b λo=>W.store 1 o m n λp=>wb .add 3 e (.W9 1) λq=>c [f,b,g,h,q] p
def gQ(j:Kn)(k:Vs)(a:SH)(l:Kn):Prop:=No 2 3 6 21 22 23 41 42 43 k λb c d e f g m h i=>wb .lss 3 i h λn=>wk n ((zV l a m i d b c e f g h)) ((eP j a c d g b e f))
def ma(j:Kn)(k:SH)(b l m n o p q:AV)(c d:Fp)(r:AV)(e:SH)(s:Ns):Prop:=wn [] s [] k.names λf=>aO 3 b [rc 4 f,rm 3 c,rm 1 d] 6 e λt u=>W.build [(.W9 0),.nils,.nils,(.W9 0)] [(0,1,l),(1,1,r),(3,1,t)] λv=>W.calm [rm 6 u,rc 4 f,rm 3 c,rm 1 d] ⟨8,[],[],[],false,[]⟩ (W.alloc [(.W9 0),.nils,.nils,(.W9 0)] e λa w=>wn [] [] (aa a) [] λD=>ds [] 9 4 a v w λg E=>aC 2 b g λx=>W.len x λy=>W.mslice 1 24 [.nils] (.W9 0) y g λz A=>W.faddr 2 a λB=>W.store 1 B z A λh=>aC 2 b h λi=>W.len i λC=>W.loop (gQ j) [m,n,a,o,p,q,i,C,(.W9 0)] h)
def zW(g:Kn)(d:SH)(e f h i j:AV):Prop:=lE 4 e f d λk=>qn [(.W9 0),.nils,.nils,(.W9 0)] 4 k d λb a=>(true=true)∧(aO 0 b [] 1 a λl c=>aO 1 b [rm 1 c] 3 a λm n=>wd [rm 1 c] 4 (.fn 92 []) [m] a (ma g a b l h i e j f n c))
def eQ(Q:R)(g:Vs)(a:SH)(h:Kn):Prop:=He 2 3 21 22 23 g λb c i d e=>wb .lss 3 e d λj=>wk j ((zW h a i e b c d)) (ca 7 c a λk=>W.store 7 b k a λf=>W.load true 7 b f λl=>Q l f)
def mb(Q:R)(k:SH)(f l m:AV)(a b c:Fp)(n:AV)(g:SH)(o:Ns):Prop:=wn [] o [] k.names λd=>aO 6 f [rc 5 d,rm 4 a,rc 2 b,rm 1 c] 7 g λp q=>W.len p λr=>W.calm [rc 5 d,rm 4 a,rc 2 b,rm 1 c] ⟨9,[],[],[],false,[]⟩ (W.mslice 4 64 [(.W9 0),.nils,.nils,(.W9 0)] (.W9 0) r g λh s=>wn [] [] (aa h) [] λt=>W.build [.nils,(.W9 0),.nils,.nils,.nils,.nils,.nils] [(4,1,l),(5,1,n),(6,1,h)] λu=>W.calm [rm 9 t,rm 7 q,rc 5 d,rm 4 a,rc 2 b,rm 1 c] ⟨11,[],[],[],false,[]⟩ (W.alloc [.nils,(.W9 0),.nils,.nils,.nils,.nils,.nils] s λe v=>wn [] [] (aa e) [] λx=>ds [] 12 7 e u v λi y=>aC 6 f i λj=>W.len j λw=>W.loop (eQ Q) [m,e,j,w,(.W9 0)] i))
def mc(Q:R)(e:SH)(b f:AV)(c:Fp)(g:AV)(a:SH)(h:Ns):Prop:=wn [] h [] e.names λd=>aO 5 b [rc 2 d,rm 1 c] 4 a λi j=>wd [] 5 (.fn 92 []) [i] a (mb Q a b g f j d c)
def nQ(c:AV)(L:SH)(Q:R):Prop:=W.box c L λd e=>W.alloc [.nils,(.W9 0),.nils,.nils,.nils,.nils,.nils] e λf g=>W.frz1 d g λb a=>(true=true)∧(aO 4 b [] 1 a λh i=>wd [] 2 (.fn 92 []) [h] a (mc Q a b f i))
theorem zX(t0:AV)(L:SH)(Q:R)(h:nQ t0 L Q):ai Tryz.prog 57 [t0] L Q:=
 fs [] [(8,[2,3,6,21,22,23,41,42,43]),(3,[2,3,21,22,23])] [(0,[1]),(4,[5])] [(1,[0,1,3,0,8,31,0,64,192,448,1023,0,4095]),(5,[0,1,0,4,12,0,32,127,0,511]),(10,[0,1,0,4,12,31,63,127])] Tryz.func57 h
def zY(Q:R)(c:SH)(d e f g h a i:AV)(j:SH)(k:Ns):Prop:=wn [] k [] c.names λn=>W.build [.nils,.nils,.nils,.nils,.nils,.nils] [(0,1,d),(1,1,e),(2,1,f),(3,1,g),(4,1,h),(5,1,i)] λl=>ds [] 19 6 a l j λb o=>W.load true 6 a b λm=>Q m b
def zZ(Q:R)(b:SH)(c d e f g h:AV)(i j k l m n o p q:Fp)(r:AV)(a:SH)(s:Ns):Prop:=wn [] s [] b.names λt=>aO 5 c [rc 14 t,rm 13 i,rc 11 j,rm 10 k,rc 8 l,rm 7 m,rc 5 n,rm 4 o,rc 2 p,rm 1 q] 16 a λu v=>wd [] 17 (.fn 35 []) [u] a (zY Q a d e f g r h)
def z7(Q:R)(k:SH)(b l m n o:AV)(c d e f g h i:Fp)(p:AV)(a:SH)(q:Ns):Prop:=wn [] q [] k.names λj=>aO 4 b [rc 11 j,rm 10 c,rc 8 d,rm 7 e,rc 5 f,rm 4 g,rc 2 h,rm 1 i] 13 a λr s=>wd [] 14 (.fn 34 []) [r] a (zZ Q a b l m n p o s j c d e f g h i)
def z8(Q:R)(i:SH)(b j k l:AV)(c d e f g:Fp)(m:AV)(a:SH)(n:Ns):Prop:=wn [] n [] i.names λh=>aO 3 b [rc 8 h,rm 7 c,rc 5 d,rm 4 e,rc 2 f,rm 1 g] 10 a λo p=>wd [] 11 (.fn 34 []) [o] a (z7 Q a b j k m l p h c d e f g)
def Aa(Q:R)(g:SH)(b h i:AV)(c d e:Fp)(j:AV)(a:SH)(k:Ns):Prop:=wn [] k [] g.names λf=>aO 2 b [rc 5 f,rm 4 c,rc 2 d,rm 1 e] 7 a λl m=>wd [] 8 (.fn 33 []) [l] a (z8 Q a b h j i m f c d e)
def Ab(Q:R)(e:SH)(b f:AV)(c:Fp)(g:AV)(a:SH)(h:Ns):Prop:=wn [] h [] e.names λd=>aO 1 b [rc 2 d,rm 1 c] 4 a λi j=>wd [] 5 (.fn 32 []) [i] a (Aa Q a b g f j d c)
def nR(c:AV)(L:SH)(Q:R):Prop:=W.box c L λd e=>W.alloc [.nils,.nils,.nils,.nils,.nils,.nils] e λf g=>W.frz1 d g λb a=>(true=true)∧(aO 0 b [] 1 a λh i=>wd [] 2 (.fn 31 []) [h] a (Ab Q a b f i))
theorem Ac(t0:AV)(L:SH)(Q:R)(h:nR t0 L Q):ai Tryz.prog 15 [t0] L Q:=
 fs [] [] [(0,[1])] [(1,[0,1,3,0,8,31,0,64,255,0,512,2047,0,4096,16383,0,32768,131071,262143,524287])] Tryz.func15 h
def xH(c a:AV)(L:SH)(Q:R):Prop:=wb .lss 3 a (.W9 1) λd=>wk d (Q (.W9 0) L) (wb .rem 2 c a λb=>wb .lss 2 b (.W9 0) λe=>wk e (wb .add 2 b a λf=>Q f L) (Q b L))
theorem Fc(t0 t1:AV)(L:SH)(Q:R)(h:xH t0 t1 L Q):ai Tryz.prog 108 [t0,t1] L Q:=
 fs [] [] [] [] Tryz.func108 h
end
section
set_option maxRecDepth 100000
set_option maxHeartbeats 2000000
theorem fl{K:SH}{l m:List AV}(h:jd K l m:=by repeat' first|exact .nil|refine .cons ?_ ?_|exact .refl _|exact .nils):jd K l m:=h
theorem IP(i n:Int):aB Tryz.prog 108 [.W9 i,.W9 n] (.W9 (ixS i n)):=by
 refine Fc _ _ _ _ ?_;unfold xH;generalize hQ:(λ(u:AV) (K:SH)=>u=AV.W9 (ixS i n)∧K=[])=Q;have hq:∀b,ixS i n=b→Q (.W9 b) []:=λb hb=>by subst hQ;exact⟨by rw[hb],rfl⟩
 clear hQ;by_cases h:n<1
 ·have d1:decide (n<1)=true:=decide_eq_true h
  repeat' (first|refine st ?_|refine sb λnb_ hnb_=>?_|refine s2 (λh=>?_) λh=>?_|fail)
  exact hq _ (by rw[ixS,if_pos h])
 ·have d1:decide (n<1)=false:=decide_eq_false h;have hn0:n≠0:=by omega
  by_cases h2:i.tmod n<0
  ·have d2:decide (i.tmod n<0)=true:=decide_eq_true h2
   repeat' (first|refine st ?_|refine mN (MY hn0 ?_)|refine sb λnb_ hnb_=>?_|refine s2 (λh=>?_) λh=>?_|fail)
   exact hq _ (by rw[ixS,if_neg h,if_pos h2])
  ·have d2:decide (i.tmod n<0)=false:=decide_eq_false h2
   repeat' (first|refine st ?_|refine mN (MY hn0 ?_)|refine sb λnb_ hnb_=>?_|refine s2 (λh=>?_) λh=>?_|fail)
   exact hq _ (by rw[ixS,if_neg h,if_neg h2])
theorem ops(k:Int)(h1:1≤k)(h2:k≤28):k=1∨k=2∨k=3∨k=4∨k=5∨k=6∨k=7∨k=8∨k=9∨k=10∨k=11∨k=12∨k=13∨k=14∨k=15∨k=16∨k=17∨k=18∨k=19∨k=20∨k=21∨k=22∨k=23∨k=24∨k=25∨k=26∨k=27∨k=28:=by omega
theorem pZ{s:aW}{r:Int}(h0:0≤r)(h1:r<s.regs.length):(s.regs.map ao)[r.toNat]? =some [.W9 (s.reg r)]:=by
 have:r.toNat<s.regs.length:=by omega
 simp[aW.reg,this,ao]
theorem tz{s:aW}{r:Int}(h0:0≤r)(h1:r<s.taint.length):(s.taint.map cp)[r.toNat]? =some [.lst ((s.tnt r).map ao)]:=by
 have:r.toNat<s.taint.length:=by omega
 simp[aW.tnt,this,cp]
theorem p7:OY 0=.pptr [kS.map (.W9 ·)] 0 0:=rfl
section
variable {s:aW} {t op ia ib ic m site:Int} (hr:∀r∈bU ⟨op,ia,ib,ic,m,site⟩,0≤r∧r<s.regs.length) (ht:s.taint.length=s.regs.length) (hs:∀r,(s.tnt r).length*8≤140737488355328) {Q:R} (hq:∀v L,(∀K,jd K v (l9 ⟨op,ia,ib,ic,m,site⟩ s t).enc)→Q (.agg v) L)
include hr ht hs hq
omit hr ht hs in
theorem Uf(h1:1≤op)(h2:op≤28)(hn:¬(7≤op∧op≤10)∧op≠26):bv (.agg (bn.enc ⟨op,ia,ib,ic,m,site⟩)) (.agg s.enc) (.W9 t) [] Q:=by
 unfold bv;rw[show bn.enc ⟨op,ia,ib,ic,m,site⟩=[.W9 op,.W9 ia,.W9 ib,.W9 ic,.W9 m,.W9 site]from rfl,p7];unfold aW.enc;rcases ops op h1 h2 with rfl|rfl|rfl|rfl|rfl|rfl|rfl|rfl|rfl|rfl|rfl|rfl|rfl|rfl|rfl|rfl|rfl|rfl|rfl|rfl|rfl|rfl|rfl|rfl|rfl|rfl|rfl|rfl
 all_goals first
  |(exfalso;omega)
  |skip
 all_goals
  clear h1 h2 hn
  repeat' (first|refine st ?_|refine C1 W8 W8 ?_|refine sb λnb_ hnb_=>?_|refine s2 (λh=>?_) λh=>?_|fail)
  exact hq _ _ (λK=>by simp[l9,cI.enc,pX,kS,bA];exact fl)
theorem Ug(h:op=8∨op=26):bv (.agg (bn.enc ⟨op,ia,ib,ic,m,site⟩)) (.agg s.enc) (.W9 t) [] Q:=by
 unfold bv;rw[show bn.enc ⟨op,ia,ib,ic,m,site⟩=[.W9 op,.W9 ia,.W9 ib,.W9 ic,.W9 m,.W9 site]from rfl,p7];unfold aW.enc;rcases h with rfl|rfl
 all_goals
  obtain⟨b0,b1⟩:=hr ib (by simp[bU]);have y1:=tz (s:=s) b0 W4;have c1:=cS (s.tnt ib) (hs ib);clear hr ht hs
  repeat' (first|refine st ?_|(refine pf 93 ?_;refine pm (c1) ?_)|refine sb λnb_ hnb_=>?_|refine s2 (λh=>?_) λh=>?_|fail)
  exact hq _ _ (λK=>by simp[l9,cI.enc,pX,kS,bA];exact fl)
theorem Uh(h:op=10):bv (.agg (bn.enc ⟨op,ia,ib,ic,m,site⟩)) (.agg s.enc) (.W9 t) [] Q:=by
 unfold bv;rw[show bn.enc ⟨op,ia,ib,ic,m,site⟩=[.W9 op,.W9 ia,.W9 ib,.W9 ic,.W9 m,.W9 site]from rfl,p7];unfold aW.enc;subst h;obtain⟨b0,b1⟩:=hr ia (by simp[bU]);have y1:=tz (s:=s) b0 W4;have c1:=cS (s.tnt ia) (hs ia);clear hr ht hs
 repeat' (first|refine st ?_|(refine pf 93 ?_;refine pm (c1) ?_)|refine sb λnb_ hnb_=>?_|refine s2 (λh=>?_) λh=>?_|fail)
 exact hq _ _ (λK=>by simp[l9,cI.enc,pX,kS,bA];exact fl)
theorem Ui(h:op=7):bv (.agg (bn.enc ⟨op,ia,ib,ic,m,site⟩)) (.agg s.enc) (.W9 t) [] Q:=by
 unfold bv;rw[show bn.enc ⟨op,ia,ib,ic,m,site⟩=[.W9 op,.W9 ia,.W9 ib,.W9 ic,.W9 m,.W9 site]from rfl,p7];unfold aW.enc;subst h;obtain⟨b0,b1⟩:=hr ic (by simp[bU]);have y1:=tz (s:=s) b0 W4;have y2:=pZ (s:=s) b0 b1;have c1:=cS (s.tnt ic) (hs ic);have c2:=IP (s.reg ic) m;clear hr ht hs
 repeat' (first|refine st ?_|(refine pf 93 ?_;refine pm (c1) ?_)|(refine pf 108 ?_;refine pm (c2) ?_)|refine sb λnb_ hnb_=>?_|refine s2 (λh=>?_) λh=>?_|fail)
 exact hq _ _ (λK=>by simp[l9,cI.enc,pX,kS,bA];exact fl)
theorem Uj(h:op=9):bv (.agg (bn.enc ⟨op,ia,ib,ic,m,site⟩)) (.agg s.enc) (.W9 t) [] Q:=by
 unfold bv;rw[show bn.enc ⟨op,ia,ib,ic,m,site⟩=[.W9 op,.W9 ia,.W9 ib,.W9 ic,.W9 m,.W9 site]from rfl,p7];unfold aW.enc;subst h;obtain⟨b0,b1⟩:=hr ic (by simp[bU]);obtain⟨b2,b3⟩:=hr ib (by simp[bU]);have y1:=tz (s:=s) b0 W4;have y3:=tz (s:=s) b2 W4;have y2:=pZ (s:=s) b0 b1;have c1:=cS (s.tnt ic) (hs ic);have c3:=cS (s.tnt ib) (hs ib);have c2:=IP (s.reg ic) m;clear hr ht hs
 repeat' (first|refine st ?_|(refine pf 93 ?_;refine pm (c1) ?_)|(refine pf 93 ?_;refine pm (c3) ?_)|(refine pf 108 ?_;refine pm (c2) ?_)|refine sb λnb_ hnb_=>?_|refine s2 (λh=>?_) λh=>?_|fail)
 exact hq _ _ (λK=>by simp[l9,cI.enc,pX,kS,bA];exact fl)
end
theorem N8(i:bn)(s:aW)(t:Int)(h1:1≤i.op)(h2:i.op≤28)(hr:∀r∈bU i,0≤r∧r<s.regs.length)(ht:s.taint.length=s.regs.length)(hs:∀r,(s.tnt r).length*8≤140737488355328):aB Tryz.prog 83 [.agg i.enc,.agg s.enc,.W9 t] (.agg (l9 i s t).enc):=by
 obtain⟨op,ia,ib,ic,m,site⟩:=i;refine ai.fz (tw _ _ _ _ _ ?_);dsimp only at h1 h2;by_cases e7:op=7
 ·exact Ui hr ht hs (λv L h=>⟨_,[],aI.all (.aggs (h _)),rfl,rfl⟩) e7
 by_cases e9:op=9
 ·exact Uj hr ht hs (λv L h=>⟨_,[],aI.all (.aggs (h _)),rfl,rfl⟩) e9
 by_cases e10:op=10
 ·exact Uh hr ht hs (λv L h=>⟨_,[],aI.all (.aggs (h _)),rfl,rfl⟩) e10
 by_cases e8:op=8∨op=26
 ·exact Ug hr ht hs (λv L h=>⟨_,[],aI.all (.aggs (h _)),rfl,rfl⟩) e8
 exact Uf (λv L h=>⟨_,[],aI.all (.aggs (h _)),rfl,rfl⟩) h1 h2 W4
end
end Go.Proofs.YtenbpcngcicamaaGreatDoor.Am
