/- A part of the proof; the statement is proved in the last part. -/
import Derived.Test.YtljkdffikfkcgaaGreatQ2f
set_option linter.unusedSimpArgs false
set_option linter.unusedVariables false
section
namespace Go.Proofs.YtljkdffikfkcgaaGreat.Am
set_option linter.unusedVariables false
set_option maxRecDepth 100000
def kH(t0:AV)(L:SH)(Q:R):Prop:=
 wb .geq 5 t0 (.int .u8 97) fun x0=>
 b9 x0 true t0 L fun x1 L3=>
 wg x0 true (wb .leq 5 x1 (.int .u8 122)) L3 fun x4 L6=>
 W.pick x0 x4 (.bool false) fun x8=>
 b9 x8 false t0 L6 fun x9 L11=>
 wg x8 false (wb .geq 5 x9 (.int .u8 65)) L11 fun x12 L14=>
 b9 x8 false x12 L14 fun x16 L18=>
 b9 x16 true t0 L18 fun x19 L21=>
 wg x16 true (wb .leq 5 x19 (.int .u8 90)) L21 fun x22 L24=>
 wg x8 false (W.pick x16 x22 (.bool false)) L24 fun x26 L28=>
 W.pick x8 (.bool true) x26 fun x30=>
 Q x30 L28
theorem uO(t0:AV)(L:SH)(Q:R)(h:kH t0 L Q):aj Tryz.prog 70 [t0] L Q:=
 bx ⟨fun _=>none,fun _=>[],fun _=>[],fun _=>[]⟩ Tryz.func70 (by kernel_rfl) (by kernel_rfl) h
def m5(t0:AV)(L:SH)(Q:R):Prop:=
 wb .geq 5 t0 (.int .u8 48) fun x0=>
 b9 x0 true t0 L fun x1 L3=>
 wg x0 true (wb .leq 5 x1 (.int .u8 57)) L3 fun x4 L6=>
 W.pick x0 x4 (.bool false) fun x8=>
 Q x8 L6
theorem wR(t0:AV)(L:SH)(Q:R)(h:m5 t0 L Q):aj Tryz.prog 92 [t0] L Q:=
 bx ⟨fun _=>none,fun _=>[],fun _=>[],fun _=>[]⟩ Tryz.func92 (by kernel_rfl) (by kernel_rfl) h
def wS(Q:R)(t0 x0:AV)(L1:SH):Prop:=
 b9 x0 false t0 L1 fun x2 L4=>
 W.grd x0 false (fun k6=>wc (.fn 92 []) [x2] L4 fun x8 L9=>
 k6 x8 L9) L4 fun x5 L7=>
 W.pick x0 (.bool true) x5 fun x10=>
 b9 x10 false t0 L7 fun x11 L13=>
 wg x10 false (wb .eql 5 x11 (.int .u8 95)) L13 fun x14 L16=>
 W.pick x10 (.bool true) x14 fun x18=>
 Q x18 L16
def m6(t0:AV)(L:SH)(Q:R):Prop:=
 wc (.fn 70 []) [t0] L (wS Q t0)
theorem wT(t0:AV)(L:SH)(Q:R)(h:m6 t0 L Q):aj Tryz.prog 72 [t0] L Q:=
 bx ⟨fun _=>none,fun _=>[],fun _=>[],fun _=>[]⟩ Tryz.func72 (by kernel_rfl) (by kernel_rfl) h
def iW(L:SH)(Q:R):Prop:=
 W.bslice 1 [(.str [])] 22 [(0,(.str [118,97,114])),(1,(.str [118,111,108,97,116,105,108,101])),(2,(.str [109,117,116,101,120])),(3,(.str [114,119,108,111,99,107])),(4,(.str [99,111,110,100])),(5,(.str [102,117,116,117,114,101])),(6,(.str [116,104,114,101,97,100])),(7,(.str [105,102])),(8,(.str [101,108,115,101])),(9,(.str [119,104,105,108,101])),(10,(.str [108,111,99,107])),(11,(.str [114,101,97,100])),(12,(.str [119,114,105,116,101])),(13,(.str [116,114,97,110,115,97,99,116,105,111,110])),(14,(.str [97,116,111,109,105,99])),(15,(.str [119,97,105,116])),(16,(.str [110,111,116,105,102,121])),(17,(.str [110,111,116,105,102,121,97,108,108])),(18,(.str [115,112,97,119,110])),(19,(.str [106,111,105,110])),(20,(.str [115,101,116])),(21,(.str [103,101,116]))] L fun x0 L1=>
 Q x0 L1
theorem q8(L:SH)(Q:R)(h:iW L Q):aj Tryz.prog 91 [] L Q:=
 bx ⟨fun _=>none,fun _=>[],fun _=>[],fun _=>[]⟩ Tryz.func91 (by kernel_rfl) (by kernel_rfl) h
def gu(Q:R)(v2:Vs)(L4:SH)(n3:Kn):Prop:=
 ui 0 3 4 v2 fun x5 x6 x7=>
 W.len x6 fun x8=>
 wb .lss 3 x7 x8 fun x9=>
 wk x9 (
 BL 1 x6 x7 L4 fun x11=>
 wb .eql 9 x11 x5 fun x12=>
 wk x12 (
 Q (.bool true) L4) (
 wb .add 3 x7 (.int .i64 1) fun x13=>
 n3 [x5,x6,x13] L4)) (
 Q (.bool false) L4)
def nU(Q:R)(t0 x0:AV)(L1:SH):Prop:=
 W.loop (gu Q) [t0,x0,(.int .i64 0)] L1
def ig(t0:AV)(L:SH)(Q:R):Prop:=
 wc (.fn 91 []) [] L (nU Q t0)
theorem nV(t0:AV)(L:SH)(Q:R)(h:ig t0 L Q):aj Tryz.prog 71 [t0] L Q:=
 bx ⟨fun _=>none,fun k=>if k=3 then [0,3,4]else [],fun _=>[],fun _=>[]⟩ Tryz.func71 (by kernel_rfl) (by kernel_rfl) h
def uP(Q:R)(n41:Kn)(x44 x43 x48:AV)(L49:SH):Prop:=
 W.un .not x48 fun x50=>
 wk x50 (
 Q (.bool false) L49) (
 wb .add 3 x44 (.int .i64 1) fun x51=>
 n41 [x43,x51] L49)
def jM(Q:R)(v40:Vs)(L42:SH)(n41:Kn):Prop:=
 Gz 0 3 v40 fun x43 x44=>
 W.lenS x43 fun x45=>
 wb .lss 3 x44 x45 fun x46=>
 wk x46 (
 W.ixS x43 x44 fun x47=>
 wc (.fn 72 []) [x47] L42 (uP Q n41 x44 x43)) (
 Q (.bool true) L42)
def kI(t0:AV)(L:SH)(Q:R):Prop:=
 W.lenS t0 fun x0=>
 wb .lss 3 x0 (.int .i64 1) fun x1=>
 b9 x1 false t0 L fun x2 L4=>
 wg x1 false (W.lenS x2) L4 fun x5 L7=>
 wg x1 false (wb .gtr 3 x5 (.int .i64 12)) L7 fun x9 L11=>
 W.pick x1 (.bool true) x9 fun x13=>
 b9 x13 false t0 L11 fun x14 L16=>
 wg x13 false (W.ixS x14 (.int .i64 0)) L16 fun x17 L19=>
 W.grd x13 false (fun k22=>wc (.fn 70 []) [x17] L19 fun x24 L25=>
 k22 x24 L25) L19 fun x21 L23=>
 wg x13 false (W.un .not x21) L23 fun x26 L28=>
 W.pick x13 (.bool true) x26 fun x30=>
 b9 x30 false t0 L28 fun x31 L33=>
 W.grd x30 false (fun k35=>wc (.fn 71 []) [x31] L33 fun x37 L38=>
 k35 x37 L38) L33 fun x34 L36=>
 W.pick x30 (.bool true) x34 fun x39=>
 wk x39 (
 Q (.bool false) L36) (
 W.loop (jM Q) [t0,(.int .i64 0)] L36)
theorem uQ(t0:AV)(L:SH)(Q:R)(h:kI t0 L Q):aj Tryz.prog 52 [t0] L Q:=
 bx ⟨fun _=>none,fun k=>if k=4 then [0,3]else [],fun _=>[],fun _=>[]⟩ Tryz.func52 (by kernel_rfl) (by kernel_rfl) h
def q9(Q:R)(L15:SH)(t0:AV):Prop:=
 wb .geq 3 t0 (.int .i64 6) fun x18=>
 b9 x18 true t0 L15 fun x19 L21=>
 wg x18 true (wb .leq 3 x19 (.int .i64 18)) L21 fun x22 L24=>
 W.pick x18 x22 (.bool false) fun x26=>
 wk x26 (
 Q (.int .i64 2) L24) (
 Q (.int .i64 (-1)) L24)
def ra(Q:R)(L6:SH)(t0:AV):Prop:=
 wb .geq 3 t0 (.int .i64 3) fun x9=>
 b9 x9 true t0 L6 fun x10 L12=>
 wg x9 true (wb .leq 3 x10 (.int .i64 5)) L12 fun x13 L15=>
 W.pick x9 x13 (.bool false) fun x17=>
 wk x17 (
 Q (.int .i64 1) L15) (
 (q9 Q L15 t0))
def iX(t0:AV)(L:SH)(Q:R):Prop:=
 wb .eql 3 t0 (.int .i64 1) fun x0=>
 b9 x0 false t0 L fun x1 L3=>
 wg x0 false (wb .eql 3 x1 (.int .i64 2)) L3 fun x4 L6=>
 W.pick x0 (.bool true) x4 fun x8=>
 wk x8 (
 Q (.int .i64 0) L6) (
 (ra Q L6 t0))
theorem rb(t0:AV)(L:SH)(Q:R)(h:iX t0 L Q):aj Tryz.prog 104 [t0] L Q:=
 bx ⟨fun _=>none,fun _=>[],fun _=>[],fun _=>[]⟩ Tryz.func104 (by kernel_rfl) (by kernel_rfl) h
def lK(Q:R)(n156:Kn)(x159 x158 x168:AV)(L169:SH):Prop:=
 W.un .not x168 fun x170=>
 wk x170 (
 Q (.bool false) L169) (
 wb .add 3 x159 (.int .i64 1) fun x171=>
 n156 [x158,x171] L169)
def fN(Q:R)(v155:Vs)(L157:SH)(n156:Kn):Prop:=
 Gz 1 4 v155 fun x158 x159=>
 bf 3 x158 L157 fun x161=>
 W.len x161 fun x162=>
 wb .lss 3 x159 x162 fun x163=>
 wk x163 (
 bf 3 x158 L157 fun x165=>
 uh 4 x165 x159 L157 fun x167=>
 wc (.fn 93 []) [x167] L157 (lK Q n156 x159 x158)) (
 Q (.bool true) L157)
def lL(Q:R)(L17:SH)(x2 x19:AV)(r22:Fp)(x23:AV)(L25:SH)(q24:Ns):Prop:=
 wn [] q24 [] L17.names fun r26=>
 aY 3 x2 [rc 2 r26,rm 1 r22] 4 L25 fun x28 r29=>
 W.len x28 fun x30=>
 wb .neq 3 x23 x30 fun x31=>
 W.dgrd x31 false (fun k33=>k33 x19 L25 rz) L25 fun x32 L35 r34=>
 W.dgrd x31 false (fun k37=>W.faddr 2 x2 fun x40=>
 k37 x40 L35 rz) L35 fun x36 L39 r38=>
 W.dgrd x31 false (fun k42=>dl [] 10 x36 L39 fun x45 r46=>
 k42 x45 L39 r46) L39 fun x41 L44 r43=>
 W.dgrd x31 false (fun k48=>wb .neq 9 x41 (.str []) fun x51=>
 k48 x51 L44 rz) L44 fun x47 L50 r49=>
 W.dgrd x31 false (fun k53=>wb .neq 4 x32 x47 fun x56=>
 k53 x56 L50 rz) L50 fun x52 L55 r54=>
 W.pick x31 (.bool true) x52 fun x57=>
 W.dgrd x57 false (fun k59=>k59 x19 L55 rz) L55 fun x58 L61 r60=>
 W.dgrd x57 false (fun k63=>k63 x58 L61 rz) L61 fun x62 L65 r64=>
 W.dgrd x62 true (fun k67=>W.faddr 2 x2 fun x70=>
 k67 x70 L65 rz) L65 fun x66 L69 r68=>
 W.dgrd x62 true (fun k72=>dl [] 18 x66 L69 fun x75 r76=>
 k72 x75 L69 r76) L69 fun x71 L74 r73=>
 W.dgrd x62 true (fun k78=>wd [] 19 (.fn 52 []) [x71] L74 fun x81 L83 q82=>
 wn [] q82 [] L74.names fun r84=>
 k78 x81 L83 r84) L74 fun x77 L80 r79=>
 W.dgrd x62 true (fun k86=>W.un .not x77 fun x89=>
 k86 x89 L80 rz) L80 fun x85 L88 r87=>
 W.dgrd x57 false (fun k91=>W.pick x62 x85 (.bool false) fun x94=>
 k91 x94 L88 rz) L88 fun x90 L93 r92=>
 W.pick x57 (.bool true) x90 fun x95=>
 W.dgrd x95 false (fun k97=>W.faddr 1 x2 fun x100=>
 k97 x100 L93 rz) L93 fun x96 L99 r98=>
 W.dgrd x95 false (fun k102=>dl [] 25 x96 L99 fun x105 r106=>
 k102 x105 L99 r106) L99 fun x101 L104 r103=>
 W.dgrd x95 false (fun k108=>wb .lss 2 x101 (.int .i64 0) fun x111=>
 k108 x111 L104 rz) L104 fun x107 L110 r109=>
 W.pick x95 (.bool true) x107 fun x112=>
 W.dgrd x112 false (fun k114=>W.faddr 0 x2 fun x117=>
 k114 x117 L110 rz) L110 fun x113 L116 r115=>
 W.dgrd x112 false (fun k119=>dl [] 30 x113 L116 fun x122 r123=>
 k119 x122 L116 r123) L116 fun x118 L121 r120=>
 W.dgrd x112 false (fun k125=>wb .neq 3 x118 (.int .i64 1) fun x128=>
 k125 x128 L121 rz) L121 fun x124 L127 r126=>
 W.dgrd x112 false (fun k130=>k130 x124 L127 rz) L127 fun x129 L132 r131=>
 W.dgrd x129 true (fun k134=>W.faddr 1 x2 fun x137=>
 k134 x137 L132 rz) L132 fun x133 L136 r135=>
 W.dgrd x129 true (fun k139=>dl [] 34 x133 L136 fun x142 r143=>
 k139 x142 L136 r143) L136 fun x138 L141 r140=>
 W.dgrd x129 true (fun k145=>wb .neq 2 x138 (.int .i64 0) fun x148=>
 k145 x148 L141 rz) L141 fun x144 L147 r146=>
 W.dgrd x112 false (fun k150=>W.pick x129 x144 (.bool false) fun x153=>
 k150 x153 L147 rz) L147 fun x149 L152 r151=>
 W.pick x112 (.bool true) x149 fun x154=>
 wk x154 (
 Q (.bool false) L152) (
 W.loop (fN Q) [x2,(.int .i64 0)] L152)
def gv(t0:AV)(L:SH)(Q:R):Prop:=
 yU t0 L fun x2 L3=>
 bf 0 x2 L3 fun x5=>
 wb .eql 3 x5 (.int .i64 2) fun x6=>
 wg x6 false (W.faddr 0 x2) L3 fun x7 L9=>
 wg x6 false (wl x7 L9) L9 fun x11 L13=>
 wg x6 false (wb .eql 3 x11 (.int .i64 3)) L13 fun x15 L17=>
 W.pick x6 (.bool true) x15 fun x19=>
 (true=true)∧(
 aY 0 x2 [] 1 L17 fun x21 r22=>
 wd [] 2 (.fn 104 []) [x21] L17 (lL Q L17 x2 x19 r22))
theorem lM(t0:AV)(L:SH)(Q:R)(h:gv t0 L Q):aj Tryz.prog 93 [t0] L Q:=
 bx ⟨fun _=>none,fun k=>if k=5 then [1,4]else [],fun k=>if k=0 then [1]else [],fun k=>if k=2 then [0,1,3,0,8,24,63,127,255,255,767,1791,4095,8191,16383,32767,65535,131071,262143,524287,1048575,2097151,4194303,8388607,16777215,33554431,67108863,134217727,268435455,536870911,1073741823,2147483647,4294967295,8589934591,17179869183,34359738367,68719476735,137438953471]else []⟩ Tryz.func93 (by kernel_rfl) (by kernel_rfl) h
def m7(t0:AV)(L:SH)(Q:R):Prop:=
 yU t0 L fun x2 L3=>
 bf 0 x2 L3 fun x5=>
 wb .eql 3 x5 (.int .i64 0) fun x6=>
 wg x6 true (W.faddr 1 x2) L3 fun x7 L9=>
 wg x6 true (wl x7 L9) L9 fun x11 L13=>
 wg x6 true (wb .eql 2 x11 (.int .i64 0)) L13 fun x15 L17=>
 W.pick x6 x15 (.bool false) fun x19=>
 wg x19 true (W.faddr 2 x2) L17 fun x20 L22=>
 wg x19 true (wl x20 L22) L22 fun x24 L26=>
 wg x19 true (wb .eql 9 x24 (.str [])) L26 fun x28 L30=>
 W.pick x19 x28 (.bool false) fun x32=>
 wg x32 true (W.faddr 3 x2) L30 fun x33 L35=>
 wg x32 true (wl x33 L35) L35 fun x37 L39=>
 wg x32 true (W.len x37) L39 fun x41 L43=>
 wg x32 true (wb .eql 3 x41 (.int .i64 0)) L43 fun x45 L47=>
 W.pick x32 x45 (.bool false) fun x49=>
 Q x49 L47
theorem wU(t0:AV)(L:SH)(Q:R)(h:m7 t0 L Q):aj Tryz.prog 94 [t0] L Q:=
 bx ⟨fun _=>none,fun _=>[],fun k=>if k=0 then [1]else [],fun _=>[]⟩ Tryz.func94 (by kernel_rfl) (by kernel_rfl) h
def lN(Q:R)(x2 x413:AV)(L414:SH):Prop:=
 wg x413 true (W.faddr 10 x2) L414 fun x415 L417=>
 wg x413 true (wl x415 L417) L417 fun x419 L421=>
 W.grd x413 true (fun k424=>wc (.fn 53 []) [x419] L421 fun x426 L427=>
 k424 x426 L427) L421 fun x423 L425=>
 W.pick x413 x423 (.bool false) fun x428=>
 Q x428 L425
def dP(Q:R)(L338:SH)(x2:AV):Prop:=
 bf 0 x2 L338 fun x342=>
 wb .geq 3 x342 (.int .i64 2) fun x343=>
 wg x343 true (W.faddr 0 x2) L338 fun x344 L346=>
 wg x343 true (wl x344 L346) L346 fun x348 L350=>
 wg x343 true (wb .leq 3 x348 (.int .i64 8)) L350 fun x352 L354=>
 W.pick x343 x352 (.bool false) fun x356=>
 W.un .not x356 fun x357=>
 wg x357 true (W.faddr 9 x2) L354 fun x358 L360=>
 wg x357 true (wl x358 L360) L360 fun x362 L364=>
 wg x357 true (W.len x362) L364 fun x366 L368=>
 wg x357 true (wb .gtr 3 x366 (.int .i64 0)) L368 fun x370 L372=>
 W.pick x357 x370 (.bool false) fun x374=>
 wg x374 false (W.faddr 0 x2) L372 fun x375 L377=>
 wg x374 false (wl x375 L377) L377 fun x379 L381=>
 wg x374 false (wb .neq 3 x379 (.int .i64 2)) L381 fun x383 L385=>
 b9 x374 false x383 L385 fun x387 L389=>
 wg x387 true (W.faddr 10 x2) L389 fun x390 L392=>
 wg x387 true (wl x390 L392) L392 fun x394 L396=>
 wg x387 true (W.len x394) L396 fun x398 L400=>
 wg x387 true (wb .gtr 3 x398 (.int .i64 0)) L400 fun x402 L404=>
 wg x374 false (W.pick x387 x402 (.bool false)) L404 fun x406 L408=>
 W.pick x374 (.bool true) x406 fun x410=>
 wk x410 (
 Q (.bool false) L408) (
 bf 9 x2 L408 fun x412=>
 wc (.fn 53 []) [x412] L408 (lN Q x2))
def dQ(Q:R)(L246:SH)(x2:AV):Prop:=
 bf 0 x2 L246 fun x250=>
 wb .eql 3 x250 (.int .i64 1) fun x251=>
 wg x251 false (W.faddr 0 x2) L246 fun x252 L254=>
 wg x251 false (wl x252 L254) L254 fun x256 L258=>
 wg x251 false (wb .eql 3 x256 (.int .i64 2)) L258 fun x260 L262=>
 W.pick x251 (.bool true) x260 fun x264=>
 wg x264 false (W.faddr 0 x2) L262 fun x265 L267=>
 wg x264 false (wl x265 L267) L267 fun x269 L271=>
 wg x264 false (wb .eql 3 x269 (.int .i64 3)) L271 fun x273 L275=>
 W.pick x264 (.bool true) x273 fun x277=>
 wg x277 false (W.faddr 0 x2) L275 fun x278 L280=>
 wg x277 false (wl x278 L280) L280 fun x282 L284=>
 wg x277 false (wb .eql 3 x282 (.int .i64 14)) L284 fun x286 L288=>
 W.pick x277 (.bool true) x286 fun x290=>
 wg x290 true (W.faddr 5 x2) L288 fun x291 L293=>
 wg x290 true (c7 4 x291 L293) L293 fun x295 L297=>
 W.grd x290 true (fun k300=>wc (.fn 93 []) [x295] L297 fun x302 L303=>
 k300 x302 L303) L297 fun x299 L301=>
 wg x290 true (W.un .not x299) L301 fun x304 L306=>
 W.pick x290 x304 (.bool false) fun x308=>
 b9 x308 false x290 L306 fun x309 L311=>
 wg x308 false (W.un .not x309) L311 fun x312 L314=>
 b9 x308 false x312 L314 fun x316 L318=>
 wg x316 true (W.faddr 5 x2) L318 fun x319 L321=>
 wg x316 true (c7 4 x319 L321) L321 fun x323 L325=>
 W.grd x316 true (fun k328=>wc (.fn 94 []) [x323] L325 fun x330 L331=>
 k328 x330 L331) L325 fun x327 L329=>
 wg x316 true (W.un .not x327) L329 fun x332 L334=>
 wg x308 false (W.pick x316 x332 (.bool false)) L334 fun x336 L338=>
 W.pick x308 (.bool true) x336 fun x340=>
 wk x340 (
 Q (.bool false) L338) (
 (dP Q L338 x2))
def dR(Q:R)(L157:SH)(x2:AV):Prop:=
 bf 4 x2 L157 fun x161=>
 W.len x161 fun x162=>
 wb .gtr 3 x162 (.int .i64 1) fun x163=>
 wg x163 false (W.faddr 0 x2) L157 fun x164 L166=>
 wg x163 false (wl x164 L166) L166 fun x168 L170=>
 wg x163 false (wb .neq 3 x168 (.int .i64 1)) L170 fun x172 L174=>
 b9 x163 false x172 L174 fun x176 L178=>
 wg x176 true (W.faddr 4 x2) L178 fun x179 L181=>
 wg x176 true (wl x179 L181) L181 fun x183 L185=>
 wg x176 true (W.len x183) L185 fun x187 L189=>
 wg x176 true (wb .gtr 3 x187 (.int .i64 0)) L189 fun x191 L193=>
 wg x163 false (W.pick x176 x191 (.bool false)) L193 fun x195 L197=>
 W.pick x163 (.bool true) x195 fun x199=>
 wg x199 false (W.faddr 4 x2) L197 fun x200 L202=>
 wg x199 false (wl x200 L202) L202 fun x204 L206=>
 wg x199 false (W.len x204) L206 fun x208 L210=>
 wg x199 false (wb .eql 3 x208 (.int .i64 1)) L210 fun x212 L214=>
 b9 x199 false x212 L214 fun x216 L218=>
 wg x216 true (W.faddr 4 x2) L218 fun x219 L221=>
 wg x216 true (wl x219 L221) L221 fun x223 L225=>
 wg x216 true (W.idx 4 x223 (.int .i64 0) L225) L225 fun x227 L229=>
 wg x216 true (c7 4 x227 L229) L229 fun x231 L233=>
 W.grd x216 true (fun k236=>wc (.fn 93 []) [x231] L233 fun x238 L239=>
 k236 x238 L239) L233 fun x235 L237=>
 wg x216 true (W.un .not x235) L237 fun x240 L242=>
 wg x199 false (W.pick x216 x240 (.bool false)) L242 fun x244 L246=>
 W.pick x199 (.bool true) x244 fun x248=>
 wk x248 (
 Q (.bool false) L246) (
 (dQ Q L246 x2))
def dS(Q:R)(L104:SH)(x2:AV):Prop:=
 bf 0 x2 L104 fun x108=>
 wb .eql 3 x108 (.int .i64 15) fun x109=>
 wg x109 true (W.faddr 3 x2) L104 fun x110 L112=>
 wg x109 true (wl x110 L112) L112 fun x114 L116=>
 W.grd x109 true (fun k119=>wc (.fn 52 []) [x114] L116 fun x121 L122=>
 k119 x121 L122) L116 fun x118 L120=>
 wg x109 true (W.un .not x118) L120 fun x123 L125=>
 W.pick x109 x123 (.bool false) fun x127=>
 wg x127 false (W.faddr 0 x2) L125 fun x128 L130=>
 wg x127 false (wl x128 L130) L130 fun x132 L134=>
 wg x127 false (wb .neq 3 x132 (.int .i64 15)) L134 fun x136 L138=>
 b9 x127 false x136 L138 fun x140 L142=>
 wg x140 true (W.faddr 3 x2) L142 fun x143 L145=>
 wg x140 true (wl x143 L145) L145 fun x147 L149=>
 wg x140 true (wb .neq 9 x147 (.str [])) L149 fun x151 L153=>
 wg x127 false (W.pick x140 x151 (.bool false)) L153 fun x155 L157=>
 W.pick x127 (.bool true) x155 fun x159=>
 wk x159 (
 Q (.bool false) L157) (
 (dR Q L157 x2))
def dT(Q:R)(L17:SH)(x2:AV):Prop:=
 bf 0 x2 L17 fun x21=>
 wb .eql 3 x21 (.int .i64 2) fun x22=>
 wg x22 false (W.faddr 0 x2) L17 fun x23 L25=>
 wg x22 false (wl x23 L25) L25 fun x27 L29=>
 wg x22 false (wb .eql 3 x27 (.int .i64 3)) L29 fun x31 L33=>
 W.pick x22 (.bool true) x31 fun x35=>
 wg x35 false (W.faddr 0 x2) L33 fun x36 L38=>
 wg x35 false (wl x36 L38) L38 fun x40 L42=>
 wg x35 false (wb .eql 3 x40 (.int .i64 7)) L42 fun x44 L46=>
 W.pick x35 (.bool true) x44 fun x48=>
 wg x48 false (W.faddr 0 x2) L46 fun x49 L51=>
 wg x48 false (wl x49 L51) L51 fun x53 L55=>
 wg x48 false (wb .eql 3 x53 (.int .i64 8)) L55 fun x57 L59=>
 W.pick x48 (.bool true) x57 fun x61=>
 wg x61 true (W.faddr 2 x2) L59 fun x62 L64=>
 wg x61 true (wl x62 L64) L64 fun x66 L68=>
 wg x61 true (wb .neq 9 x66 (.str [])) L68 fun x70 L72=>
 W.pick x61 x70 (.bool false) fun x74=>
 b9 x74 false x61 L72 fun x75 L77=>
 wg x74 false (W.un .not x75) L77 fun x78 L80=>
 b9 x74 false x78 L80 fun x82 L84=>
 wg x82 true (W.faddr 2 x2) L84 fun x85 L87=>
 wg x82 true (wl x85 L87) L87 fun x89 L91=>
 W.grd x82 true (fun k94=>wc (.fn 52 []) [x89] L91 fun x96 L97=>
 k94 x96 L97) L91 fun x93 L95=>
 wg x82 true (W.un .not x93) L95 fun x98 L100=>
 wg x74 false (W.pick x82 x98 (.bool false)) L100 fun x102 L104=>
 W.pick x74 (.bool true) x102 fun x106=>
 wk x106 (
 Q (.bool false) L104) (
 (dS Q L104 x2))
def gw(t0:AV)(L:SH)(Q:R):Prop:=
 yU t0 L fun x2 L3=>
 bf 0 x2 L3 fun x5=>
 wb .lss 3 x5 (.int .i64 1) fun x6=>
 wg x6 false (W.faddr 0 x2) L3 fun x7 L9=>
 wg x6 false (wl x7 L9) L9 fun x11 L13=>
 wg x6 false (wb .gtr 3 x11 (.int .i64 15)) L13 fun x15 L17=>
 W.pick x6 (.bool true) x15 fun x19=>
 wk x19 (
 Q (.bool false) L17) (
 (dT Q L17 x2))
theorem lO(t0:AV)(L:SH)(Q:R)(h:gw t0 L Q):aj Tryz.prog 73 [t0] L Q:=
 bx ⟨fun _=>none,fun _=>[],fun k=>if k=0 then [1]else [],fun _=>[]⟩ Tryz.func73 (by kernel_rfl) (by kernel_rfl) h
def kJ(Q:R)(n1:Kn)(x4 x3 x9:AV)(L10:SH):Prop:=
 W.un .not x9 fun x11=>
 wk x11 (
 Q (.bool false) L10) (
 wb .add 3 x4 (.int .i64 1) fun x12=>
 n1 [x3,x12] L10)
def fu(Q:R)(v0:Vs)(L2:SH)(n1:Kn):Prop:=
 Gz 0 3 v0 fun x3 x4=>
 W.len x3 fun x5=>
 wb .lss 3 x4 x5 fun x6=>
 wk x6 (
 uh 11 x3 x4 L2 fun x8=>
 wc (.fn 73 []) [x8] L2 (kJ Q n1 x4 x3)) (
 Q (.bool true) L2)
def fO(t0:AV)(L:SH)(Q:R):Prop:=
 W.loop (fu Q) [t0,(.int .i64 0)] L
theorem kK(t0:AV)(L:SH)(Q:R)(h:fO t0 L Q):aj Tryz.prog 53 [t0] L Q:=
 bx ⟨fun _=>none,fun k=>if k=2 then [0,3]else [],fun _=>[],fun _=>[]⟩ Tryz.func53 (by kernel_rfl) (by kernel_rfl) h
def dU(Q:R)(L133:SH)(x2:AV):Prop:=
 bf 4 x2 L133 fun x137=>
 wb .gtr 2 x137 (.int .i64 (-9223372036854775808)) fun x138=>
 wg x138 true (W.faddr 4 x2) L133 fun x139 L141=>
 wg x138 true (wl x139 L141) L141 fun x143 L145=>
 wg x138 true (wb .eql 2 x143 (.int .i64 0)) L145 fun x147 L149=>
 b9 x138 true x147 L149 fun x151 L153=>
 wg x151 false (W.faddr 0 x2) L153 fun x154 L156=>
 wg x151 false (wl x154 L156) L156 fun x158 L160=>
 wg x151 false (wb .eql 3 x158 (.int .i64 1)) L160 fun x162 L164=>
 wg x138 true (W.pick x151 (.bool true) x162) L164 fun x166 L168=>
 b9 x138 true x166 L168 fun x170 L172=>
 wg x170 false (W.faddr 0 x2) L172 fun x173 L175=>
 wg x170 false (wl x173 L175) L175 fun x177 L179=>
 wg x170 false (wb .eql 3 x177 (.int .i64 2)) L179 fun x181 L183=>
 wg x138 true (W.pick x170 (.bool true) x181) L183 fun x185 L187=>
 W.pick x138 x185 (.bool false) fun x189=>
 Q x189 L187
def dV(Q:R)(L80:SH)(x2:AV):Prop:=
 bf 0 x2 L80 fun x84=>
 wb .eql 3 x84 (.int .i64 5) fun x85=>
 wg x85 true (W.faddr 5 x2) L80 fun x86 L88=>
 wg x85 true (wl x86 L88) L88 fun x90 L92=>
 W.grd x85 true (fun k95=>wc (.fn 52 []) [x90] L92 fun x97 L98=>
 k95 x97 L98) L92 fun x94 L96=>
 wg x85 true (W.un .not x94) L96 fun x99 L101=>
 W.pick x85 x99 (.bool false) fun x103=>
 wg x103 false (W.faddr 0 x2) L101 fun x104 L106=>
 wg x103 false (wl x104 L106) L106 fun x108 L110=>
 wg x103 false (wb .neq 3 x108 (.int .i64 5)) L110 fun x112 L114=>
 b9 x103 false x112 L114 fun x116 L118=>
 wg x116 true (W.faddr 5 x2) L118 fun x119 L121=>
 wg x116 true (wl x119 L121) L121 fun x123 L125=>
 wg x116 true (wb .neq 9 x123 (.str [])) L125 fun x127 L129=>
 wg x103 false (W.pick x116 x127 (.bool false)) L129 fun x131 L133=>
 W.pick x103 (.bool true) x131 fun x135=>
 wk x135 (
 Q (.bool false) L133) (
 (dU Q L133 x2))
def gx(t0:AV)(L:SH)(Q:R):Prop:=
 yU t0 L fun x2 L3=>
 bf 0 x2 L3 fun x5=>
 wb .lss 3 x5 (.int .i64 1) fun x6=>
 wg x6 false (W.faddr 0 x2) L3 fun x7 L9=>
 wg x6 false (wl x7 L9) L9 fun x11 L13=>
 wg x6 false (wb .gtr 3 x11 (.int .i64 6)) L13 fun x15 L17=>
 W.pick x6 (.bool true) x15 fun x19=>
 wg x19 false (W.faddr 2 x2) L17 fun x20 L22=>
 wg x19 false (wl x20 L22) L22 fun x24 L26=>
 W.grd x19 false (fun k29=>wc (.fn 52 []) [x24] L26 fun x31 L32=>
 k29 x31 L32) L26 fun x28 L30=>
 wg x19 false (W.un .not x28) L30 fun x33 L35=>
 W.pick x19 (.bool true) x33 fun x37=>
 wg x37 false (W.faddr 3 x2) L35 fun x38 L40=>
 wg x37 false (wl x38 L40) L40 fun x42 L44=>
 wg x37 false (wb .lss 3 x42 (.int .i64 0)) L44 fun x46 L48=>
 W.pick x37 (.bool true) x46 fun x50=>
 wg x50 false (W.faddr 0 x2) L48 fun x51 L53=>
 wg x50 false (wl x51 L53) L53 fun x55 L57=>
 wg x50 false (wb .neq 3 x55 (.int .i64 1)) L57 fun x59 L61=>
 b9 x50 false x59 L61 fun x63 L65=>
 wg x63 true (W.faddr 3 x2) L65 fun x66 L68=>
 wg x63 true (wl x66 L68) L68 fun x70 L72=>
 wg x63 true (wb .neq 3 x70 (.int .i64 0)) L72 fun x74 L76=>
 wg x50 false (W.pick x63 x74 (.bool false)) L76 fun x78 L80=>
 W.pick x50 (.bool true) x78 fun x82=>
 wk x82 (
 Q (.bool false) L80) (
 (dV Q L80 x2))
theorem lP(t0:AV)(L:SH)(Q:R)(h:gx t0 L Q):aj Tryz.prog 51 [t0] L Q:=
 bx ⟨fun _=>none,fun _=>[],fun k=>if k=0 then [1]else [],fun _=>[]⟩ Tryz.func51 (by kernel_rfl) (by kernel_rfl) h
def uR(Q:R)(n5:Kn)(x8 x7 x17:AV)(L18:SH):Prop:=
 W.un .not x17 fun x19=>
 wk x19 (
 Q (.bool false) L18) (
 wb .add 3 x8 (.int .i64 1) fun x20=>
 n5 [x7,x20] L18)
def uS(Q:R)(n40:Kn)(x45 x42 x43 x44 x54:AV)(L55:SH):Prop:=
 W.un .not x54 fun x56=>
 wk x56 (
 Q (.bool false) L55) (
 wb .add 3 x45 (.int .i64 1) fun x57=>
 n40 [x42,x43,x44,x57] L55)
def uT(Q:R)(n22:Kn)(x44 x43 x42 x60:AV)(L61:SH):Prop:=
 W.un .not x60 fun x62=>
 wg x62 false (W.faddr 3 x44) L61 fun x63 L65=>
 wg x62 false (wl x63 L65) L65 fun x67 L69=>
 W.grd x62 false (fun k72=>wc (.fn 53 []) [x67] L69 fun x74 L75=>
 k72 x74 L75) L69 fun x71 L73=>
 wg x62 false (W.un .not x71) L73 fun x76 L78=>
 W.pick x62 (.bool true) x76 fun x80=>
 wk x80 (
 Q (.bool false) L78) (
 wb .add 3 x43 (.int .i64 1) fun x81=>
 n22 [x42,x81] L78)
def jN(Q:R)(n22:Kn)(v39:Vs)(L41:SH)(n40:Kn):Prop:=
 DU 1 4 5 6 v39 fun x42 x43 x44 x45=>
 bf 2 x44 L41 fun x47=>
 W.len x47 fun x48=>
 wb .lss 3 x45 x48 fun x49=>
 wk x49 (
 bf 2 x44 L41 fun x51=>
 BL 1 x51 x45 L41 fun x53=>
 wc (.fn 52 []) [x53] L41 (uS Q n40 x45 x42 x43 x44)) (
 bf 0 x44 L41 fun x59=>
 wc (.fn 52 []) [x59] L41 (uT Q n22 x44 x43 x42))
def uU(Q:R)(n22:Kn)(L23:SH)(x24 x25:AV):Prop:=
 bf 1 x24 L23 fun x31=>
 uh 4 x31 x25 L23 fun x33=>
 xW [(.str []),(.int .i64 0),.nils,.nils] 4 x33 L23 fun x37 L38=>
 W.loop (jN Q n22) [x24,x25,x37,(.int .i64 0)] L38
def jO(Q:R)(v21:Vs)(L23:SH)(n22:Kn):Prop:=
 Gz 1 4 v21 fun x24 x25=>
 bf 1 x24 L23 fun x27=>
 W.len x27 fun x28=>
 wb .lss 3 x25 x28 fun x29=>
 wk x29 (
 (uU Q n22 L23 x24 x25)) (
 bf 1 x24 L23 fun x83=>
 W.len x83 fun x84=>
 wb .gtr 3 x84 (.int .i64 0) fun x85=>
 Q x85 L23)
def jP(Q:R)(v4:Vs)(L6:SH)(n5:Kn):Prop:=
 Gz 1 3 v4 fun x7 x8=>
 bf 0 x7 L6 fun x10=>
 W.len x10 fun x11=>
 wb .lss 3 x8 x11 fun x12=>
 wk x12 (
 bf 0 x7 L6 fun x14=>
 uh 6 x14 x8 L6 fun x16=>
 wc (.fn 51 []) [x16] L6 (uR Q n5 x8 x7)) (
 W.loop (jO Q) [x7,(.int .i64 0)] L6)
def kL(t0:AV)(L:SH)(Q:R):Prop:=
 yU t0 L fun x2 L3=>
 W.loop (jP Q) [x2,(.int .i64 0)] L3
theorem uV(t0:AV)(L:SH)(Q:R)(h:kL t0 L Q):aj Tryz.prog 37 [t0] L Q:=
 bx ⟨fun _=>none,fun k=>if k=2 then [1,3]else if k=11 then [1,4,5,6]else if k=7 then [1,4]else [],fun k=>if k=0 then [1]else if k=9 then [5]else [],fun _=>[]⟩ Tryz.func37 (by kernel_rfl) (by kernel_rfl) h
def eD(Q:R)(v0:Vs)(L2:SH)(n1:Kn):Prop:=
 ui 0 1 5 v0 fun x3 x4 x5=>
 W.len x3 fun x6=>
 wb .lss 3 x5 x6 fun x7=>
 wk x7 (
 BL 1 x3 x5 L2 fun x9=>
 wb .eql 9 x9 x4 fun x10=>
 wk x10 (
 Q x5 L2) (
 wb .add 3 x5 (.int .i64 1) fun x11=>
 n1 [x3,x4,x11] L2)) (
 Q (.int .i64 (-1)) L2)
def jC(t0 t1:AV)(L:SH)(Q:R):Prop:=
 W.loop (eD Q) [t0,t1,(.int .i64 0)] L
theorem kM(t0 t1:AV)(L:SH)(Q:R)(h:jC t0 t1 L Q):aj Tryz.prog 56 [t0,t1] L Q:=
 bx ⟨fun _=>none,fun k=>if k=2 then [0,1,5]else [],fun _=>[],fun _=>[]⟩ Tryz.func56 (by kernel_rfl) (by kernel_rfl) h
def jQ(Q:R)(v0:Vs)(L2:SH)(n1:Kn):Prop:=
 ui 0 1 5 v0 fun x3 x4 x5=>
 W.len x3 fun x6=>
 wb .lss 3 x5 x6 fun x7=>
 wk x7 (
 gW 6 2 x3 x5 L2 fun x10=>
 wb .eql 9 x10 x4 fun x11=>
 wk x11 (
 Q x5 L2) (
 wb .add 3 x5 (.int .i64 1) fun x12=>
 n1 [x3,x4,x12] L2)) (
 Q (.int .i64 (-1)) L2)
def kN(t0 t1:AV)(L:SH)(Q:R):Prop:=
 W.loop (jQ Q) [t0,t1,(.int .i64 0)] L
theorem uW(t0 t1:AV)(L:SH)(Q:R)(h:kN t0 t1 L Q):aj Tryz.prog 54 [t0,t1] L Q:=
 bx ⟨fun _=>none,fun k=>if k=2 then [0,1,5]else [],fun _=>[],fun _=>[]⟩ Tryz.func54 (by kernel_rfl) (by kernel_rfl) h
def ii(Q:R)(v0:Vs)(L2:SH)(n1:Kn):Prop:=
 ui 0 1 5 v0 fun x3 x4 x5=>
 W.len x3 fun x6=>
 wb .lss 3 x5 x6 fun x7=>
 wk x7 (
 gW 4 0 x3 x5 L2 fun x10=>
 wb .eql 9 x10 x4 fun x11=>
 wk x11 (
 Q x5 L2) (
 wb .add 3 x5 (.int .i64 1) fun x12=>
 n1 [x3,x4,x12] L2)) (
 Q (.int .i64 (-1)) L2)
def iY(t0 t1:AV)(L:SH)(Q:R):Prop:=
 W.loop (ii Q) [t0,t1,(.int .i64 0)] L
theorem rd(t0 t1:AV)(L:SH)(Q:R)(h:iY t0 t1 L Q):aj Tryz.prog 55 [t0,t1] L Q:=
 bx ⟨fun _=>none,fun k=>if k=2 then [0,1,5]else [],fun _=>[],fun _=>[]⟩ Tryz.func55 (by kernel_rfl) (by kernel_rfl) h
def uX(Q:R)(x68:AV)(L69:SH):Prop:=
 wb .geq 3 x68 (.int .i64 0) fun x70=>
 wk x70 (
 Q (.int .i64 7) L69) (
 Q (.int .i64 0) L69)
def uY(Q:R)(v84:Vs)(L86:SH):Prop:=
 ui 3 7 56 v84 fun x87 x88 x89=>
 wk x89 (
 bf 0 x87 L86 fun x91=>
 gW 6 0 x91 x88 L86 fun x94=>
 Q x94 L86) (
 Q (.int .i64 9) L86)
def uZ(j85:Kn)(L64:SH)(x75 x2 x63:AV):Prop:=
 wb .eql 3 x75 (.int .i64 4) fun x96=>
 wk x96 (
 j85 [x2,x63,x96] L64) (
 wb .eql 3 x75 (.int .i64 5) fun x97=>
 wk x97 (
 j85 [x2,x63,x97] L64) (
 wb .eql 3 x75 (.int .i64 6) fun x98=>
 j85 [x2,x63,x98] L64))
def u0(Q:R)(L64:SH)(x75 x2 x63:AV):Prop:=
 wb .eql 3 x75 (.int .i64 2) fun x83=>
 wk x83 (
 Q (.int .i64 1) L64) (
 W.join (uY Q) fun j85=>
 wb .eql 3 x75 (.int .i64 3) fun x95=>
 wk x95 (
 j85 [x2,x63,x95] L64) (
 (uZ j85 L64 x75 x2 x63)))
def u1(Q:R)(L64:SH)(x2 x63:AV):Prop:=
 bf 0 x2 L64 fun x72=>
 gW 6 0 x72 x63 L64 fun x75=>
 wb .eql 3 x75 (.int .i64 1) fun x76=>
 wk x76 (
 bf 0 x2 L64 fun x78=>
 gW 6 3 x78 x63 L64 fun x81=>
 wb .neq 3 x81 (.int .i64 0) fun x82=>
 wk x82 (
 Q (.int .i64 2) L64) (
 Q (.int .i64 1) L64)) (
 (u0 Q L64 x75 x2 x63))
def u2(Q:R)(t2 x2 x63:AV)(L64:SH):Prop:=
 wb .lss 3 x63 (.int .i64 0) fun x65=>
 wk x65 (
 bf 1 x2 L64 fun x67=>
 wc (.fn 55 []) [x67,t2] L64 (uX Q)) (
 (u1 Q L64 x2 x63))
def kO(t0 t1 t2:AV)(L:SH)(Q:R):Prop:=
 yU t0 L fun x2 L3=>
 wb .geq 3 t1 (.int .i64 0) fun x4=>
 b9 x4 true t1 L3 fun x5 L7=>
 wg x4 true (W.faddr 1 x2) L7 fun x8 L10=>
 wg x4 true (wl x8 L10) L10 fun x12 L14=>
 wg x4 true (W.len x12) L14 fun x16 L18=>
 wg x4 true (wb .lss 3 x5 x16) L18 fun x20 L22=>
 W.pick x4 x20 (.bool false) fun x24=>
 wg x24 true (W.faddr 1 x2) L22 fun x25 L27=>
 wg x24 true (wl x25 L27) L27 fun x29 L31=>
 b9 x24 true t1 L31 fun x33 L35=>
 wg x24 true (W.idx 4 x29 x33 L35) L35 fun x36 L38=>
 wg x24 true (W.faddr 2 x36) L38 fun x40 L42=>
 wg x24 true (wl x40 L42) L42 fun x44 L46=>
 b9 x24 true t2 L46 fun x48 L50=>
 W.grd x24 true (fun k52=>wc (.fn 56 []) [x44,x48] L50 fun x54 L55=>
 k52 x54 L55) L50 fun x51 L53=>
 wg x24 true (wb .geq 3 x51 (.int .i64 0)) L53 fun x56 L58=>
 W.pick x24 x56 (.bool false) fun x60=>
 wk x60 (
 Q (.int .i64 8) L58) (
 bf 0 x2 L58 fun x62=>
 wc (.fn 54 []) [x62,t2] L58 (u2 Q t2 x2))
theorem u3(t0 t1 t2:AV)(L:SH)(Q:R)(h:kO t0 t1 t2 L Q):aj Tryz.prog 95 [t0,t1,t2] L Q:=
 bx ⟨fun k=>if k=18 then some [3,7,56]else none,fun _=>[],fun k=>if k=0 then [3]else [],fun _=>[]⟩ Tryz.func95 (by kernel_rfl) (by kernel_rfl) h
def yr(Q:R)(L6:SH)(t3 t4 x5:AV):Prop:=
 wb .neq 3 x5 t3 fun x8=>
 b9 x8 true x5 L6 fun x9 L11=>
 b9 x8 true t4 L11 fun x12 L14=>
 wg x8 true (wb .neq 3 x9 x12) L14 fun x15 L17=>
 W.pick x8 x15 (.bool false) fun x19=>
 wk x19 (
 Q (.int .i64 6) L17) (
 Q (.int .i64 0) L17)
def yu(Q:R)(t3 t4 x5:AV)(L6:SH):Prop:=
 wb .eql 3 x5 (.int .i64 0) fun x7=>
 wk x7 (
 Q (.int .i64 5) L6) (
 (yr Q L6 t3 t4 x5))
def re(t0 t1 t2 t3 t4:AV)(L:SH)(Q:R):Prop:=
 yU t0 L fun x2 L3=>
 c7 2 x2 L3 fun x4=>
 wc (.fn 95 []) [x4,t1,t2] L3 (yu Q t3 t4)
theorem yv(t0 t1 t2 t3 t4:AV)(L:SH)(Q:R)(h:re t0 t1 t2 t3 t4 L Q):aj Tryz.prog 76 [t0,t1,t2,t3,t4] L Q:=
 bx ⟨fun _=>none,fun _=>[],fun k=>if k=0 then [5]else [],fun _=>[]⟩ Tryz.func76 (by kernel_rfl) (by kernel_rfl) h
def wV(n5:Kn)(x8 x9 x10 x7 x19:AV)(L20:SH):Prop:=
 W.ext 0 x19 fun x21=>
 W.ext 1 x19 fun x22=>
 wb .add 3 x8 x21 fun x23=>
 W.mnx true x9 x22 fun x24=>
 wb .add 3 x10 (.int .i64 1) fun x25=>
 n5 [x7,x23,x24,x25] L20
def kP(Q:R)(v4:Vs)(L6:SH)(n5:Kn):Prop:=
 DU 1 4 5 6 v4 fun x7 x8 x9 x10=>
 bf 3 x7 L6 fun x12=>
 W.len x12 fun x13=>
 wb .lss 3 x10 x13 fun x14=>
 wk x14 (
 bf 3 x7 L6 fun x16=>
 uh 4 x16 x10 L6 fun x18=>
 wc (.fn 96 []) [x18] L6 (wV n5 x8 x9 x10 x7)) (
 wb .add 3 x9 (.int .i64 1) fun x26=>
 Q (.tup [x8,x26]) L6)
def m8(t0:AV)(L:SH)(Q:R):Prop:=
 yU t0 L fun x2 L3=>
 W.loop (kP Q) [x2,(.int .i64 1),(.int .i64 0),(.int .i64 0)] L3
theorem wW(t0:AV)(L:SH)(Q:R)(h:m8 t0 L Q):aj Tryz.prog 96 [t0] L Q:=
 bx ⟨fun _=>none,fun k=>if k=3 then [1,4,5,6]else [],fun k=>if k=0 then [1]else [],fun _=>[]⟩ Tryz.func96 (by kernel_rfl) (by kernel_rfl) h
def wX(n16:Kn)(L32:SH)(x22 x18 x19 x20 x44:AV)(L46:SH)(q45:Ns):Prop:=
 wn [] q45 [] L32.names fun r47=>
 wb .add 3 x22 (.int .i64 1) fun x48=>
 n16 [x18,x19,x20,x44,x48] L46
def wY(n16:Kn)(L32:SH)(x19 x20 x22 x18:AV):Prop:=
 (true=true)∧(
 dr [] 0 2 x19 L32 fun x35 r36=>
 aY 3 x20 [rm 0 r36] 3 L32 fun x38 r39=>
 di [rm 0 r36] 5 4 x38 x22 L32 fun x40 r41=>
 dr [rm 0 r36] 6 4 x40 L32 fun x42 r43=>
 wd [] 7 (.fn 97 []) [x35,x18,x42] L32 (wX n16 L32 x22 x18 x19 x20))
def gy(Q:R)(v15:Vs)(L17:SH)(n16:Kn):Prop:=
 B5 1 3 5 7 8 v15 fun x18 x19 x20 x21 x22=>
 bf 3 x20 L17 fun x24=>
 W.len x24 fun x25=>
 wb .lss 3 x22 x25 fun x26=>
 b9 x26 true x21 L17 fun x27 L29=>
 wg x26 true (wb .eql 49 x27 (.int .i64 0)) L29 fun x30 L32=>
 W.pick x26 x30 (.bool false) fun x34=>
 wk x34 (
 (wY n16 L32 x19 x20 x22 x18)) (
 Q x21 L32)
def gz(Q:R)(v8:Vs)(L10:SH):Prop:=
 DU 1 3 5 7 v8 fun x11 x12 x13 x14=>
 W.loop (gy Q) [x11,x12,x13,x14,(.int .i64 0)] L10
def wZ(j9:Kn)(L7:SH)(t1 x50 x4 x6:AV):Prop:=
 wb .eql 3 x50 (.int .i64 3) fun x57=>
 wk x57 (
 c7 2 x4 L7 fun x58=>
 bf 2 x6 L7 fun x60=>
 wc (.fn 76 []) [x58,t1,x60,(.int .i64 2),(.int .i64 2)] L7 fun x61 L62=>
 j9 [t1,x4,x6,x61] L62) (
 j9 [t1,x4,x6,(.int .i64 0)] L7)
def m9(t0 t1 t2:AV)(L:SH)(Q:R):Prop:=
 W.box t0 L fun x0 L1=>
 W.box t2 L1 fun x2 L3=>
 W.frz1 x0 L3 fun x4 L5=>
 W.frz1 x2 L5 fun x6 L7=>
 W.join (gz Q) fun j9=>
 bf 0 x6 L7 fun x50=>
 wb .eql 3 x50 (.int .i64 2) fun x51=>
 wk x51 (
 c7 2 x4 L7 fun x52=>
 bf 2 x6 L7 fun x54=>
 wc (.fn 76 []) [x52,t1,x54,(.int .i64 8),(.int .i64 1)] L7 fun x55 L56=>
 j9 [t1,x4,x6,x55] L56) (
 (wZ j9 L7 t1 x50 x4 x6))
theorem w3(t0 t1 t2:AV)(L:SH)(Q:R)(h:m9 t0 t1 t2 L Q):aj Tryz.prog 97 [t0,t1,t2] L Q:=
 bx ⟨fun k=>if k=6 then some [1,3,5,7]else none,fun k=>if k=8 then [1,3,5,7,8]else [],fun k=>if k=0 then [3,5]else [],fun k=>if k=10 then [0,0,0,4,0,28,60,127,255]else []⟩ Tryz.func97 (by kernel_rfl) (by kernel_rfl) h
def yw(Q:R)(t1 x4 x6 x13:AV)(L14:SH):Prop:=
 W.ext 0 x13 fun x15=>
 W.ext 1 x13 fun x16=>
 wb .gtr 3 x15 (.int .i64 24) fun x17=>
 b9 x17 false x16 L14 fun x18 L20=>
 wg x17 false (wb .gtr 3 x18 (.int .i64 6)) L20 fun x21 L23=>
 W.pick x17 (.bool true) x21 fun x25=>
 wk x25 (
 Q (.int .i64 2) L23) (
 c7 2 x4 L23 fun x26=>
 c7 4 x6 L23 fun x27=>
 wc (.fn 97 []) [x26,t1,x27] L23 fun x28 L29=>
 Q x28 L29)
def yx(Q:R)(t1 x6 x4 x9:AV)(L10:SH):Prop:=
 W.un .not x9 fun x11=>
 wk x11 (
 Q (.int .i64 3) L10) (
 c7 4 x6 L10 fun x12=>
 wc (.fn 96 []) [x12] L10 (yw Q t1 x4 x6))
def rh(t0 t1 t2:AV)(L:SH)(Q:R):Prop:=
 W.box t0 L fun x0 L1=>
 W.box t2 L1 fun x2 L3=>
 W.frz1 x0 L3 fun x4 L5=>
 W.frz1 x2 L5 fun x6 L7=>
 c7 4 x6 L7 fun x8=>
 wc (.fn 93 []) [x8] L7 (yx Q t1 x6 x4)
theorem yy(t0 t1 t2:AV)(L:SH)(Q:R)(h:rh t0 t1 t2 L Q):aj Tryz.prog 77 [t0,t1,t2] L Q:=
 bx ⟨fun _=>none,fun _=>[],fun k=>if k=0 then [3,5]else [],fun _=>[]⟩ Tryz.func77 (by kernel_rfl) (by kernel_rfl) h
def jR(t0:AV)(L:SH)(Q:R):Prop:=
 wk t0 (
 Q (.int .i64 7) L) (
 Q (.int .i64 0) L)
theorem s6(t0:AV)(L:SH)(Q:R)(h:jR t0 L Q):aj Tryz.prog 78 [t0] L Q:=
 bx ⟨fun _=>none,fun _=>[],fun _=>[],fun _=>[]⟩ Tryz.func78 (by kernel_rfl) (by kernel_rfl) h
def w4(t0 t1:AV)(L:SH)(Q:R):Prop:=
 wb .neq 49 t0 (.int .i64 0) fun x0=>
 wk x0 (
 Q t0 L) (
 Q t1 L)
theorem Bk(t0 t1:AV)(L:SH)(Q:R)(h:w4 t0 t1 L Q):aj Tryz.prog 75 [t0,t1] L Q:=
 bx ⟨fun _=>none,fun _=>[],fun _=>[],fun _=>[]⟩ Tryz.func75 (by kernel_rfl) (by kernel_rfl) h
def w5(n2:Kn)(L16:SH)(x18 x6 x4 x24:AV)(L26:SH)(q25:Ns):Prop:=
 wn [] q25 [] L16.names fun r27=>
 wb .add 3 x18 x24 fun x28=>
 wb .add 3 x6 (.int .i64 1) fun x29=>
 n2 [x4,x28,x29] L26
def w6(n2:Kn)(L3:SH)(x5 x4 x6:AV)(r13 r10:Fp)(x14:AV)(L16:SH)(q15:Ns):Prop:=
 wn [] q15 [] L3.names fun r17=>
 wb .add 3 x5 x14 fun x18=>
 di [rc 6 r17,rm 5 r13,rm 3 r10] 10 11 x4 x6 L16 fun x19 r20=>
 aY 10 x19 [rc 6 r17,rm 5 r13,rm 3 r10] 12 L16 fun x22 r23=>
 wd [] 13 (.fn 40 []) [x22] L16 (w5 n2 L16 x18 x6 x4)
def kQ(Q:R)(v1:Vs)(L3:SH)(n2:Kn):Prop:=
 ui 0 3 4 v1 fun x4 x5 x6=>
 W.len x4 fun x7=>
 wb .lss 3 x6 x7 fun x8=>
 wk x8 (
 (true=true)∧(
 di [] 3 11 x4 x6 L3 fun x9 r10=>
 aY 9 x9 [] 5 L3 fun x12 r13=>
 wd [] 6 (.fn 40 []) [x12] L3 (w6 n2 L3 x5 x4 x6 r13 r10))) (
 Q x5 L3)
def ng(t0:AV)(L:SH)(Q:R):Prop:=
 W.len t0 fun x0=>
 W.loop (kQ Q) [t0,x0,(.int .i64 0)] L
theorem w7(t0:AV)(L:SH)(Q:R)(h:ng t0 L Q):aj Tryz.prog 40 [t0] L Q:=
 bx ⟨fun _=>none,fun k=>if k=3 then [0,3,4]else [],fun _=>[],fun k=>if k=5 then [0,0,0,6,14,30,62,127,0,0,768,1792,3840,8062,16383,32767]else []⟩ Tryz.func40 (by kernel_rfl) (by kernel_rfl) h
end Go.Proofs.YtljkdffikfkcgaaGreat.Am
end
section
namespace Go.Proofs.YtljkdffikfkcgaaGreat.Am
set_option maxRecDepth 100000
set_option linter.unusedVariables false
def vr(c:Int):Bool:=(decide (97≤c)&&decide (c≤122))||(decide (65≤c)&&decide (c≤90))
def Cd(c:Int):Bool:=decide (48≤c)&&decide (c≤57)
def s7(c:Int):Bool:=vr c||Cd c||decide (c=95)
theorem lv(c:Int):aD Tryz.prog 70 [.int .u8 c] (.bool (vr c)):=by
 refine uO _ _ _ ?_
 unfold kH
 repeat' (first | refine st ?_ | refine sb (fun nb_ hnb_=>?_) | refine s2 (fun h=>?_) (fun h=>?_) | fail)
 all_goals (refine⟨?_,rfl⟩;simp_all[vr]<;>omega)
theorem Bl(c:Int):aD Tryz.prog 92 [.int .u8 c] (.bool (Cd c)):=by
 refine wR _ _ _ ?_
 unfold m5
 repeat' (first | refine st ?_ | refine sb (fun nb_ hnb_=>?_) | refine s2 (fun h=>?_) (fun h=>?_) | fail)
 all_goals (refine⟨?_,rfl⟩;simp_all[Cd]<;>omega)
theorem Bm(c:Int):aD Tryz.prog 72 [.int .u8 c] (.bool (s7 c)):=by
 refine wT _ _ _ ?_
 unfold m6
 repeat' (first | refine st ?_ | ((with_reducible refine ao 70 ?_);refine af (lv _) ?_) | ((with_reducible refine al 70 ?_);refine ab (lv _) ?_) | ((with_reducible refine ao 92 ?_);refine af (Bl _) ?_) | ((with_reducible refine al 92 ?_);refine ab (Bl _) ?_) | refine sb (fun nb_ hnb_=>?_) | refine s2 (fun h=>?_) (fun h=>?_) | fail)
 all_goals (refine⟨?_,rfl⟩;simp_all[s7]<;>omega)
def Bn:List aM:=[[118,97,114],[118,111,108,97,116,105,108,101],[109,117,116,101,120],[114,119,108,111,99,107],[99,111,110,100],[102,117,116,117,114,101],[116,104,114,101,97,100],[105,102],[101,108,115,101],[119,104,105,108,101],[108,111,99,107],[114,101,97,100],[119,114,105,116,101],[116,114,97,110,115,97,99,116,105,111,110],[97,116,111,109,105,99],[119,97,105,116],[110,111,116,105,102,121],[110,111,116,105,102,121,97,108,108],[115,112,97,119,110],[106,111,105,110],[115,101,116],[103,101,116]]
theorem C4:aD Tryz.prog 91 [] (.lst (Bn.map aA)):=by
 refine aj.fz (q8 _ _ ?_)
 unfold iW
 repeat' (first | refine st ?_ | refine sb (fun nb_ hnb_=>?_) | refine s2 (fun h=>?_) (fun h=>?_) | fail)
 exact⟨_,[],aN.all (Fz.sls (l:=Bn) (f:=aA) rp rfl (by decide) rfl),rfl,rfl⟩
def GK(s:aM):Bool:=Bn.any fun x=>decide (x=s)
theorem Fc(s:aM):aD Tryz.prog 71 [.str s] (.bool (GK s)):=by
 refine nV _ _ _ ?_
 unfold ig
 repeat' (first | refine st ?_ | ((with_reducible refine ao 91 ?_);refine af (C4) ?_) | ((with_reducible refine al 91 ?_);refine ab (C4) ?_) | refine sb (fun nb_ hnb_=>?_) | refine s2 (fun h=>?_) (fun h=>?_) | fail)
 refine cL Bn (fun x=>decide (x=s)) (fun i=>[.str s,.lst (Bn.map aA),.int .i64 i]) (by decide) rfl (fun i h1 hd hi hno nx hn=>?_) (fun i h1 hd hno nx=>?_)
 all_goals unfold gu
 ·have hx:=aw (f:=aA) h1
  repeat' (first | refine st ?_ | refine sb (fun nb_ hnb_=>?_) | refine s2 (fun h=>?_) (fun h=>?_) | fail)
  ·exact⟨by rw[GK,GE h1 h],rfl⟩
  ·exact hn h
 ·repeat' (first | refine st ?_ | refine sb (fun nb_ hnb_=>?_) | refine s2 (fun h=>?_) (fun h=>?_) | fail)
  exact⟨by rw[GK,IC hno],rfl⟩
def dM(s:aM):Bool:=decide (1≤(s.length:Int))&&decide ((s.length:Int)≤12)&&vr (s.getD 0 0).toNat&&!GK s&&s.all fun c=>s7 c.toNat
theorem fb(s:aM)(hs:s.length<2^62):aD Tryz.prog 52 [.str s] (.bool (dM s)):=by
 refine uQ _ _ _ ?_
 unfold kI
 generalize hQ:(fun(u:AV) (K:SH)=>u=AV.bool (dM s)∧K=[])=Q
 have hq:Q (.bool (dM s)) []:=by subst hQ;exact⟨rfl,rfl⟩
 clear hQ
 by_cases h0:0<s.length
 ·have d1:decide ((s.length:Int)<1)=false:=by simpa using(by omega:(1:Int)≤s.length)
  repeat' (first | refine st ?_ | refine HK (i:=0) ?_ h0 | ((with_reducible refine ao 70 ?_);refine af (lv _) ?_) | ((with_reducible refine al 70 ?_);refine ab (lv _) ?_) | ((with_reducible refine ao 71 ?_);refine af (Fc _) ?_) | ((with_reducible refine al 71 ?_);refine ab (Fc _) ?_) | refine sb (fun nb_ hnb_=>?_) | refine s2 (fun h=>?_) (fun h=>?_) | fail)
  all_goals first
   | (refine Eq.mp (congrArg (fun b=>Q (AV.bool b) []) ?_) hq;simp_all[dM]<;>omega;done)
   | skip
  refine cL s (fun c=>!s7 c.toNat) (fun i=>[.str s,.int .i64 i]) hs rfl (fun i h1 hd hi hno nx hn=>?_) (fun i h1 hd hno nx=>?_)
  all_goals unfold jM
  ·repeat' (first | refine st ?_ | refine HK ?_ | ((with_reducible refine ao 72 ?_);refine af (Bm _) ?_) | ((with_reducible refine al 72 ?_);refine ab (Bm _) ?_) | refine sb (fun nb_ hnb_=>?_) | refine s2 (fun h=>?_) (fun h=>?_) | fail)
   ·refine Eq.mp (congrArg (fun b=>Q (AV.bool b) []) ?_) hq
    have:(s.all fun c=>s7 c.toNat)=false:=sP h1 (by simpa[List.getD,h1]using h)
    simp[dM,this]
   ·exact hn (by simpa[List.getD,h1]using h)
  ·repeat' (first | refine st ?_ | refine sb (fun nb_ hnb_=>?_) | refine s2 (fun h=>?_) (fun h=>?_) | fail)
   refine Eq.mp (congrArg (fun b=>Q (AV.bool b) []) ?_) hq
   have:(s.all fun c=>s7 c.toNat)=true:=List.all_eq_true.2 fun x hx=>by simpa using hno x hx
   simp_all[dM]<;>omega
 ·have d1:decide ((s.length:Int)<1)=true:=by simpa using(by omega:(s.length:Int)<1)
  repeat' (first | refine st ?_ | refine sb (fun nb_ hnb_=>?_) | refine s2 (fun h=>?_) (fun h=>?_) | fail)
  refine Eq.mp (congrArg (fun b=>Q (AV.bool b) []) ?_) hq
  simp_all[dM]
end Go.Proofs.YtljkdffikfkcgaaGreat.Am
end
section
namespace Go.Proofs.YtljkdffikfkcgaaGreat.Am
set_option maxRecDepth 100000
set_option linter.unusedVariables false
def GL(op:Int):Int:=if op=1∨op=2 then 0 else if 3≤op∧op≤5 then 1 else if 6≤op∧op≤18 then 2 else -1
theorem t7(op:Int):aD Tryz.prog 104 [.int .i64 op] (.int .i64 (GL op)):=by
 refine rb _ _ _ ?_
 unfold iX
 repeat' (first | refine st ?_ | refine sb (fun nb_ hnb_=>?_) | refine s2 (fun h=>?_) (fun h=>?_) | fail)
 all_goals (refine⟨?_,rfl⟩;simp_all[GL]<;>(repeat' split)<;>first | rfl | omega)
def Fd(op n:Int)(name:aM)(k:Nat):Bool:=decide (GL op=(k:Int))&&(decide (op=2∨op=3)==decide (name≠[]))&&(!decide (op=2∨op=3)||dM name)&&decide (0≤n)&&(decide (op=1)||decide (n=0))
mutual
def xQ:ae→Bool
 | .mk op n name l=>Fd op n name l.length&&shEs l
def shEs:List ae→Bool
 | []=>true
 | x::l=>xQ x&&shEs l
end
theorem C5:∀l:List ae,shEs l=l.all xQ
 | []=>rfl
 | x::l=>by rw[shEs,C5 l];rfl
theorem Ce(x:ae):xQ x=(Fd x.op x.n x.name x.l.length&&x.l.all xQ):=by cases x;rw[xQ,C5];rfl
theorem iC:∀(k:Nat) (x:ae),x.wt≤k→k<2^40→aD Tryz.prog 93 [.agg x.row] (.bool (xQ x)):=by
 intro k
 induction k with
 | zero=>intro x h;have:=x.wt_eq;omega
 | succ k ih=>
  intro x hk hb
  have hw:=x.wt_eq
  have hnm:=fb x.name (by omega)
  refine lM _ _ _ ?_
  unfold gv
  generalize hQ:(fun(u:AV) (K:SH)=>u=AV.bool (xQ x)∧K=[])=Q
  have hq:Q (.bool (xQ x)) []:=by subst hQ;exact⟨rfl,rfl⟩
  clear hQ
  repeat' (first | refine st ?_ | ((with_reducible refine ao 104 ?_);refine af (t7 _) ?_) | ((with_reducible refine al 104 ?_);refine ab (t7 _) ?_) | ((with_reducible refine ao 52 ?_);refine af (hnm) ?_) | ((with_reducible refine al 52 ?_);refine ab (hnm) ?_) | refine sb (fun nb_ hnb_=>?_) | refine s2 (fun h=>?_) (fun h=>?_) | fail)
  all_goals first
   | (refine Eq.mp (congrArg (fun b=>Q (AV.bool b) []) ?_) hq;rw[Ce];simp_all[Fd]<;>omega;done)
   | skip
  all_goals
   refine cL x.l (fun y=>!xQ y) (fun i=>[.pptr [x.row] 0 0,.int .i64 i]) (by have:=x.len;omega) rfl (fun i h1 hd hi hno nx hn=>?_) (fun i h1 hd hno nx=>?_)
   all_goals unfold fN
   ·have hx:=A6 h1
    have hc:=ih x.l[i] (by have:=x.kid h1;omega) (by omega)
    repeat' (first | refine st ?_ | ((with_reducible refine ao 93 ?_);refine af (hc) ?_) | ((with_reducible refine al 93 ?_);refine ab (hc) ?_) | refine sb (fun nb_ hnb_=>?_) | refine s2 (fun h=>?_) (fun h=>?_) | fail)
    ·refine Eq.mp (congrArg (fun b=>Q (AV.bool b) []) ?_) hq
     have:x.l.all xQ=false:=sP h1 (by simpa using h)
     simp[Ce,this]
    ·exact hn h
   ·repeat' (first | refine st ?_ | refine sb (fun nb_ hnb_=>?_) | refine s2 (fun h=>?_) (fun h=>?_) | fail)
    refine Eq.mp (congrArg (fun b=>Q (AV.bool b) []) ?_) hq
    have:x.l.all xQ=true:=List.all_eq_true.2 fun y hy=>by simpa using hno y hy
    rw[Ce]
    simp_all[Fd]<;>omega
end Go.Proofs.YtljkdffikfkcgaaGreat.Am
end
section
namespace Go.Proofs.YtljkdffikfkcgaaGreat.Am
set_option maxRecDepth 100000
set_option linter.unusedVariables false
def zT(e:ae):Bool:=decide (e.op=0)&&decide (e.n=0)&&decide (e.name=[])&&decide (e.l.length=0)
theorem Fe(x:ae):aD Tryz.prog 94 [.agg x.row] (.bool (zT x)):=by
 refine wU _ _ _ ?_
 unfold m7
 repeat' (first | refine st ?_ | refine sb (fun nb_ hnb_=>?_) | refine s2 (fun h=>?_) (fun h=>?_) | fail)
 all_goals (refine⟨?_,rfl⟩;simp_all[zT]<;>omega)
def KT(op:Int):Bool:=decide (op<1)||decide (15<op)
def Lc(op:Int):Bool:=decide (op=2)||decide (op=3)||decide (op=7)||decide (op=8)
def KU(op:Int)(name:aM):Bool:=(Lc op&&decide (name≠[]))||(!Lc op&&!dM name)
def Kq(op:Int)(arg:aM):Bool:=(decide (op=15)&&!dM arg)||(decide (op≠15)&&decide (arg≠[]))
def HL(op:Int)(index:List ae):Bool:=decide (1<(index.length:Int))||(decide (op≠1)&&decide (0<(index.length:Int)))||(decide ((index.length:Int)=1)&&!index.all xQ)
def Ld(op:Int):Bool:=decide (op=1)||decide (op=2)||decide (op=3)||decide (op=14)
def IR(op:Int)(e:ae):Bool:=(Ld op&&!xQ e)||(!Ld op&&!zT e)
def GM(op:Int)(nb ne:Nat):Bool:=(!(decide (2≤op)&&decide (op≤8))&&decide (0<(nb:Int)))||(decide (op≠2)&&decide (0<(ne:Int)))
def GN(op:Int)(name arg:aM)(index:List ae)(e:ae)(nb ne:Nat):Bool:=!KT op&&(!KU op name&&(!Kq op arg&&(!HL op index&&(!IR op e&&!GM op nb ne))))
mutual
def gU:aa→Bool
 | .mk op _ name arg index e body els=>GN op name arg index e body.length els.length&&shSs body&&shSs els
def shSs:List aa→Bool
 | []=>true
 | x::l=>gU x&&shSs l
end
theorem vt:∀l:List aa,shSs l=l.all gU
 | []=>rfl
 | x::l=>by rw[shSs,vt l];rfl
theorem IS(x:aa):gU x=(GN x.op x.name x.arg x.index x.expr x.body.length x.els.length&&x.body.all gU&&x.els.all gU):=by cases x;rw[gU,vt,vt];rfl
theorem gA(l:List aa)(hl:l.length<2^40)(h:∀i (hi:i<l.length),aD Tryz.prog 73 [.agg l[i].row] (.bool (gU l[i]))):aD Tryz.prog 53 [.lst (l.map aa.enc)] (.bool (l.all gU)):=by
 refine kK _ _ _ ?_
 unfold fO
 refine cL l (fun y=>!gU y) (fun i=>[.lst (l.map aa.enc),.int .i64 i]) (by omega) rfl (fun i h1 hd hi hno nx hn=>?_) (fun i h1 hd hno nx=>?_)
 all_goals unfold fu
 ·have hx:=yX h1
  have hc:=h i h1
  repeat' (first | refine st ?_ | ((with_reducible refine ao 73 ?_);refine af (hc) ?_) | ((with_reducible refine al 73 ?_);refine ab (hc) ?_) | refine sb (fun nb_ hnb_=>?_) | refine s2 (fun h=>?_) (fun h=>?_) | fail)
  ·exact⟨by rw[sP h1 (by simpa using h)],rfl⟩
  ·exact hn h
 ·repeat' (first | refine st ?_ | refine sb (fun nb_ hnb_=>?_) | refine s2 (fun h=>?_) (fun h=>?_) | fail)
  exact⟨by rw[List.all_eq_true.2 fun y hy=>by simpa using hno y hy],rfl⟩
section
variable (op line:Int) (name arg:aM) (index:List ae) (e:ae) (body els:List aa) (Q:R)
abbrev Kr:AV:=(.pptr [[.int .i64 op,.int .i64 line,.str name,.str arg,.lst (index.map ae.enc),.int .i64 e.op,.int .i64 e.n,.str e.name,.lst (e.l.map ae.enc),.lst (body.map aa.enc),.lst (els.map aa.enc)]] 0 0)
theorem Ks(hb:aD Tryz.prog 53 [.lst (body.map aa.enc)] (.bool (body.all gU)))(he:aD Tryz.prog 53 [.lst (els.map aa.enc)] (.bool (els.all gU)))
  (hq:Q (.bool (!GM op body.length els.length&&(body.all gU&&els.all gU))) []):dP Q [] (Kr op line name arg index e body els):=by
 unfold dP
 generalize hB:body.all gU=B at *
 generalize hE:els.all gU=E at *
 repeat' (first | refine st ?_ | ((with_reducible refine ao 53 ?_);refine af (hb) ?_) | ((with_reducible refine al 53 ?_);refine ab (hb) ?_) | ((with_reducible refine ao 53 ?_);refine af (he) ?_) | ((with_reducible refine al 53 ?_);refine ab (he) ?_) | refine sb (fun nb_ hnb_=>?_) | refine s2 (fun h=>?_) (fun h=>?_) | fail)
 all_goals
  refine Eq.mp (congrArg (fun b=>Q (AV.bool b) []) ?_) hq
  simp_all only[GM,Bool.not_true,Bool.not_false,Bool.true_and,Bool.false_and,Bool.and_true,Bool.and_false,Bool.or_true,Bool.or_false,Bool.true_or,Bool.false_or]
theorem Kt(hb:aD Tryz.prog 53 [.lst (body.map aa.enc)] (.bool (body.all gU)))(he:aD Tryz.prog 53 [.lst (els.map aa.enc)] (.bool (els.all gU)))
  (hx:e.wt<2^40) (hq:Q (.bool (!IR op e&&(!GM op body.length els.length&&(body.all gU&&els.all gU)))) []):dQ Q [] (Kr op line name arg index e body els):=by
 have h1:=iC _ e (Nat.le_refl _) hx
 have h2:=Fe e
 unfold ae.row at h1 h2
 have hz:=Ks op line name arg index e body els Q hb he
 unfold dQ
 unfold IR at hq
 generalize xQ e=A at *
 generalize zT e=B at *
 repeat' (first | with_reducible refine hz ?_ | refine st ?_ | ((with_reducible refine ao 93 ?_);refine af (h1) ?_) | ((with_reducible refine al 93 ?_);refine ab (h1) ?_) | ((with_reducible refine ao 94 ?_);refine af (h2) ?_) | ((with_reducible refine al 94 ?_);refine ab (h2) ?_) | refine sb (fun nb_ hnb_=>?_) | refine s2 (fun h=>?_) (fun h=>?_) | fail)
 all_goals
  refine Eq.mp (congrArg (fun b=>Q (AV.bool b) []) ?_) hq
  simp_all[Ld]
theorem Ku(hb:aD Tryz.prog 53 [.lst (body.map aa.enc)] (.bool (body.all gU)))(he:aD Tryz.prog 53 [.lst (els.map aa.enc)] (.bool (els.all gU)))
  (hx:e.wt<2^40) (hi:ae.wts index<2^40) (hq:Q (.bool (!HL op index&&(!IR op e&&(!GM op body.length els.length&&(body.all gU&&els.all gU))))) []):dR Q [] (Kr op line name arg index e body els):=by
 have hz:=Kt op line name arg index e body els Q hb he hx
 unfold dR
 by_cases hn:index.length=1
 ·obtain⟨i,rfl⟩:=List.length_eq_one_iff.1 hn
  have h1:=iC _ i (Nat.le_refl _) (by simp only[ae.wts]at hi;omega)
  unfold ae.row at h1
  have hx0:=A6 (l:=[i]) (i:=0) (by simp)
  have e1:[i].all xQ=xQ i:=by simp
  unfold HL at hq
  rw[e1]at hq
  generalize xQ i=A at *
  repeat' (first | with_reducible refine hz ?_ | refine st ?_ | ((with_reducible refine ao 93 ?_);refine af (h1) ?_) | ((with_reducible refine al 93 ?_);refine ab (h1) ?_) | refine sb (fun nb_ hnb_=>?_) | refine s2 (fun h=>?_) (fun h=>?_) | fail)
  all_goals
   refine Eq.mp (congrArg (fun b=>Q (AV.bool b) []) ?_) hq
   simp_all
 ·have d1:decide ((index.length:Int)=1)=false:=by simpa using(by omega:¬(index.length:Int)=1)
  repeat' (first | with_reducible refine hz ?_ | refine st ?_ | refine sb (fun nb_ hnb_=>?_) | refine s2 (fun h=>?_) (fun h=>?_) | fail)
  all_goals
   refine Eq.mp (congrArg (fun b=>Q (AV.bool b) []) ?_) hq
   simp_all only[HL,Bool.not_true,Bool.not_false,Bool.true_and,Bool.false_and,Bool.and_true,Bool.and_false,Bool.or_true,Bool.or_false,Bool.true_or,Bool.false_or]
theorem Kv(hb:aD Tryz.prog 53 [.lst (body.map aa.enc)] (.bool (body.all gU)))(he:aD Tryz.prog 53 [.lst (els.map aa.enc)] (.bool (els.all gU)))
  (hx:e.wt<2^40) (hi:ae.wts index<2^40) (ha:arg.length<2^40) (hq:Q (.bool (!Kq op arg&&(!HL op index&&(!IR op e&&(!GM op body.length els.length&&(body.all gU&&els.all gU)))))) []):dS Q [] (Kr op line name arg index e body els):=by
 have hz:=Ku op line name arg index e body els Q hb he hx hi
 have h1:=fb arg (by omega)
 unfold dS
 unfold Kq at hq
 generalize dM arg=A at *
 repeat' (first | with_reducible refine hz ?_ | refine st ?_ | ((with_reducible refine ao 52 ?_);refine af (h1) ?_) | ((with_reducible refine al 52 ?_);refine ab (h1) ?_) | refine sb (fun nb_ hnb_=>?_) | refine s2 (fun h=>?_) (fun h=>?_) | fail)
 all_goals
  refine Eq.mp (congrArg (fun b=>Q (AV.bool b) []) ?_) hq
  simp_all
theorem Kw(hb:aD Tryz.prog 53 [.lst (body.map aa.enc)] (.bool (body.all gU)))(he:aD Tryz.prog 53 [.lst (els.map aa.enc)] (.bool (els.all gU)))
  (hx:e.wt<2^40) (hi:ae.wts index<2^40) (ha:arg.length<2^40) (hm:name.length<2^40) (hq:Q (.bool (!KU op name&&(!Kq op arg&&(!HL op index&&(!IR op e&&(!GM op body.length els.length&&(body.all gU&&els.all gU))))))) []):dT Q [] (Kr op line name arg index e body els):=by
 have hz:=Kv op line name arg index e body els Q hb he hx hi ha
 have h1:=fb name (by omega)
 unfold dT
 unfold KU at hq
 generalize dM name=A at *
 repeat' (first | with_reducible refine hz ?_ | refine st ?_ | ((with_reducible refine ao 52 ?_);refine af (h1) ?_) | ((with_reducible refine al 52 ?_);refine ab (h1) ?_) | refine sb (fun nb_ hnb_=>?_) | refine s2 (fun h=>?_) (fun h=>?_) | fail)
 all_goals
  refine Eq.mp (congrArg (fun b=>Q (AV.bool b) []) ?_) hq
  simp_all[Lc]
end
theorem u4(x:aa)(hw:x.wt<2^40)
  (hb:aD Tryz.prog 53 [.lst (x.body.map aa.enc)] (.bool (x.body.all gU))) (he:aD Tryz.prog 53 [.lst (x.els.map aa.enc)] (.bool (x.els.all gU))) :
  aD Tryz.prog 73 [.agg x.row] (.bool (gU x)):=by
 have hwe:=x.wt_eq
 refine lO _ _ _ ?_
 unfold gw
 have e1:gU x=(!KT x.op&&(!KU x.op x.name&&(!Kq x.op x.arg&&(!HL x.op x.index&&(!IR x.op x.expr&&(!GM x.op x.body.length x.els.length&&(x.body.all gU&&x.els.all gU))))))):=by
  rw[IS,GN];simp only[Bool.and_assoc]
 generalize hQ:(fun(u:AV) (K:SH)=>u=AV.bool (gU x)∧K=[])=Q
 have hq:Q (.bool (gU x)) []:=by subst hQ;exact⟨rfl,rfl⟩
 clear hQ
 rw[e1]at hq
 clear e1
 have hz:=Kw x.op x.line x.name x.arg x.index x.expr x.body x.els Q hb he (by omega) (by omega) (by omega) (by omega)
 unfold aa.row
 repeat' (first | with_reducible refine hz ?_ | refine st ?_ | refine sb (fun nb_ hnb_=>?_) | refine s2 (fun h=>?_) (fun h=>?_) | fail)
 all_goals
  refine Eq.mp (congrArg (fun b=>Q (AV.bool b) []) ?_) hq
  simp_all only[KT,Bool.not_true,Bool.not_false,Bool.true_and,Bool.false_and,Bool.and_true,Bool.and_false,Bool.or_true,Bool.or_false,Bool.true_or,Bool.false_or]
theorem yz:∀(k:Nat) (x:aa),x.wt≤k→k<2^40→aD Tryz.prog 73 [.agg x.row] (.bool (gU x)):=by
 intro k
 induction k with
 | zero=>intro x h;have:=x.wt_eq;omega
 | succ k ih=>
  intro x hk hb
  have hw:=x.wt_eq
  have h1:=aa.wts_len x.body
  have h2:=aa.wts_len x.els
  refine u4 x (by omega) (gA _ (by omega) fun i hi=>ih _ (by have:=aa.wts_get _ i hi;omega) (by omega)) (gA _ (by omega) fun i hi=>ih _ (by have:=aa.wts_get _ i hi;omega) (by omega))
theorem w8(l:List aa)(hl:aa.wts l<2^40):aD Tryz.prog 53 [.lst (l.map aa.enc)] (.bool (l.all gU)):=
 gA l (by have:=aa.wts_len l;omega) fun i hi=>yz _ _ (Nat.le_refl _) (by have:=aa.wts_get l i hi;omega)
end Go.Proofs.YtljkdffikfkcgaaGreat.Am
end
section
namespace Go.Proofs.YtljkdffikfkcgaaGreat.Am
set_option maxRecDepth 100000
set_option linter.unusedVariables false
theorem f0{a b:Nat}(h:a+b<2^62):IntKind.i64.wrap ((a:Int)+(b:Int))=((a+b:Nat):Int):=by rw[IntWalk.i64_in _ (by omega)];omega
def Le(d:au):Bool:=decide (d.kind<1)||decide (6<d.kind)||!dM d.name||decide (d.size<0)||(decide (d.kind≠1)&&decide (d.size≠0))
def Lf(d:au):Bool:=(decide (d.kind=5)&&!dM d.on)||(decide (d.kind≠5)&&decide (d.on≠[]))
def KV(d:au):Bool:=decide (-9223372036854775808<d.init)&&(decide (d.init=0)||decide (d.kind=1)||decide (d.kind=2))
def HM(d:au):Bool:=!Le d&&(!Lf d&&KV d)
theorem yA(d:au)(hw:d.wt<2^40):aD Tryz.prog 51 [.agg d.enc] (.bool (HM d)):=by
 have h1:=fb d.name (by unfold au.wt at hw;omega)
 have h2:=fb d.on (by unfold au.wt at hw;omega)
 have z0:∀Q:R,Q (.bool (KV d)) []→dU Q [] (.pptr [d.enc] 0 0):=fun Q hq=>by
  unfold dU
  repeat' (first | refine st ?_ | refine sb (fun nb_ hnb_=>?_) | refine s2 (fun h=>?_) (fun h=>?_) | fail)
  all_goals
   refine Eq.mp (congrArg (fun b=>Q (AV.bool b) []) ?_) hq
   simp_all only[KV,Bool.not_true,Bool.not_false,Bool.true_and,Bool.false_and,Bool.and_true,Bool.and_false,Bool.or_true,Bool.or_false,Bool.true_or,Bool.false_or]
 have z1:∀Q:R,Q (.bool (!Lf d&&KV d)) []→dV Q [] (.pptr [d.enc] 0 0):=fun Q hq=>by
  have hz:=z0 Q
  unfold dV
  unfold Lf at hq
  clear z0
  generalize dM d.on=A at *
  repeat' (first | with_reducible refine hz ?_ | refine st ?_ | ((with_reducible refine ao 52 ?_);refine af (h2) ?_) | ((with_reducible refine al 52 ?_);refine ab (h2) ?_) | refine sb (fun nb_ hnb_=>?_) | refine s2 (fun h=>?_) (fun h=>?_) | fail)
  all_goals
   refine Eq.mp (congrArg (fun b=>Q (AV.bool b) []) ?_) hq
   simp_all
 refine lP _ _ _ ?_
 unfold gx
 generalize hQ:(fun(u:AV) (K:SH)=>u=AV.bool (HM d)∧K=[])=Q
 have hq:Q (.bool (HM d)) []:=by subst hQ;exact⟨rfl,rfl⟩
 clear hQ
 have hz:=z1 Q
 unfold HM Le at hq
 clear z0 z1
 generalize dM d.name=A at *
 repeat' (first | with_reducible refine hz ?_ | refine st ?_ | ((with_reducible refine ao 52 ?_);refine af (h1) ?_) | ((with_reducible refine al 52 ?_);refine ab (h1) ?_) | refine sb (fun nb_ hnb_=>?_) | refine s2 (fun h=>?_) (fun h=>?_) | fail)
 all_goals
  refine Eq.mp (congrArg (fun b=>Q (AV.bool b) []) ?_) hq
  simp_all
def GO(t:ai):Bool:=t.locals.all dM&&(dM t.name&&t.body.all gU)
def Ff(p:aL):Bool:=p.decls.all HM&&(p.threads.all GO&&decide (0<(p.threads.length:Int)))
theorem au.wt_pos(d:au):1≤d.wt:=by unfold au.wt;omega
theorem ai.wt_pos(d:ai):1≤d.wt:=by unfold ai.wt;omega
theorem ai.local_len(t:ai){i:Nat}(h:i<t.locals.length):t.locals[i].length<t.wt:=by have:=vn (f:=List.length) t.locals i h;unfold ai.wt;omega
theorem aL.decl_wt(p:aL){i:Nat}(h:i<p.decls.length):p.decls[i].wt≤p.wt:=by have:=vn (f:=au.wt) p.decls i h;unfold aL.wt;omega
theorem aL.thread_wt(p:aL){i:Nat}(h:i<p.threads.length):p.threads[i].wt≤p.wt:=by have:=vn (f:=ai.wt) p.threads i h;unfold aL.wt;omega
theorem aL.decls_len(p:aL):p.decls.length≤p.wt:=by have:=zL au.wt_pos p.decls;unfold aL.wt;omega
theorem aL.threads_len(p:aL):p.threads.length≤p.wt:=by have:=zL ai.wt_pos p.threads;unfold aL.wt;omega
theorem DE(p:aL)(hw:p.wt<2^40):aD Tryz.prog 37 [.agg p.enc] (.bool (Ff p)):=by
 have hl1:=p.decls_len
 have hl2:=p.threads_len
 refine uV _ _ _ ?_
 unfold kL
 generalize hQ:(fun(u:AV) (K:SH)=>u=AV.bool (Ff p)∧K=[])=Q
 have hq:Q (.bool (Ff p)) []:=by subst hQ;exact⟨rfl,rfl⟩
 clear hQ
 repeat' (first | refine st ?_ | refine sb (fun nb_ hnb_=>?_) | refine s2 (fun h=>?_) (fun h=>?_) | fail)
 refine cL p.decls (fun y=>!HM y) (fun i=>[.pptr [p.enc] 0 0,.int .i64 i]) (by omega) rfl (fun i h1 hd hi hno nx hn=>?_) (fun i h1 hd hno nx=>?_)
 all_goals unfold jP
 ·have hx:=aw (f:=au.enc) h1
  have hc:=yA p.decls[i] (by have:=p.decl_wt h1;omega)
  repeat' (first | refine st ?_ | ((with_reducible refine ao 51 ?_);refine af (hc) ?_) | ((with_reducible refine al 51 ?_);refine ab (hc) ?_) | refine sb (fun nb_ hnb_=>?_) | refine s2 (fun h=>?_) (fun h=>?_) | fail)
  ·refine Eq.mp (congrArg (fun b=>Q (AV.bool b) []) ?_) hq
   rw[Ff,sP h1 (by simpa using h),Bool.false_and]
  ·exact hn h
 ·repeat' (first | refine st ?_ | refine sb (fun nb_ hnb_=>?_) | refine s2 (fun h=>?_) (fun h=>?_) | fail)
  have e1:p.decls.all HM=true:=List.all_eq_true.2 fun y hy=>by simpa using hno y hy
  unfold Ff at hq
  rw[e1,Bool.true_and]at hq
  clear hno
  refine cL p.threads (fun y=>!GO y) (fun i=>[.pptr [p.enc] 0 0,.int .i64 i]) (by omega) rfl (fun i h1 hd hi hno nx hn=>?_) (fun i h1 hd hno nx=>?_)
  all_goals unfold jO
  ·have hx:=aw (f:=ai.enc) h1
   have hwt:=p.thread_wt h1
   have hloc:=fun j (hj:j<(p.threads[i]).locals.length)=>(p.threads[i]).local_len hj
   have hll:(p.threads[i]).locals.length<2^40:=by have:(p.threads[i]).locals.length≤(p.threads[i]).wt:=(by unfold ai.wt;omega);omega
   have hnm:=fb (p.threads[i]).name (by have:(p.threads[i]).name.length<(p.threads[i]).wt:=(by unfold ai.wt;omega);omega)
   have hbd:=w8 (p.threads[i]).body (by have:aa.wts (p.threads[i]).body<(p.threads[i]).wt:=(by unfold ai.wt;omega);omega)
   have hfa:GO p.threads[i]=false→p.threads.all GO=false:=sP h1
   generalize p.threads[i]=t at *
   repeat' (first | refine st ?_ | refine sb (fun nb_ hnb_=>?_) | refine s2 (fun h=>?_) (fun h=>?_) | fail)
   refine cL t.locals (fun y=>!dM y) (fun j=>[.pptr [p.enc] 0 0,.int .i64 i,.pptr [t.enc] 0 0,.int .i64 j]) (by omega) rfl (fun j h1 hd hi2 hno2 nx2 hn2=>?_) (fun j h1 hd hno2 nx2=>?_)
   all_goals unfold jN
   ·have hx2:=aw (f:=aA) h1
    have hc:=fb t.locals[j] (by have:=hloc j h1;omega)
    repeat' (first | refine st ?_ | ((with_reducible refine ao 52 ?_);refine af (hc) ?_) | ((with_reducible refine al 52 ?_);refine ab (hc) ?_) | refine sb (fun nb_ hnb_=>?_) | refine s2 (fun h=>?_) (fun h=>?_) | fail)
    ·refine Eq.mp (congrArg (fun b=>Q (AV.bool b) []) ?_) hq
     rw[hfa (by rw[GO,sP h1 (by simpa using h),Bool.false_and]),Bool.false_and]
    ·exact hn2 h
   ·have e2:t.locals.all dM=true:=List.all_eq_true.2 fun y hy=>by simpa using hno2 y hy
    have e3:GO t=(dM t.name&&t.body.all gU):=by rw[GO,e2,Bool.true_and]
    rw[e3]at hfa hn
    clear e3
    generalize dM t.name=A at *
    generalize t.body.all gU=B at *
    repeat' (first | refine st ?_ | ((with_reducible refine ao 52 ?_);refine af (hnm) ?_) | ((with_reducible refine al 52 ?_);refine ab (hnm) ?_) | ((with_reducible refine ao 53 ?_);refine af (hbd) ?_) | ((with_reducible refine al 53 ?_);refine ab (hbd) ?_) | refine sb (fun nb_ hnb_=>?_) | refine s2 (fun h=>?_) (fun h=>?_) | fail)
    all_goals first
     | exact hn (by simp_all)
     | (refine Eq.mp (congrArg (fun b=>Q (AV.bool b) []) ?_) hq;rw[hfa (by simp_all),Bool.false_and])
  ·repeat' (first | refine st ?_ | refine sb (fun nb_ hnb_=>?_) | refine s2 (fun h=>?_) (fun h=>?_) | fail)
   have e2:p.threads.all GO=true:=List.all_eq_true.2 fun y hy=>by simpa using hno y hy
   rw[e2,Bool.true_and]at hq
   exact hq
def fP(l:List aM)(s:aM):Int:=gm (fun x=>decide (x=s)) l 0
def bY(l:List au)(s:aM):Int:=gm (fun x=>decide (x.name=s)) l 0
def cC(l:List ai)(s:aM):Int:=gm (fun x=>decide (x.name=s)) l 0
theorem fQ(l:List aM)(s:aM)(hl:l.length<2^62):aD Tryz.prog 56 [.lst (l.map aA),.str s] (.int .i64 (fP l s)):=by
 refine kM _ _ _ _ ?_
 unfold jC
 refine cL l (fun x=>decide (x=s)) (fun i=>[.lst (l.map aA),.str s,.int .i64 i]) hl rfl (fun i h1 hd hi hno nx hn=>?_) (fun i h1 hd hno nx=>?_)
 all_goals unfold eD
 ·have hx:=aw (f:=aA) h1
  repeat' (first | refine st ?_ | refine sb (fun nb_ hnb_=>?_) | refine s2 (fun h=>?_) (fun h=>?_) | fail)
  ·exact⟨by rw[fP,gp h1 hno h],rfl⟩
  ·exact hn h
 ·repeat' (first | refine st ?_ | refine sb (fun nb_ hnb_=>?_) | refine s2 (fun h=>?_) (fun h=>?_) | fail)
  exact⟨by rw[fP,eB hno],rfl⟩
theorem f8(l:List au)(s:aM)(hl:l.length<2^62):aD Tryz.prog 54 [.lst (l.map au.enc),.str s] (.int .i64 (bY l s)):=by
 refine uW _ _ _ _ ?_
 unfold kN
 refine cL l (fun x=>decide (x.name=s)) (fun i=>[.lst (l.map au.enc),.str s,.int .i64 i]) hl rfl (fun i h1 hd hi hno nx hn=>?_) (fun i h1 hd hno nx=>?_)
 all_goals unfold jQ
 ·have hx:=aw (f:=au.enc) h1
  repeat' (first | refine st ?_ | refine sb (fun nb_ hnb_=>?_) | refine s2 (fun h=>?_) (fun h=>?_) | fail)
  ·exact⟨by rw[bY,gp h1 hno h],rfl⟩
  ·exact hn h
 ·repeat' (first | refine st ?_ | refine sb (fun nb_ hnb_=>?_) | refine s2 (fun h=>?_) (fun h=>?_) | fail)
  exact⟨by rw[bY,eB hno],rfl⟩
theorem ij(l:List ai)(s:aM)(hl:l.length<2^62):aD Tryz.prog 55 [.lst (l.map ai.enc),.str s] (.int .i64 (cC l s)):=by
 refine rd _ _ _ _ ?_
 unfold iY
 refine cL l (fun x=>decide (x.name=s)) (fun i=>[.lst (l.map ai.enc),.str s,.int .i64 i]) hl rfl (fun i h1 hd hi hno nx hn=>?_) (fun i h1 hd hno nx=>?_)
 all_goals unfold ii
 ·have hx:=aw (f:=ai.enc) h1
  repeat' (first | refine st ?_ | refine sb (fun nb_ hnb_=>?_) | refine s2 (fun h=>?_) (fun h=>?_) | fail)
  ·exact⟨by rw[cC,gp h1 hno h],rfl⟩
  ·exact hn h
 ·repeat' (first | refine st ?_ | refine sb (fun nb_ hnb_=>?_) | refine s2 (fun h=>?_) (fun h=>?_) | fail)
  exact⟨by rw[cC,eB hno],rfl⟩
def Kx(b:Bool):Int:=if b then 7 else 0
theorem aC(b:Bool):aD Tryz.prog 78 [.bool b] (.int .i64 (Kx b)):=by
 refine s6 _ _ _ ?_
 unfold jR
 cases b
 all_goals
  repeat' (first | refine st ?_ | refine sb (fun nb_ hnb_=>?_) | refine s2 (fun h=>?_) (fun h=>?_) | fail)
  exact⟨rfl,rfl⟩
def KW(a b:Int):Int:=if a≠0 then a else b
theorem bQ(a b:Int):aD Tryz.prog 75 [.int .i64 a,.int .i64 b] (.int .i64 (KW a b)):=by
 refine Bk _ _ _ _ ?_
 unfold w4
 repeat' (first | refine st ?_ | refine sb (fun nb_ hnb_=>?_) | refine s2 (fun h=>?_) (fun h=>?_) | fail)
 all_goals (refine⟨?_,rfl⟩;simp_all[KW])
mutual
def aa.cnt:aa→Nat
 | .mk _ _ _ _ _ _ body els=>aa.cnts body+aa.cnts els
def aa.cnts:List aa→Nat
 | []=>0
 | x::l=>1+x.cnt+aa.cnts l
end
theorem aa.cnt_eq(x:aa):x.cnt=aa.cnts x.body+aa.cnts x.els:=by cases x;rfl
theorem aa.cnts_eq:∀l:List aa,aa.cnts l=l.length+(l.map aa.cnt).sum
 | []=>rfl
 | x::l=>by rw[aa.cnts,aa.cnts_eq l];simp;omega
mutual
theorem aa.cnt_wt:∀x:aa,x.cnt<x.wt
 | .mk a b c d e f body els=>by have:=aa.cnts_wt body;have:=aa.cnts_wt els;simp only[aa.cnt,aa.wt];omega
theorem aa.cnts_wt:∀l:List aa,aa.cnts l≤aa.wts l
 | []=>Nat.le_refl _
 | x::l=>by have:=aa.cnt_wt x;have:=aa.cnts_wt l;simp only[aa.cnts,aa.wts];omega
end
theorem kR{α:Type}{f:α→Nat}:∀(l:List α) (i:Nat) (h:i<l.length),((l.take i).map f).sum+f l[i]≤(l.map f).sum
 | x::l,0,_=>by simp
 | x::l,i+1,h=>by have:=kR (f:=f) l i (by simpa using h);simp only[List.getElem_cons_succ,List.take_succ_cons,List.map_cons,List.sum_cons];omega
theorem iD{α:Type}{f:α→Nat}{l:List α}{i:Nat}(h:i<l.length):((l.take (i+1)).map f).sum=((l.take i).map f).sum+f l[i]:=by
 rw[List.take_succ_eq_append_getElem h,List.map_append,List.sum_append];simp
theorem Fg:∀(k:Nat) (l:List aa),aa.wts l≤k→k<2^40→aD Tryz.prog 40 [.lst (l.map aa.enc)] (.int .i64 (aa.cnts l:Nat)):=by
 intro k
 induction k using Nat.strongRecOn with
 | _ k ih=>
  intro l hl hk
  have hlen:=aa.wts_len l
  have hcw:=aa.cnts_wt l
  refine w7 _ _ _ ?_
  unfold ng
  repeat' (first | refine st ?_ | refine sb (fun nb_ hnb_=>?_) | refine s2 (fun h=>?_) (fun h=>?_) | fail)
  refine eX l.length (fun _=>True) (fun i=>[.lst (l.map aa.enc),.int .i64 ((l.length+((l.take i).map aa.cnt).sum:Nat):Int),.int .i64 i]) (by omega) trivial (by simp) (fun i h1 hd hi _ nx hn=>?_) (fun i h1 hd _ nx=>?_)
  all_goals unfold kQ
  ·have hx:=yX h1
   have hwi:=aa.wts_get l i h1
   have hwe:=(l[i]).wt_eq
   have c1:=ih _ (by omega) l[i].body (Nat.le_refl _) (by omega)
   have c2:=ih _ (by omega) l[i].els (Nat.le_refl _) (by omega)
   have hs:=kR (f:=aa.cnt) l i h1
   have hcc:=(l[i]).cnt_eq
   rw[aa.cnts_eq]at hcw
   have e1:=f0 (a:=l.length+((l.take i).map aa.cnt).sum) (b:=aa.cnts l[i].body) (by omega)
   have e2:=f0 (a:=l.length+((l.take i).map aa.cnt).sum+aa.cnts l[i].body) (b:=aa.cnts l[i].els) (by omega)
   repeat' (first | refine st ?_ | ((with_reducible refine ao 40 ?_);refine af (c1) ?_) | ((with_reducible refine al 40 ?_);refine ab (c1) ?_) | ((with_reducible refine ao 40 ?_);refine af (c2) ?_) | ((with_reducible refine al 40 ?_);refine ab (c2) ?_) | refine sb (fun nb_ hnb_=>?_) | refine s2 (fun h=>?_) (fun h=>?_) | fail)
   have hn:=hn trivial
   rw[iD h1,hcc]at hn
   simpa[Nat.add_assoc]using hn
  ·repeat' (first | refine st ?_ | refine sb (fun nb_ hnb_=>?_) | refine s2 (fun h=>?_) (fun h=>?_) | fail)
   refine⟨?_,rfl⟩
   rw[h1,List.take_length,←aa.cnts_eq]
end Go.Proofs.YtljkdffikfkcgaaGreat.Am
end
section
namespace Go.Proofs.YtljkdffikfkcgaaGreat.Am
set_option maxRecDepth 100000
set_option linter.unusedVariables false
theorem ep{α:Type}{p:α→Bool}:∀(l:List α) (j:Nat),(gm p l j=-1∧l.find? p=none)∨∃(k:Nat) (h:k<l.length),gm p l j=(j+k:Nat)∧l.find? p=some l[k]
 | [],_=>.inl ⟨rfl,rfl⟩
 | x::l,j=>by
  by_cases h:p x=true
  ·exact .inr ⟨0,by simp,by simp[gm,h],by simp[h]⟩
  ·rcases ep (p:=p) l (j+1)with⟨h1,h2⟩ | ⟨k,h1,h2,h3⟩
   ·exact .inl ⟨by simp[gm,h,h1],by simp[h,h2]⟩
   ·refine .inr ⟨k+1,by simpa using h1,?_,by simpa[h]using h3⟩
    simp only[gm,h,Bool.false_eq_true,if_false,h2];congr 1;omega
def kS(l:List au)(s:aM):Option au:=l.find? fun x=>decide (x.name=s)
def ik(d:au):Int:=bif decide (d.kind=1)then(bif decide (d.size≠0)then 2 else 1)else bif decide (d.kind=2)then 1 else bif decide (d.kind=3)then d.kind else bif decide (d.kind=4)then d.kind else bif decide (d.kind=5)then d.kind else bif decide (d.kind=6)then d.kind else 9
def Bo(p:aL)(s:aM):Option au→Int
 | none=>bif decide (0≤cC p.threads s)then 7 else 0
 | some d=>ik d
def aE(p:aL)(loc:List aM)(s:aM):Int:=bif decide (0≤fP loc s)then 8 else Bo p s (kS p.decls s)
theorem DF(p:aL)(t:Nat)(s:aM)(hw:p.wt<2^40)(ht:t<p.threads.length):aD Tryz.prog 95 [.agg p.enc,.int .i64 t,.str s] (.int .i64 (aE p p.threads[t].locals s)):=by
 have hl1:=p.decls_len
 have hl2:=p.threads_len
 have hwt:=p.thread_wt ht
 have hll:p.threads[t].locals.length<p.threads[t].wt:=by unfold ai.wt;omega
 have c1:=fQ p.threads[t].locals s (by omega)
 have c2:=f8 p.decls s (by omega)
 have c3:=ij p.threads s (by omega)
 have d0:decide (0≤(t:Int))=true:=by simp
 have d1:=bW ht
 have hx:=aw (f:=ai.enc) ht
 refine u3 _ _ _ _ _ ?_
 unfold kO
 generalize hQ:(fun(u:AV) (K:SH)=>u=AV.int .i64 (aE p p.threads[t].locals s)∧K=[])=Q
 have hq:Q (.int .i64 (aE p p.threads[t].locals s)) []:=by subst hQ;exact⟨rfl,rfl⟩
 clear hQ
 unfold aE at hq
 rcases ep (p:=fun x:au=>decide (x.name=s)) p.decls 0 with⟨h1,h2⟩ | ⟨k,h1,h2,h3⟩
 ·have e1:bY p.decls s=-1:=h1
  have e2:kS p.decls s=none:=h2
  rw[e1]at c2
  rw[e2,Bo]at hq
  clear e1 e2 h1 h2
  repeat' (first | refine st ?_ | ((with_reducible refine ao 56 ?_);refine af (c1) ?_) | ((with_reducible refine al 56 ?_);refine ab (c1) ?_) | ((with_reducible refine ao 54 ?_);refine af (c2) ?_) | ((with_reducible refine al 54 ?_);refine ab (c2) ?_) | ((with_reducible refine ao 55 ?_);refine af (c3) ?_) | ((with_reducible refine al 55 ?_);refine ab (c3) ?_) | refine sb (fun nb_ hnb_=>?_) | refine s2 (fun h=>?_) (fun h=>?_) | fail)
  all_goals
   refine Eq.mp (congrArg (fun b=>Q (AV.int .i64 b) []) ?_) hq
   simp only[*,cond_true,cond_false]
 ·have e1:bY p.decls s=(k:Nat):=by rw[bY,h2];simp
  have e2:kS p.decls s=some p.decls[k]:=h3
  rw[e1]at c2
  rw[e2]at hq
  have d2:decide ((k:Int)<0)=false:=by simp
  have hy:=aw (f:=au.enc) h1
  rw[Bo]at hq
  clear e1 e2 h2 h3
  generalize p.decls[k]=d at *
  unfold ik at hq
  repeat' (first | refine st ?_ | ((with_reducible refine ao 56 ?_);refine af (c1) ?_) | ((with_reducible refine al 56 ?_);refine ab (c1) ?_) | ((with_reducible refine ao 54 ?_);refine af (c2) ?_) | ((with_reducible refine al 54 ?_);refine ab (c2) ?_) | ((with_reducible refine ao 55 ?_);refine af (c3) ?_) | ((with_reducible refine al 55 ?_);refine ab (c3) ?_) | refine sb (fun nb_ hnb_=>?_) | refine s2 (fun h=>?_) (fun h=>?_) | fail)
  all_goals
   refine Eq.mp (congrArg (fun b=>Q (AV.int .i64 b) []) ?_) hq
   simp only[*,cond_true,cond_false]
def dB(k a b:Int):Int:=if k=0 then 5 else if k≠a∧k≠b then 6 else 0
theorem zU(p:aL)(t:Nat)(s:aM)(a b:Int)(hw:p.wt<2^40)(ht:t<p.threads.length):aD Tryz.prog 76 [.agg p.enc,.int .i64 t,.str s,.int .i64 a,.int .i64 b] (.int .i64 (dB (aE p p.threads[t].locals s) a b)):=by
 have c1:=DF p t s hw ht
 refine yv _ _ _ _ _ _ _ ?_
 unfold re
 generalize aE p p.threads[t].locals s=k at *
 repeat' (first | refine st ?_ | ((with_reducible refine ao 95 ?_);refine af (c1) ?_) | ((with_reducible refine al 95 ?_);refine ab (c1) ?_) | refine sb (fun nb_ hnb_=>?_) | refine s2 (fun h=>?_) (fun h=>?_) | fail)
 all_goals (refine⟨?_,rfl⟩;simp_all[dB])
mutual
def ae.nd:ae→Nat
 | .mk _ _ _ l=>1+ae.nds l
def ae.nds:List ae→Nat
 | []=>0
 | x::l=>x.nd+ae.nds l
end
mutual
def ae.dp:ae→Nat
 | .mk _ _ _ l=>1+ae.dps l
def ae.dps:List ae→Nat
 | []=>0
 | x::l=>max x.dp (ae.dps l)
end
theorem ae.nd_eq(x:ae):x.nd=1+(x.l.map ae.nd).sum:=by
 have:∀l,ae.nds l=(l.map ae.nd).sum:=fun l=>by induction l with
  | nil=>rfl
  | cons x l ih=>rw[ae.nds,ih];rfl
 cases x;rw[ae.nd,this];rfl
theorem ae.dp_eq(x:ae):x.dp=1+ae.dps x.l:=by cases x;rfl
mutual
theorem ae.nd_wt:∀x:ae,x.nd≤x.wt
 | .mk a b c l=>by have:=ae.nds_wt l;simp only[ae.nd,ae.wt];omega
theorem ae.nds_wt:∀l:List ae,ae.nds l≤ae.wts l
 | []=>Nat.le_refl _
 | x::l=>by have:=ae.nd_wt x;have:=ae.nds_wt l;simp only[ae.nds,ae.wts];omega
end
mutual
theorem ae.dp_wt:∀x:ae,x.dp≤x.wt
 | .mk a b c l=>by have:=ae.dps_wt l;simp only[ae.dp,ae.wt];omega
theorem ae.dps_wt:∀l:List ae,ae.dps l≤ae.wts l
 | []=>Nat.le_refl _
 | x::l=>by have:=ae.dp_wt x;have:=ae.dps_wt l;simp only[ae.dps,ae.wts];omega
end
theorem ae.dps_succ{l:List ae}{i:Nat}(h:i<l.length):ae.dps (l.take (i+1))=max (ae.dps (l.take i)) l[i].dp:=by
 rw[List.take_succ_eq_append_getElem h]
 generalize l.take i=m
 induction m with
 | nil=>simp[ae.dps]
 | cons x m ih=>simp only[List.cons_append,ae.dps,ih];omega
theorem ae.dps_take(l:List ae)(i:Nat):ae.dps (l.take i)≤ae.dps l:=by
 induction l generalizing i with
 | nil=>simp
 | cons x l ih=>cases i with
  | zero=>simp[ae.dps]
  | succ i=>have:=ih i;simp only[List.take_succ_cons,ae.dps];omega
theorem Ky{k:IntKind}{a b:Nat}{K:AV→Prop}(h:K (.int k ((max a b:Nat):Int))):W.mnx true (.int k (a:Int)) (.int k (b:Int)) K:=by
 rw[Ec]
 have:(if(b:Int) > a then(b:Int)else a)=((max a b:Nat):Int):=by split<;>omega
 rw[this]
 exact h
theorem Fh:∀(k:Nat) (x:ae),x.wt≤k→k<2^40→aD Tryz.prog 96 [.agg x.row] (.tup [.int .i64 (x.nd:Nat),.int .i64 (x.dp:Nat)]):=by
 intro k
 induction k with
 | zero=>intro x h;have:=x.wt_eq;omega
 | succ k ih=>
  intro x hk hb
  have hlen:=x.len
  have hnd:=x.nd_eq
  have hnw:=x.nd_wt
  have hdp:=x.dp_eq
  have hdw:=x.dp_wt
  refine wW _ _ _ ?_
  unfold m8
  repeat' (first | refine st ?_ | refine sb (fun nb_ hnb_=>?_) | refine s2 (fun h=>?_) (fun h=>?_) | fail)
  refine eX x.l.length (fun _=>True) (fun i=>[.pptr [x.row] 0 0,.int .i64 ((1+((x.l.take i).map ae.nd).sum:Nat):Int),.int .i64 ((ae.dps (x.l.take i):Nat):Int),.int .i64 i]) (by omega) trivial rfl (fun i h1 hd hi _ nx hn=>?_) (fun i h1 hd _ nx=>?_)
  all_goals unfold kP
  ·have hx:=A6 h1
   have hc:=ih x.l[i] (by have:=x.kid h1;omega) (by omega)
   have hs:=kR (f:=ae.nd) x.l i h1
   have e1:=f0 (a:=1+((x.l.take i).map ae.nd).sum) (b:=x.l[i].nd) (by omega)
   have hn:=hn trivial
   rw[iD h1,ae.dps_succ h1,←Nat.add_assoc]at hn
   repeat' (first | refine st ?_ | ((with_reducible refine ao 96 ?_);refine af (hc) ?_) | ((with_reducible refine al 96 ?_);refine ab (hc) ?_) | refine Ky ?_ | refine sb (fun nb_ hnb_=>?_) | refine s2 (fun h=>?_) (fun h=>?_) | fail)
   exact hn
  ·have e2:=f0 (a:=ae.dps (x.l.take i)) (b:=1) (by have:=ae.dps_take x.l i;omega)
   repeat' (first | refine st ?_ | refine sb (fun nb_ hnb_=>?_) | refine s2 (fun h=>?_) (fun h=>?_) | fail)
   refine⟨?_,rfl⟩
   subst h1
   rw[List.take_length,hnd,hdp,Nat.add_comm 1 (ae.dps _)]
def kT(p:aL)(loc:List aM)(op:Int)(s:aM):Int:=if op=2 then dB (aE p loc s) 8 1 else if op=3 then dB (aE p loc s) 2 2 else 0
mutual
def dW(p:aL)(loc:List aM):ae→Int
 | .mk op _ name l=>if kT p loc op name=0 then namesL p loc l else kT p loc op name
def namesL(p:aL)(loc:List aM):List ae→Int
 | []=>0
 | x::l=>if dW p loc x=0 then namesL p loc l else dW p loc x
end
theorem DG(p:aL)(loc:List aM)(x:ae):dW p loc x=if kT p loc x.op x.name=0 then namesL p loc x.l else kT p loc x.op x.name:=by cases x;rw[dW];rfl
theorem iE(p:aL)(loc:List aM):∀l m:List ae,namesL p loc (l++m)=if namesL p loc l=0 then namesL p loc m else namesL p loc l
 | [],m=>by simp[namesL]
 | x::l,m=>by
  rw[List.cons_append,namesL,iE p loc l m,namesL]
  by_cases h:dW p loc x=0
  ·simp[h]
  ·simp[h]
theorem Bp{p:aL}{loc:List aM}{l:List ae}{i:Nat}(h:i<l.length)(h0:namesL p loc (l.take i)=0):namesL p loc (l.take (i+1))=dW p loc l[i]:=by
 rw[List.take_succ_eq_append_getElem h,iE,if_pos h0,namesL,namesL]
 split<;>simp_all
theorem Bq{p:aL}{loc:List aM}{l:List ae}(i:Nat)(h0:¬namesL p loc (l.take i)=0):namesL p loc l=namesL p loc (l.take i):=by
 have:=iE p loc (l.take i) (l.drop i)
 rw[List.take_append_drop,if_neg h0]at this
 exact this
theorem Fi(p:aL)(t:Nat)(hw:p.wt<2^40)(ht:t<p.threads.length):∀(k:Nat) (x:ae),x.wt≤k→k<2^40→aD Tryz.prog 97 [.agg p.enc,.int .i64 t,.agg x.row] (.int .i64 (dW p p.threads[t].locals x)):=by
 intro k
 induction k with
 | zero=>intro x h;have:=x.wt_eq;omega
 | succ k ih=>
  intro x hk hb
  have hlen:=x.len
  have c1:=zU p t x.name 8 1 hw ht
  have c2:=zU p t x.name 2 2 hw ht
  generalize p.threads[t].locals=loc at *
  refine w3 _ _ _ _ _ ?_
  unfold m9
  generalize hQ:(fun(u:AV) (K:SH)=>u=AV.int .i64 (dW p loc x)∧K=[])=Q
  have hq:Q (.int .i64 (dW p loc x)) []:=by subst hQ;exact⟨rfl,rfl⟩
  clear hQ
  rw[DG]at hq
  have key:∀r:Int,r=kT p loc x.op x.name→gz Q [.int .i64 t,.pptr [p.enc] 0 0,.pptr [x.row] 0 0,.int .i64 r] []:=by
   intro r hr
   rw[←hr]at hq
   unfold gz
   repeat' (first | refine st ?_ | refine sb (fun nb_ hnb_=>?_) | refine s2 (fun h=>?_) (fun h=>?_) | fail)
   by_cases h0:r=0
   ·rw[if_pos h0]at hq
    subst h0
    refine eX x.l.length (fun _=>True) (fun i=>[.int .i64 t,.pptr [p.enc] 0 0,.pptr [x.row] 0 0,.int .i64 (namesL p loc (x.l.take i)),.int .i64 i]) (by omega) trivial (by simp[namesL]) (fun i h1 hd hi _ nx hn=>?_) (fun i h1 hd _ nx=>?_)
    all_goals unfold gy
    ·have hx:=A6 h1
     have hc:=ih x.l[i] (by have:=x.kid h1;omega) (by omega)
     have hn:=hn trivial
     by_cases h2:namesL p loc (x.l.take i)=0
     ·rw[Bp h1 h2]at hn
      have d1:decide (namesL p loc (x.l.take i)=0)=true:=by simpa using h2
      repeat' (first | refine st ?_ | ((with_reducible refine ao 97 ?_);refine af (hc) ?_) | ((with_reducible refine al 97 ?_);refine ab (hc) ?_) | refine sb (fun nb_ hnb_=>?_) | refine s2 (fun h=>?_) (fun h=>?_) | fail)
      exact hn
     ·have d1:decide (namesL p loc (x.l.take i)=0)=false:=by simpa using h2
      repeat' (first | refine st ?_ | refine sb (fun nb_ hnb_=>?_) | refine s2 (fun h=>?_) (fun h=>?_) | fail)
      rw[Bq i h2]at hq
      exact hq
    ·repeat' (first | refine st ?_ | refine sb (fun nb_ hnb_=>?_) | refine s2 (fun h=>?_) (fun h=>?_) | fail)
     rw[h1,List.take_length]
     exact hq
   ·rw[if_neg h0]at hq
    have d1:decide (r=0)=false:=by simpa using h0
    refine eX 0 (fun _=>True) (fun i=>[.int .i64 t,.pptr [p.enc] 0 0,.pptr [x.row] 0 0,.int .i64 r,.int .i64 i]) (by omega) trivial rfl (fun i h1 hd hi _ nx hn=>by omega) (fun i h1 hd _ nx=>?_)
    unfold gy
    repeat' (first | refine st ?_ | refine sb (fun nb_ hnb_=>?_) | refine s2 (fun h=>?_) (fun h=>?_) | fail)
    all_goals exact hq
  clear hq
  repeat' (first | with_reducible refine key _ ?_ | refine st ?_ | ((with_reducible refine ao 76 ?_);refine af (c1) ?_) | ((with_reducible refine al 76 ?_);refine ab (c1) ?_) | ((with_reducible refine ao 76 ?_);refine af (c2) ?_) | ((with_reducible refine al 76 ?_);refine ab (c2) ?_) | refine sb (fun nb_ hnb_=>?_) | refine s2 (fun h=>?_) (fun h=>?_) | fail)
  all_goals (clear ih key c1 c2;simp_all[kT])
def gB(p:aL)(loc:List aM)(x:ae):Int:=bif !xQ x then 3 else bif decide (24<(x.nd:Int))||decide (6<(x.dp:Int))then 2 else dW p loc x
theorem GP(p:aL)(t:Nat)(x:ae)(hw:p.wt<2^40)(ht:t<p.threads.length)(hx:x.wt<2^40):aD Tryz.prog 77 [.agg p.enc,.int .i64 t,.agg x.row] (.int .i64 (gB p p.threads[t].locals x)):=by
 have c1:=iC _ x (Nat.le_refl _) hx
 have c2:=Fh _ x (Nat.le_refl _) hx
 have c3:=Fi p t hw ht _ x (Nat.le_refl _) hx
 generalize p.threads[t].locals=loc at *
 refine yy _ _ _ _ _ ?_
 unfold rh
 generalize hQ:(fun(u:AV) (K:SH)=>u=AV.int .i64 (gB p loc x)∧K=[])=Q
 have hq:Q (.int .i64 (gB p loc x)) []:=by subst hQ;exact⟨rfl,rfl⟩
 clear hQ
 unfold gB at hq
 generalize xQ x=A at *
 generalize dW p loc x=B at *
 generalize((x.nd:Nat):Int)=C at *
 generalize((x.dp:Nat):Int)=D at *
 repeat' (first | refine st ?_ | ((with_reducible refine ao 93 ?_);refine af (c1) ?_) | ((with_reducible refine al 93 ?_);refine ab (c1) ?_) | ((with_reducible refine ao 96 ?_);refine af (c2) ?_) | ((with_reducible refine al 96 ?_);refine ab (c2) ?_) | ((with_reducible refine ao 97 ?_);refine af (c3) ?_) | ((with_reducible refine al 97 ?_);refine ab (c3) ?_) | refine sb (fun nb_ hnb_=>?_) | refine s2 (fun h=>?_) (fun h=>?_) | fail)
 all_goals
  refine Eq.mp (congrArg (fun b=>Q (AV.int .i64 b) []) ?_) hq
  simp only[*,cond_true,cond_false,Bool.not_true,Bool.not_false,Bool.true_and,Bool.false_and,Bool.and_true,Bool.and_false,Bool.or_true,Bool.or_false,Bool.true_or,Bool.false_or]
end Go.Proofs.YtljkdffikfkcgaaGreat.Am
end
section
namespace Go.Proofs.YtljkdffikfkcgaaGreat.Am
set_option linter.unusedVariables false
set_option maxRecDepth 100000
def w9(Q:R)(n1:Kn)(L85:SH)(x40 x83 x46 x45 x41 x42 x43 x44:AV):Prop:=
 gW 6 0 x40 x83 L85 fun x93=>
 wb .neq 3 x93 (.int .i64 3) fun x94=>
 wk x94 (
 (true=true)∧(
 aY 1 x46 [] 1 L85 fun x96 r97=>
 Q (.tup [(.int .i64 6),x96]) L85)) (
 wb .add 3 x45 (.int .i64 1) fun x98=>
 n1 [x40,x41,x42,x43,x44,x98] L85)
def xa(Q:R)(n1:Kn)(L69:SH)(x46 x40 x45 x41 x42 x43 x44 x83:AV)(L85:SH)(q84:Ns):Prop:=
 wn [] q84 [] L69.names fun r86=>
 wb .lss 3 x83 (.int .i64 0) fun x87=>
 wk x87 (
 (true=true)∧(
 aY 1 x46 [] 1 L85 fun x89 r90=>
 Q (.tup [(.int .i64 5),x89]) L85)) (
 (w9 Q n1 L85 x40 x83 x46 x45 x41 x42 x43 x44))
def xb(Q:R)(n1:Kn)(L69:SH)(x40 x45 x46 x41 x42 x43 x44:AV):Prop:=
 (true=true)∧(
 W.calm [] ⟨2,(dt x40),[],[],false,[]⟩ (
 W.slice 6 x40 none (some x45) none L69 fun x78=>
 wn (dt x40) [] [] [] fun r79=>
 aY 5 x46 [rm 2 r79] 4 L69 fun x81 r82=>
 wd [] 5 (.fn 54 []) [x78,x81] L69 (xa Q n1 L69 x46 x40 x45 x41 x42 x43 x44)))
def xc(Q:R)(n1:Kn)(L69:SH)(x46 x40 x45 x41 x42 x43 x44:AV):Prop:=
 bf 0 x46 L69 fun x76=>
 wb .eql 3 x76 (.int .i64 5) fun x77=>
 wk x77 (
 (xb Q n1 L69 x40 x45 x46 x41 x42 x43 x44)) (
 wb .add 3 x45 (.int .i64 1) fun x99=>
 n1 [x40,x41,x42,x43,x44,x99] L69)
def gC(Q:R)(n1:Kn)(v37:Vs)(L39:SH):Prop:=
 Is 0 4 5 6 7 8 9 v37 fun x40 x41 x42 x43 x44 x45 x46=>
 wb .gtr 3 x41 (.int .i64 12) fun x47=>
 b9 x47 false x42 L39 fun x48 L50=>
 wg x47 false (wb .gtr 3 x48 (.int .i64 4)) L50 fun x51 L53=>
 W.pick x47 (.bool true) x51 fun x55=>
 b9 x55 false x43 L53 fun x56 L58=>
 wg x55 false (wb .gtr 3 x56 (.int .i64 2)) L58 fun x59 L61=>
 W.pick x55 (.bool true) x59 fun x63=>
 b9 x63 false x44 L61 fun x64 L66=>
 wg x63 false (wb .gtr 3 x64 (.int .i64 2)) L66 fun x67 L69=>
 W.pick x63 (.bool true) x67 fun x71=>
 wk x71 (
 (true=true)∧(
 aY 1 x46 [] 1 L69 fun x73 r74=>
 Q (.tup [(.int .i64 2),x73]) L69)) (
 (xc Q n1 L69 x46 x40 x45 x41 x42 x43 x44))
def xd(j38:Kn)(L120:SH)(x128 x124 x121 x122 x123 x125 x126 x127:AV):Prop:=
 wb .eql 3 x128 (.int .i64 5) fun x131=>
 wk x131 (
 wb .add 3 x124 (.int .i64 1) fun x132=>
 j38 [x121,x122,x123,x132,x125,x126,x127] L120) (
 wb .add 3 x125 (.int .i64 1) fun x133=>
 j38 [x121,x122,x123,x124,x133,x126,x127] L120)
def xe(j38:Kn)(v118:Vs)(L120:SH):Prop:=
 Iw 0 4 5 6 7 8 9 36 47 v118 fun x121 x122 x123 x124 x125 x126 x127 x128 x129=>
 wk x129 (
 wb .add 3 x123 (.int .i64 1) fun x130=>
 j38 [x121,x122,x130,x124,x125,x126,x127] L120) (
 (xd j38 L120 x128 x124 x121 x122 x123 x125 x126 x127))
def xf(j38:Kn)(L104:SH)(x112 x105 x106 x107 x108 x109 x110 x111:AV):Prop:=
 W.join (xe j38) fun j119=>
 wb .eql 3 x112 (.int .i64 3) fun x134=>
 wk x134 (
 j119 [x105,x106,x107,x108,x109,x110,x111,x112,x134] L104) (
 wb .eql 3 x112 (.int .i64 4) fun x135=>
 j119 [x105,x106,x107,x108,x109,x110,x111,x112,x135] L104)
def xg(j38:Kn)(v102:Vs)(L104:SH):Prop:=
 Iw 0 4 5 6 7 8 9 36 39 v102 fun x105 x106 x107 x108 x109 x110 x111 x112 x113=>
 wk x113 (
 bf 3 x111 L104 fun x115=>
 W.mnx true x115 (.int .i64 1) fun x116=>
 wb .add 3 x106 x116 fun x117=>
 j38 [x105,x117,x107,x108,x109,x110,x111] L104) (
 (xf j38 L104 x112 x105 x106 x107 x108 x109 x110 x111))
def xh(Q:R)(n1:Kn)(L25:SH)(x16 x3 x4 x5 x6 x7 x8:AV):Prop:=
 W.join (gC Q n1) fun j38=>
 bf 0 x16 L25 fun x101=>
 W.join (xg j38) fun j103=>
 wb .eql 3 x101 (.int .i64 1) fun x136=>
 wk x136 (
 j103 [x3,x4,x5,x6,x7,x8,x16,x101,x136] L25) (
 wb .eql 3 x101 (.int .i64 2) fun x137=>
 j103 [x3,x4,x5,x6,x7,x8,x16,x101,x137] L25)
def xi(Q:R)(n1:Kn)(L25:SH)(x16 x3 x4 x5 x6 x7 x8:AV):Prop:=
 bf 3 x16 L25 fun x32=>
 wb .gtr 3 x32 (.int .i64 4) fun x33=>
 wk x33 (
 (true=true)∧(
 aY 1 x16 [] 1 L25 fun x35 r36=>
 Q (.tup [(.int .i64 2),x35]) L25)) (
 (xh Q n1 L25 x16 x3 x4 x5 x6 x7 x8))
def xj(Q:R)(n1:Kn)(L17:SH)(x16 x3 x4 x5 x6 x7 x8 x23:AV)(L25:SH)(q24:Ns):Prop:=
 wn [] q24 [] L17.names fun r26=>
 wb .geq 3 x23 (.int .i64 0) fun x27=>
 wk x27 (
 (true=true)∧(
 aY 1 x16 [] 1 L25 fun x29 r30=>
 Q (.tup [(.int .i64 4),x29]) L25)) (
 (xi Q n1 L25 x16 x3 x4 x5 x6 x7 x8))
def xk(Q:R)(n1:Kn)(L2:SH)(x3 x8 x4 x5 x6 x7:AV):Prop:=
 uh 6 x3 x8 L2 fun x12=>
 xW [(.int .i64 0),(.int .i64 0),(.str []),(.int .i64 0),(.int .i64 0),(.str [])] 6 x12 L2 fun x16 L17=>
 (true=true)∧(
 W.calm [] ⟨2,(dt x3),[],[],false,[]⟩ (
 W.slice 6 x3 none (some x8) none L17 fun x18=>
 wn (dt x3) [] [] [] fun r19=>
 aY 2 x16 [rm 2 r19] 4 L17 fun x21 r22=>
 wd [] 5 (.fn 54 []) [x18,x21] L17 (xj Q n1 L17 x16 x3 x4 x5 x6 x7 x8)))
def kU(Q:R)(v0:Vs)(L2:SH)(n1:Kn):Prop:=
 HI 0 4 5 6 7 8 v0 fun x3 x4 x5 x6 x7 x8=>
 W.len x3 fun x9=>
 wb .lss 3 x8 x9 fun x10=>
 wk x10 (
 (xk Q n1 L2 x3 x8 x4 x5 x6 x7)) (
 Q (.tup [(.int .i64 0),(.int .i64 0)]) L2)
def np(t0:AV)(L:SH)(Q:R):Prop:=
 W.loop (kU Q) [t0,(.int .i64 0),(.int .i64 0),(.int .i64 0),(.int .i64 0),(.int .i64 0)] L
theorem xl(t0:AV)(L:SH)(Q:R)(h:np t0 L Q):aj Tryz.prog 38 [t0] L Q:=
 bx ⟨fun k=>if k=11 then some [0,4,5,6,7,8,9]else if k=13 then some [0,4,5,6,7,8,9,36,39]else if k=16 then some [0,4,5,6,7,8,9,36,47]else none,fun k=>if k=3 then [0,4,5,6,7,8]else [],fun k=>if k=5 then [9]else [],fun k=>if k=6 then [0,0,3,0,8,31,63]else if k=7 then [0,1,0,7]else if k=9 then [0,1,0,7]else if k=21 then [0,1,0,7]else if k=23 then [0,0,3,0,8,31,63]else if k=25 then [0,1,0,7]else if k=27 then [0,1,0,7]else []⟩ Tryz.func38 (by kernel_rfl) (by kernel_rfl) h
def s8(Q:R)(n5:Kn)(L21:SH)(x7 x8 x20 x28:AV)(L30:SH)(q29:Ns):Prop:=
 wn [] q29 [] L21.names fun r31=>
 wb .geq 3 x28 (.int .i64 0) fun x32=>
 W.dgrd x32 false (fun k34=>W.faddr 1 x7 fun x37=>
 k34 x37 L30 rz) L30 fun x33 L36 r35=>
 W.dgrd x32 false (fun k39=>dl [] 8 x33 L36 fun x42 r43=>
 k39 x42 L36 r43) L36 fun x38 L41 r40=>
 W.dgrd x32 false (fun k45=>k45 x8 L41 rz) L41 fun x44 L47 r46=>
 W.dgrd x32 false (fun k49=>W.calm [] ⟨10,(dt x38),[],[],false,[]⟩ (
 W.slice 4 x38 none (some x44) none L47 fun x52=>
 wn (dt x38) [] [] [] fun r53=>
 k49 x52 L47 r53)) L47 fun x48 L51 r50=>
 W.dgrd x32 false (fun k55=>W.faddr 0 x20 fun x58=>
 k55 x58 L51 rz) L51 fun x54 L57 r56=>
 W.dgrd x32 false (fun k60=>dl [rm 10 r50,rm 8 r40] 12 x54 L57 fun x63 r64=>
 k60 x63 L57 r64) L57 fun x59 L62 r61=>
 W.dgrd x32 false (fun k66=>wd [] 13 (.fn 55 []) [x48,x59] L62 fun x69 L71 q70=>
 wn [] q70 [] L62.names fun r72=>
 k66 x69 L71 r72) L62 fun x65 L68 r67=>
 W.dgrd x32 false (fun k74=>wb .geq 3 x65 (.int .i64 0) fun x77=>
 k74 x77 L68 rz) L68 fun x73 L76 r75=>
 W.pick x32 (.bool true) x73 fun x78=>
 wk x78 (
 (true=true)∧(
 aY 1 x20 [] 1 L76 fun x80 r81=>
 Q (.tup [(.int .i64 4),x80]) L76)) (
 wb .add 3 x8 (.int .i64 1) fun x82=>
 n5 [x7,x82] L76)
def s9(Q:R)(n5:Kn)(L6:SH)(x7 x8:AV):Prop:=
 bf 1 x7 L6 fun x14=>
 uh 4 x14 x8 L6 fun x16=>
 xW [(.str []),(.int .i64 0),.nils,.nils] 4 x16 L6 fun x20 L21=>
 (true=true)∧(
 aY 0 x7 [] 1 L21 fun x23 r24=>
 aY 0 x20 [rm 1 r24] 3 L21 fun x26 r27=>
 wd [] 4 (.fn 54 []) [x23,x26] L21 (s8 Q n5 L21 x7 x8 x20))
def ta(Q:R)(n109:Kn)(x111 x122 x113 x114 x112 x125:AV)(L126:SH):Prop:=
 wb .geq 3 x125 (.int .i64 0) fun x127=>
 wg x127 false (W.faddr 1 x111) L126 fun x128 L130=>
 wg x127 false (wl x128 L130) L130 fun x132 L134=>
 b9 x127 false x122 L134 fun x136 L138=>
 W.grd x127 false (fun k140=>wc (.fn 55 []) [x132,x136] L138 fun x142 L143=>
 k140 x142 L143) L138 fun x139 L141=>
 wg x127 false (wb .geq 3 x139 (.int .i64 0)) L141 fun x144 L146=>
 W.pick x127 (.bool true) x144 fun x148=>
 wg x148 false (W.faddr 2 x113) L146 fun x149 L151=>
 wg x148 false (wl x149 L151) L151 fun x153 L155=>
 b9 x148 false x114 L155 fun x157 L159=>
 wg x148 false (W.slice 1 x153 none (some x157) none L159) L159 fun x160 L162=>
 b9 x148 false x122 L162 fun x164 L166=>
 W.grd x148 false (fun k168=>wc (.fn 56 []) [x160,x164] L166 fun x170 L171=>
 k168 x170 L171) L166 fun x167 L169=>
 wg x148 false (wb .geq 3 x167 (.int .i64 0)) L169 fun x172 L174=>
 W.pick x148 (.bool true) x172 fun x176=>
 wk x176 (
 (true=true)∧(
 aY 1 x113 [] 1 L174 fun x178 r179=>
 Q (.tup [(.int .i64 4),x178]) L174)) (
 wb .add 3 x114 (.int .i64 1) fun x180=>
 n109 [x111,x112,x113,x180] L174)
def td(Q:R)(n109:Kn)(L110:SH)(x113 x114 x111 x112:AV):Prop:=
 bf 2 x113 L110 fun x120=>
 BL 1 x120 x114 L110 fun x122=>
 bf 0 x111 L110 fun x124=>
 wc (.fn 54 []) [x124,x122] L110 (ta Q n109 x111 x122 x113 x114 x112)
def iZ(Q:R)(n84:Kn)(v108:Vs)(L110:SH)(n109:Kn):Prop:=
 DU 1 6 7 8 v108 fun x111 x112 x113 x114=>
 bf 2 x113 L110 fun x116=>
 W.len x116 fun x117=>
 wb .lss 3 x114 x117 fun x118=>
 wk x118 (
 (td Q n109 L110 x113 x114 x111 x112)) (
 wb .add 3 x112 (.int .i64 1) fun x181=>
 n84 [x111,x181] L110)
def tf(Q:R)(n84:Kn)(L85:SH)(x86 x87:AV):Prop:=
 bf 1 x86 L85 fun x93=>
 uh 4 x93 x87 L85 fun x95=>
 xW [(.str []),(.int .i64 0),.nils,.nils] 4 x95 L85 fun x99 L100=>
 bf 2 x99 L100 fun x102=>
 W.len x102 fun x103=>
 wb .gtr 3 x103 (.int .i64 4) fun x104=>
 wk x104 (
 (true=true)∧(
 aY 1 x99 [] 1 L100 fun x106 r107=>
 Q (.tup [(.int .i64 2),x106]) L100)) (
 W.loop (iZ Q n84) [x86,x87,x99,(.int .i64 0)] L100)
def i0(Q:R)(v83:Vs)(L85:SH)(n84:Kn):Prop:=
 Gz 1 6 v83 fun x86 x87=>
 bf 1 x86 L85 fun x89=>
 W.len x89 fun x90=>
 wb .lss 3 x87 x90 fun x91=>
 wk x91 (
 (tf Q n84 L85 x86 x87)) (
 Q (.tup [(.int .i64 0),(.int .i64 0)]) L85)
def i2(Q:R)(v4:Vs)(L6:SH)(n5:Kn):Prop:=
 Gz 1 4 v4 fun x7 x8=>
 bf 1 x7 L6 fun x10=>
 W.len x10 fun x11=>
 wb .lss 3 x8 x11 fun x12=>
 wk x12 (
 (s9 Q n5 L6 x7 x8)) (
 W.loop (i0 Q) [x7,(.int .i64 0)] L6)
def jS(t0:AV)(L:SH)(Q:R):Prop:=
 yU t0 L fun x2 L3=>
 W.loop (i2 Q) [x2,(.int .i64 0)] L3
theorem tg(t0:AV)(L:SH)(Q:R)(h:jS t0 L Q):aj Tryz.prog 39 [t0] L Q:=
 bx ⟨fun _=>none,fun k=>if k=2 then [1,4]else if k=14 then [1,6,7,8]else if k=8 then [1,6]else [],fun k=>if k=0 then [1]else if k=4 then [5]else if k=10 then [7]else [],fun k=>if k=5 then [0,1,0,4,15,31,63,127,255,127,1023,127,2175,8191,16383,32767]else if k=6 then [0,1,0,7]else if k=12 then [0,1,0,7]else if k=18 then [0,1,0,7]else []⟩ Tryz.func39 (by kernel_rfl) (by kernel_rfl) h
def ti(n26:Kn)(x29 x30 x28 x40:AV)(L41:SH):Prop:=
 wb .add 3 x29 x40 fun x42=>
 wb .add 3 x30 (.int .i64 1) fun x43=>
 n26 [x28,x42,x43] L41
def tj(Q:R)(n50:Kn)(x54 x52 x53 x67:AV)(L68:SH):Prop:=
 W.ext 0 x67 fun x69=>
 W.ext 1 x67 fun x70=>
 wb .neq 49 x69 (.int .i64 0) fun x71=>
 wk x71 (
 Q (.tup [x69,x70]) L68) (
 wb .add 3 x54 (.int .i64 1) fun x72=>
 n50 [x52,x53,x72] L68)
def tk(Q:R)(n50:Kn)(L51:SH)(x53 x54 x52:AV):Prop:=
 W.nilchk x53 fun x59=>
 W.faddr 2 x59 fun x60=>
 W.store 1 x60 x54 L51 fun L61=>
 bf 1 x52 L61 fun x63=>
 gW 4 3 x63 x54 L61 fun x66=>
 wc (.fn 41 []) [x53,x66] L61 (tj Q n50 x54 x52 x53)
def i4(Q:R)(v49:Vs)(L51:SH)(n50:Kn):Prop:=
 ui 1 10 11 v49 fun x52 x53 x54=>
 bf 1 x52 L51 fun x56=>
 W.len x56 fun x57=>
 wb .lss 3 x54 x57 fun x58=>
 wk x58 (
 (tk Q n50 L51 x53 x54 x52)) (
 Q (.tup [(.int .i64 0),(.int .i64 0)]) L51)
def tm(Q:R)(L27:SH)(x28:AV):Prop:=
 c7 2 x28 L27 fun x45=>
 W.build [.nils,.nils,(.int .i64 0),.nils,.nils,.nils] [(0,2,x45)] fun x46=>
 W.box x46 L27 fun x47 L48=>
 W.loop (i4 Q) [x28,x47,(.int .i64 0)] L48
def i5(Q:R)(v25:Vs)(L27:SH)(n26:Kn):Prop:=
 ui 1 8 9 v25 fun x28 x29 x30=>
 bf 1 x28 L27 fun x32=>
 W.len x32 fun x33=>
 wb .lss 3 x30 x33 fun x34=>
 wk x34 (
 bf 1 x28 L27 fun x36=>
 gW 4 3 x36 x30 L27 fun x39=>
 wc (.fn 40 []) [x39] L27 (ti n26 x29 x30 x28)) (
 wb .gtr 3 x29 (.int .i64 60) fun x44=>
 wk x44 (
 Q (.tup [(.int .i64 2),(.int .i64 0)]) L27) (
 (tm Q L27 x28)))
def tn(Q:R)(x2 x20:AV)(L21:SH):Prop:=
 W.ext 0 x20 fun x22=>
 W.ext 1 x20 fun x23=>
 wb .neq 49 x22 (.int .i64 0) fun x24=>
 wk x24 (
 Q (.tup [x22,x23]) L21) (
 W.loop (i5 Q) [x2,(.int .i64 0),(.int .i64 0)] L21)
def tp(Q:R)(L11:SH)(x2:AV):Prop:=
 bf 1 x2 L11 fun x16=>
 W.len x16 fun x17=>
 wb .gtr 3 x17 (.int .i64 4) fun x18=>
 wk x18 (
 Q (.tup [(.int .i64 2),(.int .i64 0)]) L11) (
 c7 2 x2 L11 fun x19=>
 wc (.fn 39 []) [x19] L11 (tn Q x2))
def tq(Q:R)(x2 x10:AV)(L11:SH):Prop:=
 W.ext 0 x10 fun x12=>
 W.ext 1 x10 fun x13=>
 wb .neq 49 x12 (.int .i64 0) fun x14=>
 wk x14 (
 Q (.tup [x12,x13]) L11) (
 (tp Q L11 x2))
def tt(Q:R)(x2 x5:AV)(L6:SH):Prop:=
 W.un .not x5 fun x7=>
 wk x7 (
 Q (.tup [(.int .i64 3),(.int .i64 0)]) L6) (
 bf 0 x2 L6 fun x9=>
 wc (.fn 38 []) [x9] L6 (tq Q x2))
def jT(t0:AV)(L:SH)(Q:R):Prop:=
 yU t0 L fun x2 L3=>
 c7 2 x2 L3 fun x4=>
 wc (.fn 37 []) [x4] L3 (tt Q x2)
theorem tu(t0:AV)(L:SH)(Q:R)(h:jT t0 L Q):aj Tryz.prog 17 [t0] L Q:=
 bx ⟨fun _=>none,fun k=>if k=13 then [1,8,9]else if k=20 then [1,10,11]else [],fun k=>if k=0 then [1]else [],fun _=>[]⟩ Tryz.func17 (by kernel_rfl) (by kernel_rfl) h
def kV(Q:R)(n1:Kn)(L2:SH)(x3 x7 x4 x5 x6:AV):Prop:=
 dh 3 x3 L2 fun x15=>
 uh 11 x15 x7 L2 fun x17=>
 xW [(.int .i64 0),(.int .i64 0),(.str []),(.str []),.nils,(.int .i64 0),(.int .i64 0),(.str []),.nils,.nils,.nils] 11 x17 L2 fun x21 L22=>
 bf 0 x21 L22 fun x24=>
 wb .eql 3 x24 x4 fun x25=>
 wg x25 false (W.faddr 0 x21) L22 fun x26 L28=>
 wg x25 false (wl x26 L28) L28 fun x30 L32=>
 b9 x25 false x5 L32 fun x34 L36=>
 wg x25 false (wb .eql 3 x30 x34) L36 fun x37 L39=>
 W.pick x25 (.bool true) x37 fun x41=>
 b9 x41 true x6 L39 fun x42 L44=>
 wg x41 true (wb .eql 9 x42 (.str [])) L44 fun x45 L47=>
 b9 x41 true x45 L47 fun x49 L51=>
 wg x49 false (W.faddr 2 x21) L51 fun x52 L54=>
 wg x49 false (wl x52 L54) L54 fun x56 L58=>
 b9 x49 false x6 L58 fun x60 L62=>
 wg x49 false (wb .eql 9 x56 x60) L62 fun x63 L65=>
 wg x41 true (W.pick x49 (.bool true) x63) L65 fun x67 L69=>
 W.pick x41 x67 (.bool false) fun x71=>
 wk x71 (
 Q (.bool true) L69) (
 wb .add 3 x7 (.int .i64 1) fun x72=>
 n1 [x3,x4,x5,x6,x72] L69)
def dC(Q:R)(v0:Vs)(L2:SH)(n1:Kn):Prop:=
 B5 0 1 2 3 9 v0 fun x3 x4 x5 x6 x7=>
 dh 3 x3 L2 fun x10=>
 W.len x10 fun x11=>
 wb .lss 3 x7 x11 fun x12=>
 wk x12 (
 (kV Q n1 L2 x3 x7 x4 x5 x6)) (
 Q (.bool false) L2)
def fR(t0 t1 t2 t3:AV)(L:SH)(Q:R):Prop:=
 W.loop (dC Q) [t0,t1,t2,t3,(.int .i64 0)] L
theorem kW(t0 t1 t2 t3:AV)(L:SH)(Q:R)(h:fR t0 t1 t2 t3 L Q):aj Tryz.prog 74 [t0,t1,t2,t3] L Q:=
 bx ⟨fun _=>none,fun k=>if k=2 then [0,1,2,3,9]else [],fun k=>if k=4 then [10]else [],fun _=>[]⟩ Tryz.func74 (by kernel_rfl) (by kernel_rfl) h
def ri(Q:R)(L57:SH)(x59:AV)(L61:SH)(q60:Ns):Prop:=
 wn [] q60 [] L57.names fun r62=>
 Q x59 L61
def rj(Q:R)(L53:SH)(x38 x55:AV)(L57:SH)(q56:Ns):Prop:=
 wn [] q56 [] L53.names fun r58=>
 wd [] 13 (.fn 75 []) [x38,x55] L57 (ri Q L57)
def rk(Q:R)(L49:SH)(x47 x38 x51:AV)(L53:SH)(q52:Ns):Prop:=
 wn [] q52 [] L49.names fun r54=>
 wd [] 12 (.fn 75 []) [x47,x51] L53 (rj Q L53 x38)
def rl(Q:R)(L40:SH)(x32 x38 x47:AV)(L49:SH)(q48:Ns):Prop:=
 wn [] q48 [] L40.names fun r50=>
 wd [] 11 (.fn 78 []) [x32] L49 (rk Q L49 x47 x38)
def rn(Q:R)(L27:SH)(x30 x28 x31 x32:AV)(r37 r34:Fp)(x38:AV)(L40:SH)(q39:Ns):Prop:=
 wn [] q39 [] L27.names fun r41=>
 dr [rc 4 r41,rm 3 r37,rm 0 r34] 5 2 x30 L40 fun x42 r43=>
 aY 3 x28 [rm 5 r43,rc 4 r41,rm 3 r37,rm 0 r34] 8 L40 fun x45 r46=>
 wd [] 9 (.fn 76 []) [x42,x31,x45,(.int .i64 6),(.int .i64 6)] L40 (rl Q L40 x32 x38)
def ro(Q:R)(v25:Vs)(L27:SH):Prop:=
 B5 3 4 5 6 7 v25 fun x28 x29 x30 x31 x32=>
 (true=true)∧(
 dr [] 0 2 x30 L27 fun x33 r34=>
 aY 2 x28 [rm 0 r34] 3 L27 fun x36 r37=>
 wd [] 4 (.fn 76 []) [x33,x31,x36,(.int .i64 8),(.int .i64 8)] L27 (rn Q L27 x30 x28 x31 x32 r37 r34))
def rq(Q:R)(L86:SH)(x88:AV)(L90:SH)(q89:Ns):Prop:=
 wn [] q89 [] L86.names fun r91=>
 Q x88 L90
def rr(Q:R)(L77:SH)(x75 x84:AV)(L86:SH)(q85:Ns):Prop:=
 wn [] q85 [] L77.names fun r87=>
 wd [] 10 (.fn 75 []) [x75,x84] L86 (rq Q L86)
def rt(Q:R)(L24:SH)(x17 x2 x10:AV)(r74 r71:Fp)(x75:AV)(L77:SH)(q76:Ns):Prop:=
 wn [] q76 [] L24.names fun r78=>
 dr [rc 4 r78,rm 3 r74,rm 0 r71] 5 2 x17 L77 fun x79 r80=>
 W.faddr 5 x2 fun x81=>
 dr [rm 5 r80,rc 4 r78,rm 3 r74,rm 0 r71] 8 4 x81 L77 fun x82 r83=>
 wd [] 9 (.fn 77 []) [x79,x10,x82] L77 (rr Q L77 x75)
def ru(Q:R)(L24:SH)(x17 x2 x10:AV):Prop:=
 (true=true)∧(
 dr [] 0 2 x17 L24 fun x70 r71=>
 aY 2 x2 [rm 0 r71] 3 L24 fun x73 r74=>
 wd [] 4 (.fn 76 []) [x70,x10,x73,(.int .i64 8),(.int .i64 1)] L24 (rt Q L24 x17 x2 x10 r74 r71))
def rv(Q:R)(L125:SH)(x127:AV)(L129:SH)(q128:Ns):Prop:=
 wn [] q128 [] L125.names fun r130=>
 Q x127 L129
def nW(Q:R)(L121:SH)(x97 x123:AV)(L125:SH)(q124:Ns):Prop:=
 wn [] q124 [] L121.names fun r126=>
 wd [] 18 (.fn 75 []) [x97,x123] L125 (rv Q L125)
def nX(Q:R)(L112:SH)(x110 x97 x119:AV)(L121:SH)(q120:Ns):Prop:=
 wn [] q120 [] L112.names fun r122=>
 wd [] 17 (.fn 75 []) [x110,x119] L121 (nW Q L121 x97)
def nY(Q:R)(L99:SH)(x17 x2 x10 x97:AV)(r109 r107 r105 r102 r100 r96 r93:Fp)(x110:AV)(L112:SH)(q111:Ns):Prop:=
 wn [] q111 [] L99.names fun r113=>
 dr [rc 11 r113,rm 10 r109,rm 9 r107,rm 8 r105,rm 5 r102,rc 4 r100,rm 3 r96,rm 0 r93] 12 2 x17 L112 fun x114 r115=>
 W.faddr 5 x2 fun x116=>
 dr [rm 12 r115,rc 11 r113,rm 10 r109,rm 9 r107,rm 8 r105,rm 5 r102,rc 4 r100,rm 3 r96,rm 0 r93] 15 4 x116 L112 fun x117 r118=>
 wd [] 16 (.fn 77 []) [x114,x10,x117] L112 (nX Q L112 x110 x97)
def nZ(Q:R)(L24:SH)(x17 x2 x10:AV)(r96 r93:Fp)(x97:AV)(L99:SH)(q98:Ns):Prop:=
 wn [] q98 [] L24.names fun r100=>
 dr [rc 4 r100,rm 3 r96,rm 0 r93] 5 2 x17 L99 fun x101 r102=>
 aY 4 x2 [rm 5 r102,rc 4 r100,rm 3 r96,rm 0 r93] 8 L99 fun x104 r105=>
 di [rm 5 r102,rc 4 r100,rm 3 r96,rm 0 r93] 9 4 x104 (.int .i64 0) L99 fun x106 r107=>
 dr [rm 5 r102,rc 4 r100,rm 3 r96,rm 0 r93] 10 4 x106 L99 fun x108 r109=>
 wd [] 11 (.fn 77 []) [x101,x10,x108] L99 (nY Q L99 x17 x2 x10 x97 r109 r107 r105 r102 r100 r96 r93)
def rx(Q:R)(L24:SH)(x17 x2 x10:AV):Prop:=
 (true=true)∧(
 dr [] 0 2 x17 L24 fun x92 r93=>
 aY 2 x2 [rm 0 r93] 3 L24 fun x95 r96=>
 wd [] 4 (.fn 76 []) [x92,x10,x95,(.int .i64 2),(.int .i64 2)] L24 (nZ Q L24 x17 x2 x10 r96 r93))
def ry(Q:R)(L24:SH)(x2 x17 x10:AV):Prop:=
 bf 4 x2 L24 fun x67=>
 W.len x67 fun x68=>
 wb .eql 3 x68 (.int .i64 0) fun x69=>
 wk x69 (
 (ru Q L24 x17 x2 x10)) (
 (rx Q L24 x17 x2 x10))
def n6(Q:R)(x152 x171:AV)(L172:SH):Prop:=
 wc (.fn 75 []) [x152,x171] L172 fun x173 L174=>
 Q x173 L174
def n7(Q:R)(x138 x134 x135 x152:AV)(L153:SH):Prop:=
 b9 x138 false x134 L153 fun x154 L156=>
 wg x138 false (W.faddr 2 x135) L156 fun x157 L159=>
 wg x138 false (wl x157 L159) L159 fun x161 L163=>
 W.grd x138 false (fun k166=>wc (.fn 74 []) [x154,(.int .i64 4),(.int .i64 4),x161] L163 fun x168 L169=>
 k166 x168 L169) L163 fun x165 L167=>
 W.pick x138 (.bool true) x165 fun x170=>
 wc (.fn 78 []) [x170] L167 (n6 Q x152)
def rA(Q:R)(L133:SH)(x136 x135 x137 x138 x134:AV):Prop:=
 c7 2 x136 L133 fun x149=>
 bf 2 x135 L133 fun x151=>
 wc (.fn 76 []) [x149,x137,x151,(.int .i64 3),(.int .i64 3)] L133 (n7 Q x138 x134 x135)
def n8(Q:R)(x190 x209:AV)(L210:SH):Prop:=
 wc (.fn 75 []) [x190,x209] L210 fun x211 L212=>
 Q x211 L212
def n9(Q:R)(x182 x178 x179 x190:AV)(L191:SH):Prop:=
 b9 x182 false x178 L191 fun x192 L194=>
 wg x182 false (W.faddr 2 x179) L194 fun x195 L197=>
 wg x182 false (wl x195 L197) L197 fun x199 L201=>
 W.grd x182 false (fun k204=>wc (.fn 74 []) [x192,(.int .i64 5),(.int .i64 6),x199] L201 fun x206 L207=>
 k204 x206 L207) L201 fun x203 L205=>
 W.pick x182 (.bool true) x203 fun x208=>
 wc (.fn 78 []) [x208] L205 (n8 Q x190)
def rB(Q:R)(L177:SH)(x180 x179 x181 x182 x178:AV):Prop:=
 c7 2 x180 L177 fun x187=>
 bf 2 x179 L177 fun x189=>
 wc (.fn 76 []) [x187,x181,x189,(.int .i64 4),(.int .i64 4)] L177 (n9 Q x182 x178 x179)
def oa(Q:R)(L252:SH)(x230 x227 x231 x259:AV)(L261:SH)(q260:Ns):Prop:=
 wn [] q260 [] L252.names fun r262=>
 b9 x230 false x259 L261 fun x263 L265=>
 wg x230 false (W.un .not x263) L265 fun x266 L268=>
 W.pick x230 (.bool true) x266 fun x270=>
 wg x270 false (W.faddr 0 x227) L268 fun x271 L273=>
 wg x270 false (wl x271 L273) L273 fun x275 L277=>
 wg x270 false (wb .eql 3 x275 (.int .i64 9)) L277 fun x279 L281=>
 b9 x270 false x279 L281 fun x283 L285=>
 b9 x283 true x231 L285 fun x286 L288=>
 wg x270 false (W.pick x283 x286 (.bool false)) L288 fun x289 L291=>
 W.pick x270 (.bool true) x289 fun x293=>
 wc (.fn 78 []) [x293] L291 fun x294 L295=>
 Q x294 L295
def oe(Q:R)(L239:SH)(x242 x226 x230 x227 x231 x250:AV)(L252:SH)(q251:Ns):Prop:=
 wn [] q251 [] L239.names fun r253=>
 di [] 8 6 x242 x250 L252 fun x254 r255=>
 aY 5 x254 [] 10 L252 fun x257 r258=>
 wd [] 11 (.fn 74 []) [x226,(.int .i64 4),(.int .i64 4),x257] L252 (oa Q L252 x230 x227 x231)
def rC(Q:R)(L239:SH)(x228 x227 x226 x230 x231:AV):Prop:=
 (true=true)∧(
 aY 0 x228 [] 2 L239 fun x242 r243=>
 aY 0 x228 [rm 2 r243] 4 L239 fun x245 r246=>
 aY 2 x227 [rm 4 r246,rm 2 r243] 6 L239 fun x248 r249=>
 wd [rm 2 r243] 7 (.fn 54 []) [x245,x248] L239 (oe Q L239 x242 x226 x230 x227 x231))
def og(Q:R)(x228 x227 x226 x230 x231 x238:AV)(L239:SH):Prop:=
 wb .neq 49 x238 (.int .i64 0) fun x240=>
 wk x240 (
 Q x238 L239) (
 (rC Q L239 x228 x227 x226 x230 x231))
def rD(Q:R)(L225:SH)(x228 x227 x229 x226 x230 x231:AV):Prop:=
 c7 2 x228 L225 fun x235=>
 bf 2 x227 L225 fun x237=>
 wc (.fn 76 []) [x235,x229,x237,(.int .i64 5),(.int .i64 5)] L225 (og Q x228 x227 x226 x230 x231)
def rE(Q:R)(L345:SH)(x226 x227:AV):Prop:=
 (true=true)∧(
 W.nilchk x226 fun x348=>
 aY 4 x348 [] 4 L345 fun x350 r351=>
 aY 2 x227 [rm 4 r351] 6 L345 fun x353 r354=>
 W.calm [rm 4 r351] ⟨7,[],[],[],false,[]⟩ (
 W.bslice 1 [(.str [])] 1 [(0,x353)] L345 fun x355 L356=>
 wn [] [] (ac x355) [] fun r357=>
 W.calm [] ⟨8,(ac x350++ac x355),(ac x350),[],false,[]⟩ (
 W.append 1 16 x350 x355 L356 fun x358 L359=>
 wn (ac x350++ac x355) (ac x350) (ac x358) [] fun r360=>
 W.nilchk x226 fun x361=>
 W.faddr 4 x361 fun x362=>
 ds [] 11 1 x362 x358 L359 fun L363 r364=>
 Q (.int .i64 0) L363)))
def oh(Q:R)(L333:SH)(x226 x227 x343:AV)(L345:SH)(q344:Ns):Prop:=
 wn [] q344 [] L333.names fun r346=>
 wb .geq 3 x343 (.int .i64 0) fun x347=>
 wk x347 (
 Q (.int .i64 8) L345) (
 (rE Q L345 x226 x227))
def rF(Q:R)(L333:SH)(x226 x227:AV):Prop:=
 (true=true)∧(
 W.nilchk x226 fun x336=>
 aY 4 x336 [] 3 L333 fun x338 r339=>
 aY 2 x227 [rm 3 r339] 5 L333 fun x341 r342=>
 wd [] 6 (.fn 56 []) [x338,x341] L333 (oh Q L333 x226 x227))
def om(Q:R)(x230 x231 x232 x229 x226 x227 x307:AV)(L308:SH):Prop:=
 b9 x230 false x231 L308 fun x309 L311=>
 W.pick x230 (.bool true) x309 fun x312=>
 b9 x312 false x232 L311 fun x313 L315=>
 W.pick x312 (.bool true) x313 fun x316=>
 b9 x316 false x307 L315 fun x317 L319=>
 b9 x316 false x229 L319 fun x320 L322=>
 wg x316 false (wb .eql 3 x317 x320) L322 fun x323 L325=>
 W.pick x316 (.bool true) x323 fun x327=>
 b9 x327 false x307 L325 fun x328 L330=>
 wg x327 false (wb .eql 3 x328 (.int .i64 0)) L330 fun x331 L333=>
 W.pick x327 (.bool true) x331 fun x335=>
 wk x335 (
 Q (.int .i64 7) L333) (
 (rF Q L333 x226 x227))
def oo(Q:R)(x228 x227 x230 x231 x232 x229 x226 x300:AV)(L301:SH):Prop:=
 wb .neq 49 x300 (.int .i64 0) fun x302=>
 wk x302 (
 Q x300 L301) (
 bf 1 x228 L301 fun x304=>
 bf 2 x227 L301 fun x306=>
 wc (.fn 55 []) [x304,x306] L301 (om Q x230 x231 x232 x229 x226 x227))
def rG(Q:R)(L225:SH)(x228 x227 x229 x230 x231 x232 x226:AV):Prop:=
 c7 2 x228 L225 fun x297=>
 bf 2 x227 L225 fun x299=>
 wc (.fn 76 []) [x297,x229,x299,(.int .i64 7),(.int .i64 7)] L225 (oo Q x228 x227 x230 x231 x232 x229 x226)
def oq(Q:R)(x369 x404:AV)(L405:SH):Prop:=
 wc (.fn 75 []) [x369,x404] L405 fun x406 L407=>
 Q x406 L407
def ou(Q:R)(x230 x231 x228 x227 x229 x369:AV)(L370:SH):Prop:=
 b9 x230 false x231 L370 fun x371 L373=>
 W.pick x230 (.bool true) x371 fun x374=>
 wg x374 false (W.faddr 1 x228) L373 fun x375 L377=>
 wg x374 false (wl x375 L377) L377 fun x379 L381=>
 wg x374 false (W.faddr 2 x227) L381 fun x383 L385=>
 wg x374 false (wl x383 L385) L385 fun x387 L389=>
 W.grd x374 false (fun k392=>wc (.fn 55 []) [x379,x387] L389 fun x394 L395=>
 k392 x394 L395) L389 fun x391 L393=>
 b9 x374 false x229 L393 fun x396 L398=>
 wg x374 false (wb .eql 3 x391 x396) L398 fun x399 L401=>
 W.pick x374 (.bool true) x399 fun x403=>
 wc (.fn 78 []) [x403] L401 (oq Q x369)
def ov(Q:R)(L225:SH)(x228 x227 x229 x230 x231:AV):Prop:=
 c7 2 x228 L225 fun x366=>
 bf 2 x227 L225 fun x368=>
 wc (.fn 76 []) [x366,x229,x368,(.int .i64 7),(.int .i64 7)] L225 (ou Q x230 x231 x228 x227 x229)
def ow(Q:R)(v447:Vs)(L449:SH):Prop:=
 B5 3 4 5 6 7 v447 fun x450 x451 x452 x453 x454=>
 Q x451 L449
def oz(j448:Kn)(v422:Vs)(x426 x427 x428 x460:AV)(L461:SH):Prop:=
 j448 [x426,x460,x427,x428,(ay [0,3,5,6,14] v422 7)] L461
def oA(j448:Kn)(v422:Vs)(x429 x426 x427 x428 x458:AV)(L459:SH):Prop:=
 wc (.fn 75 []) [x429,x458] L459 (oz j448 v422 x426 x427 x428)
def oC(Q:R)(v422:Vs)(L424:SH):Prop:=
 B5 0 3 5 6 14 v422 fun x425 x426 x427 x428 x429=>
 (true=true)∧(
 W.nilchk x425 fun x430=>
 aY 5 x430 [] 4 L424 fun x432 r433=>
 aY 2 x426 [rm 4 r433] 6 L424 fun x435 r436=>
 W.calm [rm 4 r433] ⟨7,[],[],[],false,[]⟩ (
 W.bslice 1 [(.str [])] 1 [(0,x435)] L424 fun x437 L438=>
 wn [] [] (ac x437) [] fun r439=>
 W.calm [] ⟨8,(ac x432++ac x437),(ac x432),[],false,[]⟩ (
 W.append 1 16 x432 x437 L438 fun x440 L441=>
 wn (ac x432++ac x437) (ac x432) (ac x440) [] fun r442=>
 W.nilchk x425 fun x443=>
 W.faddr 5 x443 fun x444=>
 ds [] 11 1 x444 x440 L441 fun L445 r446=>
 W.join (ow Q) fun j448=>
 c7 2 x427 L445 fun x455=>
 W.faddr 5 x426 fun x456=>
 c7 4 x456 L445 fun x457=>
 wc (.fn 77 []) [x455,x428,x457] L445 (oA j448 v422 x429 x426 x427 x428))))
def oD(Q:R)(x226 x227 x228 x229 x420:AV)(L421:SH):Prop:=
 W.join (oC Q) fun j423=>
 (true=true)∧(
 wb .eql 49 x420 (.int .i64 0) fun x462=>
 W.dgrd x462 true (fun k464=>k464 x226 L421 rz) L421 fun x463 L466 r465=>
 W.dgrd x462 true (fun k468=>W.nilchk x463 fun x471=>
 k468 x471 L466 rz) L466 fun x467 L470 r469=>
 W.dgrd x462 true (fun k473=>W.faddr 5 x467 fun x476=>
 k473 x476 L470 rz) L470 fun x472 L475 r474=>
 W.dgrd x462 true (fun k478=>dl [] 6 x472 L475 fun x481 r482=>
 k478 x481 L475 r482) L475 fun x477 L480 r479=>
 W.dgrd x462 true (fun k484=>W.faddr 2 x227 fun x487=>
 k484 x487 L480 rz) L480 fun x483 L486 r485=>
 W.dgrd x462 true (fun k489=>dl [rm 6 r479] 8 x483 L486 fun x492 r493=>
 k489 x492 L486 r493) L486 fun x488 L491 r490=>
 W.dgrd x462 true (fun k495=>wd [] 9 (.fn 56 []) [x477,x488] L491 fun x498 L500 q499=>
 wn [] q499 [] L491.names fun r501=>
 k495 x498 L500 r501) L491 fun x494 L497 r496=>
 W.dgrd x462 true (fun k503=>wb .geq 3 x494 (.int .i64 0) fun x506=>
 k503 x506 L497 rz) L497 fun x502 L505 r504=>
 W.pick x462 x502 (.bool false) fun x507=>
 wk x507 (
 j423 [x226,x227,x228,x229,(.int .i64 8)] L505) (
 j423 [x226,x227,x228,x229,x420] L505))
def oE(Q:R)(x412 x226 x227 x228 x229 x418:AV)(L419:SH):Prop:=
 wc (.fn 75 []) [x412,x418] L419 (oD Q x226 x227 x228 x229)
def oF(Q:R)(x230 x232 x226 x227 x228 x229 x412:AV)(L413:SH):Prop:=
 b9 x230 false x232 L413 fun x414 L416=>
 W.pick x230 (.bool true) x414 fun x417=>
 wc (.fn 78 []) [x417] L416 (oE Q x412 x226 x227 x228 x229)
def oG(Q:R)(L225:SH)(x228 x227 x229 x230 x232 x226:AV):Prop:=
 c7 2 x228 L225 fun x409=>
 bf 2 x227 L225 fun x411=>
 wc (.fn 76 []) [x409,x229,x411,(.int .i64 6),(.int .i64 6)] L225 (oF Q x230 x232 x226 x227 x228 x229)
def oH(Q:R)(j26:Kn)(v223:Vs)(L225:SH)(x233 x228 x227 x229 x230 x232 x226:AV):Prop:=
 wb .eql 3 x233 (.int .i64 14) fun x408=>
 wk x408 (
 (oG Q L225 x228 x227 x229 x230 x232 x226)) (
 j26 [x227,(ay [0,3,5,6,7,8,9,30,119] v223 4),x228,x229,x230] L225)
def oI(Q:R)(j26:Kn)(v223:Vs)(L225:SH)(x233 x228 x227 x229 x230 x231 x232 x226:AV):Prop:=
 wb .eql 3 x233 (.int .i64 13) fun x365=>
 wk x365 (
 (ov Q L225 x228 x227 x229 x230 x231)) (
 (oH Q j26 v223 L225 x233 x228 x227 x229 x230 x232 x226))
def oJ(Q:R)(j26:Kn)(v223:Vs)(L225:SH)(x233 x228 x227 x229 x230 x231 x232 x226:AV):Prop:=
 wb .eql 3 x233 (.int .i64 12) fun x296=>
 wk x296 (
 (rG Q L225 x228 x227 x229 x230 x231 x232 x226)) (
 (oI Q j26 v223 L225 x233 x228 x227 x229 x230 x231 x232 x226))
def oK(Q:R)(j26:Kn)(v223:Vs)(L225:SH):Prop:=
 Iw 0 3 5 6 7 8 9 30 119 v223 fun x226 x227 x228 x229 x230 x231 x232 x233 x234=>
 wk x234 (
 (rD Q L225 x228 x227 x229 x226 x230 x231)) (
 (oJ Q j26 v223 L225 x233 x228 x227 x229 x230 x231 x232 x226))
def oL(j224:Kn)(L177:SH)(x185 x178 x179 x180 x181 x182 x183 x184:AV):Prop:=
 wb .eql 3 x185 (.int .i64 10) fun x509=>
 wk x509 (
 j224 [x178,x179,x180,x181,x182,x183,x184,x185,x509] L177) (
 wb .eql 3 x185 (.int .i64 11) fun x510=>
 j224 [x178,x179,x180,x181,x182,x183,x184,x185,x510] L177)
def oM(Q:R)(j26:Kn)(L177:SH)(x185 x178 x179 x180 x181 x182 x183 x184:AV):Prop:=
 W.join (oK Q j26) fun j224=>
 wb .eql 3 x185 (.int .i64 9) fun x508=>
 wk x508 (
 j224 [x178,x179,x180,x181,x182,x183,x184,x185,x508] L177) (
 (oL j224 L177 x185 x178 x179 x180 x181 x182 x183 x184))
def oN(Q:R)(j26:Kn)(L177:SH)(x185 x182 x183 x178 x179 x180 x181 x184:AV):Prop:=
 wb .eql 3 x185 (.int .i64 8) fun x216=>
 wk x216 (
 b9 x182 false x183 L177 fun x217 L219=>
 W.pick x182 (.bool true) x217 fun x220=>
 wc (.fn 78 []) [x220] L219 fun x221 L222=>
 Q x221 L222) (
 (oM Q j26 L177 x185 x178 x179 x180 x181 x182 x183 x184))
def oO(Q:R)(j26:Kn)(L177:SH)(x185 x182 x183 x178 x179 x180 x181 x184:AV):Prop:=
 wb .eql 3 x185 (.int .i64 7) fun x213=>
 wk x213 (
 wc (.fn 78 []) [x182] L177 fun x214 L215=>
 Q x214 L215) (
 (oN Q j26 L177 x185 x182 x183 x178 x179 x180 x181 x184))
def oP(Q:R)(j26:Kn)(v175:Vs)(L177:SH):Prop:=
 Iw 0 3 5 6 7 8 9 30 91 v175 fun x178 x179 x180 x181 x182 x183 x184 x185 x186=>
 wk x186 (
 (rB Q L177 x180 x179 x181 x182 x178)) (
 (oO Q j26 L177 x185 x182 x183 x178 x179 x180 x181 x184))
def oQ(Q:R)(j26:Kn)(L133:SH)(x141 x134 x135 x136 x137 x138 x139 x140:AV):Prop:=
 W.join (oP Q j26) fun j176=>
 wb .eql 3 x141 (.int .i64 5) fun x511=>
 wk x511 (
 j176 [x134,x135,x136,x137,x138,x139,x140,x141,x511] L133) (
 wb .eql 3 x141 (.int .i64 6) fun x512=>
 j176 [x134,x135,x136,x137,x138,x139,x140,x141,x512] L133)
def oR(Q:R)(j26:Kn)(L133:SH)(x141 x136 x135 x137 x138 x134 x139 x140:AV):Prop:=
 wb .eql 3 x141 (.int .i64 4) fun x148=>
 wk x148 (
 (rA Q L133 x136 x135 x137 x138 x134)) (
 (oQ Q j26 L133 x141 x134 x135 x136 x137 x138 x139 x140))
def oS(Q:R)(j26:Kn)(v131:Vs)(L133:SH):Prop:=
 Iw 0 3 5 6 7 8 9 30 67 v131 fun x134 x135 x136 x137 x138 x139 x140 x141 x142=>
 wk x142 (
 c7 2 x136 L133 fun x143=>
 W.faddr 5 x135 fun x144=>
 c7 4 x144 L133 fun x145=>
 wc (.fn 77 []) [x143,x137,x145] L133 fun x146 L147=>
 Q x146 L147) (
 (oR Q j26 L133 x141 x136 x135 x137 x138 x134 x139 x140))
def oU(Q:R)(j26:Kn)(L24:SH)(t0 x64 x2 x17 x10 x19 x21 x23:AV):Prop:=
 W.join (oS Q j26) fun j132=>
 wb .eql 3 x64 (.int .i64 2) fun x513=>
 wk x513 (
 j132 [t0,x2,x17,x10,x19,x21,x23,x64,x513] L24) (
 wb .eql 3 x64 (.int .i64 3) fun x514=>
 j132 [t0,x2,x17,x10,x19,x21,x23,x64,x514] L24)
def oV(Q:R)(t0 x2 x17 x10 x19 x21 x23:AV)(L24:SH):Prop:=
 W.join (ro Q) fun j26=>
 bf 0 x2 L24 fun x64=>
 wb .eql 3 x64 (.int .i64 1) fun x65=>
 wk x65 (
 (ry Q L24 x2 x17 x10)) (
 (oU Q j26 L24 t0 x64 x2 x17 x10 x19 x21 x23))
def oW(Q:R)(t0 x2 x17 x10 x19 x21:AV)(L22:SH):Prop:=
 wc (.fn 74 []) [t0,(.int .i64 3),(.int .i64 3),(.str [])] L22 (oV Q t0 x2 x17 x10 x19 x21)
def oX(Q:R)(t0 x2 x17 x10 x19:AV)(L20:SH):Prop:=
 wc (.fn 74 []) [t0,(.int .i64 8),(.int .i64 8),(.str [])] L20 (oW Q t0 x2 x17 x10 x19)
def i6(t0 t1:AV)(L:SH)(Q:R):Prop:=
 yU t1 L fun x2 L3=>
 (true=true)∧(
 W.nilchk t0 fun x4=>
 W.faddr 0 x4 fun x5=>
 dr [] 3 2 x5 L3 fun x6 r7=>
 W.nilchk t0 fun x8=>
 aY 2 x8 [rm 3 r7] 7 L3 fun x10 r11=>
 W.calm [rm 7 r11,rm 3 r7] ⟨8,[],[],[],false,[]⟩ (
 W.alloc [.nils,.nils] L3 fun x12 L13=>
 wn [] [] (ac x12) [] fun r14=>
 ds [rm 7 r11] 9 2 x12 x6 L13 fun L15 r16=>
 W.frz1 x12 L15 fun x17 L18=>
 wc (.fn 74 []) [t0,(.int .i64 7),(.int .i64 7),(.str [])] L18 (oX Q t0 x2 x17 x10)))
theorem rH(t0 t1:AV)(L:SH)(Q:R)(h:i6 t0 t1 L Q):aj Tryz.prog 57 [t0,t1] L Q:=
 bx ⟨fun k=>if k=48 then some [3,4,5,6,7]else if k=11 then some [0,3,5,6,7,8,9,30,67]else if k=16 then some [0,3,5,6,7,8,9,30,91]else if k=24 then some [0,3,5,6,7,8,9,30,119]else if k=46 then some [0,3,5,6,14]else none,fun _=>[],fun k=>if k=0 then [3]else if k=1 then [5]else [],fun k=>if k=1 then [0,1,3,7,0,16,48,112,0,271,1023]else if k=8 then [0,0,0,4,15,0,0,0,128,511,1023,2047]else if k=9 then [0,0,0,4,15,0,0,0,128,384,896,2047,0,0,0,16384,65535,131071,262143,524287]else if k=28 then [0,0,2,0,8,0,32,120,254,510,1022,2047,4095]else if k=37 then [0,1,3,7,0,16,63,127]else if k=39 then [0,0,2,6,14,0,32,96,254,511,1023,2047]else if k=45 then [0,1,3,7,15,31,63,7,135,511,1023,2047]else if k=47 then [0,0,2,6,14,0,32,96,254,511,1023,2047]else if k=49 then [0,0,0,4,15,0,0,0,128,511,0,2047,4095,8191,16383]else []⟩ Tryz.func57 (by kernel_rfl) (by kernel_rfl) h
def eP(Q:R)(n1:Kn)(v57:Vs)(L59:SH):Prop:=
 B5 0 1 6 8 9 v57 fun x60 x61 x62 x63 x64=>
 (true=true)∧(
 W.nilchk x60 fun x65=>
 aY 3 x65 [] 4 L59 fun x67 r68=>
 W.nilchk x60 fun x69=>
 aY 3 x69 [rm 4 r68] 8 L59 fun x71 r72=>
 W.len x71 fun x73=>
 wb .sub 3 x73 (.int .i64 1) fun x74=>
 W.calm [] ⟨11,(dt x67),[],[],false,[]⟩ (
 W.slice 11 x67 none (some x74) none L59 fun x75=>
 wn (dt x67) [] [] [] fun r76=>
 W.nilchk x60 fun x77=>
 W.faddr 3 x77 fun x78=>
 ds [] 14 1 x78 x75 L59 fun L79 r80=>
 wb .neq 49 x63 (.int .i64 0) fun x81=>
 wk x81 (
 Q (.tup [x63,x64]) L79) (
 wb .add 3 x62 (.int .i64 1) fun x82=>
 n1 [x60,x61,x82] L79)))
def il(j58:Kn)(x21 x22 x23 x86:AV)(L87:SH):Prop:=
 W.ext 0 x86 fun x88=>
 W.ext 1 x86 fun x89=>
 j58 [x21,x22,x23,x88,x89] L87
def eQ(Q:R)(n1:Kn)(x24 x21 x22 x23 x53:AV)(L54:SH):Prop:=
 W.ext 0 x53 fun x55=>
 W.ext 1 x53 fun x56=>
 W.join (eP Q n1) fun j58=>
 wb .eql 49 x55 (.int .i64 0) fun x83=>
 wk x83 (
 bf 10 x24 L54 fun x85=>
 wc (.fn 41 []) [x21,x85] L54 (il j58 x21 x22 x23)) (
 j58 [x21,x22,x23,x55,x56] L54)
def rI(Q:R)(n1:Kn)(L20:SH)(x21 x24 x22 x23:AV):Prop:=
 (true=true)∧(
 W.nilchk x21 fun x30=>
 aY 3 x30 [] 3 L20 fun x32 r33=>
 dr [rm 3 r33] 4 11 x24 L20 fun x34 r35=>
 W.len x32 fun x36=>
 W.calm [rm 4 r35,rm 3 r33] ⟨6,[],[],[],false,[]⟩ (
 W.bslice 11 [(.int .i64 0),(.int .i64 0),(.str []),(.str []),.nils,(.int .i64 0),(.int .i64 0),(.str []),.nils,.nils,.nils] 1 [(0,(.agg [(.int .i64 0),(.int .i64 0),(.str []),(.str []),.nils,(.int .i64 0),(.int .i64 0),(.str []),.nils,.nils,.nils]))] L20 fun x37 L38=>
 wn [] [] (ac x37) [] fun r39=>
 W.calm [] ⟨7,(ac x32++ac x37),(ac x32),[],false,[]⟩ (
 W.append 11 176 x32 x37 L38 fun x40 L41=>
 wn (ac x32++ac x37) (ac x32) (ac x40) [] fun r42=>
 di [] 8 11 x40 x36 L41 fun x43 r44=>
 ds [] 9 11 x43 x34 L41 fun L45 r46=>
 W.nilchk x21 fun x47=>
 W.faddr 3 x47 fun x48=>
 ds [rm 9 r46,rm 8 r44] 12 1 x48 x40 L45 fun L49 r50=>
 bf 9 x24 L49 fun x52=>
 wc (.fn 41 []) [x21,x52] L49 (eQ Q n1 x24 x21 x22 x23))))
def eR(Q:R)(n1:Kn)(v18:Vs)(L20:SH):Prop:=
 B5 0 1 6 7 8 v18 fun x21 x22 x23 x24 x25=>
 wb .neq 49 x25 (.int .i64 0) fun x26=>
 wk x26 (
 (true=true)∧(
 aY 1 x24 [] 2 L20 fun x28 r29=>
 Q (.tup [x25,x28]) L20)) (
 (rI Q n1 L20 x21 x24 x22 x23))
def rJ(Q:R)(n1:Kn)(x3 x4 x5 x13 x16:AV)(L17:SH):Prop:=
 W.join (eR Q n1) fun j19=>
 dh 3 x3 L17 fun x92=>
 W.len x92 fun x93=>
 wb .add 3 x93 (.int .i64 1) fun x94=>
 wb .gtr 3 x94 (.int .i64 6) fun x95=>
 wk x95 (
 j19 [x3,x4,x5,x13,(.int .i64 2)] L17) (
 j19 [x3,x4,x5,x13,x16] L17)
def rK(Q:R)(n1:Kn)(L2:SH)(x4 x5 x3:AV):Prop:=
 uh 11 x4 x5 L2 fun x9=>
 xW [(.int .i64 0),(.int .i64 0),(.str []),(.str []),.nils,(.int .i64 0),(.int .i64 0),(.str []),.nils,.nils,.nils] 11 x9 L2 fun x13 L14=>
 c7 11 x13 L14 fun x15=>
 wc (.fn 57 []) [x3,x15] L14 (rJ Q n1 x3 x4 x5 x13)
def im(Q:R)(v0:Vs)(L2:SH)(n1:Kn):Prop:=
 ui 0 1 6 v0 fun x3 x4 x5=>
 W.len x4 fun x6=>
 wb .lss 3 x5 x6 fun x7=>
 wk x7 (
 (rK Q n1 L2 x4 x5 x3)) (
 Q (.tup [(.int .i64 0),(.int .i64 0)]) L2)
def i7(t0 t1:AV)(L:SH)(Q:R):Prop:=
 W.loop (im Q) [t0,t1,(.int .i64 0)] L
theorem rL(t0 t1:AV)(L:SH)(Q:R)(h:i7 t0 t1 L Q):aj Tryz.prog 41 [t0,t1] L Q:=
 bx ⟨fun k=>if k=7 then some [0,1,6,7,8]else if k=13 then some [0,1,6,8,9]else none,fun k=>if k=2 then [0,1,6]else [],fun k=>if k=4 then [7]else [],fun k=>if k=9 then [0,0,2,1,15]else if k=10 then [0,1,3,7,0,15,0,127,255,511,255,1279,3327]else if k=14 then [0,0,2,6,14,0,32,96,224,480,992,2046,4095,8191,16383]else []⟩ Tryz.func41 (by kernel_rfl) (by kernel_rfl) h
end Go.Proofs.YtljkdffikfkcgaaGreat.Am
end
