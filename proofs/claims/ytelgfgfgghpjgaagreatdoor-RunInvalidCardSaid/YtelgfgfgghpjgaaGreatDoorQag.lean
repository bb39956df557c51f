/- A part of the proof; the statement is proved in the last part. -/
import Derived.Test.YtelgfgfgghpjgaaGreatDoorQaf
set_option linter.unusedSimpArgs false
set_option linter.unusedVariables false
section
namespace Go.Proofs.YtelgfgfgghpjgaaGreatDoor.Am
set_option linter.unusedVariables false
set_option maxRecDepth 100000
def kH(Q:R)(n46:Kn)(x51 x48 x49 x50 x63:AV)(L64:SH):Prop:=
 W.un .not x63 fun x65=>
 wk x65 (
 Q (.bool false) L64) (
 wb .add 3 x51 (.int .i64 1) fun x66=>
 n46 [x48,x49,x50,x66] L64)
def kI(Q:R)(n46:Kn)(L47:SH)(x49 x51 x48 x50:AV):Prop:=
 pT 2 x49 x51 L47 fun x54=>
 pU [(.int .i64 0),.nils] 2 x54 L47 fun x58 L59=>
 W.faddr 0 x48 fun x60=>
 cH 6 x60 L59 fun x61=>
 cH 2 x58 L59 fun x62=>
 wc (.fn 31 []) [x61,x51,x62] L59 (kH Q n46 x51 x48 x49 x50)
def eW(Q:R)(v45:Vs)(L47:SH)(n46:Kn):Prop:=
 rK 1 20 21 22 v45 fun x48 x49 x50 x51=>
 wb .lss 3 x51 x50 fun x52=>
 wk x52 (
 (kI Q n46 L47 x49 x51 x48 x50)) (
 Q (.bool true) L47)
def kJ(Q:R)(x2 x6:AV)(L7:SH):Prop:=
 W.un .not x6 fun x8=>
 wg x8 false (W.faddr 6 x2) L7 fun x9 L11=>
 wg x8 false (wl x9 L11) L11 fun x13 L15=>
 wg x8 false (W.len x13) L15 fun x17 L19=>
 wg x8 false (W.faddr 0 x2) L19 fun x21 L23=>
 wg x8 false (W.faddr 4 x21) L23 fun x25 L27=>
 wg x8 false (wl x25 L27) L27 fun x29 L31=>
 wg x8 false (W.len x29) L31 fun x33 L35=>
 wg x8 false (wb .neq 3 x17 x33) L35 fun x37 L39=>
 W.pick x8 (.bool true) x37 fun x41=>
 wk x41 (
 Q (.bool false) L39) (
 aF 6 x2 L39 fun x43=>
 W.len x43 fun x44=>
 W.loop (eW Q) [x2,x43,x44,(.int .i64 0)] L39)
def fQ(t0:AV)(L:SH)(Q:R):Prop:=
 pV t0 L fun x2 L3=>
 W.faddr 0 x2 fun x4=>
 cH 6 x4 L3 fun x5=>
 wc (.fn 30 []) [x5] L3 (kJ Q x2)
theorem kK(t0:AV)(L:SH)(Q:R)(h:fQ t0 L Q):al Tryz.prog 14 [t0] L Q:=
 bg ⟨fun _=>none,fun k=>if k=4 then [1,20,21,22]else [],fun k=>if k=0 then [1]else if k=5 then [4]else [],fun _=>[]⟩ Tryz.func14 (by kernel_rfl) (by kernel_rfl) h
def ft(Q:R)(n133:Kn)(x144 x135 x136 x137 x138 x139 x140 x141 x142 x143 x150:AV)(L151:SH):Prop:=
 W.un .not x150 fun x152=>
 wk x152 (
 Q (.bool false) L151) (
 wb .add 3 x144 (.int .i64 1) fun x153=>
 n133 [x135,x136,x137,x138,x139,x140,x141,x142,x143,x153] L151)
def fu(Q:R)(n133:Kn)(L134:SH)(x142 x144 x137 x135 x136 x138 x139 x140 x141 x143:AV):Prop:=
 tK 1 x142 x144 L134 fun x147=>
 aF 0 x137 L134 fun x149=>
 wc (.fn 57 []) [x147,x149] L134 (ft Q n133 x144 x135 x136 x137 x138 x139 x140 x141 x142 x143)
def fw(Q:R)(n45:Kn)(x141 x135 x136 x137 x139 x140 x159:AV)(L160:SH):Prop:=
 W.un .not x159 fun x161=>
 wk x161 (
 Q (.bool false) L160) (
 wb .add 3 x141 (.int .i64 1) fun x162=>
 n45 [x135,x136,x137,x139,x140,x162] L160)
def fx(Q:R)(n45:Kn)(L134:SH)(x136 x137 x138 x141 x135 x139 x140:AV):Prop:=
 cH 6 x136 L134 fun x154=>
 aF 1 x137 L134 fun x156=>
 W.len x156 fun x157=>
 cH 6 x138 L134 fun x158=>
 wc (.fn 59 []) [x154,x157,x158] L134 (fw Q n45 x141 x135 x136 x137 x139 x140)
def cz(Q:R)(n45:Kn)(v132:Vs)(L134:SH)(n133:Kn):Prop:=
 vD 1 3 5 8 26 27 28 78 79 80 v132 fun x135 x136 x137 x138 x139 x140 x141 x142 x143 x144=>
 wb .lss 3 x144 x143 fun x145=>
 wk x145 (
 (fu Q n133 L134 x142 x144 x137 x135 x136 x138 x139 x140 x141 x143)) (
 (fx Q n45 L134 x136 x137 x138 x141 x135 x139 x140))
def fy(Q:R)(n45:Kn)(x120 x121 x122 x124 x125 x126 x127 x129:AV)(L130:SH):Prop:=
 W.len x129 fun x131=>
 W.loop (cz Q n45) [x120,x121,x122,x124,x125,x126,x127,x129,x131,(.int .i64 0)] L130
def bB(Q:R)(n45:Kn)(v117:Vs)(L119:SH):Prop:=
 xB 1 3 5 6 8 26 27 28 v117 fun x120 x121 x122 x123 x124 x125 x126 x127=>
 cH 6 x124 L119 fun x128=>
 wc (.fn 58 []) [x128] L119 (fy Q n45 x120 x121 x122 x124 x125 x126 x127)
def fA(Q:R)(j118:Kn)(v44:Vs)(L114:SH)(x59 x47 x48 x49 x50 x51 x52:AV):Prop:=
 aF 5 x59 L114 fun x167=>
 wb .neq 3 x167 (.int .i64 (-1)) fun x168=>
 wk x168 (
 Q (.bool false) L114) (
 j118 [x47,x48,x49,(aj [1,3,5,26,27,28] v44 6),x59,x50,x51,x52] L114)
def fB(Q:R)(v213:Vs)(L215:SH):Prop:=
 xB 1 3 5 6 8 26 27 28 v213 fun x216 x217 x218 x219 x220 x221 x222 x223=>
 Q x219 L215
def fC(Q:R)(j118:Kn)(v44:Vs)(x48 x59 x47 x49 x50 x51 x52 x174:AV)(L175:SH):Prop:=
 W.un .not x174 fun x176=>
 wg x176 false (W.faddr 5 x48) L175 fun x177 L179=>
 wg x176 false (wl x177 L179) L179 fun x181 L183=>
 wg x176 false (W.faddr 5 x59) L183 fun x185 L187=>
 wg x176 false (wl x185 L187) L187 fun x189 L191=>
 wg x176 false (W.idx 3 x181 x189 L191) L191 fun x193 L195=>
 wg x176 false (W.faddr 0 x193) L195 fun x197 L199=>
 wg x176 false (wl x197 L199) L199 fun x201 L203=>
 bN x176 false x47 L203 fun x205 L207=>
 wg x176 false (wb .neq 3 x201 x205) L207 fun x208 L210=>
 W.pick x176 (.bool true) x208 fun x212=>
 wk x212 (
 W.join (fB Q) fun j214=>
 j214 [x47,x48,x49,(.bool false),x59,x50,x51,x52] L210) (
 j118 [x47,x48,x49,(aj [1,3,5,26,27,28] v44 6),x59,x50,x51,x52] L210)
def fD(Q:R)(j118:Kn)(v44:Vs)(L114:SH)(x59 x48 x47 x49 x50 x51 x52:AV):Prop:=
 aF 5 x59 L114 fun x170=>
 aF 5 x48 L114 fun x172=>
 W.len x172 fun x173=>
 wc (.fn 57 []) [x170,x173] L114 (fC Q j118 v44 x48 x59 x47 x49 x50 x51 x52)
def fE(Q:R)(n45:Kn)(v44:Vs)(L114:SH)(x59 x47 x48 x49 x50 x51 x52:AV):Prop:=
 W.join (bB Q n45) fun j118=>
 aF 0 x59 L114 fun x164=>
 wb .eql 3 x164 (.int .i64 28) fun x165=>
 wk x165 (
 (fA Q j118 v44 L114 x59 x47 x48 x49 x50 x51 x52)) (
 (fD Q j118 v44 L114 x59 x48 x47 x49 x50 x51 x52))
def fF(Q:R)(n45:Kn)(v44:Vs)(L46:SH)(x50 x52 x49 x47 x48 x51:AV):Prop:=
 pT 6 x50 x52 L46 fun x55=>
 pU [(.int .i64 0),(.int .i64 0),(.int .i64 0),(.int .i64 0),(.int .i64 0),(.int .i64 0)] 6 x55 L46 fun x59 L60=>
 aF 0 x59 L60 fun x62=>
 wb .lss 3 x62 (.int .i64 1) fun x63=>
 wg x63 false (W.faddr 0 x59) L60 fun x64 L66=>
 wg x63 false (wl x64 L66) L66 fun x68 L70=>
 wg x63 false (wb .gtr 3 x68 (.int .i64 28)) L70 fun x72 L74=>
 W.pick x63 (.bool true) x72 fun x76=>
 wg x76 false (W.faddr 0 x59) L74 fun x77 L79=>
 wg x76 false (wl x77 L79) L79 fun x81 L83=>
 wg x76 false (wb .eql 3 x81 (.int .i64 28)) L83 fun x85 L87=>
 bN x76 false x52 L87 fun x89 L91=>
 wg x76 false (W.faddr 1 x49) L91 fun x92 L94=>
 wg x76 false (wl x92 L94) L94 fun x96 L98=>
 wg x76 false (W.len x96) L98 fun x100 L102=>
 wg x76 false (wb .sub 3 x100 (.int .i64 1)) L102 fun x104 L106=>
 wg x76 false (wb .eql 3 x89 x104) L106 fun x108 L110=>
 wg x76 false (wb .neq 4 x85 x108) L110 fun x112 L114=>
 W.pick x76 (.bool true) x112 fun x116=>
 wk x116 (
 Q (.bool false) L114) (
 (fE Q n45 v44 L114 x59 x47 x48 x49 x50 x51 x52))
def cB(Q:R)(v44:Vs)(L46:SH)(n45:Kn):Prop:=
 vR 1 3 5 26 27 28 v44 fun x47 x48 x49 x50 x51 x52=>
 wb .lss 3 x52 x51 fun x53=>
 wk x53 (
 (fF Q n45 v44 L46 x50 x52 x49 x47 x48 x51)) (
 aF 1 x49 L46 fun x225=>
 wc (.fn 60 []) [x225] L46 fun x226 L227=>
 Q x226 L227)
def cJ(t0 t1 t2:AV)(L:SH)(Q:R):Prop:=
 W.box t0 L fun x0 L1=>
 W.box t2 L1 fun x2 L3=>
 W.frz1 x0 L3 fun x4 L5=>
 W.frz1 x2 L5 fun x6 L7=>
 aF 0 x6 L7 fun x9=>
 wb .lss 3 x9 (.int .i64 0) fun x10=>
 wg x10 false (W.faddr 0 x6) L7 fun x11 L13=>
 wg x10 false (wl x11 L13) L13 fun x15 L17=>
 wg x10 false (wb .gtr 3 x15 (.int .i64 32)) L17 fun x19 L21=>
 W.pick x10 (.bool true) x19 fun x23=>
 wg x23 false (W.faddr 1 x6) L21 fun x24 L26=>
 wg x23 false (wl x24 L26) L26 fun x28 L30=>
 wg x23 false (W.len x28) L30 fun x32 L34=>
 wg x23 false (wb .eql 3 x32 (.int .i64 0)) L34 fun x36 L38=>
 W.pick x23 (.bool true) x36 fun x40=>
 wk x40 (
 Q (.bool false) L38) (
 aF 1 x6 L38 fun x42=>
 W.len x42 fun x43=>
 W.loop (cB Q) [t1,x4,x6,x42,x43,(.int .i64 0)] L38)
theorem fG(t0 t1 t2:AV)(L:SH)(Q:R)(h:cJ t0 t1 t2 L Q):al Tryz.prog 31 [t0,t1,t2] L Q:=
 bg ⟨fun k=>if k=12 then some [1,3,5,6,8,26,27,28]else none,fun k=>if k=14 then [1,3,5,8,26,27,28,78,79,80]else if k=4 then [1,3,5,26,27,28]else [],fun k=>if k=0 then [3,5]else if k=5 then [8]else [],fun _=>[]⟩ Tryz.func31 (by kernel_rfl) (by kernel_rfl) h
def en(Q:R)(x13:AV)(L14:SH):Prop:=
 W.ext 0 x13 fun x15=>
 W.ext 1 x13 fun x16=>
 Q x16 L14
def eo(Q:R)(x20:AV)(L21:SH):Prop:=
 W.ext 0 x20 fun x22=>
 W.ext 1 x20 fun x23=>
 Q x23 L21
def ep(Q:R)(L102:SH)(x105 x104 x103:AV):Prop:=
 wb .eql 3 x105 (.int .i64 27) fun x122=>
 wk x122 (
 aF 2 x104 L102 fun x124=>
 aF 3 x103 L102 fun x126=>
 W.len x126 fun x127=>
 wc (.fn 57 []) [x124,x127] L102 fun x128 L129=>
 Q x128 L129) (
 Q (.bool true) L102)
def er(Q:R)(L102:SH)(x105 x104 x103:AV):Prop:=
 wb .eql 3 x105 (.int .i64 26) fun x114=>
 wk x114 (
 aF 1 x104 L102 fun x116=>
 aF 3 x103 L102 fun x118=>
 W.len x118 fun x119=>
 wc (.fn 57 []) [x116,x119] L102 fun x120 L121=>
 Q x120 L121) (
 (ep Q L102 x105 x104 x103))
def eu(Q:R)(v100:Vs)(L102:SH):Prop:=
 rK 3 5 12 97 v100 fun x103 x104 x105 x106=>
 wk x106 (
 aF 1 x104 L102 fun x108=>
 aF 4 x103 L102 fun x110=>
 W.len x110 fun x111=>
 wc (.fn 57 []) [x108,x111] L102 fun x112 L113=>
 Q x112 L113) (
 (er Q L102 x105 x104 x103))
def ew(Q:R)(L88:SH)(x91 x89 x90:AV):Prop:=
 W.join (eu Q) fun j101=>
 wb .eql 3 x91 (.int .i64 24) fun x130=>
 wk x130 (
 j101 [x89,x90,x91,x130] L88) (
 wb .eql 3 x91 (.int .i64 25) fun x131=>
 j101 [x89,x90,x91,x131] L88)
def ey(Q:R)(v86:Vs)(L88:SH):Prop:=
 rK 3 5 12 87 v86 fun x89 x90 x91 x92=>
 wk x92 (
 aF 1 x90 L88 fun x94=>
 aF 2 x89 L88 fun x96=>
 W.len x96 fun x97=>
 wc (.fn 57 []) [x94,x97] L88 fun x98 L99=>
 Q x98 L99) (
 (ew Q L88 x91 x89 x90))
def ez(Q:R)(L76:SH)(x79 x77 x78:AV):Prop:=
 W.join (ey Q) fun j87=>
 wb .eql 3 x79 (.int .i64 21) fun x132=>
 wk x132 (
 j87 [x77,x78,x79,x132] L76) (
 wb .eql 3 x79 (.int .i64 22) fun x133=>
 wk x133 (
 j87 [x77,x78,x79,x133] L76) (
 wb .eql 3 x79 (.int .i64 23) fun x134=>
 j87 [x77,x78,x79,x134] L76))
def eA(Q:R)(v74:Vs)(L76:SH):Prop:=
 rK 3 5 12 78 v74 fun x77 x78 x79 x80=>
 wk x80 (
 cH 6 x77 L76 fun x81=>
 aF 1 x78 L76 fun x83=>
 wc (.fn 55 []) [x81,x83,(.bool true)] L76 fun x84 L85=>
 Q x84 L85) (
 (ez Q L76 x79 x77 x78))
def eB(j75:Kn)(L64:SH)(x67 x65 x66:AV):Prop:=
 wb .eql 3 x67 (.int .i64 14) fun x136=>
 wk x136 (
 j75 [x65,x66,x67,x136] L64) (
 wb .eql 3 x67 (.int .i64 15) fun x137=>
 wk x137 (
 j75 [x65,x66,x67,x137] L64) (
 wb .eql 3 x67 (.int .i64 16) fun x138=>
 j75 [x65,x66,x67,x138] L64))
def eC(Q:R)(L64:SH)(x67 x65 x66:AV):Prop:=
 W.join (eA Q) fun j75=>
 wb .eql 3 x67 (.int .i64 13) fun x135=>
 wk x135 (
 j75 [x65,x66,x67,x135] L64) (
 (eB j75 L64 x67 x65 x66))
def eD(Q:R)(v62:Vs)(L64:SH):Prop:=
 rK 3 5 12 71 v62 fun x65 x66 x67 x68=>
 wk x68 (
 cH 6 x65 L64 fun x69=>
 aF 1 x66 L64 fun x71=>
 wc (.fn 55 []) [x69,x71,(.bool false)] L64 fun x72 L73=>
 Q x72 L73) (
 (eC Q L64 x67 x65 x66))
def eE(Q:R)(L7:SH)(x9 x4 x6:AV):Prop:=
 W.join (eD Q) fun j63=>
 wb .eql 3 x9 (.int .i64 11) fun x139=>
 wk x139 (
 j63 [x4,x6,x9,x139] L7) (
 wb .eql 3 x9 (.int .i64 12) fun x140=>
 j63 [x4,x6,x9,x140] L7)
def eF(Q:R)(L7:SH)(x9 x4 x6:AV):Prop:=
 wb .eql 3 x9 (.int .i64 9) fun x54=>
 wk x54 (
 cH 6 x4 L7 fun x55=>
 aF 1 x6 L7 fun x57=>
 aF 4 x6 L7 fun x59=>
 wc (.fn 89 []) [x55,x57,x59] L7 fun x60 L61=>
 Q x60 L61) (
 (eE Q L7 x9 x4 x6))
def eG(Q:R)(L7:SH)(x9 x4 x6:AV):Prop:=
 wb .eql 3 x9 (.int .i64 7) fun x46=>
 wk x46 (
 cH 6 x4 L7 fun x47=>
 aF 2 x6 L7 fun x49=>
 aF 4 x6 L7 fun x51=>
 wc (.fn 89 []) [x47,x49,x51] L7 fun x52 L53=>
 Q x52 L53) (
 (eF Q L7 x9 x4 x6))
def eH(Q:R)(L7:SH)(x9 x4 x6:AV):Prop:=
 wb .eql 3 x9 (.int .i64 8) fun x40=>
 wk x40 (
 cH 6 x4 L7 fun x41=>
 aF 1 x6 L7 fun x43=>
 wc (.fn 88 []) [x41,x43] L7 fun x44 L45=>
 Q x44 L45) (
 (eG Q L7 x9 x4 x6))
def dW(Q:R)(L7:SH)(x9 x4 x6:AV):Prop:=
 wb .eql 3 x9 (.int .i64 6) fun x34=>
 wk x34 (
 cH 6 x4 L7 fun x35=>
 aF 2 x6 L7 fun x37=>
 wc (.fn 88 []) [x35,x37] L7 fun x38 L39=>
 Q x38 L39) (
 (eH Q L7 x9 x4 x6))
def dX(Q:R)(L7:SH)(t1 x9 x6 x4:AV):Prop:=
 wb .eql 3 x9 (.int .i64 10) fun x29=>
 wk x29 (
 aF 2 x6 L7 fun x31=>
 wc (.fn 57 []) [x31,t1] L7 fun x32 L33=>
 Q x32 L33) (
 (dW Q L7 x9 x4 x6))
def dY(Q:R)(L7:SH)(t1 x9 x6 x4:AV):Prop:=
 wb .eql 3 x9 (.int .i64 5) fun x24=>
 wk x24 (
 aF 1 x6 L7 fun x26=>
 wc (.fn 57 []) [x26,t1] L7 fun x27 L28=>
 Q x27 L28) (
 (dX Q L7 t1 x9 x6 x4))
def dZ(Q:R)(L7:SH)(t1 x9 x6 x4:AV):Prop:=
 wb .eql 3 x9 (.int .i64 4) fun x17=>
 wk x17 (
 aF 4 x6 L7 fun x19=>
 wc (.fn 87 []) [x19,(.int .i64 0),(.int .i64 0)] L7 (eo Q)) (
 (dY Q L7 t1 x9 x6 x4))
def cm(t0 t1 t2:AV)(L:SH)(Q:R):Prop:=
 W.box t0 L fun x0 L1=>
 W.box t2 L1 fun x2 L3=>
 W.frz1 x0 L3 fun x4 L5=>
 W.frz1 x2 L5 fun x6 L7=>
 aF 0 x6 L7 fun x9=>
 wb .eql 3 x9 (.int .i64 3) fun x10=>
 wk x10 (
 aF 4 x6 L7 fun x12=>
 wc (.fn 86 []) [x12,(.int .i64 0)] L7 (en Q)) (
 (dZ Q L7 t1 x9 x6 x4))
theorem eI(t0 t1 t2:AV)(L:SH)(Q:R)(h:cm t0 t1 t2 L Q):al Tryz.prog 59 [t0,t1,t2] L Q:=
 bg ⟨fun k=>if k=21 then some [3,5,12,71]else if k=26 then some [3,5,12,78]else if k=30 then some [3,5,12,87]else if k=33 then some [3,5,12,97]else none,fun _=>[],fun k=>if k=0 then [3,5]else [],fun _=>[]⟩ Tryz.func59 (by kernel_rfl) (by kernel_rfl) h
def iv(Q:R)(t1 x2 x7:AV)(L8:SH):Prop:=
 wg x7 true (W.faddr 0 x2) L8 fun x9 L11=>
 wg x7 true (wl x9 L11) L11 fun x13 L15=>
 bN x7 true t1 L15 fun x17 L19=>
 wg x7 true (W.idx 5 x13 x17 L19) L19 fun x20 L22=>
 wg x7 true (W.faddr 2 x20) L22 fun x24 L26=>
 wg x7 true (wl x24 L26) L26 fun x28 L30=>
 wg x7 true (wb .eql 3 x28 (.int .i64 0)) L30 fun x32 L34=>
 W.pick x7 x32 (.bool false) fun x36=>
 Q x36 L34
def dL(t0 t1:AV)(L:SH)(Q:R):Prop:=
 pV t0 L fun x2 L3=>
 aF 0 x2 L3 fun x5=>
 W.len x5 fun x6=>
 wc (.fn 57 []) [t1,x6] L3 (iv Q t1 x2)
theorem iw(t0 t1:AV)(L:SH)(Q:R)(h:dL t0 t1 L Q):al Tryz.prog 88 [t0,t1] L Q:=
 bg ⟨fun _=>none,fun _=>[],fun k=>if k=0 then [2]else [],fun _=>[]⟩ Tryz.func88 (by kernel_rfl) (by kernel_rfl) h
def i9(Q:R)(t1 t2 x2 x7:AV)(L8:SH):Prop:=
 wg x7 true (W.faddr 0 x2) L8 fun x9 L11=>
 wg x7 true (wl x9 L11) L11 fun x13 L15=>
 bN x7 true t1 L15 fun x17 L19=>
 wg x7 true (W.idx 5 x13 x17 L19) L19 fun x20 L22=>
 wg x7 true (W.faddr 1 x20) L22 fun x24 L26=>
 wg x7 true (wl x24 L26) L26 fun x28 L30=>
 wg x7 true (wb .eql 3 x28 (.int .i64 0)) L30 fun x32 L34=>
 W.pick x7 x32 (.bool false) fun x36=>
 wg x36 true (W.faddr 0 x2) L34 fun x37 L39=>
 wg x36 true (wl x37 L39) L39 fun x41 L43=>
 bN x36 true t1 L43 fun x45 L47=>
 wg x36 true (W.idx 5 x41 x45 L47) L47 fun x48 L50=>
 wg x36 true (W.faddr 2 x48) L50 fun x52 L54=>
 wg x36 true (wl x52 L54) L54 fun x56 L58=>
 wg x36 true (wb .neq 3 x56 (.int .i64 0)) L58 fun x60 L62=>
 W.pick x36 x60 (.bool false) fun x64=>
 wg x64 true (W.faddr 0 x2) L62 fun x65 L67=>
 wg x64 true (wl x65 L67) L67 fun x69 L71=>
 bN x64 true t1 L71 fun x73 L75=>
 wg x64 true (W.idx 5 x69 x73 L75) L75 fun x76 L78=>
 wg x64 true (W.faddr 2 x76) L78 fun x80 L82=>
 wg x64 true (wl x80 L82) L82 fun x84 L86=>
 bN x64 true t2 L86 fun x88 L90=>
 wg x64 true (wb .eql 2 x84 x88) L90 fun x91 L93=>
 W.pick x64 x91 (.bool false) fun x95=>
 Q x95 L93
def ed(t0 t1 t2:AV)(L:SH)(Q:R):Prop:=
 pV t0 L fun x2 L3=>
 aF 0 x2 L3 fun x5=>
 W.len x5 fun x6=>
 wc (.fn 57 []) [t1,x6] L3 (i9 Q t1 t2 x2)
theorem jc(t0 t1 t2:AV)(L:SH)(Q:R)(h:ed t0 t1 t2 L Q):al Tryz.prog 89 [t0,t1,t2] L Q:=
 bg ⟨fun _=>none,fun _=>[],fun k=>if k=0 then [3]else [],fun _=>[]⟩ Tryz.func89 (by kernel_rfl) (by kernel_rfl) h
def dM(t0:AV)(L:SH)(Q:R):Prop:=
 wb .geq 3 t0 (.int .i64 1) fun x0=>
 bN x0 true t0 L fun x1 L3=>
 wg x0 true (wb .leq 3 x1 (.int .i64 5)) L3 fun x4 L6=>
 W.pick x0 x4 (.bool false) fun x8=>
 Q x8 L6
theorem iy(t0:AV)(L:SH)(Q:R)(h:dM t0 L Q):al Tryz.prog 90 [t0] L Q:=
 bg ⟨fun _=>none,fun _=>[],fun _=>[],fun _=>[]⟩ Tryz.func90 (by kernel_rfl) (by kernel_rfl) h
def iz(n17:Kn)(L47:SH)(x21 x23 x19 x20 x22 x24 x25:AV):Prop:=
 W.idx 1 x21 x23 L47 fun x52=>
 W.store 1 x52 (.bool true) L47 fun L53=>
 wc (.fn 91 []) [x19,x23] L53 fun x54 L55=>
 n17 [x19,x20,x21,x22,x54,x24,x25] L55
def iA(n57 n8:Kn)(x60 x62 x59 x61 x63 x64 x68:AV)(L69:SH):Prop:=
 bN x68 true x60 L69 fun x70 L72=>
 bN x68 true x62 L72 fun x73 L75=>
 wg x68 true (W.idx 1 x70 x73 L75) L75 fun x76 L78=>
 wg x68 true (wl x76 L78) L78 fun x80 L82=>
 wg x68 true (W.un .not x80) L82 fun x84 L86=>
 W.pick x68 x84 (.bool false) fun x88=>
 wk x88 (
 W.idx 1 x60 x62 L86 fun x89=>
 W.store 1 x89 (.bool true) L86 fun L90=>
 wc (.fn 91 []) [x59,x62] L90 fun x91 L92=>
 n57 [x59,x60,x61,x91,x63,x64] L92) (
 wb .add 3 x64 (.int .i64 1) fun x93=>
 n8 [x59,x60,x61,x63,x93] L86)
def ca(n8:Kn)(v56:Vs)(L58:SH)(n57:Kn):Prop:=
 vR 0 3 4 6 14 15 v56 fun x59 x60 x61 x62 x63 x64=>
 i8 6 0 x59 x62 L58 fun x67=>
 wc (.fn 90 []) [x67] L58 (iA n57 n8 x60 x62 x59 x61 x63 x64)
def iB(Q:R)(n17 n8:Kn)(x20 x23 x21 x19 x22 x24 x25 x29:AV)(L30:SH):Prop:=
 bN x29 true x20 L30 fun x31 L33=>
 bN x29 true x23 L33 fun x34 L36=>
 wg x29 true (W.idx 1 x31 x34 L36) L36 fun x37 L39=>
 wg x29 true (wl x37 L39) L39 fun x41 L43=>
 wg x29 true (W.un .not x41) L43 fun x45 L47=>
 W.pick x29 x45 (.bool false) fun x49=>
 wk x49 (
 tK 1 x21 x23 L47 fun x51=>
 wk x51 (
 Q (.bool false) L47) (
 (iz n17 L47 x21 x23 x19 x20 x22 x24 x25))) (
 W.loop (ca n8) [x19,x20,x21,x22,x24,x25] L47)
def cb(Q:R)(n8:Kn)(v16:Vs)(L18:SH)(n17:Kn):Prop:=
 w5 0 3 4 5 6 14 15 v16 fun x19 x20 x21 x22 x23 x24 x25=>
 i8 6 0 x19 x23 L18 fun x28=>
 wc (.fn 90 []) [x28] L18 (iB Q n17 n8 x20 x23 x21 x19 x22 x24 x25)
def dp(Q:R)(v7:Vs)(L9:SH)(n8:Kn):Prop:=
 uh 0 3 4 14 15 v7 fun x10 x11 x12 x13 x14=>
 wb .lss 3 x14 x13 fun x15=>
 wk x15 (
 W.loop (cb Q n8) [x10,x11,x12,x14,x14,x13,x14] L9) (
 Q (.bool true) L9)
def dN(t0:AV)(L:SH)(Q:R):Prop:=
 W.len t0 fun x0=>
 W.mslice 1 1 [(.bool false)] x0 x0 L fun x1 L2=>
 W.len t0 fun x3=>
 W.mslice 1 1 [(.bool false)] x3 x3 L2 fun x4 L5=>
 W.len t0 fun x6=>
 W.loop (dp Q) [t0,x1,x4,x6,(.int .i64 0)] L5
theorem iC(t0:AV)(L:SH)(Q:R)(h:dN t0 L Q):al Tryz.prog 60 [t0] L Q:=
 bg ⟨fun _=>none,fun k=>if k=7 then [0,3,4,5,6,14,15]else if k=13 then [0,3,4,6,14,15]else if k=4 then [0,3,4,14,15]else [],fun _=>[],fun _=>[]⟩ Tryz.func60 (by kernel_rfl) (by kernel_rfl) h
def dq(t0 t1:AV)(L:SH)(Q:R):Prop:=
 i8 6 0 t0 t1 L fun x2=>
 wb .eql 3 x2 (.int .i64 5) fun x3=>
 wk x3 (
 i8 6 1 t0 t1 L fun x6=>
 Q x6 L) (
 wb .add 3 t1 (.int .i64 1) fun x7=>
 Q x7 L)
theorem gR(t0 t1:AV)(L:SH)(Q:R)(h:dq t0 t1 L Q):al Tryz.prog 91 [t0,t1] L Q:=
 bg ⟨fun _=>none,fun _=>[],fun _=>[],fun _=>[]⟩ Tryz.func91 (by kernel_rfl) (by kernel_rfl) h
def fY(Q:R)(n125:Kn)(x130 x127 x128 x129 x142:AV)(L143:SH):Prop:=
 W.un .not x142 fun x144=>
 wk x144 (
 Q (.bool false) L143) (
 wb .add 3 x130 (.int .i64 1) fun x145=>
 n125 [x127,x128,x129,x145] L143)
def fZ(Q:R)(n125:Kn)(L126:SH)(x128 x130 x127 x129:AV):Prop:=
 pT 2 x128 x130 L126 fun x133=>
 pU [(.str []),(.int .i64 0)] 2 x133 L126 fun x137 L138=>
 cH 6 x127 L138 fun x139=>
 aF 1 x137 L138 fun x141=>
 wc (.fn 55 []) [x139,x141,(.bool false)] L138 (fY Q n125 x130 x127 x128 x129)
def cK(Q:R)(v124:Vs)(L126:SH)(n125:Kn):Prop:=
 rK 1 60 61 62 v124 fun x127 x128 x129 x130=>
 wb .lss 3 x130 x129 fun x131=>
 wk x131 (
 (fZ Q n125 L126 x128 x130 x127 x129)) (
 cH 6 x127 L126 fun x146=>
 wc (.fn 56 []) [x146] L126 fun x147 L148=>
 Q x147 L148)
def ga(Q:R)(x2 x99:AV)(L100:SH):Prop:=
 W.ext 0 x99 fun x101=>
 W.ext 1 x99 fun x102=>
 W.un .not x102 fun x103=>
 wg x103 false (cH 6 x2 L100) L100 fun x104 L106=>
 bN x103 false x101 L106 fun x108 L110=>
 W.grd x103 false (fun k112=>wc (.fn 54 []) [x104,x108] L110 fun x114 L115=>
 k112 x114 L115) L110 fun x111 L113=>
 wg x103 false (W.un .not x111) L113 fun x116 L118=>
 W.pick x103 (.bool true) x116 fun x120=>
 wk x120 (
 Q (.bool false) L118) (
 aF 2 x2 L118 fun x122=>
 W.len x122 fun x123=>
 W.loop (cK Q) [x2,x122,x123,(.int .i64 0)] L118)
def gb(Q:R)(L73:SH)(x2:AV):Prop:=
 aF 4 x2 L73 fun x77=>
 W.len x77 fun x78=>
 wb .lss 3 x78 (.int .i64 1) fun x79=>
 wg x79 false (W.faddr 4 x2) L73 fun x80 L82=>
 wg x79 false (wl x80 L82) L82 fun x84 L86=>
 wg x79 false (W.len x84) L86 fun x88 L90=>
 wg x79 false (wb .gtr 3 x88 (.int .i64 4)) L90 fun x92 L94=>
 W.pick x79 (.bool true) x92 fun x96=>
 wk x96 (
 Q (.bool false) L94) (
 aF 0 x2 L94 fun x98=>
 wc (.fn 53 []) [x98] L94 (ga Q x2))
def db(t0:AV)(L:SH)(Q:R):Prop:=
 pV t0 L fun x2 L3=>
 aF 0 x2 L3 fun x5=>
 W.len x5 fun x6=>
 wb .gtr 3 x6 (.int .i64 12) fun x7=>
 wg x7 false (W.faddr 1 x2) L3 fun x8 L10=>
 wg x7 false (wl x8 L10) L10 fun x12 L14=>
 wg x7 false (W.len x12) L14 fun x16 L18=>
 wg x7 false (wb .gtr 3 x16 (.int .i64 4)) L18 fun x20 L22=>
 W.pick x7 (.bool true) x20 fun x24=>
 wg x24 false (W.faddr 2 x2) L22 fun x25 L27=>
 wg x24 false (wl x25 L27) L27 fun x29 L31=>
 wg x24 false (W.len x29) L31 fun x33 L35=>
 wg x24 false (wb .gtr 3 x33 (.int .i64 2)) L35 fun x37 L39=>
 W.pick x24 (.bool true) x37 fun x41=>
 wg x41 false (W.faddr 3 x2) L39 fun x42 L44=>
 wg x41 false (wl x42 L44) L44 fun x46 L48=>
 wg x41 false (W.len x46) L48 fun x50 L52=>
 wg x41 false (wb .gtr 3 x50 (.int .i64 2)) L52 fun x54 L56=>
 W.pick x41 (.bool true) x54 fun x58=>
 wg x58 false (W.faddr 5 x2) L56 fun x59 L61=>
 wg x58 false (wl x59 L61) L61 fun x63 L65=>
 wg x58 false (W.len x63) L65 fun x67 L69=>
 wg x58 false (wb .gtr 3 x67 (.int .i64 60)) L69 fun x71 L73=>
 W.pick x58 (.bool true) x71 fun x75=>
 wk x75 (
 Q (.bool false) L73) (
 (gb Q L73 x2))
theorem gd(t0:AV)(L:SH)(Q:R)(h:db t0 L Q):al Tryz.prog 30 [t0] L Q:=
 bg ⟨fun _=>none,fun k=>if k=9 then [1,60,61,62]else [],fun k=>if k=0 then [1]else if k=10 then [6]else [],fun _=>[]⟩ Tryz.func30 (by kernel_rfl) (by kernel_rfl) h
def ge(Q:R)(n1:Kn)(L18:SH)(x10 x5 x3 x17:AV):Prop:=
 aF 1 x10 L18 fun x23=>
 wb .neq 3 x23 (.int .i64 0) fun x24=>
 wk x24 (
 Q (.tup [.nils,(.bool false)]) L18) (
 wb .add 3 x5 (.int .i64 1) fun x25=>
 n1 [x3,x17,x25] L18)
def gf(Q:R)(n81:Kn)(L82:SH)(x86 x88 x85 x83 x84 x87:AV):Prop:=
 W.faddr 1 x86 fun x90=>
 W.store 1 x90 x88 L82 fun L91=>
 (true=true)∧(
 wb .add 3 x85 x88 fun x92=>
 di [] 4 5 x83 x92 L91 fun x93 r94=>
 dr [] 5 5 x93 L91 fun x95 r96=>
 dr [rm 5 r96,rm 4 r94] 6 5 x86 L91 fun x97 r98=>
 wb .neq 90 x95 x97 fun x99=>
 wk x99 (
 Q (.tup [.nils,(.bool false)]) L91) (
 wb .add 3 x88 (.int .i64 1) fun x100=>
 n81 [x83,x84,x85,x86,x87,x100] L91))
def bD(Q:R)(n1:Kn)(v80:Vs)(L82:SH)(n81:Kn):Prop:=
 vR 0 4 5 6 51 52 v80 fun x83 x84 x85 x86 x87 x88=>
 wb .lss 3 x88 x87 fun x89=>
 wk x89 (
 (gf Q n81 L82 x86 x88 x85 x83 x84 x87)) (
 aF 2 x86 L82 fun x102=>
 wb .add 3 x85 x102 fun x103=>
 n1 [x83,x84,x103] L82)
def gg(Q:R)(n1:Kn)(L18:SH)(x10 x3 x5 x17:AV):Prop:=
 aF 2 x10 L18 fun x27=>
 wb .lss 3 x27 (.int .i64 1) fun x28=>
 wg x28 false (W.faddr 2 x10) L18 fun x29 L31=>
 wg x28 false (wl x29 L31) L31 fun x33 L35=>
 wg x28 false (wb .gtr 3 x33 (.int .i64 4)) L35 fun x37 L39=>
 W.pick x28 (.bool true) x37 fun x41=>
 wg x41 false (W.faddr 3 x10) L39 fun x42 L44=>
 wg x41 false (wl x42 L44) L44 fun x46 L48=>
 W.pick x41 (.bool true) x46 fun x50=>
 wg x50 false (W.faddr 2 x10) L48 fun x51 L53=>
 wg x50 false (wl x51 L53) L53 fun x55 L57=>
 bN x50 false x3 L57 fun x59 L61=>
 wg x50 false (W.len x59) L61 fun x62 L64=>
 bN x50 false x5 L64 fun x66 L68=>
 wg x50 false (wb .sub 3 x62 x66) L68 fun x69 L71=>
 wg x50 false (wb .gtr 3 x55 x69) L71 fun x73 L75=>
 W.pick x50 (.bool true) x73 fun x77=>
 wk x77 (
 Q (.tup [.nils,(.bool false)]) L75) (
 aF 2 x10 L75 fun x79=>
 W.loop (bD Q n1) [x3,x17,x5,x10,x79,(.int .i64 0)] L75)
def gh(Q:R)(n1:Kn)(L2:SH)(x3 x5 x4:AV):Prop:=
 pT 5 x3 x5 L2 fun x9=>
 W.alloc [(.str []),(.int .i64 0),(.int .i64 0),(.bool false),(.int .i64 0)] L2 fun x10 L11=>
 W.store 5 x10 x9 L11 fun L12=>
 aF 0 x10 L12 fun x14=>
 W.bslice 1 [(.str [])] 1 [(0,x14)] L12 fun x15 L16=>
 W.append 1 16 x4 x15 L16 fun x17 L18=>
 aF 2 x10 L18 fun x20=>
 wb .eql 3 x20 (.int .i64 0) fun x21=>
 wk x21 (
 (ge Q n1 L18 x10 x5 x3 x17)) (
 (gg Q n1 L18 x10 x3 x5 x17))
def cL(Q:R)(v0:Vs)(L2:SH)(n1:Kn):Prop:=
 px 0 4 5 v0 fun x3 x4 x5=>
 W.len x3 fun x6=>
 wb .lss 3 x5 x6 fun x7=>
 wk x7 (
 (gh Q n1 L2 x3 x5 x4)) (
 Q (.tup [x4,(.bool true)]) L2)
def bT(t0:AV)(L:SH)(Q:R):Prop:=
 W.loop (cL Q) [t0,.nils,(.int .i64 0)] L
theorem cM(t0:AV)(L:SH)(Q:R)(h:bT t0 L Q):al Tryz.prog 53 [t0] L Q:=
 bg ⟨fun _=>none,fun k=>if k=13 then [0,4,5,6,51,52]else if k=3 then [0,4,5]else [],fun _=>[],fun k=>if k=16 then [0,0,0,6,15,31,0,127]else []⟩ Tryz.func53 (by kernel_rfl) (by kernel_rfl) h
def gi(Q:R)(n8:Kn)(v52:Vs)(L54:SH):Prop:=
 w5 1 3 4 6 8 9 10 v52 fun x55 x56 x57 x58 x59 x60 x61=>
 aF 1 x58 L54 fun x63=>
 wb .neq 3 x63 x57 fun x64=>
 wk x64 (
 Q (.bool false) L54) (
 wb .add 3 x57 (.int .i64 1) fun x65=>
 wb .add 3 x61 (.int .i64 1) fun x66=>
 n8 [x55,x56,x65,x59,x60,x66] L54)
def gj(Q:R)(n8:Kn)(L49:SH)(x22 x11 x10 x13 x14 x15 x12:AV):Prop:=
 W.join (gi Q n8) fun j53=>
 aF 0 x22 L49 fun x68=>
 wb .gtr 3 x68 x11 fun x69=>
 wk x69 (
 aF 0 x22 L49 fun x71=>
 j53 [x10,x71,(.int .i64 0),x22,x13,x14,x15] L49) (
 j53 [x10,x11,x12,x22,x13,x14,x15] L49)
def gk(Q:R)(n8:Kn)(L9:SH)(x13 x15 x11 x10 x14 x12:AV):Prop:=
 pT 3 x13 x15 L9 fun x18=>
 pU [(.int .i64 0),(.int .i64 0),(.int .i64 0)] 3 x18 L9 fun x22 L23=>
 aF 0 x22 L23 fun x25=>
 wb .lss 3 x25 x11 fun x26=>
 wg x26 false (W.faddr 0 x22) L23 fun x27 L29=>
 wg x26 false (wl x27 L29) L29 fun x31 L33=>
 wg x26 false (W.faddr 4 x10) L33 fun x35 L37=>
 wg x26 false (wl x35 L37) L37 fun x39 L41=>
 wg x26 false (W.len x39) L41 fun x43 L45=>
 wg x26 false (wb .geq 3 x31 x43) L45 fun x47 L49=>
 W.pick x26 (.bool true) x47 fun x51=>
 wk x51 (
 Q (.bool false) L49) (
 (gj Q n8 L49 x22 x11 x10 x13 x14 x15 x12))
def cN(Q:R)(v7:Vs)(L9:SH)(n8:Kn):Prop:=
 vR 1 3 4 8 9 10 v7 fun x10 x11 x12 x13 x14 x15=>
 wb .lss 3 x15 x14 fun x16=>
 wk x16 (
 (gk Q n8 L9 x13 x15 x11 x10 x14 x12)) (
 Q (.bool true) L9)
def dc(t0:AV)(L:SH)(Q:R):Prop:=
 pV t0 L fun x2 L3=>
 aF 5 x2 L3 fun x5=>
 W.len x5 fun x6=>
 W.loop (cN Q) [x2,(.int .i64 0),(.int .i64 0),x5,x6,(.int .i64 0)] L3
theorem gl(t0:AV)(L:SH)(Q:R)(h:dc t0 L Q):al Tryz.prog 56 [t0] L Q:=
 bg ⟨fun k=>if k=8 then some [1,3,4,6,8,9,10]else none,fun k=>if k=3 then [1,3,4,8,9,10]else [],fun k=>if k=0 then [1]else if k=4 then [6]else [],fun _=>[]⟩ Tryz.func56 (by kernel_rfl) (by kernel_rfl) h
def jU(Q:R)(t1 t2 x2 x7:AV)(L8:SH):Prop:=
 wg x7 true (W.faddr 1 x2) L8 fun x9 L11=>
 wg x7 true (wl x9 L11) L11 fun x13 L15=>
 bN x7 true t1 L15 fun x17 L19=>
 wg x7 true (W.idx 2 x13 x17 L19) L19 fun x20 L22=>
 wg x7 true (W.faddr 1 x20) L22 fun x24 L26=>
 wg x7 true (wl x24 L26) L26 fun x28 L30=>
 bN x7 true t2 L30 fun x32 L34=>
 wg x7 true (wb .eql 4 x28 x32) L34 fun x35 L37=>
 W.pick x7 x35 (.bool false) fun x39=>
 Q x39 L37
def eX(t0 t1 t2:AV)(L:SH)(Q:R):Prop:=
 pV t0 L fun x2 L3=>
 aF 1 x2 L3 fun x5=>
 W.len x5 fun x6=>
 wc (.fn 57 []) [t1,x6] L3 (jU Q t1 t2 x2)
theorem jV(t0 t1 t2:AV)(L:SH)(Q:R)(h:eX t0 t1 t2 L Q):al Tryz.prog 55 [t0,t1,t2] L Q:=
 bg ⟨fun _=>none,fun _=>[],fun k=>if k=0 then [3]else [],fun _=>[]⟩ Tryz.func55 (by kernel_rfl) (by kernel_rfl) h
def eY(t0 t1:AV)(L:SH)(Q:R):Prop:=
 wb .geq 3 t0 (.int .i64 0) fun x0=>
 bN x0 true t0 L fun x1 L3=>
 bN x0 true t1 L3 fun x4 L6=>
 wg x0 true (wb .lss 3 x1 x4) L6 fun x7 L9=>
 W.pick x0 x7 (.bool false) fun x11=>
 Q x11 L9
theorem jW(t0 t1:AV)(L:SH)(Q:R)(h:eY t0 t1 L Q):al Tryz.prog 57 [t0,t1] L Q:=
 bg ⟨fun _=>none,fun _=>[],fun _=>[],fun _=>[]⟩ Tryz.func57 (by kernel_rfl) (by kernel_rfl) h
def gS(Q:R)(L18:SH)(x19:AV):Prop:=
 aF 1 x19 L18 fun x30=>
 aF 2 x19 L18 fun x32=>
 aF 3 x19 L18 fun x34=>
 W.bslice 1 [(.int .i64 0)] 3 [(0,x30),(1,x32),(2,x34)] L18 fun x35 L36=>
 Q x35 L36
def gT(Q:R)(L46:SH)(x48 x47:AV):Prop:=
 wb .eql 3 x48 (.int .i64 9) fun x54=>
 wk x54 (
 aF 2 x47 L46 fun x56=>
 aF 3 x47 L46 fun x58=>
 W.bslice 1 [(.int .i64 0)] 2 [(0,x56),(1,x58)] L46 fun x59 L60=>
 Q x59 L60) (
 Q .nils L46)
def gU(Q:R)(v44:Vs)(L46:SH):Prop:=
 px 1 4 37 v44 fun x47 x48 x49=>
 wk x49 (
 aF 2 x47 L46 fun x51=>
 W.bslice 1 [(.int .i64 0)] 1 [(0,x51)] L46 fun x52 L53=>
 Q x52 L53) (
 (gT Q L46 x48 x47))
def gV(Q:R)(L18:SH)(x20 x19:AV):Prop:=
 W.join (gU Q) fun j45=>
 wb .eql 3 x20 (.int .i64 8) fun x61=>
 wk x61 (
 j45 [x19,x20,x61] L18) (
 wb .eql 3 x20 (.int .i64 26) fun x62=>
 j45 [x19,x20,x62] L18)
def gW(Q:R)(L18:SH)(x20 x19:AV):Prop:=
 wb .eql 3 x20 (.int .i64 7) fun x37=>
 wk x37 (
 aF 1 x19 L18 fun x39=>
 aF 3 x19 L18 fun x41=>
 W.bslice 1 [(.int .i64 0)] 2 [(0,x39),(1,x41)] L18 fun x42 L43=>
 Q x42 L43) (
 (gV Q L18 x20 x19))
def gX(Q:R)(v16:Vs)(L18:SH):Prop:=
 px 1 4 13 v16 fun x19 x20 x21=>
 wk x21 (
 aF 1 x19 L18 fun x23=>
 aF 2 x19 L18 fun x25=>
 W.bslice 1 [(.int .i64 0)] 2 [(0,x23),(1,x25)] L18 fun x26 L27=>
 Q x26 L27) (
 wb .eql 3 x20 (.int .i64 4) fun x28=>
 wk x28 (
 (gS Q L18 x19)) (
 (gW Q L18 x20 x19)))
def gY(Q:R)(L8:SH)(x10 x9:AV):Prop:=
 W.join (gX Q) fun j17=>
 wb .eql 3 x10 (.int .i64 2) fun x63=>
 wk x63 (
 j17 [x9,x10,x63] L8) (
 wb .eql 3 x10 (.int .i64 3) fun x64=>
 j17 [x9,x10,x64] L8)
def gZ(Q:R)(v6:Vs)(L8:SH):Prop:=
 px 1 4 5 v6 fun x9 x10 x11=>
 wk x11 (
 aF 1 x9 L8 fun x13=>
 W.bslice 1 [(.int .i64 0)] 1 [(0,x13)] L8 fun x14 L15=>
 Q x14 L15) (
 (gY Q L8 x10 x9))
def g9(j7:Kn)(L3:SH)(x5 x2:AV):Prop:=
 wb .eql 3 x5 (.int .i64 6) fun x66=>
 wk x66 (
 j7 [x2,x5,x66] L3) (
 wb .eql 3 x5 (.int .i64 10) fun x67=>
 wk x67 (
 j7 [x2,x5,x67] L3) (
 wb .eql 3 x5 (.int .i64 27) fun x68=>
 j7 [x2,x5,x68] L3))
def dt(t0:AV)(L:SH)(Q:R):Prop:=
 pV t0 L fun x2 L3=>
 aF 0 x2 L3 fun x5=>
 W.join (gZ Q) fun j7=>
 wb .eql 3 x5 (.int .i64 1) fun x65=>
 wk x65 (
 j7 [x2,x5,x65] L3) (
 (g9 j7 L3 x5 x2))
theorem hC(t0:AV)(L:SH)(Q:R)(h:dt t0 L Q):al Tryz.prog 58 [t0] L Q:=
 bg ⟨fun k=>if k=5 then some [1,4,5]else if k=8 then some [1,4,13]else if k=15 then some [1,4,37]else none,fun _=>[],fun k=>if k=0 then [1]else [],fun _=>[]⟩ Tryz.func58 (by kernel_rfl) (by kernel_rfl) h
end Go.Proofs.YtelgfgfgghpjgaaGreatDoor.Am
end
section
namespace Go.Proofs.YtelgfgfgghpjgaaGreatDoor.Am
set_option linter.unusedVariables false
set_option maxRecDepth 100000
def jX(t0:AV)(L:SH)(Q:R):Prop:=
 wk t0 (
 Q (.int .i64 1) L) (
 Q (.int .i64 0) L)
theorem nw(t0:AV)(L:SH)(Q:R)(h:jX t0 L Q):al Tryz.prog 111 [t0] L Q:=
 bg ⟨fun _=>none,fun _=>[],fun _=>[],fun _=>[]⟩ Tryz.func111 (by kernel_rfl) (by kernel_rfl) h
def ny(Q:R)(L:SH)(t0 t1:AV):Prop:=
 wb .eql 3 t0 (.int .i64 5) fun x2=>
 wk x2 (
 wb .eql 2 t1 (.int .i64 0) fun x3=>
 wc (.fn 111 []) [x3] L fun x4 L5=>
 Q (.tup [x4,(.bool true)]) L5) (
 Q (.tup [(.int .i64 0),(.bool false)]) L)
def jY(t0 t1:AV)(L:SH)(Q:R):Prop:=
 wb .eql 3 t0 (.int .i64 4) fun x0=>
 wk x0 (
 W.un .neg t1 fun x1=>
 Q (.tup [x1,(.bool true)]) L) (
 (ny Q L t0 t1))
theorem nz(t0 t1:AV)(L:SH)(Q:R)(h:jY t0 t1 L Q):al Tryz.prog 86 [t0,t1] L Q:=
 bg ⟨fun _=>none,fun _=>[],fun _=>[],fun _=>[]⟩ Tryz.func86 (by kernel_rfl) (by kernel_rfl) h
def mF(Q:R)(L:SH)(t1 t2:AV):Prop:=
 wb .neq 2 t1 (.int .i64 0) fun x37=>
 bN x37 true t2 L fun x38 L40=>
 wg x37 true (wb .neq 2 x38 (.int .i64 0)) L40 fun x41 L43=>
 W.pick x37 x41 (.bool false) fun x45=>
 wc (.fn 111 []) [x45] L43 fun x46 L47=>
 Q (.tup [x46,(.bool true)]) L47
def mG(Q:R)(L:SH)(t1 t2:AV):Prop:=
 wb .neq 2 t1 (.int .i64 0) fun x49=>
 bN x49 false t2 L fun x50 L52=>
 wg x49 false (wb .neq 2 x50 (.int .i64 0)) L52 fun x53 L55=>
 W.pick x49 (.bool true) x53 fun x57=>
 wc (.fn 111 []) [x57] L55 fun x58 L59=>
 Q (.tup [x58,(.bool true)]) L59
def mH(Q:R)(L:SH)(t0 t1 t2:AV):Prop:=
 wb .eql 3 t0 (.int .i64 17) fun x36=>
 wk x36 (
 (mF Q L t1 t2)) (
 wb .eql 3 t0 (.int .i64 18) fun x48=>
 wk x48 (
 (mG Q L t1 t2)) (
 Q (.tup [(.int .i64 0),(.bool false)]) L))
def mI(Q:R)(L:SH)(t0 t1 t2:AV):Prop:=
 wb .eql 3 t0 (.int .i64 16) fun x32=>
 wk x32 (
 wb .geq 2 t1 t2 fun x33=>
 wc (.fn 111 []) [x33] L fun x34 L35=>
 Q (.tup [x34,(.bool true)]) L35) (
 (mH Q L t0 t1 t2))
def mJ(Q:R)(L:SH)(t0 t1 t2:AV):Prop:=
 wb .eql 3 t0 (.int .i64 15) fun x28=>
 wk x28 (
 wb .gtr 2 t1 t2 fun x29=>
 wc (.fn 111 []) [x29] L fun x30 L31=>
 Q (.tup [x30,(.bool true)]) L31) (
 (mI Q L t0 t1 t2))
def mK(Q:R)(L:SH)(t0 t1 t2:AV):Prop:=
 wb .eql 3 t0 (.int .i64 14) fun x24=>
 wk x24 (
 wb .leq 2 t1 t2 fun x25=>
 wc (.fn 111 []) [x25] L fun x26 L27=>
 Q (.tup [x26,(.bool true)]) L27) (
 (mJ Q L t0 t1 t2))
def mL(Q:R)(L:SH)(t0 t1 t2:AV):Prop:=
 wb .eql 3 t0 (.int .i64 13) fun x20=>
 wk x20 (
 wb .lss 2 t1 t2 fun x21=>
 wc (.fn 111 []) [x21] L fun x22 L23=>
 Q (.tup [x22,(.bool true)]) L23) (
 (mK Q L t0 t1 t2))
def mM(Q:R)(L:SH)(t0 t1 t2:AV):Prop:=
 wb .eql 3 t0 (.int .i64 12) fun x16=>
 wk x16 (
 wb .neq 2 t1 t2 fun x17=>
 wc (.fn 111 []) [x17] L fun x18 L19=>
 Q (.tup [x18,(.bool true)]) L19) (
 (mL Q L t0 t1 t2))
def mN(Q:R)(L:SH)(t0 t1 t2:AV):Prop:=
 wb .eql 3 t0 (.int .i64 11) fun x12=>
 wk x12 (
 wb .eql 2 t1 t2 fun x13=>
 wc (.fn 111 []) [x13] L fun x14 L15=>
 Q (.tup [x14,(.bool true)]) L15) (
 (mM Q L t0 t1 t2))
def mO(Q:R)(L:SH)(t0 t2 t1:AV):Prop:=
 wb .eql 3 t0 (.int .i64 10) fun x9=>
 wk x9 (
 wb .eql 2 t2 (.int .i64 0) fun x10=>
 wk x10 (
 Q (.tup [(.int .i64 0),(.bool true)]) L) (
 wb .rem 2 t1 t2 fun x11=>
 Q (.tup [x11,(.bool true)]) L)) (
 (mN Q L t0 t1 t2))
def lm(Q:R)(L:SH)(t0 t2 t1:AV):Prop:=
 wb .eql 3 t0 (.int .i64 9) fun x6=>
 wk x6 (
 wb .eql 2 t2 (.int .i64 0) fun x7=>
 wk x7 (
 Q (.tup [(.int .i64 0),(.bool true)]) L) (
 wb .quo 2 t1 t2 fun x8=>
 Q (.tup [x8,(.bool true)]) L)) (
 (mO Q L t0 t2 t1))
def lp(Q:R)(L:SH)(t0 t1 t2:AV):Prop:=
 wb .eql 3 t0 (.int .i64 7) fun x2=>
 wk x2 (
 wb .sub 2 t1 t2 fun x3=>
 Q (.tup [x3,(.bool true)]) L) (
 wb .eql 3 t0 (.int .i64 8) fun x4=>
 wk x4 (
 wb .mul 2 t1 t2 fun x5=>
 Q (.tup [x5,(.bool true)]) L) (
 (lm Q L t0 t2 t1)))
def iT(t0 t1 t2:AV)(L:SH)(Q:R):Prop:=
 wb .eql 3 t0 (.int .i64 6) fun x0=>
 wk x0 (
 wb .add 2 t1 t2 fun x1=>
 Q (.tup [x1,(.bool true)]) L) (
 (lp Q L t0 t1 t2))
theorem mP(t0 t1 t2:AV)(L:SH)(Q:R)(h:iT t0 t1 t2 L Q):al Tryz.prog 87 [t0,t1,t2] L Q:=
 bg ⟨fun _=>none,fun _=>[],fun _=>[],fun _=>[]⟩ Tryz.func87 (by kernel_rfl) (by kernel_rfl) h
end Go.Proofs.YtelgfgfgghpjgaaGreatDoor.Am
end
section
namespace Go.Proofs.YtelgfgfgghpjgaaGreatDoor.Am
set_option linter.unusedVariables false
inductive iD (o:Option Nat) (n:Nat) (rows:List (List AV)):SH→SH→Prop where
 | here (R:SH):iD o n rows (bf o n rows++R) R
 | last:iD o n rows (bf o n rows) []
 | there (p:Nat×Blk) {L L':SH}:iD o n rows L L'→iD o n rows (p::L) (p::L')
 | skip (o2:Option Nat) (n2:Nat) (rows2:List (List AV)) {L L':SH}:iD o n rows L L'→iD o n rows (bf o2 n2 rows2++L) (bf o2 n2 rows2++L')
theorem iD.some'{b n:Nat}{rows:List (List AV)}{L L':SH}(h:iD (some b) n rows L L'):oe b ⟨n,rows⟩ L L':=by
 induction h with
 | here R=>exact .here R
 | last=>exact .here []
 | there p h ih=>exact .there p ih
 | skip o2 n2 rows2 h ih=>exact ih.app _
theorem iD.none'{n:Nat}{rows:List (List AV)}{L L':SH}(h:iD none n rows L L'):L=L':=by
 induction h with
 | here R=>rfl
 | last=>rfl
 | there p h ih=>rw[ih]
 | skip o2 n2 rows2 h ih=>rw[ih]
theorem iD.perm{o:Option Nat}{n:Nat}{rows:List (List AV)}{L L':SH}(h:iD o n rows L L'):L.Perm (bf o n rows++L'):=by
 cases o with
 | none=>rw[h.none'];exact .refl _
 | some b=>exact h.some'.perm
theorem oe.mem'{b:Nat}{x:Blk}{L L':SH}(h:oe b x L L'):(b,x)∈L:=by
 induction h with
 | here L=>simp
 | there p h ih=>simp[ih]
section
variable {KL:AV→SH→Prop} {L L':SH}
theorem hZ{o:Option Nat}{i n by_ bX k:Nat}{rows m:List (List AV)}(hX:(bX,(⟨n,m⟩:Blk))∈L)(hd:iD o n rows L L')(hr:rows.length=i)(h0:o=none→rows=[])(hk:k=m.length)(hm:0<m.length)(h2:2*(i+m.length)*by_≤2^48)(h3:2*(i+m.length)≤2^62)(h4:(m.all fun r=>r.all AV.one)=true)
  (h:∀b,b∉L.names→KL (.sl b 0 (i+m.length)) ((b,⟨n,rows++m⟩)::L')):W.append n by_ (bS o i) (.sl bX 0 k) L KL:=by
 subst hk
 cases o with
 | none=>
  have hr0:=h0 rfl
  subst hr0
  simp only[List.length_nil]at hr
  subst hr
  have hl:=hd.none'
  subst hl
  have:=t7 (KL:=KL) (L:=L) (by_:=by_) (qX hX rfl rfl) (by simpa using h2) (by simpa using h3) h4 (by show m.length≠0;omega) (fun b hb=>by simpa using h b hb)
  exact this
 | some b=>
  subst hr
  exact qV (y:=⟨n,rows⟩) (l:=rows) hd.some'.mem' rfl (by simp) (by simp) (qX hX rfl rfl) h2 h3 h4 hd.some' (fun b' hb=>h b' hb)
theorem jZ{α:Type}{f:α→List AV}{l:List α}{o:Option Nat}{i n by_:Nat}{rows:List (List AV)}(hd:iD o n rows L L')(hn:∀x,(f x).length=n)(hr:rows.length=i)(h0:o=none→rows=[])(h2:2*(i+l.length)*by_≤2^48)(h3:2*(i+l.length)≤2^62)(h4:∀x,(f x).all AV.one=true)
  (h:∀o',(o'=none→rows++l.map f=[])→KL (bS o' (i+l.length)) (bf o' n (rows++l.map f)++L')):W.append n by_ (bS o i) (.lst (l.map f)) L KL:=by
 have h4':((l.map f).all fun r=>r.all AV.one)=true:=by
  rw[List.all_eq_true]
  intro r hr
  obtain⟨x,_,rfl⟩:=List.mem_map.1 hr
  exact h4 x
 cases o with
 | none=>
  have hr0:=h0 rfl
  subst hr0
  simp only[List.length_nil]at hr
  subst hr
  have hl:=hd.none'
  subst hl
  refine⟨[],l.map f,rfl,ou hn,by simpa using h2,by simpa using h3,h4',fun e=>?_,fun e b hb=>?_⟩
  ·have hl:l=[]:=by simpa using e
   subst hl
   exact h none fun _=>rfl
  ·have:=h (some b) nofun
   simpa[bS,bf]using this
 | some b=>
  subst hr
  refine qV (y:=⟨n,rows⟩) (l:=rows) hd.some'.mem' rfl (by simp) (by simp) (ou hn) (by simpa using h2) (by simpa using h3) h4' hd.some' (fun b' hb=>?_)
  have:=h (some b') nofun
  simpa[bS,bf]using this
inductive iE:SH→SH→Prop where
 | nil (L:SH):iE L []
 | one {b:Nat} {x:Blk} {L L' R:SH}:oe b x L L'→iE L' R→iE L ((b,x)::R)
 | slot {o:Option Nat} {n:Nat} {rows:List (List AV)} {L L' R:SH}:iD o n rows L L'→iE L' R→iE L (bf o n rows++R)
 | slotl {o:Option Nat} {n:Nat} {rows:List (List AV)} {L L':SH}:iD o n rows L L'→iE L (bf o n rows)
theorem iE.perm{L R:SH}(h:iE L R):∃K,L.Perm (K++R):=by
 induction h with
 | nil L=>exact⟨L,by simp⟩
 | one hd hp ih=>
  obtain⟨K,hK⟩:=ih
  exact⟨K,(hd.perm.trans ((hK.cons _).trans List.perm_middle.symm))⟩
 | slot hd hp ih=>
  obtain⟨K,hK⟩:=ih
  refine⟨K,hd.perm.trans ((hK.append_left _).trans ?_)⟩
  rw[←List.append_assoc,←List.append_assoc]
  exact List.perm_append_comm.append_right _
 | slotl hd=>exact⟨_,hd.perm.trans List.perm_append_comm⟩
theorem bM.pick{vs vs2:List AV}{R:SH}(h:iE L R)(hv:vs=vs2):bM vs L vs2 R:=by
 subst hv
 obtain⟨K,hK⟩:=h.perm
 exact bM.forget hK
end
end Go.Proofs.YtelgfgfgghpjgaaGreatDoor.Am
end
section
namespace Go.Proofs.YtelgfgfgghpjgaaGreatDoor.Am
structure bu where
 op:Int
 a:Int
 b:Int
 c:Int
 n:Int
 site:Int
 deriving Inhabited
def bu.enc(i:bu):List AV:=[.int .i64 i.op,.int .i64 i.a,.int .i64 i.b,.int .i64 i.c,.int .i64 i.n,.int .i64 i.site]
structure pW where
 regs:Int
 ins:List bu
def pW.enc(c:pW):List AV:=[.int .i64 c.regs,.lst (c.ins.map bu.enc)]
def eJ(b:Bool):Int:=if b then 1 else 0
def w6(op a:Int):Int×Bool:=if op=4 then(IntKind.i64.wrap (0-a),true)else if op=5 then(eJ (decide (a=0)),true)else(0,false)
def rL(op a b:Int):Int×Bool:=
 if op=6 then(IntKind.i64.wrap (a+b),true)else
 if op=7 then(IntKind.i64.wrap (a-b),true)else
 if op=8 then(IntKind.i64.wrap (a*b),true)else
 if op=9 then(if b=0 then 0 else IntKind.i64.wrap (a.tdiv b),true)else
 if op=10 then(if b=0 then 0 else a.tmod b,true)else
 if op=11 then(eJ (decide (a=b)),true)else
 if op=12 then(eJ (decide (a≠b)),true)else
 if op=13 then(eJ (decide (a<b)),true)else
 if op=14 then(eJ (decide (a≤b)),true)else
 if op=15 then(eJ (decide (b<a)),true)else
 if op=16 then(eJ (decide (b≤a)),true)else
 if op=17 then(eJ (decide (a≠0)&&decide (b≠0)),true)else
 if op=18 then(eJ (decide (a≠0)||decide (b≠0)),true)else(0,false)
end Go.Proofs.YtelgfgfgghpjgaaGreatDoor.Am
end
section
namespace Go.Proofs.YtelgfgfgghpjgaaGreatDoor.Am
set_option linter.unusedVariables false
theorem w7{o:Nat}{x:AV}{L:SH}{K:AV→Prop}(h:aF o x L K):aF o x L K:=h
theorem xN{x:AV}{L:SH}{K:AV→Prop}(h:wl x L K):wl x L K:=h
theorem w8{n:Nat}{x i:AV}{L:SH}{K:AV→Prop}(h:tK n x i L K):tK n x i L K:=h
theorem w9{n:Nat}{x i:AV}{L:SH}{K:AV→Prop}(h:pT n x i L K):pT n x i L K:=h
theorem vE{n o:Nat}{x i:AV}{L:SH}{K:AV→Prop}(h:i8 n o x i L K):i8 n o x i L K:=h
theorem xO{us:List W.WR}{i:Nat}{x:AV}{L:SH}{K:AV→Fp→Prop}(h:dl us i x L K):dl us i x L K:=h
theorem xa{o:Nat}{x:AV}{us:List W.WR}{i:Nat}{L:SH}{K:AV→Fp→Prop}(h:s4 o x us i L K):s4 o x us i L K:=h
theorem xP{us:List W.WR}{i n:Nat}{x:AV}{L:SH}{K:AV→Fp→Prop}(h:dr us i n x L K):dr us i n x L K:=h
theorem xQ{us:List W.WR}{i n:Nat}{x ix:AV}{L:SH}{K:AV→Fp→Prop}(h:di us i n x ix L K):di us i n x ix L K:=h
theorem st{P Q:Prop}(k:Q)(h:Q→P:=by
 intro k
 first
 | (refine w7 ?_;first | exact uZ k | exact wX k | exact s6 k)
 | (refine wQ ?_;first | exact uL k | exact uH k | exact uM k | exact uK k | exact uJ k | exact uI k | exact s8 k | exact sI k | exact s9 k | exact sJ k | exact uN k | exact uO k | exact uP k | exact u0 k | exact u1 k | exact uT k | exact uU k)
 | (refine wR ?_;first | exact pq k | exact pr k)
 | (refine wS ?_;first | exact ov k | exact ow k | exact ol k)
 | (refine xN ?_;first | exact uf k | exact wW k | exact vq k)
 | (refine uX ?_;first | exact ov k | exact ow k | exact ol k)
 | (refine vn ?_;first | exact sX k | exact sY k)
 | (refine hw_nfl ?_;first | exact wnfl_q k | exact wnfl_p k | exact u_wnfl k)
 | (refine wL ?_;first | exact t5 k | exact a_len_l k | exact qU k | exact t6 k | exact qW k)
 | (refine vE ?_;first | exact vr k | exact s7 k)
 | (refine w9 ?_;first | exact wZ k | exact uW k)
 | (refine w8 ?_;first | exact wY k | exact uV k)
 | (refine ub ?_;first | exact kh k | exact nR k)
 | (refine s5 ?_;first | exact lI k | exact b_row_i k | exact ra k | exact pw k | exact b_part_p k)
 | (refine xa ?_;first | exact w4 k | exact uY k)
 | (refine xO ?_;first | exact w3 k | exact wT k)
 | (refine xP ?_;first | exact xK k | exact wU k)
 | (refine xQ ?_;first | exact xL k | exact wV k)
 | (refine uS ?_;first | exact ov k | exact ow k | exact ol k)
 | (refine sT ?_;first | exact sZ k | exact s0 k | exact sD k)
 | (refine h_load1 ?_;first | exact po k | exact b_load_i k | exact pp k)
 | (refine wK ?_;first | exact jP k | exact b_idx_l k | exact b_idx_i k | exact sW k | exact b_idx_s k)
 | (refine wJ ?_;first | exact lI k | exact b_row_i k | exact ra k | exact pw k | exact b_part_p k)
 | (refine wM ?_;exact wO k)
 | (refine vl ?_;exact ug k)
 | exact xJ (me k)
 | (refine vm ?_;exact me k)
 | (refine h_nilchk ?_;first | exact a_nil_p k | exact a_nil_q k | exact a_nil_f k)
 | (refine xG ?_;first | exact wF k | exact wG k)
 | (refine vp ?_;first | exact ud k | exact b_frz_s k)
 | (refine uc ?_;first | exact pt k | exact pu k | exact b_store_row k)
 | (refine h_idxP ?_;first | exact b_idxP_p k | exact b_idxP_q k)
 | (refine h_bin ?_;first | exact uL k | exact uH k | exact uM k | exact uK k | exact uJ k | exact uI k | exact s8 k | exact sI k | exact s9 k | exact sJ k | exact uN k | exact uO k | exact uP k | exact u0 k | exact u1 k | exact uT k | exact uU k)
 | (refine h_cond ?_;first | exact pq k | exact pr k)
 | exact vt k
 | exact vu k
 | exact xH (sS k)
 | exact xI (q9 k)
 | exact u_ds k
 | exact xF k
 | exact vj k
 | exact ue k
 | (first | exact vv k | exact vw k | exact vx k | exact vy k | exact vz k | exact vA k | exact vB k | exact vC k | exact wo9_ok k | exact ui k | exact wo11_ok k | exact wo12_ok k | exact wo13_ok k | exact wo14_ok k | exact wo15_ok k | exact wo16_ok k)
 | exact a_conv k
 | exact a_convS k
 | exact b_fld k
 | exact vi k
 | exact sS k
 | exact q9 k
 | fail):P:=h k
theorem sb{P:Prop}{Q:Nat→Prop}{N:Nat→Prop}(k:∀b,N b→Q b)(h:(∀b,N b→Q b)→P:=by
 intro k
 first
 | (refine wN ?_;exact wP k)
 | (refine sV ?_;exact s1 k)
 | (refine sU ?_;exact s3 k)
 | (exact qT k)
 | fail):P:=h k
theorem s2{P Q1 Q2 A1 A2:Prop}(k1:A1→Q1)(k2:A2→Q2)(h:(A1→Q1)→(A2→Q2)→P:=by
 intro k1 k2
 first
 | (refine wR ?_;exact sH k1 k2)
 | (refine wS ?_;first | exact om k1 k2 | exact oo k1 k2)
 | (refine uX ?_;first | exact om k1 k2 | exact oo k1 k2)
 | (refine uS ?_;first | exact om k1 k2 | exact oo k1 k2)
 | (refine sT ?_;first | exact a_dgrd_t k1 k2 | exact sE k1 k2)
 | (refine h_cond ?_;exact sH k1 k2)
 | fail):P:=h k1 k2
theorem mm{α:Type}{a:α}{l:List α}(h:a∈l:=by first | exact .head _ | exact .tail _ (.head _) | exact .tail _ (.tail _ (.head _)) | exact .tail _ (.tail _ (.tail _ (.head _))) | exact .tail _ (.tail _ (.tail _ (.tail _ (.head _)))) | exact .tail _ (.tail _ (.tail _ (.tail _ (.tail _ (.head _))))) | exact .tail _ (.tail _ (.tail _ (.tail _ (.tail _ (.tail _ (.head _)))))) | exact .tail _ (.tail _ (.tail _ (.tail _ (.tail _ (.tail _ (.tail _ (.head _))))))) | exact .tail _ (.tail _ (.tail _ (.tail _ (.tail _ (.tail _ (.tail _ (.tail _ (.head _)))))))) | exact .tail _ (.tail _ (.tail _ (.tail _ (.tail _ (.tail _ (.tail _ (.tail _ (.tail _ (.head _))))))))) | exact .tail _ (.tail _ (.tail _ (.tail _ (.tail _ (.tail _ (.tail _ (.tail _ (.tail _ (.tail _ (.head _)))))))))) | exact .tail _ (.tail _ (.tail _ (.tail _ (.tail _ (.tail _ (.tail _ (.tail _ (.tail _ (.tail _ (.tail _ (.head _))))))))))) | exact .tail _ (.tail _ (.tail _ (.tail _ (.tail _ (.tail _ (.tail _ (.tail _ (.tail _ (.tail _ (.tail _ (.tail _ (.head _))))))))))))):a∈l:=h
theorem rp{P:Prop}(h:P:=by repeat constructor):P:=h
end Go.Proofs.YtelgfgfgghpjgaaGreatDoor.Am
end
section
namespace Go.Proofs.YtelgfgfgghpjgaaGreatDoor.Am
set_option maxRecDepth 100000
set_option linter.unusedSimpArgs false
set_option linter.unusedVariables false
def qo(p:Int×Bool):AV:=.tup [.int .i64 p.1,.bool p.2]
theorem j0(b:Bool):ax Tryz.prog 111 [.bool b] (.int .i64 (eJ b)):=by
 refine nw _ _ _ ?_
 unfold jX
 cases b
 all_goals
  repeat' (first | refine st ?_ | refine sb (fun nb_ hnb_=>?_) | refine s2 (fun h=>?_) (fun h=>?_) | fail)
  exact⟨rfl,rfl⟩
theorem ta(op a:Int):ax Tryz.prog 86 [.int .i64 op,.int .i64 a] (qo (w6 op a)):=by
 refine nz _ _ _ _ ?_
 unfold jY
 generalize hQ:(fun(u:AV) (K:SH)=>u=qo (w6 op a)∧K=[])=Q
 repeat' (first | refine st ?_ | ((with_reducible refine am 111 ?_);refine ae (j0 _) ?_) | ((with_reducible refine af 111 ?_);refine ab (j0 _) ?_) | refine sb (fun nb_ hnb_=>?_) | refine s2 (fun h=>?_) (fun h=>?_) | fail)
 all_goals
  subst hQ
  refine⟨?_,rfl⟩
  simp_all[w6,qo]
theorem rM(op a b:Int):ax Tryz.prog 87 [.int .i64 op,.int .i64 a,.int .i64 b] (qo (rL op a b)):=by
 refine mP _ _ _ _ _ ?_
 unfold iT
 generalize hQ:(fun(u:AV) (K:SH)=>u=qo (rL op a b)∧K=[])=Q
 repeat' (first | refine st ?_ | ((with_reducible refine am 111 ?_);refine ae (j0 _) ?_) | ((with_reducible refine af 111 ?_);refine ab (j0 _) ?_) | refine sb (fun nb_ hnb_=>?_) | refine s2 (fun h=>?_) (fun h=>?_) | fail)
 all_goals
  subst hQ
  refine⟨?_,rfl⟩
  simp_all[rL,qo]
end Go.Proofs.YtelgfgfgghpjgaaGreatDoor.Am
end
section
namespace Go.Proofs.YtelgfgfgghpjgaaGreatDoor.Am
set_option linter.unusedVariables false
inductive aK where
 | mk (op n:Int) (name:br) (l:List aK)
def aK.op:aK→Int | .mk a _ _ _=>a
def aK.n:aK→Int | .mk _ a _ _=>a
def aK.name:aK→br | .mk _ _ a _=>a
def aK.l:aK→List aK | .mk _ _ _ a=>a
mutual
def aK.enc:aK→List AV
 | .mk op n name l=>[.int .i64 op,.int .i64 n,.str name,.lst (aK.encs l)]
def aK.encs:List aK→List (List AV)
 | []=>[]
 | x::l=>x.enc::aK.encs l
end
mutual
def aK.wt:aK→Nat
 | .mk _ _ name l=>1+name.length+aK.wts l
def aK.wts:List aK→Nat
 | []=>0
 | x::l=>x.wt+aK.wts l
end
theorem aK.wt_eq(x:aK):x.wt=1+x.name.length+aK.wts x.l:=by cases x;rfl
theorem aK.wts_len:∀l:List aK,l.length≤aK.wts l
 | []=>Nat.le_refl _
 | x::l=>by have:=aK.wts_len l;have:=x.wt_eq;simp only[List.length_cons,aK.wts];omega
theorem aK.len(x:aK):x.l.length<x.wt:=by have:=aK.wts_len x.l;have:=x.wt_eq;omega
inductive aD where
 | mk (op line:Int) (name arg:br) (index:List aK) (expr:aK) (body els:List aD)
def aD.op:aD→Int | .mk a _ _ _ _ _ _ _=>a
def aD.line:aD→Int | .mk _ a _ _ _ _ _ _=>a
def aD.name:aD→br | .mk _ _ a _ _ _ _ _=>a
def aD.arg:aD→br | .mk _ _ _ a _ _ _ _=>a
def aD.index:aD→List aK | .mk _ _ _ _ a _ _ _=>a
def aD.expr:aD→aK | .mk _ _ _ _ _ a _ _=>a
def aD.body:aD→List aD | .mk _ _ _ _ _ _ a _=>a
def aD.els:aD→List aD | .mk _ _ _ _ _ _ _ a=>a
mutual
def aD.enc:aD→List AV
 | .mk op line name arg index e body els=>[.int .i64 op,.int .i64 line,.str name,.str arg,.lst (index.map aK.enc),.int .i64 e.op,.int .i64 e.n,.str e.name,.lst (e.l.map aK.enc),.lst (aD.encs body),.lst (aD.encs els)]
def aD.encs:List aD→List (List AV)
 | []=>[]
 | x::l=>x.enc::aD.encs l
end
mutual
def aD.wt:aD→Nat
 | .mk _ _ name arg index e body els=>1+name.length+arg.length+aK.wts index+e.wt+aD.wts body+aD.wts els
def aD.wts:List aD→Nat
 | []=>0
 | x::l=>x.wt+aD.wts l
end
theorem aD.wt_eq(x:aD):x.wt=1+x.name.length+x.arg.length+aK.wts x.index+x.expr.wt+aD.wts x.body+aD.wts x.els:=by cases x;rfl
theorem aD.wts_len:∀l:List aD,l.length≤aD.wts l
 | []=>Nat.le_refl _
 | x::l=>by have:=aD.wts_len l;have:=x.wt_eq;simp only[List.length_cons,aD.wts];omega
structure mQ where
 kind:Int
 line:Int
 name:br
 size:Int
 init:Int
 on:br
 deriving Inhabited
def mQ.enc(d:mQ):List AV:=[.int .i64 d.kind,.int .i64 d.line,.str d.name,.int .i64 d.size,.int .i64 d.init,.str d.on]
structure fH where
 name:br
 line:Int
 locals:List br
 body:List aD
def fH.enc(t:fH):List AV:=[.str t.name,.int .i64 t.line,.lst (t.locals.map aN),.lst (t.body.map aD.enc)]
structure rb where
 decls:List mQ
 threads:List fH
def rb.enc(p:rb):List AV:=[.lst (p.decls.map mQ.enc),.lst (p.threads.map fH.enc)]
def mQ.wt(d:mQ):Nat:=1+d.name.length+d.on.length
def fH.wt(t:fH):Nat:=1+t.name.length+t.locals.length+(t.locals.map List.length).sum+aD.wts t.body
def rb.wt(p:rb):Nat:=(p.decls.map mQ.wt).sum+(p.threads.map fH.wt).sum
theorem mR{α:Type}{p:α→Prop}{l:List α}{i:Nat}(h:i<l.length)(h1:∀x∈l.take i,p x)(h2:p l[i]):∀x∈l.take (i+1),p x:=by
 rw[List.take_succ_eq_append_getElem h]
 intro x hx
 rcases List.mem_append.1 hx with hx | hx
 ·exact h1 x hx
 ·simp at hx;subst hx;exact h2
theorem xb(n:Nat)(G:Nat→Prop)(S:Nat→List AV×SH){B:List AV→SH→W.Kn→Prop}{vs:List AV}{L:SH}(hl:n<2^62)(h0:G 0)(hv:vs=(S 0).1)(hL:L=(S 0).2)
  (h1:∀i,i<n→decide ((i:Int)<(n:Int))=true→IntKind.i64.wrap ((i:Int)+1)=((i+1:Nat):Int)→G i→∀nx:W.Kn,(G (i+1)→∀vs' L',bM vs' L' (S (i+1)).1 (S (i+1)).2→nx vs' L')→B (S i).1 (S i).2 nx)
  (h2:∀i,i=n→decide ((i:Int)<(n:Int))=false→G i→∀nx:W.Kn,B (S i).1 (S i).2 nx):W.loop B vs L:=by
 refine vk n S G h0 hv hL fun i hi hG=>?_
 rcases Nat.lt_or_ge i n with h | h
 ·exact h1 i h (dE h) (aY h hl) hG _ fun hg vs' L' hz=>⟨i+1,by omega,by omega,hg,hz⟩
 ·exact h2 i (by omega) (dF h) hG _
theorem iU(n:Nat)(G:Nat→Prop)(S:Nat→List AV){B:List AV→SH→W.Kn→Prop}{vs:List AV}{L:SH}(hl:n<2^62)(h0:G 0)(hv:vs=S 0)
  (h1:∀i,i<n→decide ((i:Int)<(n:Int))=true→IntKind.i64.wrap ((i:Int)+1)=((i+1:Nat):Int)→G i→∀nx:W.Kn,(G (i+1)→nx (S (i+1)) L)→B (S i) L nx)
  (h2:∀i,i=n→decide ((i:Int)<(n:Int))=false→G i→∀nx:W.Kn,B (S i) L nx):W.loop B vs L:=
 xb n G (fun i=>(S i,L)) hl h0 hv rfl (fun i h hd hi hG nx hn=>h1 i h hd hi hG nx fun hg=>hn hg _ _ (.refl _ _)) h2
theorem eZ{α:Type}(l:List α)(p:α→Bool)(S:Nat→List AV){B:List AV→SH→W.Kn→Prop}{vs:List AV}{L:SH}(hl:l.length<2^62)(hv:vs=S 0)
  (h1:∀i (h:i<l.length),decide ((i:Int)<(l.length:Int))=true→IntKind.i64.wrap ((i:Int)+1)=((i+1:Nat):Int)→(∀x∈l.take i,p x=false)→∀nx:W.Kn,(p l[i]=false→nx (S (i+1)) L)→B (S i) L nx)
  (h2:∀i,i=l.length→decide ((i:Int)<(l.length:Int))=false→(∀x∈l,p x=false)→∀nx:W.Kn,B (S i) L nx):W.loop B vs L:=
 iU l.length (fun i=>∀x∈l.take i,p x=false) S hl (by simp) hv (fun i h hd hi hG nx hn=>h1 i h hd hi hG nx fun hp=>hn (mR h hG hp))
  fun i e hd hG nx=>h2 i e hd (by rw[List.take_of_length_le (by omega)]at hG;exact hG) nx
theorem tc{α:Type}{p:α→Bool}{l:List α}(h:∀x∈l,p x=false):l.any p=false:=by simpa using h
theorem rd{α:Type}{p:α→Bool}{l:List α}{i:Nat}(h:i<l.length)(hp:p l[i]=true):l.any p=true:=List.any_eq_true.2 ⟨_,List.getElem_mem h,hp⟩
theorem vF{α:Type}{p:α→Bool}{l:List α}{i:Nat}(h:i<l.length)(hp:p l[i]=false):l.all p=false:=List.all_eq_false.2 ⟨_,List.getElem_mem h,by simp[hp]⟩
theorem u2{s:br}{k:IntKind}{i:Nat}{K:AV→Prop}(h:K (.int .u8 (s.getD i 0).toNat))(hi:i<s.length:=by assumption):W.ixS (.str s) (.int k (i:Int)) K:=⟨s,k,i,s[i],rfl,rfl,by omega,by simp[hi],by simpa[List.getD,hi]using h⟩
def nA{α:Type}(p:α→Bool):List α→Nat→Int
 | [],_=>-1
 | x::l,i=>if p x then(i:Int)else nA p l (i+1)
theorem kL{α:Type}{p:α→Bool}:∀{l:List α} {i:Nat},(∀x∈l,p x=false)→nA p l i=-1
 | [],_,_=>rfl
 | x::l,i,h=>by rw[nA,h x (by simp)];exact kL fun y hy=>h y (by simp[hy])
theorem re{α:Type}{p:α→Bool}:∀{l:List α} {j k:Nat} (hk:k<l.length),(∀x∈l.take k,p x=false)→p l[k]=true→nA p l j=(j+k:Nat)
 | x::l,j,0,hk,h,hp=>by simp at hp;simp[nA,hp]
 | x::l,j,k+1,hk,h,hp=>by
  rw[nA,h x (by simp)]
  have:=re (p:=p) (l:=l) (j:=j+1) (k:=k) (by simpa using hk) (fun y hy=>h y (by simp[hy])) (by simpa using hp)
  simp only[Bool.false_eq_true,if_false,this];congr 1;omega
theorem td{α:Type}{p:α→Bool}{l:List α}{k:Nat}(hk:k<l.length)(h:∀x∈l.take k,p x=false)(hp:p l[k]=true):nA p l 0=k:=by rw[re hk h hp];simp
end Go.Proofs.YtelgfgfgghpjgaaGreatDoor.Am
end
section
namespace Go.Proofs.YtelgfgfgghpjgaaGreatDoor.Am
set_option linter.unusedVariables false
structure aJ where
 name:br
 index:Int
 size:Int
 vol:Bool
 init:Int
 deriving Inhabited
def aJ.enc(c:aJ):List AV:=[.str c.name,.int .i64 c.index,.int .i64 c.size,.bool c.vol,.int .i64 c.init]
structure bK where
 name:br
 rw:Bool
 deriving Inhabited
def bK.enc(c:bK):List AV:=[.str c.name,.bool c.rw]
structure eK where
 name:br
 mutex:Int
 deriving Inhabited
def eK.enc(c:eK):List AV:=[.str c.name,.int .i64 c.mutex]
structure d6 where
 thread:Int
 stmt:Int
 line:Int
 deriving Inhabited
def d6.enc(c:d6):List AV:=[.int .i64 c.thread,.int .i64 c.stmt,.int .i64 c.line]
structure cj where
 cells:List aJ
 locks:List bK
 conds:List eK
 futures:List br
 threads:List br
 sites:List d6
def cj.enc(w:cj):List AV:=[.lst (w.cells.map aJ.enc),.lst (w.locks.map bK.enc),.lst (w.conds.map eK.enc),.lst (w.futures.map aN),.lst (w.threads.map aN),.lst (w.sites.map d6.enc)]
structure mS where
 thread:Int
 wake:Int
def mS.enc(c:mS):List AV:=[.int .i64 c.thread,.int .i64 c.wake]
structure CodD where
 w:cj
 ts:List pW
def CodD.enc(c:CodD):List AV:=[.lst (c.w.cells.map aJ.enc),.lst (c.w.locks.map bK.enc),.lst (c.w.conds.map eK.enc),.lst (c.w.futures.map aN),.lst (c.w.threads.map aN),.lst (c.w.sites.map d6.enc),.lst (c.ts.map pW.enc)]
def aI(i:bu):List Int:=
 if i.op=1∨i.op=6∨i.op=10∨i.op=27 then [i.a]else
 if i.op=2∨i.op=3 then [i.a,i.b]else
 if i.op=4 then [i.a,i.b,i.c]else
 if i.op=7 then [i.a,i.c]else
 if i.op=8∨i.op=26 then [i.b]else
 if i.op=9 then [i.b,i.c]else []
def kZ(w:cj)(i:Int):Bool:=fc i w.cells.length&&decide ((w.cells.getD i.toNat default).size=0)
def lq(w:cj)(i n:Int):Bool:=fc i w.cells.length&&decide ((w.cells.getD i.toNat default).index=0)&&decide ((w.cells.getD i.toNat default).size≠0)&&decide ((w.cells.getD i.toNat default).size=n)
def eM(w:cj)(i:Int)(rw:Bool):Bool:=fc i w.locks.length&&((w.locks.getD i.toNat ⟨[],false⟩).rw==rw)
def fI(w:cj)(i:bu):Bool:=
 if i.op=6 then kZ w i.b else if i.op=8 then kZ w i.a else if i.op=7 then lq w i.b i.n else if i.op=9 then lq w i.a i.n else
 if i.op=11∨i.op=12 then eM w i.a false else if i.op=13∨i.op=14∨i.op=15∨i.op=16 then eM w i.a true else
 if i.op=21∨i.op=22∨i.op=23 then fc i.a w.conds.length else if i.op=24∨i.op=25 then fc i.a w.threads.length else
 if i.op=26 then fc i.a w.futures.length else if i.op=27 then fc i.b w.futures.length else
 if i.op=3 then decide (i.n=4∨i.n=5)else if i.op=4 then decide (6≤i.n∧i.n≤18)else true
def bu.sil(i:bu):Prop:=1≤i.op∧i.op≤5
inductive k9 (ins:List bu):Nat→Nat→Prop where
 | ev (k:Nat) (i:bu):ins[k]? =some i→¬i.sil→k9 ins k 0
 | go (k m:Nat) (i:bu):ins[k]? =some i→i.sil→i.op≠5→k9 ins (k+1) m→k9 ins k (m+1)
 | jump (k m j:Nat) (i:bu):ins[k]? =some i→i.op=5→i.a=(j:Nat)→k9 ins j m→k9 ins k (m+1)
def cC(ins:List bu)(k:Nat):Prop:=∃m,k9 ins k m
theorem k9.uniq{ins:List bu}{k m1:Nat}(h1:k9 ins k m1):∀{m2:Nat},k9 ins k m2→m1=m2:=by
 induction h1 with
 | ev k i hi hs=>
  intro m2 h2
  cases h2 with
  | ev=>rfl
  | go _ _ i' hi' hs'=>rw[hi]at hi';cases hi';exact absurd hs' hs
  | jump _ _ j i' hi' hs'=>rw[hi]at hi';cases hi';exact absurd ⟨by omega,by omega⟩ hs
 | go k m i hi hs h5 hm ih=>
  intro m2 h2
  cases h2 with
  | ev _ i' hi' hs'=>rw[hi]at hi';cases hi';exact absurd hs hs'
  | go _ _ i' hi' hs' _ hm'=>rw[ih hm']
  | jump _ _ j i' hi' hs'=>rw[hi]at hi';cases hi';exact absurd hs' h5
 | jump k m j i hi hs ha hm ih=>
  intro m2 h2
  cases h2 with
  | ev _ i' hi' hs'=>rw[hi]at hi';cases hi';exact absurd ⟨by omega,by omega⟩ hs'
  | go _ _ i' hi' hs' h5 hm'=>rw[hi]at hi';cases hi';exact absurd hs h5
  | jump _ _ j' i' hi' hs' ha' hm'=>
   rw[hi]at hi';cases hi'
   have:j=j':=by omega
   subst this
   rw[ih hm']
theorem k9.lt{ins:List bu}{k m:Nat}(h:k9 ins k m):k<ins.length:=by
 cases h with
 | ev _ i hi _=>exact(List.getElem?_eq_some_iff.1 hi).1
 | go _ _ i hi=>exact(List.getElem?_eq_some_iff.1 hi).1
 | jump _ _ j i hi=>exact(List.getElem?_eq_some_iff.1 hi).1
theorem k9.path{ins:List bu}{k m:Nat}(h:k9 ins k m):∃l:List Nat,l.length=m+1∧(∀j∈l,j<ins.length∧∃q,q≤m∧k9 ins j q)∧l.Nodup:=by
 induction h with
 | ev k i hi hs=>exact⟨[k],rfl,by simp only[List.mem_singleton,forall_eq];exact⟨(k9.ev k i hi hs).lt,0,Nat.le_refl _,.ev k i hi hs⟩,by simp⟩
 | go k m i hi hs h5 hm ih=>
  obtain⟨l,h1,h2,h3⟩:=ih
  have hk:=k9.go k m i hi hs h5 hm
  refine⟨k::l,by simp[h1],fun j hj=>?_,List.nodup_cons.2 ⟨fun hkl=>?_,h3⟩⟩
  ·rcases List.mem_cons.1 hj with rfl | hj
   ·exact⟨hk.lt,_,Nat.le_refl _,hk⟩
   ·obtain⟨g1,q,g2,g3⟩:=h2 j hj
    exact⟨g1,q,by omega,g3⟩
  ·obtain⟨g1,q,g2,g3⟩:=h2 k hkl
   have:=hk.uniq g3
   omega
 | jump k m j i hi hs ha hm ih=>
  obtain⟨l,h1,h2,h3⟩:=ih
  have hk:=k9.jump k m j i hi hs ha hm
  refine⟨k::l,by simp[h1],fun j hj=>?_,List.nodup_cons.2 ⟨fun hkl=>?_,h3⟩⟩
  ·rcases List.mem_cons.1 hj with rfl | hj
   ·exact⟨hk.lt,_,Nat.le_refl _,hk⟩
   ·obtain⟨g1,q,g2,g3⟩:=h2 j hj
    exact⟨g1,q,by omega,g3⟩
  ·obtain⟨g1,q,g2,g3⟩:=h2 k hkl
   have:=hk.uniq g3
   omega
theorem nS{α:Type}[BEq α][LawfulBEq α]:∀{l U:List α},l.Nodup→(∀x∈l,x∈U)→l.length≤U.length
 | [],U,_,_=>by simp
 | x::l,U,hn,hs=>by
  have hx:x∈U:=hs x (by simp)
  have h1:=List.nodup_cons.1 hn
  have:=nS (l:=l) (U:=U.erase x) h1.2 fun y hy=>(List.mem_erase_of_ne (by rintro rfl;exact h1.1 hy)).2 (hs y (by simp[hy]))
  rw[List.length_erase_of_mem hx]at this
  have:=List.length_pos_of_mem hx
  simp only[List.length_cons]
  omega
theorem pz:∀{n:Nat} {l:List Nat},l.Nodup→(∀j∈l,j<n)→l.length≤n:=by
 intro n l hn h
 have:=nS hn (U:=List.range n) fun j hj=>List.mem_range.2 (h j hj)
 simpa using this
theorem k9.bound{ins:List bu}{k m:Nat}(h:k9 ins k m):m<ins.length:=by
 obtain⟨l,h1,h2,h3⟩:=h.path
 have:=pz h3 (fun j hj=>(h2 j hj).1)
 omega
end Go.Proofs.YtelgfgfgghpjgaaGreatDoor.Am
end
section
namespace Go.Proofs.YtelgfgfgghpjgaaGreatDoor.Am
set_option maxRecDepth 100000
set_option maxHeartbeats 1000000
set_option linter.unusedVariables false
theorem bo(i:Int)(n:Nat):ax Tryz.prog 57 [.int .i64 i,.int .i64 n] (.bool (fc i n)):=by
 refine jW _ _ _ _ ?_
 unfold eY
 generalize hQ:(fun(u:AV) (K:SH)=>u=AV.bool (fc i n)∧K=[])=Q
 repeat' (first | refine st ?_ | refine sb (fun nb_ hnb_=>?_) | refine s2 (fun h=>?_) (fun h=>?_) | fail)
 all_goals
  subst hQ
  refine⟨?_,rfl⟩
  simp_all[fc]<;>omega
def gm(op:Int):Bool:=decide (1≤op)&&decide (op≤5)
theorem lb(op:Int):ax Tryz.prog 90 [.int .i64 op] (.bool (gm op)):=by
 refine iy _ _ _ ?_
 unfold dM
 generalize hQ:(fun(u:AV) (K:SH)=>u=AV.bool (gm op)∧K=[])=Q
 repeat' (first | refine st ?_ | refine sb (fun nb_ hnb_=>?_) | refine s2 (fun h=>?_) (fun h=>?_) | fail)
 all_goals
  subst hQ
  refine⟨?_,rfl⟩
  simp_all[gm]<;>omega
section
variable (w:cj)
theorem pB(i:Int):ax Tryz.prog 88 [.agg w.enc,.int .i64 i] (.bool (kZ w i)):=by
 have hw:=bo i w.cells.length
 refine iw _ _ _ _ ?_
 unfold dL kZ
 cases h1:fc i w.cells.length with
 | false=>
  rw[h1]at hw
  repeat' (first | refine st ?_ | ((with_reducible refine am 57 ?_);refine ae (hw) ?_) | ((with_reducible refine af 57 ?_);refine ab (hw) ?_) | refine sb (fun nb_ hnb_=>?_) | refine s2 (fun h=>?_) (fun h=>?_) | fail)
  exact⟨rfl,rfl⟩
 | true=>
  rw[h1]at hw
  have hx:=mf (f:=aJ.enc) h1
  obtain⟨k,rfl⟩:=Int.eq_ofNat_of_zero_le (dG h1)
  unfold aJ.enc at hx
  rw[Int.toNat_natCast]at hx
  repeat' (first | refine st ?_ | ((with_reducible refine am 57 ?_);refine ae (hw) ?_) | ((with_reducible refine af 57 ?_);refine ab (hw) ?_) | refine sb (fun nb_ hnb_=>?_) | refine s2 (fun h=>?_) (fun h=>?_) | fail)
  exact⟨rfl,rfl⟩
theorem qp(i n:Int):ax Tryz.prog 89 [.agg w.enc,.int .i64 i,.int .i64 n] (.bool (lq w i n)):=by
 have hw:=bo i w.cells.length
 refine jc _ _ _ _ _ ?_
 unfold ed
 generalize hQ:(fun(u:AV) (K:SH)=>u=AV.bool (lq w i n)∧K=[])=Q
 have hq:∀b,lq w i n=b→Q (.bool b) []:=fun b hb=>by subst hQ;exact⟨by rw[hb],rfl⟩
 clear hQ
 cases h1:fc i w.cells.length with
 | false=>
  rw[h1]at hw
  repeat' (first | refine st ?_ | ((with_reducible refine am 57 ?_);refine ae (hw) ?_) | ((with_reducible refine af 57 ?_);refine ab (hw) ?_) | refine sb (fun nb_ hnb_=>?_) | refine s2 (fun h=>?_) (fun h=>?_) | fail)
  exact hq _ (by simp[lq,h1])
 | true=>
  rw[h1]at hw
  have hx:=mf (f:=aJ.enc) h1
  obtain⟨k,rfl⟩:=Int.eq_ofNat_of_zero_le (dG h1)
  unfold aJ.enc at hx
  rw[Int.toNat_natCast]at hx
  repeat' (first | refine st ?_ | ((with_reducible refine am 57 ?_);refine ae (hw) ?_) | ((with_reducible refine af 57 ?_);refine ab (hw) ?_) | refine sb (fun nb_ hnb_=>?_) | refine s2 (fun h=>?_) (fun h=>?_) | fail)
  all_goals exact hq _ (by simp_all[lq])
theorem nT(i:Int)(rw_:Bool):ax Tryz.prog 55 [.agg w.enc,.int .i64 i,.bool rw_] (.bool (eM w i rw_)):=by
 have hw:=bo i w.locks.length
 refine jV _ _ _ _ _ ?_
 unfold eX eM
 cases h1:fc i w.locks.length with
 | false=>
  rw[h1]at hw
  repeat' (first | refine st ?_ | ((with_reducible refine am 57 ?_);refine ae (hw) ?_) | ((with_reducible refine af 57 ?_);refine ab (hw) ?_) | refine sb (fun nb_ hnb_=>?_) | refine s2 (fun h=>?_) (fun h=>?_) | fail)
  exact⟨rfl,rfl⟩
 | true=>
  rw[h1]at hw
  obtain⟨k,rfl⟩:=Int.eq_ofNat_of_zero_le (dG h1)
  have hk:k<w.locks.length:=by have:=(bA.1 h1).2;omega
  have hx:=aG (f:=bK.enc) hk
  unfold bK.enc at hx
  repeat' (first | refine st ?_ | ((with_reducible refine am 57 ?_);refine ae (hw) ?_) | ((with_reducible refine af 57 ?_);refine ab (hw) ?_) | refine sb (fun nb_ hnb_=>?_) | refine s2 (fun h=>?_) (fun h=>?_) | fail)
  refine⟨congrArg AV.bool ?_,rfl⟩
  rw[Int.toNat_natCast,List.getD_eq_getElem?_getD,List.getElem?_eq_getElem hk]
  simp only[Option.getD_some,Bool.true_and]
  generalize w.locks[k].rw=r
  cases r<;>cases rw_<;>rfl
end
def oz(n:Nat)(i:bu):Bool:=if i.op=5 then fc i.a n else if i.op=10 then fc i.b n else true
theorem tf(n a:Int):(w6 n a).2=decide (n=4∨n=5):=by
 unfold w6
 repeat' split
 all_goals simp_all
theorem rN(n a b:Int):(rL n a b).2=decide (6≤n∧n≤18):=by
 by_cases h:6≤n∧n≤18
 ·rw[decide_eq_true h]
  have:n=6∨n=7∨n=8∨n=9∨n=10∨n=11∨n=12∨n=13∨n=14∨n=15∨n=16∨n=17∨n=18:=by omega
  unfold rL
  rcases this with rfl | rfl | rfl | rfl | rfl | rfl | rfl | rfl | rfl | rfl | rfl | rfl | rfl<;>rfl
 ·rw[decide_eq_false h]
  unfold rL
  rw[if_neg (by omega),if_neg (by omega),if_neg (by omega),if_neg (by omega),if_neg (by omega),if_neg (by omega),if_neg (by omega),if_neg (by omega),if_neg (by omega),if_neg (by omega),if_neg (by omega),if_neg (by omega),if_neg (by omega)]
theorem oA(w:cj)(n:Nat)(i:bu):ax Tryz.prog 59 [.agg w.enc,.int .i64 n,.agg i.enc] (.bool (fI w i&&oz n i)):=by
 obtain⟨op,ia,ib,ic,m,site⟩:=i
 refine eI _ _ _ _ _ ?_
 unfold cm
 have h1:=bo ia n
 have h2:=bo ib n
 have hc:=bo ia w.conds.length
 have ht:=bo ia w.threads.length
 have hf:=bo ia w.futures.length
 have hg:=bo ib w.futures.length
 have hu:=ta m 0
 have hbn:=rM m 0 0
 unfold qo at hu hbn
 rw[tf]at hu
 rw[rN]at hbn
 have hs:=pB w
 have ha:=qp w
 have hl:=nT w
 generalize hQ:(fun(u:AV) (K:SH)=>u=AV.bool (fI w ⟨op,ia,ib,ic,m,site⟩&&oz n ⟨op,ia,ib,ic,m,site⟩)∧K=[])=Q
 have hq:∀b:Bool,(fI w ⟨op,ia,ib,ic,m,site⟩&&oz n ⟨op,ia,ib,ic,m,site⟩)=b→Q (.bool b) []:=fun b hb=>by subst hb;subst hQ;exact⟨rfl,rfl⟩
 clear hQ
 repeat' (first | refine st ?_ | ((with_reducible refine am 57 ?_);refine ae (h1) ?_) | ((with_reducible refine af 57 ?_);refine ab (h1) ?_) | ((with_reducible refine am 57 ?_);refine ae (h2) ?_) | ((with_reducible refine af 57 ?_);refine ab (h2) ?_) | ((with_reducible refine am 57 ?_);refine ae (hc) ?_) | ((with_reducible refine af 57 ?_);refine ab (hc) ?_) | ((with_reducible refine am 57 ?_);refine ae (ht) ?_) | ((with_reducible refine af 57 ?_);refine ab (ht) ?_) | ((with_reducible refine am 57 ?_);refine ae (hf) ?_) | ((with_reducible refine af 57 ?_);refine ab (hf) ?_) | ((with_reducible refine am 57 ?_);refine ae (hg) ?_) | ((with_reducible refine af 57 ?_);refine ab (hg) ?_) | ((with_reducible refine am 86 ?_);refine ae (hu) ?_) | ((with_reducible refine af 86 ?_);refine ab (hu) ?_) | ((with_reducible refine am 87 ?_);refine ae (hbn) ?_) | ((with_reducible refine af 87 ?_);refine ab (hbn) ?_) | ((with_reducible refine am 88 ?_);refine ae (hs _) ?_) | ((with_reducible refine af 88 ?_);refine ab (hs _) ?_) | ((with_reducible refine am 89 ?_);refine ae (ha _ _) ?_) | ((with_reducible refine af 89 ?_);refine ab (ha _ _) ?_) | ((with_reducible refine am 55 ?_);refine ae (hl _ _) ?_) | ((with_reducible refine af 55 ?_);refine ab (hl _ _) ?_) | refine sb (fun nb_ hnb_=>?_) | refine s2 (fun h=>?_) (fun h=>?_) | fail)
 all_goals
  refine hq _ ?_
  simp only[decide_eq_true_eq,decide_eq_false_iff_not]at *
  unfold fI oz
  first
   | (subst_vars;rfl)
   | (subst_vars;simp;done)
   | (simp_all;done)
end Go.Proofs.YtelgfgfgghpjgaaGreatDoor.Am
end
section
namespace Go.Proofs.YtelgfgfgghpjgaaGreatDoor.Am
set_option linter.unusedVariables false
section
variable {L:SH} {K:AV→Prop} {KL:R} {KS:SH→Prop}
theorem uj(h:∀b,b∉L.names→KL (.mp b) ((b,⟨0,[]⟩)::L)):W.mkmap L KL:=⟨h⟩
theorem tg{z v:AV}{ok:Bool}{b:Nat}{s:List UInt8}{x:Blk}(hm:(b,x)∈L)(h1:x.rows.all jv=true)(h2:W0.found z ok (cI s x.rows 0)=v)(k:K v):W.look z ok (.mp b) (.str s) L K:=⟨x,hm,h1,by rw[h2];exact k⟩
theorem xc{v:AV}{b:Nat}{s:List UInt8}{x:Blk}{rows:List (List AV)}{L':SH}(hu:nN b x ⟨x.size,rows⟩ L L')(h1:x.rows.all jv=true)(h2:v.konst=true)(h3:W0.putR s v x.rows=rows)(k:KS L'):W.mup (.mp b) (.str s) v L KS:=⟨x,L',h1,h2,by rw[h3];exact hu,k⟩
theorem vG{s:List UInt8}(h:∀b,b∉L.names→KL (.it b) ((b,⟨0,[[.str s,.int .i64 0]]⟩)::L)):W.rngS (.str s) L KL:=⟨s,rfl,h⟩
theorem rO{b n:Nat}{s:List UInt8}{k:IntKind}{pos:Int}(hm:(b,(⟨n,[[.str s,.int k pos]]⟩:Blk))∈L)(h:¬pos<s.length)(hk:KL (.tup [.bool false]) L):W.nxt (.it b) L KL:=⟨_,s,k,pos,hm,rfl,by rw[if_neg h];exact hk⟩
theorem xd{b n:Nat}{s:List UInt8}{k:IntKind}{pos:Nat}{L':SH}(hm:(b,(⟨n,[[.str s,.int k (pos:Int)]]⟩:Blk))∈L)(h:pos<s.length)(hu:nN b ⟨n,[[.str s,.int k (pos:Int)]]⟩ ⟨n,[[.str s,.int .i64 ((pos+(Utf8.decode ⟨s.toArray⟩ pos).2:Nat):Int)]]⟩ L L')
  (hk:KL (.tup [.bool true,.int .i64 (pos:Int),.int .i32 (Utf8.decode ⟨s.toArray⟩ pos).1]) L'):W.nxt (.it b) L KL:=⟨_,s,k,pos,hm,rfl,by
 rw[if_pos (by omega)]
 simp only[Int.toNat_natCast]
 exact⟨L',hu,hk⟩⟩
end
theorem kM{α:Type}(S:α→List AV×SH)(m:α→Nat)(G:α→Prop){B:List AV→SH→W.Kn→Prop}{vs:List AV}{L:SH}(a0:α)(h0:G a0)(hv:vs=(S a0).1)(hL:L=(S a0).2)
  (h:∀a,G a→∀nx:W.Kn,(∀a',G a'→m a'<m a→nx (S a').1 (S a').2)→B (S a).1 (S a).2 nx):W.loop B vs L:=
 tT S m G a0 h0 hv hL fun a ha=>h a ha _ fun a' h1 h2=>⟨a',h1,h2,.refl _ _⟩
end Go.Proofs.YtelgfgfgghpjgaaGreatDoor.Am
end
section
namespace Go.Proofs.YtelgfgfgghpjgaaGreatDoor.Am
set_option maxRecDepth 100000
set_option maxHeartbeats 1000000
set_option linter.unusedVariables false
set_option linter.unusedSectionVars false
noncomputable def cV (P:Prop):Bool:=@decide P (Classical.propDecidable P)
theorem bJ{P:Prop}(h:P):cV P=true:=@decide_eq_true P (Classical.propDecidable P) h
theorem aZ{P:Prop}(h:¬P):cV P=false:=@decide_eq_false P (Classical.propDecidable P) h
theorem cW{P:Prop}:cV P=true↔P:=⟨fun h=>@of_decide_eq_true P (Classical.propDecidable P) h,bJ⟩
theorem oB(i:bu):ax Tryz.prog 58 [.agg i.enc] (.lst ((aI i).map c9)):=by
 obtain⟨op,ia,ib,ic,n,site⟩:=i
 refine al.fz (hC _ _ _ ?_)
 unfold dt
 generalize hQ:(fun(v:AV) (L:SH)=>∃v2 L2,bM [v] L [v2] L2∧v2=AV.lst ((aI ⟨op,ia,ib,ic,n,site⟩).map c9)∧L2=[])=Q
 have hq:∀(l:List Int),aI ⟨op,ia,ib,ic,n,site⟩=l→∀v L,Fz L v (.lst (l.map c9))→Q v L:=fun l hl v L h=>by
  subst hQ;exact⟨_,[],bM.all h,by rw[hl],rfl⟩
 clear hQ
 repeat' (first | refine st ?_ | refine sb (fun nb_ hnb_=>?_) | refine s2 (fun h=>?_) (fun h=>?_) | fail)
 all_goals first
  | exact hq [ia] (by simp_all[aI];done) _ _ (Fz.sls (l:=[ia]) (f:=c9) (.head _) rfl (by decide) rfl)
  | exact hq [ib] (by simp_all[aI];done) _ _ (Fz.sls (l:=[ib]) (f:=c9) (.head _) rfl (by decide) rfl)
  | exact hq [ia,ib] (by simp_all[aI];done) _ _ (Fz.sls (l:=[ia,ib]) (f:=c9) (.head _) rfl (by decide) rfl)
  | exact hq [ia,ic] (by simp_all[aI];done) _ _ (Fz.sls (l:=[ia,ic]) (f:=c9) (.head _) rfl (by decide) rfl)
  | exact hq [ib,ic] (by simp_all[aI];done) _ _ (Fz.sls (l:=[ib,ic]) (f:=c9) (.head _) rfl (by decide) rfl)
  | exact hq [ia,ib,ic] (by simp_all[aI];done) _ _ (Fz.sls (l:=[ia,ib,ic]) (f:=c9) (.head _) rfl (by decide) rfl)
  | exact hq [] (by simp_all[aI];done) _ _ .nils
theorem oC{ins:List bu}{k:Nat}{i:bu}(h:ins[k]? =some i):ax Tryz.prog 91 [.lst (ins.map bu.enc),.int .i64 k] (.int .i64 (if i.op=5 then i.a else IntKind.i64.wrap ((k:Int)+1))):=by
 have hx:(ins.map bu.enc)[k]? =some i.enc:=t9 h
 obtain⟨op,ia,ib,ic,n,site⟩:=i
 unfold bu.enc at hx
 refine gR _ _ _ _ ?_
 unfold dq
 generalize hQ:(fun(u:AV) (K:SH)=>u=AV.int .i64 (if op=5 then ia else IntKind.i64.wrap ((k:Int)+1))∧K=[])=Q
 repeat' (first | refine st ?_ | refine sb (fun nb_ hnb_=>?_) | refine s2 (fun h=>?_) (fun h=>?_) | fail)
 all_goals
  subst hQ
  refine⟨?_,rfl⟩
  simp_all
structure ti(ins:List bu):Prop where
 len:ins.length<2^48
 jmp:∀i∈ins,i.op=5→0≤i.a∧i.a<ins.length
 last:∀(k:Nat) (i:bu),ins[k]? =some i→(i.op=28↔k+1=ins.length)
def nxt(ins:List bu)(k:Nat):Nat:=match ins[k]? with
 | some i=>if i.op=5 then i.a.toNat else k+1
 | none=>0
def fJ(ins:List bu)(k:Nat):Nat→Nat
 | 0=>k
 | t+1=>nxt ins (fJ ins k t)
def fR(ins:List bu)(k:Nat):Prop:=∃i,ins[k]? =some i∧i.sil
section
variable {ins:List bu} (hf:ti ins)
include hf
theorem tj{k:Nat}(h:fR ins k):nxt ins k<ins.length:=by
 obtain⟨i,hi,hs⟩:=h
 have hk:=(List.getElem?_eq_some_iff.1 hi).1
 unfold nxt
 rw[hi]
 dsimp only
 split
 ·rename_i h5
  have:=hf.jmp i (List.mem_of_getElem? hi) h5
  omega
 ·have h1:=hf.last k i hi
  have:=hs.2
  have:k+1≠ins.length:=fun e=>by have:=h1.2 e;omega
  omega
theorem rh{k:Nat}(h:fR ins k):ax Tryz.prog 91 [.lst (ins.map bu.enc),.int .i64 k] (.int .i64 (nxt ins k:Nat)):=by
 have hl:=tj hf h
 obtain⟨i,hi,hs⟩:=h
 have h1:=oC hi
 have hk:=(List.getElem?_eq_some_iff.1 hi).1
 have:(if i.op=5 then i.a else IntKind.i64.wrap ((k:Int)+1))=(nxt ins k:Nat):=by
  unfold nxt
  rw[hi]
  dsimp only
  split
  ·rename_i h5
   have:=hf.jmp i (List.mem_of_getElem? hi) h5
   omega
  ·have:=hf.len
   rw[aY hk (by omega)]
 rw[this]at h1
 exact h1
theorem tk{k:Nat}(h:fR ins k)(h2:cC ins (nxt ins k)):cC ins k:=by
 obtain⟨i,hi,hs⟩:=h
 obtain⟨m,hm⟩:=h2
 unfold nxt at hm
 rw[hi]at hm
 dsimp only at hm
 split at hm
 ·rename_i h5
  have:=hf.jmp i (List.mem_of_getElem? hi) h5
  exact⟨m+1,.jump k m i.a.toNat i hi h5 (by omega) hm⟩
 ·rename_i h5
  exact⟨m+1,.go k m i hi hs h5 hm⟩
theorem vH{k m:Nat}(h:fR ins k)(h2:k9 ins k m):∃m',m=m'+1∧k9 ins (nxt ins k) m':=by
 obtain⟨i,hi,hs⟩:=h
 unfold nxt
 rw[hi]
 dsimp only
 cases h2 with
 | ev _ i' hi' hs'=>rw[hi]at hi';cases hi';exact absurd hs hs'
 | go _ m' i' hi' hs' h5 hm=>rw[hi]at hi';cases hi';rw[if_neg h5];exact⟨m',rfl,hm⟩
 | jump _ m' j i' hi' h5 ha hm=>rw[hi]at hi';cases hi';rw[if_pos h5,ha];exact⟨m',rfl,by simpa using hm⟩
theorem oD{k m:Nat}(h:k9 ins k m):∀t,(∀u,u<t→fR ins (fJ ins k u))→t≤m∧k9 ins (fJ ins k t) (m-t)
 | 0,_=>⟨Nat.zero_le _,h⟩
 | t+1,hs=>by
  obtain⟨h1,h2⟩:=oD h t fun u hu=>hs u (by omega)
  obtain⟨m',h3,h4⟩:=vH hf (hs t (by omega)) h2
  refine⟨by omega,?_⟩
  rw[show m-(t+1)=m' by omega]
  exact h4
theorem tm{k t u:Nat}(hs:∀u,u<t→fR ins (fJ ins k u))(hu:u<t)(e:fJ ins k u=fJ ins k t):¬cC ins k:=fun⟨m,hm⟩=>by
 obtain⟨h1,h2⟩:=oD hf hm t hs
 obtain⟨h3,h4⟩:=oD hf hm u fun v hv=>hs v (by omega)
 rw[e]at h4
 have:=h4.uniq h2
 omega
theorem pC{k:Nat}:∀t,(∀u,u<t→fR ins (fJ ins k u))→cC ins (fJ ins k t)→∀u,u≤t→cC ins (fJ ins k u)
 | 0,_,h,u,hu=>by rw[show u=0 by omega];exact h
 | t+1,hs,h,u,hu=>by
  rcases Nat.lt_or_ge t u with h1 | h1
  ·rw[show u=t+1 by omega];exact h
  ·exact pC t (fun v hv=>hs v (by omega)) (tk hf (hs t (by omega)) h) u h1
end
def fK(s:List Bool)(ins:List bu)(k:Nat):Nat→List Bool
 | 0=>s
 | t+1=>(fK s ins k t).set (fJ ins k t) true
theorem dO(s:List Bool)(ins:List bu)(k:Nat):∀t,(fK s ins k t).length=s.length
 | 0=>rfl
 | t+1=>by rw[fK,List.length_set,dO s ins k t]
theorem hD{s:List Bool}{ins:List bu}{k j:Nat}:∀t,(fK s ins k t)[j]? =some true→s[j]? =some true∨∃u,u<t∧fJ ins k u=j
 | 0,h=>.inl h
 | t+1,h=>by
  rw[fK,List.getElem?_set]at h
  split at h
  ·rename_i e;exact .inr ⟨t,by omega,e⟩
  ·rcases hD t h with h1 | ⟨u,hu,e⟩
   ·exact .inl h1
   ·exact .inr ⟨u,by omega,e⟩
theorem hH{s:List Bool}{ins:List bu}{k j:Nat}(hj:j<s.length):∀t,(s[j]? =some true∨∃u,u<t∧fJ ins k u=j)→(fK s ins k t)[j]? =some true
 | 0,h=>by
  rcases h with h | ⟨u,hu,_⟩
  ·exact h
  ·omega
 | t+1,h=>by
  rw[fK,List.getElem?_set]
  split
  ·rename_i e
   rw[if_pos (by rw[dO];omega)]
  ·rename_i e
   refine hH hj t ?_
   rcases h with h | ⟨u,hu,e2⟩
   ·exact .inl h
   ·refine .inr ⟨u,?_,e2⟩
    rcases Nat.lt_or_ge u t with h1 | h1
    ·exact h1
    ·rw[show u=t by omega]at e2;exact absurd e2 e
theorem qq{l:List Bool}{k:Nat}(h:k<l.length):∃b,l[k]? =some b:=⟨l[k],List.getElem?_eq_getElem h⟩
theorem oE{l:List Bool}{k:Nat}{b:Bool}(h:l[k]? =some b):(l.map cy)[k]? =some [.bool b]:=by rw[List.getElem?_map,h];rfl
theorem pD(s:List Bool)(ins:List bu)(k t:Nat):((fK s ins k t).map cy).set (fJ ins k t) [.bool true]=(fK s ins k (t+1)).map cy:=by
 rw[fK,List.map_set];rfl
end Go.Proofs.YtelgfgfgghpjgaaGreatDoor.Am
end
section
namespace Go.Proofs.YtelgfgfgghpjgaaGreatDoor.Am
set_option maxRecDepth 100000
set_option maxHeartbeats 1000000
set_option linter.unusedVariables false
set_option linter.unusedSectionVars false
structure xe(ins:List bu)(start:Nat)(g:List Bool)(t:Nat):Prop where
 lt:fJ ins start t<ins.length
 sil:∀u,u<t→fR ins (fJ ins start u)
 bad:∀u,u<t→g[fJ ins start u]? =some false
 inj:∀u v,u<v→v<t→fJ ins start u≠fJ ins start v
section
variable {ins:List bu} (hf:ti ins) {b1 b2:Nat} {start:Nat} (hs:start<ins.length) {g s:List Bool} (hg:g.length=ins.length) (hl:s.length=ins.length) (hsg:∀k:Nat,s[k]? =some true→g[k]? =some true) (hgl:∀k:Nat,g[k]? =some true→cC ins k)
theorem vI{t:Nat}(hf:ti ins)(hs:start<ins.length)(h:xe ins start g t):t≤ins.length:=by
 have h1:((List.range t).map (fJ ins start)).Nodup:=by
  refine List.pairwise_map.2 ?_
  refine(List.nodup_range (n:=t)).imp_of_mem ?_
  intro u v hu hv hne e
  rcases Nat.lt_or_ge u v with h2 | h2
  ·exact h.inj u v h2 (List.mem_range.1 hv) e
  ·exact h.inj v u (by omega) (List.mem_range.1 hu) e.symm
 have h2:=pz h1 (n:=ins.length) (by
  intro j hj
  obtain⟨u,hu,rfl⟩:=List.mem_map.1 hj
  obtain⟨i,hi,_⟩:=h.sil u (List.mem_range.1 hu)
  exact(List.getElem?_eq_some_iff.1 hi).1)
 simpa using h2
include hf hs hg hl
theorem tn(n8:W.Kn)(T:Nat)(hw:xe ins start g T)(he:¬fR ins (fJ ins start T)∨g[fJ ins start T]? =some true)(sr:List Bool)
  (hn:n8 [.lst (ins.map bu.enc),.sl b1 0 ins.length,.sl b2 0 ins.length,.int .i64 ins.length,.int .i64 (start+1:Nat)] [(b2,⟨1,sr.map cy⟩),(b1,⟨1,(fK g ins start T).map cy⟩)]) :
  W.loop (ca n8) [.lst (ins.map bu.enc),.sl b1 0 ins.length,.sl b2 0 ins.length,.int .i64 start,.int .i64 ins.length,.int .i64 start] [(b2,⟨1,sr.map cy⟩),(b1,⟨1,g.map cy⟩)]:=by
 refine kM (fun u:Nat=>([.lst (ins.map bu.enc),.sl b1 0 ins.length,.sl b2 0 ins.length,.int .i64 (fJ ins start u:Nat),.int .i64 ins.length,.int .i64 start],[(b2,⟨1,sr.map cy⟩),(b1,⟨1,(fK g ins start u).map cy⟩)])) (fun u=>T-u) (fun u=>u≤T) 0 (Nat.zero_le _) rfl rfl fun u hu nx hnx=>?_
 have hk:fJ ins start u<ins.length:=by
  rcases Nat.lt_or_ge u T with h | h
  ·obtain⟨i,hi,_⟩:=hw.sil u h
   exact(List.getElem?_eq_some_iff.1 hi).1
  ·rw[show u=T by omega];exact hw.lt
 have hx:=aG (f:=bu.enc) hk
 unfold bu.enc at hx
 have hsi:=lb ins[fJ ins start u].op
 obtain⟨b,hb⟩:=qq (l:=fK g ins start u) (k:=fJ ins start u) (by rw[dO];omega)
 have hbm:=oE hb
 have hw1:IntKind.i64.wrap ((start:Int)+1)=((start+1:Nat):Int):=aY hs (by have:=hf.len;omega)
 have hon:gm ins[fJ ins start u].op=true→b=false→u<T:=fun h1 h2=>by
  rcases Nat.lt_or_ge u T with h | h
  ·exact h
  ·exfalso
   have e:u=T:=by omega
   subst e
   rcases he with he | he
   ·exact he ⟨_,List.getElem?_eq_getElem hk,by simpa[gm,bu.sil]using h1⟩
   ·rw[hH (by omega) u (.inl he)]at hb
    cases hb;cases h2
 have hoff:u<T→gm ins[fJ ins start u].op=true∧b=false:=fun h=>by
  obtain⟨i,hi,h2⟩:=hw.sil u h
  rw[List.getElem?_eq_getElem hk]at hi
  cases hi
  refine⟨by simpa[gm,bu.sil]using h2,?_⟩
  cases b with
  | false=>rfl
  | true=>
   exfalso
   rcases hD u hb with h3 | ⟨v,hv,h3⟩
   ·rw[hw.bad u h]at h3;cases h3
   ·exact hw.inj v u hv h h3
 unfold ca
 dsimp only
 rcases Nat.lt_or_ge u T with h | h
 ·obtain⟨h1,rfl⟩:=hoff h
  have hfo:=rh hf (hw.sil u h)
  rw[h1]at hsi
  repeat' (first | refine st ?_ | ((with_reducible refine am 90 ?_);refine ae (hsi) ?_) | ((with_reducible refine af 90 ?_);refine ab (hsi) ?_) | ((with_reducible refine am 91 ?_);refine ae (hfo) ?_) | ((with_reducible refine af 91 ?_);refine ab (hfo) ?_) | refine sb (fun nb_ hnb_=>?_) | refine s2 (fun h=>?_) (fun h=>?_) | fail)
  have:=hnx (u+1) (by omega) (by omega)
  rw[←pD]at this
  exact this
 ·have e:u=T:=by omega
  subst e
  cases h1:gm ins[fJ ins start u].op with
  | false=>
   rw[h1]at hsi
   repeat' (first | refine st ?_ | ((with_reducible refine am 90 ?_);refine ae (hsi) ?_) | ((with_reducible refine af 90 ?_);refine ab (hsi) ?_) | refine sb (fun nb_ hnb_=>?_) | refine s2 (fun h=>?_) (fun h=>?_) | fail)
   exact hn
  | true=>
   rw[h1]at hsi
   cases b with
   | false=>exact absurd (hon h1 rfl) (Nat.lt_irrefl _)
   | true=>
    repeat' (first | refine st ?_ | ((with_reducible refine am 90 ?_);refine ae (hsi) ?_) | ((with_reducible refine af 90 ?_);refine ab (hsi) ?_) | refine sb (fun nb_ hnb_=>?_) | refine s2 (fun h=>?_) (fun h=>?_) | fail)
    exact hn
include hsg in
theorem vJ(Q:R)(n8:W.Kn)(hq:¬cC ins start→∀L,Q (.bool false) L)
  (hn:∀T,xe ins start g T→(¬fR ins (fJ ins start T)∨g[fJ ins start T]? =some true)→n8 [.lst (ins.map bu.enc),.sl b1 0 ins.length,.sl b2 0 ins.length,.int .i64 ins.length,.int .i64 (start+1:Nat)] [(b2,⟨1,(fK s ins start T).map cy⟩),(b1,⟨1,(fK g ins start T).map cy⟩)]) :
  W.loop (cb Q n8) [.lst (ins.map bu.enc),.sl b1 0 ins.length,.sl b2 0 ins.length,.int .i64 start,.int .i64 start,.int .i64 ins.length,.int .i64 start] [(b2,⟨1,s.map cy⟩),(b1,⟨1,g.map cy⟩)]:=by
 refine kM (fun t:Nat=>([.lst (ins.map bu.enc),.sl b1 0 ins.length,.sl b2 0 ins.length,.int .i64 start,.int .i64 (fJ ins start t:Nat),.int .i64 ins.length,.int .i64 start],[(b2,⟨1,(fK s ins start t).map cy⟩),(b1,⟨1,g.map cy⟩)])) (fun t=>ins.length-t) (fun t=>xe ins start g t) 0 ⟨hs,fun u hu=>absurd hu (Nat.not_lt_zero _),fun u hu=>absurd hu (Nat.not_lt_zero _),fun u v _ hv=>absurd hv (Nat.not_lt_zero _)⟩ rfl rfl fun t hw nx hnx=>?_
 have hk:=hw.lt
 have hx:=aG (f:=bu.enc) hk
 unfold bu.enc at hx
 have hsi:=lb ins[fJ ins start t].op
 obtain⟨b,hb⟩:=qq (l:=g) (k:=fJ ins start t) (by omega)
 have hbm:=oE hb
 obtain⟨c,hc⟩:=qq (l:=fK s ins start t) (k:=fJ ins start t) (by rw[dO];omega)
 have hcm:=oE hc
 unfold cb
 dsimp only
 cases h1:gm ins[fJ ins start t].op with
 | false=>
  rw[h1]at hsi
  have hno:¬fR ins (fJ ins start t):=fun⟨i,hi,h2⟩=>by
   rw[List.getElem?_eq_getElem hk]at hi
   cases hi
   have:gm ins[fJ ins start t].op=true:=by simpa[gm,bu.sil]using h2
   rw[h1]at this;cases this
  repeat' (first | refine st ?_ | ((with_reducible refine am 90 ?_);refine ae (hsi) ?_) | ((with_reducible refine af 90 ?_);refine ab (hsi) ?_) | refine sb (fun nb_ hnb_=>?_) | refine s2 (fun h=>?_) (fun h=>?_) | fail)
  exact tn hf hs hg hl n8 t hw (.inl hno) _ (hn t hw (.inl hno))
 | true=>
  rw[h1]at hsi
  have hsa:fR ins (fJ ins start t):=⟨_,List.getElem?_eq_getElem hk,by simpa[gm,bu.sil]using h1⟩
  cases b with
  | true=>
   repeat' (first | refine st ?_ | ((with_reducible refine am 90 ?_);refine ae (hsi) ?_) | ((with_reducible refine af 90 ?_);refine ab (hsi) ?_) | refine sb (fun nb_ hnb_=>?_) | refine s2 (fun h=>?_) (fun h=>?_) | fail)
   exact tn hf hs hg hl n8 t hw (.inr hb) _ (hn t hw (.inr hb))
  | false=>
   cases c with
   | true=>
    have:¬cC ins start:=by
     rcases hD t hc with h2 | ⟨u,hu,h2⟩
     ·rw[hsg _ h2]at hb;cases hb
     ·exact tm hf hw.sil hu h2
    repeat' (first | refine st ?_ | ((with_reducible refine am 90 ?_);refine ae (hsi) ?_) | ((with_reducible refine af 90 ?_);refine ab (hsi) ?_) | refine sb (fun nb_ hnb_=>?_) | refine s2 (fun h=>?_) (fun h=>?_) | fail)
    exact hq this _
   | false=>
    have hfo:=rh hf hsa
    have hw2:xe ins start g (t+1):=⟨tj hf hsa,fun u hu=>by
     rcases Nat.lt_or_ge u t with h | h
     ·exact hw.sil u h
     ·rw[show u=t by omega];exact hsa,fun u hu=>by
     rcases Nat.lt_or_ge u t with h | h
     ·exact hw.bad u h
     ·rw[show u=t by omega];exact hb,fun u v huv hv e=>by
     rcases Nat.lt_or_ge v t with h | h
     ·exact hw.inj u v huv h e
     ·have h2:v=t:=by omega
      subst h2
      rw[hH (by omega) v (.inr ⟨u,huv,e⟩)]at hc
      cases hc⟩
    have hle:=vI hf hs hw2
    repeat' (first | refine st ?_ | ((with_reducible refine am 90 ?_);refine ae (hsi) ?_) | ((with_reducible refine af 90 ?_);refine ab (hsi) ?_) | ((with_reducible refine am 91 ?_);refine ae (hfo) ?_) | ((with_reducible refine af 91 ?_);refine ab (hfo) ?_) | refine sb (fun nb_ hnb_=>?_) | refine s2 (fun h=>?_) (fun h=>?_) | fail)
    have:=hnx (t+1) hw2 (by omega)
    rw[←pD]at this
    exact this
end
theorem pE{ins:List bu}(hf:ti ins):ax Tryz.prog 60 [.lst (ins.map bu.enc)] (.bool (cV (∀k,k<ins.length→cC ins k))):=by
 have hl:=hf.len
 refine al.fz (iC _ _ _ ?_)
 unfold dN
 generalize hQ:(fun(v:AV) (L:SH)=>∃v2 L2,bM [v] L [v2] L2∧v2=AV.bool (cV (∀k,k<ins.length→cC ins k))∧L2=[])=Q
 have hq:∀b,cV (∀k,k<ins.length→cC ins k)=b→∀L,Q (.bool b) L:=fun b hb L=>by subst hQ;exact⟨_,[],bM.all (.refl _),by rw[hb],rfl⟩
 clear hQ
 repeat' (first | refine st ?_ | refine sb (fun nb_ hnb_=>?_) | refine s2 (fun h=>?_) (fun h=>?_) | fail)
 rename_i b1 _
 revert nb_
 intro b2 _
 have hrep:∀k:Nat,(List.replicate ins.length false)[k]? =some true→cC ins k:=fun k h=>by rw[List.getElem?_replicate]at h;split at h<;>cases h
 refine kM (α:=Nat×List Bool×List Bool) (fun a=>([.lst (ins.map bu.enc),.sl b1 0 ins.length,.sl b2 0 ins.length,.int .i64 ins.length,.int .i64 (a.1:Nat)],[(b2,⟨1,a.2.2.map cy⟩),(b1,⟨1,a.2.1.map cy⟩)])) (fun a=>ins.length-a.1)
  (fun a=>a.1≤ins.length∧a.2.1.length=ins.length∧a.2.2.length=ins.length∧(∀k:Nat,a.2.2[k]? =some true→a.2.1[k]? =some true)∧(∀k:Nat,a.2.1[k]? =some true→cC ins k)∧∀k,k<a.1→cC ins k) (0,List.replicate ins.length false,List.replicate ins.length false)
  ⟨Nat.zero_le _,by simp,by simp,fun k h=>h,hrep,fun k h=>absurd h (Nat.not_lt_zero _)⟩ (by simp) (by simp[cy]) ?_
 rintro⟨a,g,s⟩ ⟨h1,h2,h3,h4,h5,h6⟩ nx hnx
 dsimp only at h1 h2 h3 h4 h5 h6 ⊢
 unfold dp
 rcases Nat.lt_or_ge a ins.length with h | h
 ·have hd:=dE h
  repeat' (first | refine st ?_ | refine sb (fun nb_ hnb_=>?_) | refine s2 (fun h=>?_) (fun h=>?_) | fail)
  refine vJ hf h h2 h3 h4 Q nx (fun hno L=>hq _ (aZ fun hall=>hno (hall a h)) L) fun T hw he=>?_
  have hT:cC ins (fJ ins a T):=by
   rcases he with he | he
   ·have hk:=hw.lt
    exact⟨0,.ev _ _ (List.getElem?_eq_getElem hk) fun hs=>he ⟨_,List.getElem?_eq_getElem hk,hs⟩⟩
   ·exact h5 _ he
  have hall:=pC hf T hw.sil hT
  refine hnx (a+1,fK g ins a T,fK s ins a T) ⟨h,by rw[dO,h2],by rw[dO,h3],fun k hk=>?_,fun k hk=>?_,fun k hk=>?_⟩ (by show ins.length-(a+1)<ins.length-a;omega)
  ·have hkl:k<s.length:=by have:=(List.getElem?_eq_some_iff.1 hk).1;rwa [dO]at this
   rcases hD T hk with g1 | g1
   ·exact hH (by omega) T (.inl (h4 k g1))
   ·exact hH (by omega) T (.inr g1)
  ·rcases hD T hk with g1 | ⟨u,hu,g1⟩
   ·exact h5 k g1
   ·rw[←g1];exact hall u (by omega)
  ·rcases Nat.lt_or_ge k a with g1 | g1
   ·exact h6 k g1
   ·rw[show k=a by dsimp only at hk;omega];exact hall 0 (Nat.zero_le _)
 ·have hd:=dF h
  repeat' (first | refine st ?_ | refine sb (fun nb_ hnb_=>?_) | refine s2 (fun h=>?_) (fun h=>?_) | fail)
  exact hq _ (bJ fun k hk=>h6 k (by omega)) _
end Go.Proofs.YtelgfgfgghpjgaaGreatDoor.Am
end
section
namespace Go.Proofs.YtelgfgfgghpjgaaGreatDoor.Am
set_option maxRecDepth 100000
set_option maxHeartbeats 1000000
set_option linter.unusedVariables false
set_option linter.unusedSectionVars false
structure kN(w:cj)(t n:Nat)(regs:Int)(k:Nat)(i:bu):Prop where
 lo:1≤i.op
 hi:i.op≤28
 last:i.op=28↔k+1=n
 fin:i.op=28→i.site=-1
 sin:i.op≠28→fc i.site w.sites.length=true
 sth:i.op≠28→(w.sites.getD i.site.toNat default).thread=t
 regs:∀r∈aI i,0≤r∧r<regs
 obj:fI w i=true
 jmp:oz n i=true
structure jd(w:cj)(t:Nat)(c:pW):Prop where
 r0:0≤c.regs
 r32:c.regs≤32
 ne:0<c.ins.length
 ins:∀(k:Nat) (h:k<c.ins.length),kN w t c.ins.length c.regs k c.ins[k]
 lans:∀k,k<c.ins.length→cC c.ins k
theorem kN.fit{w:cj}{t:Nat}{c:pW}(hl:c.ins.length<2^48)(h:∀(k:Nat) (h:k<c.ins.length),kN w t c.ins.length c.regs k c.ins[k]):ti c.ins where
 len:=hl
 jmp:=fun i hi h5=>by
  obtain⟨k,hk,rfl⟩:=List.mem_iff_getElem.1 hi
  have:=(h k hk).jmp
  unfold oz at this
  rw[if_pos h5]at this
  exact bA.1 this
 last:=fun k i hi=>by
  obtain⟨hk,rfl⟩:=List.getElem?_eq_some_iff.1 hi
  exact(h k hk).last
theorem nU(i:bu):(aI i).length≤3:=by
 unfold aI
 repeat' split
 all_goals simp
section
variable {w:cj} {t:Nat} {c:pW} {k:Nat} {i:bu} (h0:0≤c.regs) (Q:R) (n45:W.Kn)
 (hno:¬kN w t c.ins.length c.regs k i→Q (.bool false) [])
 (hgo:(∀r∈aI i,0≤r∧r<c.regs)→fI w i=true→oz c.ins.length i=true→n45 [.int .i64 t,.pptr [w.enc] 0 0,.pptr [c.enc] 0 0,.lst (c.ins.map bu.enc),.int .i64 c.ins.length,.int .i64 (k+1:Nat)] [])
 (hl:c.ins.length<2^48) (hk:k<c.ins.length)
include h0 hno hgo hl hk
theorem vK(x:AV):bB Q n45 [.int .i64 t,.pptr [w.enc] 0 0,.pptr [c.enc] 0 0,x,.pptr [i.enc] 0 0,.lst (c.ins.map bu.enc),.int .i64 c.ins.length,.int .i64 k] []:=by
 have hr:=oB i
 have ho:=oA w c.ins.length i
 obtain⟨rg,hrg⟩:=Int.eq_ofNat_of_zero_le h0
 have hwr:IntKind.i64.wrap ((k:Int)+1)=((k+1:Nat):Int):=aY hk (by omega)
 unfold bB
 repeat' (first | refine st ?_ | ((with_reducible refine am 58 ?_);refine ae (hr) ?_) | ((with_reducible refine af 58 ?_);refine ab (hr) ?_) | refine sb (fun nb_ hnb_=>?_) | refine s2 (fun h=>?_) (fun h=>?_) | fail)
 refine iU (aI i).length (fun j=>∀r∈(aI i).take j,0≤r∧r<c.regs) (fun j=>[.int .i64 t,.pptr [w.enc] 0 0,.pptr [c.enc] 0 0,.pptr [i.enc] 0 0,.lst (c.ins.map bu.enc),.int .i64 c.ins.length,.int .i64 k,.lst ((aI i).map c9),.int .i64 (aI i).length,.int .i64 j]) (by have:=nU i;omega) (by simp) (by simp) (fun j hj hd hi hG nx hn=>?_) (fun j hj hd hG nx=>?_)
 all_goals unfold cz
 ·have hx:=aG (f:=c9) hj
  have hw:=bo (aI i)[j] rg
  rw[←hrg]at hw
  cases hb:fc (aI i)[j] rg with
  | false=>
   rw[hb]at hw
   have:¬kN w t c.ins.length c.regs k i:=fun h=>by
    have:=h.regs _ (List.getElem_mem hj)
    rw[hrg,←bA,hb]at this
    cases this
   repeat' (first | refine st ?_ | ((with_reducible refine am 57 ?_);refine ae (hw) ?_) | ((with_reducible refine af 57 ?_);refine ab (hw) ?_) | refine sb (fun nb_ hnb_=>?_) | refine s2 (fun h=>?_) (fun h=>?_) | fail)
   exact hno this
  | true=>
   rw[hb]at hw
   repeat' (first | refine st ?_ | ((with_reducible refine am 57 ?_);refine ae (hw) ?_) | ((with_reducible refine af 57 ?_);refine ab (hw) ?_) | refine sb (fun nb_ hnb_=>?_) | refine s2 (fun h=>?_) (fun h=>?_) | fail)
   refine hn (mR hj hG ?_)
   rw[hrg]
   exact bA.1 hb
 ·subst hj
  rw[List.take_length]at hG
  cases hb:(fI w i&&oz c.ins.length i)with
  | false=>
   rw[hb]at ho
   have:¬kN w t c.ins.length c.regs k i:=fun h=>by
    rw[h.obj,h.jmp]at hb;cases hb
   repeat' (first | refine st ?_ | ((with_reducible refine am 59 ?_);refine ae (ho) ?_) | ((with_reducible refine af 59 ?_);refine ab (ho) ?_) | refine sb (fun nb_ hnb_=>?_) | refine s2 (fun h=>?_) (fun h=>?_) | fail)
   exact hno this
  | true=>
   rw[hb]at ho
   rw[Bool.and_eq_true]at hb
   repeat' (first | refine st ?_ | ((with_reducible refine am 59 ?_);refine ae (ho) ?_) | ((with_reducible refine af 59 ?_);refine ab (ho) ?_) | refine sb (fun nb_ hnb_=>?_) | refine s2 (fun h=>?_) (fun h=>?_) | fail)
   exact hgo hG hb.1 hb.2
end
theorem mT(w:cj)(t:Nat)(c:pW)(hl:c.ins.length<2^48):ax Tryz.prog 31 [.agg w.enc,.int .i64 t,.agg c.enc] (.bool (cV (jd w t c))):=by
  refine fG _ _ _ _ _ ?_
  unfold cJ
  generalize hQ:(fun(u:AV) (K:SH)=>u=AV.bool (cV (jd w t c))∧K=[])=Q
  have hq:∀b,cV (jd w t c)=b→Q (.bool b) []:=fun b hb=>by subst hQ;exact⟨by rw[hb],rfl⟩
  clear hQ
  by_cases h0:0≤c.regs∧c.regs≤32∧0<c.ins.length
  · obtain⟨h0,h32,hn0⟩:=h0
    have d1:decide (c.regs<0)=false:=by simpa using h0
    have d2:decide (c.regs > 32)=false:=by simpa using h32
    have d3:decide ((c.ins.length:Int)=0)=false:=decide_eq_false (by omega)
    repeat' (first | refine st ?_ | refine sb (fun nb_ hnb_=>?_) | refine s2 (fun h=>?_) (fun h=>?_) | fail)
    refine iU c.ins.length (fun k=>∀j (h:j<c.ins.length),j<k→kN w t c.ins.length c.regs j c.ins[j]) (fun k=>[.int .i64 t,.pptr [w.enc] 0 0,.pptr [c.enc] 0 0,.lst (c.ins.map bu.enc),.int .i64 c.ins.length,.int .i64 k]) (by omega) (fun j h hj=>absurd hj (Nat.not_lt_zero _)) (by simp) (fun k hk hd hi hG nx hn=>?_) (fun k hk hd hG nx=>?_)
    all_goals unfold cB
    · have hx:=aG (f:=bu.enc) hk
      have hno:¬kN w t c.ins.length c.regs k c.ins[k]→Q (.bool false) []:=fun h=>hq _ (aZ fun h2=>h (h2.ins k hk))
      have hgo:kN w t c.ins.length c.regs k c.ins[k]→nx [.int .i64 t,.pptr [w.enc] 0 0,.pptr [c.enc] 0 0,.lst (c.ins.map bu.enc),.int .i64 c.ins.length,.int .i64 (k+1:Nat)] []:=fun h=>hn fun j hj hjk=>by
        rcases Nat.lt_or_ge j k with g | g
        · exact hG j hj g
        · have e:j=k:=by omega
          subst e;exact h
      generalize c.ins[k]=i at hx hno hgo
      have hj4:=fun hgo x=>vK (i:=i) (w:=w) (t:=t) (k:=k) h0 Q nx hno hgo hl hk x
      have hs1:IntKind.i64.wrap ((c.ins.length:Int)-1)=((c.ins.length-1:Nat):Int):=by rw[IntWalk.i64_in _ (by omega)];omega
      have hw:=bo i.site w.sites.length
      obtain⟨op,ia,ib,ic,m,site⟩:=i
      have he:bu.enc ⟨op,ia,ib,ic,m,site⟩=[.int .i64 op,.int .i64 ia,.int .i64 ib,.int .i64 ic,.int .i64 m,.int .i64 site]:=rfl
      rw[he]at hx hj4
      clear he
      cases hb:fc site w.sites.length with
      | false=>
        rw[hb]at hw
        repeat' (first | with_reducible refine hj4 (fun r1 r2 r3=>?_) _ | refine st ?_ | ((with_reducible refine am 57 ?_);refine ae (hw) ?_) | ((with_reducible refine af 57 ?_);refine ab (hw) ?_) | refine sb (fun nb_ hnb_=>?_) | refine s2 (fun h=>?_) (fun h=>?_) | fail)
        all_goals first
        | (refine hno fun h9 => ?_
           have g1:=h9.lo;have g2:=h9.hi;have g3:=h9.last;have g4:=h9.fin;have g5:=h9.sin;have g6:=h9.sth
           clear h9 hno hgo hn hG hj4 hq
           (simp only[hb,Bool.false_eq_true,decide_eq_true_eq,decide_eq_false_iff_not,ne_eq,Decidable.not_not,decide_eq_decide,imp_false]at *)
           omega)
        | (refine hgo ⟨?_, ?_, ?_, ?_, fun h9 => ?_, fun h9 => ?_, r1, r2, r3⟩
           all_goals clear hno hgo hn hG hj4 hq r1 r2 r3
           all_goals (simp only[hb,Bool.false_eq_true,decide_eq_true_eq,decide_eq_false_iff_not,ne_eq,Decidable.not_not,decide_eq_decide,imp_false]at *)
           all_goals omega)
        | trace_state
      | true=>
        rw[hb]at hw
        obtain⟨ks,rfl⟩:=Int.eq_ofNat_of_zero_le (dG hb)
        have hks:ks<w.sites.length:=by have:=(bA.1 hb).2;omega
        have hx2:=aG (f:=d6.enc) hks
        unfold d6.enc at hx2
        repeat' (first | with_reducible refine hj4 (fun r1 r2 r3=>?_) _ | refine st ?_ | ((with_reducible refine am 57 ?_);refine ae (hw) ?_) | ((with_reducible refine af 57 ?_);refine ab (hw) ?_) | refine sb (fun nb_ hnb_=>?_) | refine s2 (fun h=>?_) (fun h=>?_) | fail)
        all_goals first
        | (refine hno fun h9 => ?_
           have g1:=h9.lo;have g2:=h9.hi;have g3:=h9.last;have g4:=h9.fin;have g5:=h9.sin;have g6:=h9.sth
           clear h9 hno hgo hn hG hj4 hq
           (simp only[Int.toNat_natCast,List.getD_eq_getElem?_getD,List.getElem?_eq_getElem hks,Option.getD_some,hb,imp_true_iff,decide_eq_true_eq,decide_eq_false_iff_not,ne_eq,Decidable.not_not,decide_eq_decide,imp_false]at *)
           omega)
        | (refine hgo ⟨?_, ?_, ?_, ?_, fun h9 => hb, fun h9 => ?_, r1, r2, r3⟩
           all_goals clear hno hgo hn hG hj4 hq r1 r2 r3
           all_goals (simp only[Int.toNat_natCast,List.getD_eq_getElem?_getD,List.getElem?_eq_getElem hks,Option.getD_some,hb,imp_true_iff,decide_eq_true_eq,decide_eq_false_iff_not,ne_eq,Decidable.not_not,decide_eq_decide,imp_false]at *)
           all_goals omega)
        | trace_state
    · have ha:=pE (kN.fit hl fun j h=>hG j h (by omega))
      repeat' (first | refine st ?_ | ((with_reducible refine am 60 ?_);refine ae (ha) ?_) | ((with_reducible refine af 60 ?_);refine ab (ha) ?_) | refine sb (fun nb_ hnb_=>?_) | refine s2 (fun h=>?_) (fun h=>?_) | fail)
      refine hq _ ?_
      cases hb:cV (∀k,k<c.ins.length→cC c.ins k)with
      | true=>exact bJ ⟨h0,h32,hn0,fun j h=>hG j h (by omega),cW.1 hb⟩
      | false=>exact aZ fun h=>by rw[bJ h.lans]at hb;cases hb
  · have hno:=hq _ (aZ fun h=>h0 ⟨h.r0,h.r32,h.ne⟩)
    repeat' (first | refine st ?_ | refine sb (fun nb_ hnb_=>?_) | refine s2 (fun h=>?_) (fun h=>?_) | fail)
    all_goals first
      | exact hno
      | (exfalso;refine h0 ?_;simp only[decide_eq_true_eq,decide_eq_false_iff_not]at *;omega)
end Go.Proofs.YtelgfgfgghpjgaaGreatDoor.Am
end
