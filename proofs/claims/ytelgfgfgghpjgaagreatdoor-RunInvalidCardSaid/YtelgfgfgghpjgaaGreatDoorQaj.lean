/- A part of the proof; the statement is proved in the last part. -/
import Derived.Test.YtelgfgfgghpjgaaGreatDoorQai
set_option linter.unusedSimpArgs false
set_option linter.unusedVariables false
section
namespace Go.Proofs.YtelgfgfgghpjgaaGreatDoor.Am
set_option linter.unusedVariables false
set_option maxRecDepth 100000
def oG(Q:R)(x2 x14:AV)(L15:SH):Prop:=
 W.store 7 x2 x14 L15 fun L16=>
 W.load true 7 x2 L16 fun x17=>
 Q x17 L16
def oH(Q:R)(x2 x4 x7:AV)(L8:SH):Prop:=
 W.un .not x7 fun x9=>
 wk x9 (
 W.build [.nils,(.int .i64 0),.nils,.nils,.nils,.nils,.nils] [] fun x10=>
 W.store 7 x2 x10 L8 fun L11=>
 W.load true 7 x2 L11 fun x12=>
 Q x12 L11) (
 cH 7 x4 L8 fun x13=>
 wc (.fn 15 []) [x13] L8 (oG Q x2))
def lf(t0:AV)(L:SH)(Q:R):Prop:=
 W.box t0 L fun x0 L1=>
 W.alloc [.nils,(.int .i64 0),.nils,.nils,.nils,.nils,.nils] L1 fun x2 L3=>
 W.frz1 x0 L3 fun x4 L5=>
 cH 7 x4 L5 fun x6=>
 wc (.fn 14 []) [x6] L5 (oH Q x2 x4)
theorem oI(t0:AV)(L:SH)(Q:R)(h:lf t0 L Q):al Tryz.prog 5 [t0] L Q:=
 bg ⟨fun _=>none,fun _=>[],fun k=>if k=0 then [1]else [],fun _=>[]⟩ Tryz.func5 (by kernel_rfl) (by kernel_rfl) h
def mZ(Q:R)(L12:SH)(x4:AV):Prop:=
 W.build [(.int .i64 0),(.int .i64 0),(.int .i64 0),(.int .i64 0),(.int .i64 0),.nils,.nils] [] fun x14=>
 W.store 7 x4 x14 L12 fun L15=>
 W.load true 7 x4 L15 fun x16=>
 Q (.tup [x16,(.bool false)]) L15
def m6(Q:R)(x4 x19:AV)(L20:SH):Prop:=
 W.ext 0 x19 fun x21=>
 W.ext 1 x19 fun x22=>
 W.store 7 x4 x21 L20 fun L23=>
 W.load true 7 x4 L23 fun x24=>
 Q (.tup [x24,x22]) L23
def m7(Q:R)(t2 x4 x6 x8 x11:AV)(L12:SH):Prop:=
 W.un .not x11 fun x13=>
 wk x13 (
 (mZ Q L12 x4)) (
 cH 7 x6 L12 fun x17=>
 cH 7 x8 L12 fun x18=>
 wc (.fn 20 []) [x17,x18,t2] L12 (m6 Q x4))
def iY(t0 t1 t2:AV)(L:SH)(Q:R):Prop:=
 W.box t0 L fun x0 L1=>
 W.box t1 L1 fun x2 L3=>
 W.alloc [(.int .i64 0),(.int .i64 0),(.int .i64 0),(.int .i64 0),(.int .i64 0),.nils,.nils] L3 fun x4 L5=>
 W.frz1 x0 L5 fun x6 L7=>
 W.frz1 x2 L7 fun x8 L9=>
 cH 7 x6 L9 fun x10=>
 wc (.fn 14 []) [x10] L9 (m7 Q t2 x4 x6 x8)
theorem m8(t0 t1 t2:AV)(L:SH)(Q:R)(h:iY t0 t1 t2 L Q):al Tryz.prog 9 [t0,t1,t2] L Q:=
 bg ⟨fun _=>none,fun _=>[],fun k=>if k=0 then [3,4]else [],fun _=>[]⟩ Tryz.func9 (by kernel_rfl) (by kernel_rfl) h
def m9(Q:R)(t2 x4 x6 x10:AV)(L11:SH):Prop:=
 W.ext 0 x10 fun x12=>
 W.ext 1 x10 fun x13=>
 pU [(.int .i64 0),(.int .i64 0),(.int .i64 0),(.int .i64 0),(.int .i64 0),.nils,.nils] 7 x12 L11 fun x17 L18=>
 wg x13 true (W.faddr 0 x4) L18 fun x19 L21=>
 wg x13 true (cH 6 x19 L21) L21 fun x23 L25=>
 wg x13 true (W.faddr 0 x6) L25 fun x27 L29=>
 wg x13 true (cH 4 x27 L29) L29 fun x31 L33=>
 bN x13 true t2 L33 fun x35 L37=>
 wg x13 true (W.faddr 1 x17) L37 fun x38 L40=>
 wg x13 true (wl x38 L40) L40 fun x42 L44=>
 wg x13 true (W.faddr 2 x17) L44 fun x46 L48=>
 wg x13 true (wl x46 L48) L48 fun x50 L52=>
 W.grd x13 true (fun k55=>wc (.fn 21 []) [x23,x31,x35,x42,x50] L52 fun x57 L58=>
 k55 x57 L58) L52 fun x54 L56=>
 W.pick x13 x54 (.bool false) fun x59=>
 Q x59 L56
def iZ(t0 t1 t2:AV)(L:SH)(Q:R):Prop:=
 W.box t0 L fun x0 L1=>
 W.box t1 L1 fun x2 L3=>
 W.frz1 x0 L3 fun x4 L5=>
 W.frz1 x2 L5 fun x6 L7=>
 cH 7 x4 L7 fun x8=>
 cH 7 x6 L7 fun x9=>
 wc (.fn 9 []) [x8,x9,t2] L7 (m9 Q t2 x4 x6)
theorem na(t0 t1 t2:AV)(L:SH)(Q:R)(h:iZ t0 t1 t2 L Q):al Tryz.prog 10 [t0,t1,t2] L Q:=
 bg ⟨fun _=>none,fun _=>[],fun k=>if k=0 then [3,4]else if k=1 then [7]else [],fun _=>[]⟩ Tryz.func10 (by kernel_rfl) (by kernel_rfl) h
def pI(Q:R)(L18:SH)(x6 x8:AV):Prop:=
 W.build [.nils,(.int .i64 0),.nils,.nils,.nils,.nils,.nils] [] fun x20=>
 W.build [(.int .i64 0),(.int .i64 0),(.int .i64 0),(.int .i64 0),(.int .i64 0),.nils,.nils] [] fun x21=>
 W.store 7 x6 x20 L18 fun L22=>
 W.store 7 x8 x21 L22 fun L23=>
 W.load true 7 x6 L23 fun x24=>
 W.load true 7 x8 L23 fun x25=>
 Q (.tup [x24,x25,(.bool false)]) L23
def pJ(Q:R)(x6 x8 x29:AV)(L30:SH):Prop:=
 W.ext 0 x29 fun x31=>
 W.ext 1 x29 fun x32=>
 W.ext 2 x29 fun x33=>
 W.store 7 x6 x31 L30 fun L34=>
 W.store 7 x8 x32 L34 fun L35=>
 W.load true 7 x6 L35 fun x36=>
 W.load true 7 x8 L35 fun x37=>
 Q (.tup [x36,x37,x33]) L35
def pK(Q:R)(x6 x8 x10 x12 x14 x17:AV)(L18:SH):Prop:=
 W.un .not x17 fun x19=>
 wk x19 (
 (pI Q L18 x6 x8)) (
 cH 7 x10 L18 fun x26=>
 cH 7 x12 L18 fun x27=>
 cH 2 x14 L18 fun x28=>
 wc (.fn 19 []) [x26,x27,x28] L18 (pJ Q x6 x8))
def nc(t0 t1 t2:AV)(L:SH)(Q:R):Prop:=
 W.box t0 L fun x0 L1=>
 W.box t1 L1 fun x2 L3=>
 W.box t2 L3 fun x4 L5=>
 W.alloc [.nils,(.int .i64 0),.nils,.nils,.nils,.nils,.nils] L5 fun x6 L7=>
 W.alloc [(.int .i64 0),(.int .i64 0),(.int .i64 0),(.int .i64 0),(.int .i64 0),.nils,.nils] L7 fun x8 L9=>
 W.frz1 x0 L9 fun x10 L11=>
 W.frz1 x2 L11 fun x12 L13=>
 W.frz1 x4 L13 fun x14 L15=>
 cH 7 x10 L15 fun x16=>
 wc (.fn 14 []) [x16] L15 (pK Q x6 x8 x10 x12 x14)
theorem pL(t0 t1 t2:AV)(L:SH)(Q:R)(h:nc t0 t1 t2 L Q):al Tryz.prog 8 [t0,t1,t2] L Q:=
 bg ⟨fun _=>none,fun _=>[],fun k=>if k=0 then [3,4,5]else [],fun _=>[]⟩ Tryz.func8 (by kernel_rfl) (by kernel_rfl) h
def qx(Q:R)(L10:SH)(x2 x4:AV):Prop:=
 W.build [.nils,.nils,.nils,.nils,.nils,.nils,.nils] [] fun x12=>
 W.build [.nils,(.int .i64 0),.nils,.nils,.nils,.nils,.nils] [] fun x13=>
 W.store 7 x2 x12 L10 fun L14=>
 W.store 7 x4 x13 L14 fun L15=>
 W.load true 7 x2 L15 fun x16=>
 W.load true 7 x4 L15 fun x17=>
 Q (.tup [x16,x17]) L15
def qy(Q:R)(L27:SH)(x21 x26 x2 x4:AV)(r30:Fp)(x31:AV)(L33:SH)(q32:Ns):Prop:=
 wn [] q32 [] L27.names fun r34=>
 W.build [.nils,.nils,.nils,.nils,.nils,.nils,.nils] [(0,6,x31),(6,1,x21)] fun x35=>
 dr [rc 2 r34,rm 1 r30] 5 7 x26 L33 fun x36 r37=>
 ds [rm 5 r37] 6 7 x2 x35 L33 fun L38 r39=>
 ds [] 7 7 x4 x36 L38 fun L40 r41=>
 W.load true 7 x2 L40 fun x42=>
 W.load true 7 x4 L40 fun x43=>
 Q (.tup [x42,x43]) L40
def qz(Q:R)(x6 x2 x4 x19:AV)(L20:SH):Prop:=
 W.ext 0 x19 fun x21=>
 W.ext 1 x19 fun x22=>
 pU [.nils,(.int .i64 0),.nils,.nils,.nils,.nils,.nils] 7 x22 L20 fun x26 L27=>
 (true=true)∧(
 W.faddr 0 x6 fun x28=>
 dr [] 1 6 x28 L27 fun x29 r30=>
 wd [] 2 (.fn 17 []) [x29] L27 (qy Q L27 x21 x26 x2 x4 r30))
def qA(Q:R)(t1 x2 x4 x6 x9:AV)(L10:SH):Prop:=
 W.un .not x9 fun x11=>
 wk x11 (
 (qx Q L10 x2 x4)) (
 cH 7 x6 L10 fun x18=>
 wc (.fn 16 []) [x18,t1] L10 (qz Q x6 x2 x4))
def nV(t0 t1:AV)(L:SH)(Q:R):Prop:=
 W.box t0 L fun x0 L1=>
 W.alloc [.nils,.nils,.nils,.nils,.nils,.nils,.nils] L1 fun x2 L3=>
 W.alloc [.nils,(.int .i64 0),.nils,.nils,.nils,.nils,.nils] L3 fun x4 L5=>
 W.frz1 x0 L5 fun x6 L7=>
 cH 7 x6 L7 fun x8=>
 wc (.fn 14 []) [x8] L7 (qA Q t1 x2 x4 x6)
theorem qB(t0 t1:AV)(L:SH)(Q:R)(h:nV t0 t1 L Q):al Tryz.prog 6 [t0,t1] L Q:=
 bg ⟨fun _=>none,fun _=>[],fun k=>if k=0 then [2]else if k=3 then [7]else [],fun k=>if k=4 then [0,1,3,0,15,0,31,127]else []⟩ Tryz.func6 (by kernel_rfl) (by kernel_rfl) h
def ly(Q:R)(L10:SH)(x2 x4:AV):Prop:=
 W.build [.nils,.nils,.nils,.nils,.nils,.nils,.nils] [] fun x12=>
 W.build [.nils,(.int .i64 0),.nils,.nils,.nils,.nils,.nils] [] fun x13=>
 W.store 7 x2 x12 L10 fun L14=>
 W.store 7 x4 x13 L14 fun L15=>
 W.load true 7 x2 L15 fun x16=>
 W.load true 7 x4 L15 fun x17=>
 Q (.tup [x16,x17]) L15
def lz(Q:R)(L28:SH)(x32 x33 x30 x31:AV)(r36:Fp)(x37:AV)(L39:SH)(q38:Ns):Prop:=
 wn [] q38 [] L28.names fun r40=>
 W.build [.nils,.nils,.nils,.nils,.nils,.nils,.nils] [(0,6,x37),(6,1,x32)] fun x41=>
 dr [rc 2 r40,rm 1 r36] 5 7 x33 L39 fun x42 r43=>
 ds [rm 5 r43] 6 7 x30 x41 L39 fun L44 r45=>
 ds [] 7 7 x31 x42 L44 fun L46 r47=>
 W.load true 7 x30 L46 fun x48=>
 W.load true 7 x31 L46 fun x49=>
 Q (.tup [x48,x49]) L46
def lA(Q:R)(v26:Vs)(L28:SH):Prop:=
 uh 2 4 5 6 7 v26 fun x29 x30 x31 x32 x33=>
 (true=true)∧(
 W.faddr 0 x29 fun x34=>
 dr [] 1 6 x34 L28 fun x35 r36=>
 wd [] 2 (.fn 17 []) [x35] L28 (lz Q L28 x32 x33 x30 x31 r36))
def lB(n51:Kn)(L76:SH)(x75 x56 x73 x57 x53 x54 x55:AV):Prop:=
 (true=true)∧(
 dr [] 1 7 x75 L76 fun x78 r79=>
 W.calm [] ⟨2,[],[],[],false,[]⟩ (
 W.bslice 7 [(.int .i64 0),(.int .i64 0),(.int .i64 0),(.int .i64 0),(.int .i64 0),.nils,.nils] 1 [(0,x78)] L76 fun x80 L81=>
 wn [] [] (ac x80) [] fun r82=>
 W.calm [] ⟨3,(ac x56++ac x80),(ac x56),[],false,[]⟩ (
 W.append 7 88 x56 x80 L81 fun x83 L84=>
 wn (ac x56++ac x80) (ac x56) (ac x83) [] fun r85=>
 dr [rm 3 r85,rm 2 r82,rm 1 r79] 4 7 x73 L84 fun x86 r87=>
 ds [] 6 7 x57 x86 L84 fun L88 r89=>
 n51 [x53,x54,x55,x83,x57] L88)))
def lC(n51 j27:Kn)(x53 x54 x55 x56 x57 x62:AV)(L63:SH):Prop:=
 W.ext 0 x62 fun x64=>
 W.ext 1 x62 fun x65=>
 W.ext 2 x62 fun x66=>
 W.alloc [.nils,(.int .i64 0),.nils,.nils,.nils,.nils,.nils] L63 fun x67 L68=>
 W.alloc [(.int .i64 0),(.int .i64 0),(.int .i64 0),(.int .i64 0),(.int .i64 0),.nils,.nils] L68 fun x69 L70=>
 W.store 7 x67 x64 L70 fun L71=>
 W.store 7 x69 x65 L71 fun L72=>
 W.frz1 x67 L72 fun x73 L74=>
 W.frz1 x69 L74 fun x75 L76=>
 W.un .not x66 fun x77=>
 wk x77 (
 j27 [x53,x54,x55,x56,x57] L76) (
 (lB n51 L76 x75 x56 x73 x57 x53 x54 x55))
def lD(j27:Kn)(v50:Vs)(L52:SH)(n51:Kn):Prop:=
 uh 2 4 5 6 7 v50 fun x53 x54 x55 x56 x57=>
 W.len x56 fun x58=>
 wb .lss 3 x58 (.int .i64 400) fun x59=>
 wk x59 (
 cH 7 x53 L52 fun x60=>
 cH 7 x57 L52 fun x61=>
 wc (.fn 18 []) [x60,x61] L52 (lC n51 j27 x53 x54 x55 x56 x57)) (
 j27 [x53,x54,x55,x56,x57] L52)
def lE(Q:R)(x6 x2 x4 x19:AV)(L20:SH):Prop:=
 W.ext 0 x19 fun x21=>
 W.ext 1 x19 fun x22=>
 W.alloc [.nils,(.int .i64 0),.nils,.nils,.nils,.nils,.nils] L20 fun x23 L24=>
 W.store 7 x23 x22 L24 fun L25=>
 W.join (lA Q) fun j27=>
 W.loop (lD j27) [x6,x2,x4,x21,x23] L25
def lF(Q:R)(t1 x2 x4 x6 x9:AV)(L10:SH):Prop:=
 W.un .not x9 fun x11=>
 wk x11 (
 (ly Q L10 x2 x4)) (
 cH 7 x6 L10 fun x18=>
 wc (.fn 16 []) [x18,t1] L10 (lE Q x6 x2 x4))
def hP(t0 t1:AV)(L:SH)(Q:R):Prop:=
 W.box t0 L fun x0 L1=>
 W.alloc [.nils,.nils,.nils,.nils,.nils,.nils,.nils] L1 fun x2 L3=>
 W.alloc [.nils,(.int .i64 0),.nils,.nils,.nils,.nils,.nils] L3 fun x4 L5=>
 W.frz1 x0 L5 fun x6 L7=>
 cH 7 x6 L7 fun x8=>
 wc (.fn 14 []) [x8] L7 (lF Q t1 x2 x4 x6)
theorem lG(t0 t1:AV)(L:SH)(Q:R)(h:hP t0 t1 L Q):al Tryz.prog 7 [t0,t1] L Q:=
 bg ⟨fun k=>if k=7 then some [2,4,5,6,7]else none,fun k=>if k=4 then [2,4,5,6,7]else [],fun k=>if k=0 then [2]else if k=5 then [8,9]else [],fun k=>if k=7 then [0,0,2,7,0,15,63]else if k=8 then [0,1,3,0,15,0,31,127]else []⟩ Tryz.func7 (by kernel_rfl) (by kernel_rfl) h
end Go.Proofs.YtelgfgfgghpjgaaGreatDoor.Am
end
section
namespace Go.Proofs.YtelgfgfgghpjgaaGreatDoor.Am
set_option linter.unusedVariables false
set_option maxRecDepth 100000
def iF(Q:R)(t2 x22 x35 x37 x50 x52 x61 x2 x74:AV)(L75:SH):Prop:=
 W.ext 0 x74 fun x76=>
 W.ext 1 x74 fun x77=>
 pU [(.int .i64 0),(.int .i64 0),(.int .i64 0),(.int .i64 0),(.int .i64 0),.nils,.nils] 7 x76 L75 fun x81 L82=>
 aF 6 x22 L82 fun x84=>
 W.len x84 fun x85=>
 wb .eql 3 x85 (.int .i64 0) fun x86=>
 wg x86 true (W.faddr 6 x35) L82 fun x87 L89=>
 wg x86 true (wl x87 L89) L89 fun x91 L93=>
 wg x86 true (W.len x91) L93 fun x95 L97=>
 wg x86 true (wb .eql 3 x95 (.int .i64 0)) L97 fun x99 L101=>
 W.pick x86 x99 (.bool false) fun x103=>
 wg x103 true (W.faddr 6 x37) L101 fun x104 L106=>
 wg x103 true (wl x104 L106) L106 fun x108 L110=>
 wg x103 true (W.len x108) L110 fun x112 L114=>
 wg x103 true (wb .eql 3 x112 (.int .i64 0)) L114 fun x116 L118=>
 W.pick x103 x116 (.bool false) fun x120=>
 wg x120 true (W.faddr 6 x50) L118 fun x121 L123=>
 wg x120 true (wl x121 L123) L123 fun x125 L127=>
 wg x120 true (W.len x125) L127 fun x129 L131=>
 wg x120 true (wb .eql 3 x129 (.int .i64 0)) L131 fun x133 L135=>
 W.pick x120 x133 (.bool false) fun x137=>
 wg x137 true (W.faddr 6 x52) L135 fun x138 L140=>
 wg x137 true (wl x138 L140) L140 fun x142 L144=>
 wg x137 true (W.len x142) L144 fun x146 L148=>
 wg x137 true (wb .eql 3 x146 (.int .i64 0)) L148 fun x150 L152=>
 W.pick x137 x150 (.bool false) fun x154=>
 bN x154 true x61 L152 fun x155 L157=>
 wg x154 true (W.un .not x155) L157 fun x158 L160=>
 W.pick x154 x158 (.bool false) fun x162=>
 bN x162 true x77 L160 fun x163 L165=>
 wg x162 true (W.un .not x163) L165 fun x166 L168=>
 W.pick x162 x166 (.bool false) fun x170=>
 wg x170 true (cH 7 x2 L168) L168 fun x171 L173=>
 wg x170 true (cH 7 x22 L173) L173 fun x175 L177=>
 bN x170 true t2 L177 fun x179 L181=>
 W.grd x170 true (fun k183=>wc (.fn 10 []) [x171,x175,x179] L181 fun x185 L186=>
 k183 x185 L186) L181 fun x182 L184=>
 wg x170 true (W.un .not x182) L184 fun x187 L189=>
 W.pick x170 x187 (.bool false) fun x191=>
 W.grd x191 true (fun k193=>wc (.fn 11 []) [] L189 fun x195 L196=>
 k193 x195 L196) L189 fun x192 L194=>
 W.pick x191 x192 (.bool false) fun x197=>
 Q x197 L194
def iG(Q:R)(t2 x2 x22 x35 x37 x50 x52 x57:AV)(L58:SH):Prop:=
 W.ext 0 x57 fun x59=>
 W.ext 1 x57 fun x60=>
 W.ext 2 x57 fun x61=>
 W.alloc [.nils,(.int .i64 0),.nils,.nils,.nils,.nils,.nils] L58 fun x62 L63=>
 W.alloc [(.int .i64 0),(.int .i64 0),(.int .i64 0),(.int .i64 0),(.int .i64 0),.nils,.nils] L63 fun x64 L65=>
 W.store 7 x62 x59 L65 fun L66=>
 W.store 7 x64 x60 L66 fun L67=>
 W.frz1 x62 L67 fun x68 L69=>
 W.frz1 x64 L69 fun x70 L71=>
 cH 7 x2 L71 fun x72=>
 cH 7 x22 L71 fun x73=>
 wc (.fn 9 []) [x72,x73,t2] L71 (iF Q t2 x22 x35 x37 x50 x52 x61 x2)
def iH(Q:R)(t2 x2 x22 x35 x37 x40:AV)(L41:SH):Prop:=
 W.ext 0 x40 fun x42=>
 W.ext 1 x40 fun x43=>
 W.alloc [.nils,.nils,.nils,.nils,.nils,.nils,.nils] L41 fun x44 L45=>
 W.alloc [.nils,(.int .i64 0),.nils,.nils,.nils,.nils,.nils] L45 fun x46 L47=>
 W.store 7 x44 x42 L47 fun L48=>
 W.store 7 x46 x43 L48 fun L49=>
 W.frz1 x44 L49 fun x50 L51=>
 W.frz1 x46 L51 fun x52 L53=>
 cH 7 x2 L53 fun x54=>
 cH 7 x22 L53 fun x55=>
 W.build [(.int .i64 0),(.int .i64 0)] [(0,1,t2)] fun x56=>
 wc (.fn 8 []) [x54,x55,x56] L53 (iG Q t2 x2 x22 x35 x37 x50 x52)
def iI(Q:R)(t1 t2 x2 x22 x25:AV)(L26:SH):Prop:=
 W.ext 0 x25 fun x27=>
 W.ext 1 x25 fun x28=>
 W.alloc [.nils,.nils,.nils,.nils,.nils,.nils,.nils] L26 fun x29 L30=>
 W.alloc [.nils,(.int .i64 0),.nils,.nils,.nils,.nils,.nils] L30 fun x31 L32=>
 W.store 7 x29 x27 L32 fun L33=>
 W.store 7 x31 x28 L33 fun L34=>
 W.frz1 x29 L34 fun x35 L36=>
 W.frz1 x31 L36 fun x37 L38=>
 cH 7 x2 L38 fun x39=>
 wc (.fn 7 []) [x39,t1] L38 (iH Q t2 x2 x22 x35 x37)
def iJ(Q:R)(t1 t2 x2 x17:AV)(L18:SH):Prop:=
 pU [.nils,(.int .i64 0),.nils,.nils,.nils,.nils,.nils] 7 x17 L18 fun x22 L23=>
 cH 7 x2 L23 fun x24=>
 wc (.fn 6 []) [x24,t1] L23 (iI Q t1 t2 x2 x22)
def dS(t0 t1 t2:AV)(L:SH)(Q:R):Prop:=
 pV t0 L fun x2 L3=>
 W.len t1 fun x4=>
 wb .gtr 3 x4 (.int .i64 60) fun x5=>
 wg x5 false (cH 7 x2 L3) L3 fun x6 L8=>
 W.grd x5 false (fun k11=>wc (.fn 4 []) [x6] L8 fun x13 L14=>
 k11 x13 L14) L8 fun x10 L12=>
 W.pick x5 (.bool true) x10 fun x15=>
 wk x15 (
 Q (.bool true) L12) (
 cH 7 x2 L12 fun x16=>
 wc (.fn 5 []) [x16] L12 (iJ Q t1 t2 x2))
theorem iK(t0 t1 t2:AV)(L:SH)(Q:R)(h:dS t0 t1 t2 L Q):al Tryz.prog 3 [t0,t1,t2] L Q:=
 bg ⟨fun _=>none,fun _=>[],fun k=>if k=0 then [3]else if k=3 then [7]else if k=4 then [8,9]else if k=5 then [10,11]else if k=6 then [12,13]else if k=7 then [15]else [],fun _=>[]⟩ Tryz.func3 (by kernel_rfl) (by kernel_rfl) h
end Go.Proofs.YtelgfgfgghpjgaaGreatDoor.Am
end
section
namespace Go.Proofs.YtelgfgfgghpjgaaGreatDoor.Am
set_option linter.unusedVariables false
set_option linter.unusedSectionVars false
def nW(T:FuncId→List AV→Option AV)(call:FuncId→List AV→aa→Option (AV×aa))(g:FuncId)(args:List AV)(H:aa):Option (AV×aa):=match T g args with
 | some v=>some (v,H)
 | none=>call g args H
def bq(P:Program)(F:TypeId→Option (List TypeId))(T:FuncId→List AV→Option AV):Nat→Code→List AV→aa→Option (Ex×List AV×aa)
 | 0,_,_,_=>none
 | f+1,c,τ,H=>
  match c with
  | .skip | .label _=>some (.normal,τ,H)
  | .region _ ops draw=>match cg P F (nW T (gu P (bq P F T f))) ops draw τ H with
   | some (τ,H)=>some (.normal,τ,H)
   | none=>none
  | .seq a b=>match bq P F T f a τ H with
   | some (.normal,τ,H)=>bq P F T f b τ H
   | r=>r
  | .cond c a b=>match dU τ c with
   | .bool true=>bq P F T f a τ H
   | .bool false=>bq P F T f b τ H
   | _=>none
  | .block id b=>match bq P F T f b τ H with
   | some (.exit id',τ,H)=>if id'=id then some (.normal,τ,H)else some (.exit id',τ,H)
   | r=>r
  | .loop b=>match bq P F T f b τ H with
   | some (.normal,τ,H)=>bq P F T f (.loop b) τ H
   | r=>r
  | .exit id=>some (.exit id,τ,H)
  | .ret=>some (.ret,τ,H)
  | _=>none
def i0(P:Program)(T:FuncId→List AV→Option AV):Prop:=∀f args v,T f args=some v→cR P f args v
section
variable {P:Program} {F:TypeId→Option (List TypeId)} {T:FuncId→List AV→Option AV} {call:FuncId→List AV→aa→Option (AV×aa)}
theorem pM(hT:i0 P T)(hs:bY P call):bY P (nW T call):=by
 refine⟨fun f args H v H' hc=>?_,fun f args H v H' hc=>?_,fun f args H v H' hc=>?_⟩
 all_goals
  unfold nW at hc
  split at hc
 ·rename_i u hu;cases hc;exact(hT _ _ _ hu).1 _
 ·exact hs.ok _ _ _ _ _ hc
 ·cases hc;exact Nat.le_refl _
 ·exact hs.next _ _ _ _ _ hc
 ·rename_i u hu;cases hc;exact(hT _ _ _ hu).2
 ·exact hs.body _ _ _ _ _ hc
theorem nX(h:∀f args H v H',Bd H→call f args H=some (v,H')→kU H H'):∀f args H v H',Bd H→nW T call f args H=some (v,H')→kU H H':=fun f args H v H' hb hc=>by
 unfold nW at hc
 split at hc
 ·cases hc;exact .refl _
 ·exact h _ _ _ _ _ hb hc
theorem rX(f:Nat):∀(c:Code) (τ:List AV) (H:aa) (e:Ex) (τ':List AV) (H':aa),Bd H→bq P F T f c τ H=some (e,τ',H')→kU H H':=by
 induction f with
 | zero=>intro c τ H e τ' H' _ h;cases h
 | succ f ih=>
  intro c τ H e τ' H' hbd h
  cases c with
  | skip=>cases h;exact .refl _
  | label l=>cases h;exact .refl _
  | exit id=>cases h;exact .refl _
  | ret=>cases h;exact .refl _
  | region id ops draw=>
   simp only[bq]at h
   split at h
   ·rename_i hr;cases h;exact qe (fun f args H v H' hb hcall=>nX (fun _ _ _ _ _ hb hc=>lU ih hb hc) _ _ _ _ _ hb hcall) hbd hr
   ·cases h
  | seq x y=>
   simp only[bq]at h
   split at h
   ·rename_i h1
    have k1:=ih _ _ _ _ _ _ hbd h1
    exact k1.trans (ih _ _ _ _ _ _ (k1.bd hbd) h)
   ·exact ih _ _ _ _ _ _ hbd h
  | cond x c1 c2=>
   simp only[bq]at h
   split at h
   ·exact ih _ _ _ _ _ _ hbd h
   ·exact ih _ _ _ _ _ _ hbd h
   ·cases h
  | block id c1=>
   simp only[bq]at h
   split at h
   ·rename_i h1
    split at h
    ·cases h;exact ih _ _ _ _ _ _ hbd h1
    ·cases h;exact ih _ _ _ _ _ _ hbd h1
   ·exact ih _ _ _ _ _ _ hbd h
  | loop c1=>
   simp only[bq]at h
   split at h
   ·rename_i h1
    have k1:=ih _ _ _ _ _ _ hbd h1
    exact k1.trans (ih _ _ _ _ _ _ (k1.bd hbd) h)
   ·exact ih _ _ _ _ _ _ hbd h
  | _=>simp[bq]at h
theorem oJ(fit:p7 P F)(hT:i0 P T)(hgood:∀(g:Nat) (fn:Func) (c:Code),P.funcs[g]? =some fn→fn.body=some c→ec c)(f:Nat):(∀(c:Code) (τ:List AV) (H:aa) (e:Ex) (τ':List AV) (H':aa),ec c→bq P F T f c τ H=some (e,τ',H')→aT P c τ H e τ' H')∧
  (∀(c:Code) (τ:List AV) (H:aa) (e:Ex) (τ':List AV) (H':aa),ec c→bq P F T f (.loop c) τ H=some (e,τ',H')→ek P f c τ H e τ' H'):=by
 induction f with
 | zero=>exact⟨fun c τ H e τ' H' _ h=>(by cases h),fun c τ H e τ' H' _ h=>(by cases h)⟩
 | succ f ih0=>
  obtain⟨ih,ihl⟩:=ih0
  have hs:=pM hT (jC (P:=P) hgood ih)
  have hch:∀g args H v H',Bd H→nW T (gu P (bq P F T f)) g args H=some (v,H')→kU H H':=nX (fun _ _ _ _ _ hb hc=>lU (rX f) hb hc)
  have hloop:∀(c:Code) (τ:List AV) (H:aa) (e:Ex) (τ':List AV) (H':aa),ec c→bq P F T (f+1) (.loop c) τ H=some (e,τ',H')→ek P (f+1) c τ H e τ' H':=by
   intro c1 τ H e τ' H' dr h
   simp only[bq]at h
   split at h
   ·rename_i τ1 H1 h1
    obtain⟨n1,k1⟩:=ih c1 τ H .normal τ1 H1 dr h1
    obtain⟨n2,k2⟩:=ihl c1 τ1 H1 e τ' H' dr h
    refine⟨Nat.le_trans n1 n2,fun w σ a hW hτ Q hQ=>?_⟩
    rw[rounds_succ]
    refine k1 w σ a hW hτ _ fun a' w' haf=>?_
    obtain⟨σ1,t1,r1,e1,m1⟩:=haf
    exact k2 w' σ1 a' r1 t1 Q fun a2 w2 haf2=>hQ a2 w2 (haf2.trans e1 m1 n1)
   ·rename_i hne
    obtain⟨n1,k1⟩:=ih c1 τ H e τ' H' dr h
    refine⟨n1,fun w σ a hW hτ Q hQ=>?_⟩
    rw[rounds_succ]
    refine k1 w σ a hW hτ _ fun a' w' haf=>?_
    cases e with
    | normal=>exact absurd h (hne _ _)
    | exit id=>exact hQ _ _ haf
    | ret=>exact hQ _ _ haf
  refine⟨?_,hloop⟩
  intro c τ H e τ' H' dr h
  cases c with
  | skip=>cases h;exact⟨Nat.le_refl _,fun w σ a hW hτ Q hQ=>wp_skip (hQ _ _ (.refl hW hτ))⟩
  | label l=>cases h;exact⟨Nat.le_refl _,fun w σ a hW hτ Q hQ=>wp_label (hQ _ _ (.refl hW hτ))⟩
  | exit id=>cases h;exact⟨Nat.le_refl _,fun w σ a hW hτ Q hQ=>wp_exit (hQ _ _ (.refl hW hτ))⟩
  | ret=>cases h;exact⟨Nat.le_refl _,fun w σ a hW hτ Q hQ=>wp_ret (hQ _ _ (.refl hW hτ))⟩
  | region id ops draw=>
   simp only[bq]at h
   split at h
   ·rename_i τ1 H1 hr
    cases h
    cases draw with
    | false=>exact jB fit hs hr
    | true=>
     obtain⟨h1,h2⟩:=lZ fit hs hch (dr rfl).1 (dr rfl).2 hr
     exact⟨h1,fun w σ a hW hτ Q hQ=>h2 id w σ a hW hτ Q hQ⟩
   ·cases h
  | seq x y=>
   simp only[bq]at h
   split at h
   ·rename_i τ1 H1 h1
    obtain⟨n1,k1⟩:=ih x τ H .normal τ1 H1 dr.1 h1
    obtain⟨n2,k2⟩:=ih y τ1 H1 e τ' H' dr.2 h
    refine⟨Nat.le_trans n1 n2,fun w σ a hW hτ Q hQ=>wp_seq (k1 w σ a hW hτ _ fun a' w' haf=>?_)⟩
    obtain⟨σ1,t1,r1,e1,m1⟩:=haf
    exact k2 w' σ1 a' r1 t1 Q fun a2 w2 haf2=>hQ a2 w2 (haf2.trans e1 m1 n1)
   ·rename_i hne
    obtain⟨n1,k1⟩:=ih x τ H e τ' H' dr.1 h
    refine⟨n1,fun w σ a hW hτ Q hQ=>wp_seq (k1 w σ a hW hτ _ fun a' w' haf=>?_)⟩
    cases e with
    | normal=>exact absurd h (hne _ _)
    | exit id=>exact hQ _ _ haf
    | ret=>exact hQ _ _ haf
  | cond x c1 c2=>
   simp only[bq]at h
   split at h
   ·rename_i hb
    obtain⟨n1,k1⟩:=ih c1 τ H e τ' H' dr.1 h
    refine⟨n1,fun w σ a hW hτ Q hQ=>wp_cond_true ?_ (k1 w σ a hW hτ Q hQ)⟩
    have:=hτ.eval hW.glob x
    rw[hb]at this
    generalize a.eval x=u at this
    cases this
    rfl
   ·rename_i hb
    obtain⟨n1,k1⟩:=ih c2 τ H e τ' H' dr.2 h
    refine⟨n1,fun w σ a hW hτ Q hQ=>wp_cond_false ?_ (k1 w σ a hW hτ Q hQ)⟩
    have:=hτ.eval hW.glob x
    rw[hb]at this
    generalize a.eval x=u at this
    cases this
    rfl
   ·cases h
  | block id c1=>
   simp only[bq]at h
   split at h
   ·rename_i id' τ1 H1 h1
    obtain⟨n1,k1⟩:=ih c1 τ H _ τ1 H1 dr h1
    split at h
    ·rename_i hid
     cases h
     exact⟨n1,fun w σ a hW hτ Q hQ=>wp_block (k1 w σ a hW hτ _ fun a' w' haf=>by simp only[qc,Exit.inBlock,hid,if_true];exact hQ _ _ haf)⟩
    ·rename_i hid
     cases h
     exact⟨n1,fun w σ a hW hτ Q hQ=>wp_block (k1 w σ a hW hτ _ fun a' w' haf=>by simp only[qc,Exit.inBlock,hid,if_false];exact hQ _ _ haf)⟩
   ·rename_i hne
    obtain⟨n1,k1⟩:=ih c1 τ H e τ' H' dr h
    refine⟨n1,fun w σ a hW hτ Q hQ=>wp_block (k1 w σ a hW hτ _ fun a' w' haf=>?_)⟩
    cases e with
    | normal=>exact hQ _ _ haf
    | exit id=>exact absurd h (hne _ _ _)
    | ret=>exact hQ _ _ haf
  | loop c1=>
   obtain⟨n1,k1⟩:=hloop c1 τ H e τ' H' dr h
   exact⟨n1,fun w σ a hW hτ Q hQ=>wp_loop_rounds (f+1) (k1 w σ a hW hτ Q hQ)⟩
  | _=>simp[bq]at h
theorem pN(fit:p7 P F)(hT:i0 P T)(hgood:∀(g:Nat) (fn:Func) (c:Code),P.funcs[g]? =some fn→fn.body=some c→ec c)(f:Nat)(c:Code)(τ:List AV)(H:aa)(e:Ex)(τ':List AV)(H':aa)(dr:ec c)(h:bq P F T f c τ H=some (e,τ',H')):aT P c τ H e τ' H':=
 (oJ fit hT hgood f).1 c τ H e τ' H' dr h
end
theorem cR.of_pure{f:FuncId}{args:List AV}{v:AV}(h:ax Tryz.prog f args v)(hv:bt v)(ha:∀(i:Nat) (a:AV),args[i]? =some a→bt a):cR Tryz.prog f args v:=by
 obtain⟨fn,c,hf,hb⟩:=h.1
 refine .of_v hf hb hv ha fun w σ vs hW hvs=>?_
 obtain⟨u,H',L',h1,_,h3,_⟩:=h.2 aa.empty (fun b _=>bb b) ⟨.nil,fun p h=>by simp at h⟩
 subst h3
 refine(h1 w σ vs hW hvs).mono fun e w' ⟨v',σ',k1,k2,k3,k4,k5⟩=>⟨v',σ',H',k1,k2,k4⟩
end Go.Proofs.YtelgfgfgghpjgaaGreatDoor.Am
end
section
namespace Go.Proofs.YtelgfgfgghpjgaaGreatDoor.Am
set_option linter.unusedVariables false
def oK{α:Type}(f:α→α→Bool):List α→List α→Bool
 | [],[]=>true
 | a::l,b::m=>f a b&&oK f l m
 | _,_=>false
theorem fM{α:Type}{f:α→α→Bool}(h:∀a b,f a b=true→a=b):∀{l m:List α},oK f l m=true→l=m
 | [],[],_=>rfl
 | a::l,b::m,e=>by
  rw[oK,Bool.and_eq_true]at e
  rw[h _ _ e.1,fM h e.2]
 | [],_::_,e=>by cases e
 | _::_,[],e=>by cases e
def qC:Nat→AV→AV→Bool
 | 0,_,_=>false
 | n+1,a,b=>match a,b with
  | .int k x,.int k' y=>decide (k=k')&&decide (x=y)
  | .bool x,.bool y=>x==y
  | .str x,.str y=>oK (fun(p q:UInt8)=>decide (p=q)) x y
  | .nils,.nils=>true
  | .emp,.emp=>true
  | .nilp,.nilp=>true
  | .lst r,.lst s=>oK (oK (qC n)) r s
  | .agg r,.agg s=>oK (qC n) r s
  | .tup r,.tup s=>oK (qC n) r s
  | _,_=>false
theorem rk:∀{n:Nat} {a b:AV},qC n a b=true→a=b:=by
 intro n
 induction n with
 | zero=>intro a b h;cases h
 | succ n ih=>
  intro a b h
  unfold qC at h
  split at h
  ·simp only[Bool.and_eq_true,decide_eq_true_eq]at h;rw[h.1,h.2]
  ·rw[beq_iff_eq]at h;rw[h]
  ·rw[fM (fun p q h=>of_decide_eq_true h) h]
  ·rfl
  ·rfl
  ·rfl
  ·rw[fM (fun p q h=>fM (fun a b h=>ih h) h) h]
  ·rw[fM (fun a b h=>ih h) h]
  ·rw[fM (fun a b h=>ih h) h]
  ·cases h
def nf:Nat→AV→Bool
 | 0,_=>false
 | n+1,a=>match a with
  | .int .. | .bool _ | .str _ | .nils | .emp | .nilp=>true
  | .lst r=>r.all fun l=>l.all (nf n)
  | .agg r=>r.all (nf n)
  | .tup r=>r.all (nf n)
  | _=>false
theorem pO:∀{n:Nat} {a:AV},nf n a=true→bt a:=by
 intro n
 induction n with
 | zero=>intro a h;cases h
 | succ n ih=>
  intro a h
  unfold nf at h
  split at h
  ·exact .int _ _
  ·exact .bool _
  ·exact .str _
  ·exact .nils
  ·exact .emp
  ·exact .nilp
  ·refine .lst _ fun i r j a h1 h2=>?_
   rw[List.all_eq_true]at h
   have:=h _ (List.mem_of_getElem? h1)
   rw[List.all_eq_true]at this
   exact ih (this _ (List.mem_of_getElem? h2))
  ·refine .agg _ fun i a h1=>?_
   rw[List.all_eq_true]at h
   exact ih (h _ (List.mem_of_getElem? h1))
  ·refine .tup _ fun i a h1=>?_
   rw[List.all_eq_true]at h
   exact ih (h _ (List.mem_of_getElem? h1))
  ·cases h
def rY(n:Nat):List (FuncId×List AV×AV)→(FuncId→List AV→Option AV)→FuncId→List AV→Option AV
 | [],T,f,args=>T f args
 | e::L,T,f,args=>if(Nat.beq f e.1&&oK (qC n) args e.2.1)=true then some e.2.2 else rY n L T f args
theorem lJ{n:Nat}{T:FuncId→List AV→Option AV}(hT:i0 Tryz.prog T):∀{L:List (FuncId×List AV×AV)},(∀e∈L,cR Tryz.prog e.1 e.2.1 e.2.2)→i0 Tryz.prog (rY n L T)
 | [],_=>hT
 | e::L,h=>fun f args v hv=>by
  unfold rY at hv
  split at hv
  ·rename_i hc
   rw[Bool.and_eq_true]at hc
   cases hv
   have h1:f=e.1:=Nat.eq_of_beq_eq_true hc.1
   have h2:=fM (fun a b h=>rk h) hc.2
   rw[h1,h2]
   exact h e (by simp)
  ·exact lJ hT (fun e he=>h e (by simp[he])) f args v hv
noncomputable def u4 (T:FuncId→List AV→Option AV) (n d:Nat) (f:FuncId) (args:List AV):Option AV:=match gu Tryz.prog (bq Tryz.prog Fl T n) f args aa.empty with
 | some (v,H)=>frz H d v
 | none=>none
def xS(d:Nat)(v:AV):Option AV→Bool
 | some u=>qC d u v
 | none=>false
theorem co{f:FuncId}{n d:Nat}{args:List AV}{v:AV}{T:FuncId→List AV→Option AV}(hT:i0 Tryz.prog T)(hp:(nf d v&&args.all (nf d))=true)(hrun:xS d v (u4 T n d f args)=true):cR Tryz.prog f args v:=by
 rw[Bool.and_eq_true,List.all_eq_true]at hp
 have hd:=(uG md).2
 have hs:=jC (P:=Tryz.prog) hd (fun c τ H e τ' H' dr hx=>pN fit hT hd n c τ H e τ' H' dr hx)
 unfold u4 at hrun
 split at hrun
 ·rename_i u H' hc
  have hz:frz H' d u=some v:=by
   cases hf:frz H' d u with
   | none=>rw[hf]at hrun;cases hrun
   | some x=>rw[hf]at hrun;rw[rk hrun]
  have hV:sk Tryz.prog f args v:=fun w σ vs hW hvs=>(hs.ok _ _ _ _ _ hc w σ vs hW hvs).mono fun e w' ⟨v',σ',he,k1,k2,k3,k4⟩=>
   ⟨v',σ',aa.empty,he,jK k2 d u v v' hz k1,k3.trans (bV.sub fun b x hb=>by rw[bb]at hb;cases hb)⟩
  obtain⟨fn,c,hf,hb⟩:=hs.body _ _ _ _ _ hc
  exact .of_v hf hb (pO hp.1) (fun i a h=>pO (hp.2 a (List.mem_of_getElem? h))) hV
 ·cases hrun
theorem ax.of_ok{f:FuncId}{args:List AV}{v:AV}(h:cR Tryz.prog f args v):ax Tryz.prog f args v:=
 ⟨h.2,fun H hb hS=>⟨v,H,[],h.1 H,.refl hb hS,rfl,rfl⟩⟩
end Go.Proofs.YtelgfgfgghpjgaaGreatDoor.Am
end
