/- A part of the proof; the statement is proved in the last part. -/
import Derived.Test.YtljkdffikfkcgaaQ1h
set_option linter.unusedSimpArgs false
set_option linter.unusedVariables false
section
namespace Go.Proofs.Ytljkdffikfkcgaa.Am
set_option linter.unusedVariables false
set_option maxRecDepth 100000
def vu(Q:R)(n1:Kn)(L85:SH)(x40 x83 x46 x45 x41 x42 x43 x44:AV):Prop:=
 gQ 6 0 x40 x83 L85 fun x93=>
 wb .neq 3 x93 (.int .i64 3) fun x94=>
 wk x94 (
 (true=true)∧(
 bx 1 x46 [] 1 L85 fun x96 r97=>
 Q (.tup [(.int .i64 6),x96]) L85)) (
 wb .add 3 x45 (.int .i64 1) fun x98=>
 n1 [x40,x41,x42,x43,x44,x98] L85)
def vv(Q:R)(n1:Kn)(L69:SH)(x46 x40 x45 x41 x42 x43 x44 x83:AV)(L85:SH)(q84:Ns):Prop:=
 wn [] q84 [] L69.names fun r86=>
 wb .lss 3 x83 (.int .i64 0) fun x87=>
 wk x87 (
 (true=true)∧(
 bx 1 x46 [] 1 L85 fun x89 r90=>
 Q (.tup [(.int .i64 5),x89]) L85)) (
 (vu Q n1 L85 x40 x83 x46 x45 x41 x42 x43 x44))
def vw(Q:R)(n1:Kn)(L69:SH)(x40 x45 x46 x41 x42 x43 x44:AV):Prop:=
 (true=true)∧(
 W.calm [] ⟨2,(dw x40),[],[],false,[]⟩ (
 W.slice 6 x40 none (some x45) none L69 fun x78=>
 wn (dw x40) [] [] [] fun r79=>
 bx 5 x46 [rm 2 r79] 4 L69 fun x81 r82=>
 wd [] 5 (.fn 43 []) [x78,x81] L69 (vv Q n1 L69 x46 x40 x45 x41 x42 x43 x44)))
def vx(Q:R)(n1:Kn)(L69:SH)(x46 x40 x45 x41 x42 x43 x44:AV):Prop:=
 bo 0 x46 L69 fun x76=>
 wb .eql 3 x76 (.int .i64 5) fun x77=>
 wk x77 (
 (vw Q n1 L69 x40 x45 x46 x41 x42 x43 x44)) (
 wb .add 3 x45 (.int .i64 1) fun x99=>
 n1 [x40,x41,x42,x43,x44,x99] L69)
def gw(Q:R)(n1:Kn)(v37:Vs)(L39:SH):Prop:=
 GC 0 4 5 6 7 8 9 v37 fun x40 x41 x42 x43 x44 x45 x46=>
 wb .gtr 3 x41 (.int .i64 12) fun x47=>
 cj x47 false x42 L39 fun x48 L50=>
 wg x47 false (wb .gtr 3 x48 (.int .i64 4)) L50 fun x51 L53=>
 W.pick x47 (.bool true) x51 fun x55=>
 cj x55 false x43 L53 fun x56 L58=>
 wg x55 false (wb .gtr 3 x56 (.int .i64 2)) L58 fun x59 L61=>
 W.pick x55 (.bool true) x59 fun x63=>
 cj x63 false x44 L61 fun x64 L66=>
 wg x63 false (wb .gtr 3 x64 (.int .i64 2)) L66 fun x67 L69=>
 W.pick x63 (.bool true) x67 fun x71=>
 wk x71 (
 (true=true)∧(
 bx 1 x46 [] 1 L69 fun x73 r74=>
 Q (.tup [(.int .i64 2),x73]) L69)) (
 (vx Q n1 L69 x46 x40 x45 x41 x42 x43 x44))
def vy(j38:Kn)(L120:SH)(x128 x124 x121 x122 x123 x125 x126 x127:AV):Prop:=
 wb .eql 3 x128 (.int .i64 5) fun x131=>
 wk x131 (
 wb .add 3 x124 (.int .i64 1) fun x132=>
 j38 [x121,x122,x123,x132,x125,x126,x127] L120) (
 wb .add 3 x125 (.int .i64 1) fun x133=>
 j38 [x121,x122,x123,x124,x133,x126,x127] L120)
def vz(j38:Kn)(v118:Vs)(L120:SH):Prop:=
 GF 0 4 5 6 7 8 9 36 47 v118 fun x121 x122 x123 x124 x125 x126 x127 x128 x129=>
 wk x129 (
 wb .add 3 x123 (.int .i64 1) fun x130=>
 j38 [x121,x122,x130,x124,x125,x126,x127] L120) (
 (vy j38 L120 x128 x124 x121 x122 x123 x125 x126 x127))
def vA(j38:Kn)(L104:SH)(x112 x105 x106 x107 x108 x109 x110 x111:AV):Prop:=
 W.join (vz j38) fun j119=>
 wb .eql 3 x112 (.int .i64 3) fun x134=>
 wk x134 (
 j119 [x105,x106,x107,x108,x109,x110,x111,x112,x134] L104) (
 wb .eql 3 x112 (.int .i64 4) fun x135=>
 j119 [x105,x106,x107,x108,x109,x110,x111,x112,x135] L104)
def vB(j38:Kn)(v102:Vs)(L104:SH):Prop:=
 GF 0 4 5 6 7 8 9 36 39 v102 fun x105 x106 x107 x108 x109 x110 x111 x112 x113=>
 wk x113 (
 bo 3 x111 L104 fun x115=>
 W.mnx true x115 (.int .i64 1) fun x116=>
 wb .add 3 x106 x116 fun x117=>
 j38 [x105,x117,x107,x108,x109,x110,x111] L104) (
 (vA j38 L104 x112 x105 x106 x107 x108 x109 x110 x111))
def vC(Q:R)(n1:Kn)(L25:SH)(x16 x3 x4 x5 x6 x7 x8:AV):Prop:=
 W.join (gw Q n1) fun j38=>
 bo 0 x16 L25 fun x101=>
 W.join (vB j38) fun j103=>
 wb .eql 3 x101 (.int .i64 1) fun x136=>
 wk x136 (
 j103 [x3,x4,x5,x6,x7,x8,x16,x101,x136] L25) (
 wb .eql 3 x101 (.int .i64 2) fun x137=>
 j103 [x3,x4,x5,x6,x7,x8,x16,x101,x137] L25)
def vD(Q:R)(n1:Kn)(L25:SH)(x16 x3 x4 x5 x6 x7 x8:AV):Prop:=
 bo 3 x16 L25 fun x32=>
 wb .gtr 3 x32 (.int .i64 4) fun x33=>
 wk x33 (
 (true=true)∧(
 bx 1 x16 [] 1 L25 fun x35 r36=>
 Q (.tup [(.int .i64 2),x35]) L25)) (
 (vC Q n1 L25 x16 x3 x4 x5 x6 x7 x8))
def vE(Q:R)(n1:Kn)(L17:SH)(x16 x3 x4 x5 x6 x7 x8 x23:AV)(L25:SH)(q24:Ns):Prop:=
 wn [] q24 [] L17.names fun r26=>
 wb .geq 3 x23 (.int .i64 0) fun x27=>
 wk x27 (
 (true=true)∧(
 bx 1 x16 [] 1 L25 fun x29 r30=>
 Q (.tup [(.int .i64 4),x29]) L25)) (
 (vD Q n1 L25 x16 x3 x4 x5 x6 x7 x8))
def vF(Q:R)(n1:Kn)(L2:SH)(x3 x8 x4 x5 x6 x7:AV):Prop:=
 ug 6 x3 x8 L2 fun x12=>
 xH [(.int .i64 0),(.int .i64 0),(.str []),(.int .i64 0),(.int .i64 0),(.str [])] 6 x12 L2 fun x16 L17=>
 (true=true)∧(
 W.calm [] ⟨2,(dw x3),[],[],false,[]⟩ (
 W.slice 6 x3 none (some x8) none L17 fun x18=>
 wn (dw x3) [] [] [] fun r19=>
 bx 2 x16 [rm 2 r19] 4 L17 fun x21 r22=>
 wd [] 5 (.fn 43 []) [x18,x21] L17 (vE Q n1 L17 x16 x3 x4 x5 x6 x7 x8)))
def kG(Q:R)(v0:Vs)(L2:SH)(n1:Kn):Prop:=
 GA 0 4 5 6 7 8 v0 fun x3 x4 x5 x6 x7 x8=>
 W.len x3 fun x9=>
 wb .lss 3 x8 x9 fun x10=>
 wk x10 (
 (vF Q n1 L2 x3 x8 x4 x5 x6 x7)) (
 Q (.tup [(.int .i64 0),(.int .i64 0)]) L2)
def mJ(t0:AV)(L:SH)(Q:R):Prop:=
 W.loop (kG Q) [t0,(.int .i64 0),(.int .i64 0),(.int .i64 0),(.int .i64 0),(.int .i64 0)] L
theorem vG(t0:AV)(L:SH)(Q:R)(h:mJ t0 L Q):am Try.prog 29 [t0] L Q:=
 bC ⟨fun k=>if k=11 then some [0,4,5,6,7,8,9]else if k=13 then some [0,4,5,6,7,8,9,36,39]else if k=16 then some [0,4,5,6,7,8,9,36,47]else none,fun k=>if k=3 then [0,4,5,6,7,8]else [],fun k=>if k=5 then [9]else [],fun k=>if k=6 then [0,0,3,0,8,31,63]else if k=7 then [0,1,0,7]else if k=9 then [0,1,0,7]else if k=21 then [0,1,0,7]else if k=23 then [0,0,3,0,8,31,63]else if k=25 then [0,1,0,7]else if k=27 then [0,1,0,7]else []⟩ Try.func29 (by kernel_rfl) (by kernel_rfl) h
def sh(Q:R)(n5:Kn)(L21:SH)(x7 x8 x20 x28:AV)(L30:SH)(q29:Ns):Prop:=
 wn [] q29 [] L21.names fun r31=>
 wb .geq 3 x28 (.int .i64 0) fun x32=>
 W.dgrd x32 false (fun k34=>W.faddr 1 x7 fun x37=>
 k34 x37 L30 rz) L30 fun x33 L36 r35=>
 W.dgrd x32 false (fun k39=>dl [] 8 x33 L36 fun x42 r43=>
 k39 x42 L36 r43) L36 fun x38 L41 r40=>
 W.dgrd x32 false (fun k45=>k45 x8 L41 rz) L41 fun x44 L47 r46=>
 W.dgrd x32 false (fun k49=>W.calm [] ⟨10,(dw x38),[],[],false,[]⟩ (
 W.slice 4 x38 none (some x44) none L47 fun x52=>
 wn (dw x38) [] [] [] fun r53=>
 k49 x52 L47 r53)) L47 fun x48 L51 r50=>
 W.dgrd x32 false (fun k55=>W.faddr 0 x20 fun x58=>
 k55 x58 L51 rz) L51 fun x54 L57 r56=>
 W.dgrd x32 false (fun k60=>dl [rm 10 r50,rm 8 r40] 12 x54 L57 fun x63 r64=>
 k60 x63 L57 r64) L57 fun x59 L62 r61=>
 W.dgrd x32 false (fun k66=>wd [] 13 (.fn 44 []) [x48,x59] L62 fun x69 L71 q70=>
 wn [] q70 [] L62.names fun r72=>
 k66 x69 L71 r72) L62 fun x65 L68 r67=>
 W.dgrd x32 false (fun k74=>wb .geq 3 x65 (.int .i64 0) fun x77=>
 k74 x77 L68 rz) L68 fun x73 L76 r75=>
 W.pick x32 (.bool true) x73 fun x78=>
 wk x78 (
 (true=true)∧(
 bx 1 x20 [] 1 L76 fun x80 r81=>
 Q (.tup [(.int .i64 4),x80]) L76)) (
 wb .add 3 x8 (.int .i64 1) fun x82=>
 n5 [x7,x82] L76)
def sj(Q:R)(n5:Kn)(L6:SH)(x7 x8:AV):Prop:=
 bo 1 x7 L6 fun x14=>
 ug 4 x14 x8 L6 fun x16=>
 xH [(.str []),(.int .i64 0),.nils,.nils] 4 x16 L6 fun x20 L21=>
 (true=true)∧(
 bx 0 x7 [] 1 L21 fun x23 r24=>
 bx 0 x20 [rm 1 r24] 3 L21 fun x26 r27=>
 wd [] 4 (.fn 43 []) [x23,x26] L21 (sh Q n5 L21 x7 x8 x20))
def sk(Q:R)(n109:Kn)(x111 x122 x113 x114 x112 x125:AV)(L126:SH):Prop:=
 wb .geq 3 x125 (.int .i64 0) fun x127=>
 wg x127 false (W.faddr 1 x111) L126 fun x128 L130=>
 wg x127 false (wl x128 L130) L130 fun x132 L134=>
 cj x127 false x122 L134 fun x136 L138=>
 W.grd x127 false (fun k140=>wc (.fn 44 []) [x132,x136] L138 fun x142 L143=>
 k140 x142 L143) L138 fun x139 L141=>
 wg x127 false (wb .geq 3 x139 (.int .i64 0)) L141 fun x144 L146=>
 W.pick x127 (.bool true) x144 fun x148=>
 wg x148 false (W.faddr 2 x113) L146 fun x149 L151=>
 wg x148 false (wl x149 L151) L151 fun x153 L155=>
 cj x148 false x114 L155 fun x157 L159=>
 wg x148 false (W.slice 1 x153 none (some x157) none L159) L159 fun x160 L162=>
 cj x148 false x122 L162 fun x164 L166=>
 W.grd x148 false (fun k168=>wc (.fn 45 []) [x160,x164] L166 fun x170 L171=>
 k168 x170 L171) L166 fun x167 L169=>
 wg x148 false (wb .geq 3 x167 (.int .i64 0)) L169 fun x172 L174=>
 W.pick x148 (.bool true) x172 fun x176=>
 wk x176 (
 (true=true)∧(
 bx 1 x113 [] 1 L174 fun x178 r179=>
 Q (.tup [(.int .i64 4),x178]) L174)) (
 wb .add 3 x114 (.int .i64 1) fun x180=>
 n109 [x111,x112,x113,x180] L174)
def sm(Q:R)(n109:Kn)(L110:SH)(x113 x114 x111 x112:AV):Prop:=
 bo 2 x113 L110 fun x120=>
 Ba 1 x120 x114 L110 fun x122=>
 bo 0 x111 L110 fun x124=>
 wc (.fn 43 []) [x124,x122] L110 (sk Q n109 x111 x122 x113 x114 x112)
def iP(Q:R)(n84:Kn)(v108:Vs)(L110:SH)(n109:Kn):Prop:=
 EL 1 6 7 8 v108 fun x111 x112 x113 x114=>
 bo 2 x113 L110 fun x116=>
 W.len x116 fun x117=>
 wb .lss 3 x114 x117 fun x118=>
 wk x118 (
 (sm Q n109 L110 x113 x114 x111 x112)) (
 wb .add 3 x112 (.int .i64 1) fun x181=>
 n84 [x111,x181] L110)
def sn(Q:R)(n84:Kn)(L85:SH)(x86 x87:AV):Prop:=
 bo 1 x86 L85 fun x93=>
 ug 4 x93 x87 L85 fun x95=>
 xH [(.str []),(.int .i64 0),.nils,.nils] 4 x95 L85 fun x99 L100=>
 bo 2 x99 L100 fun x102=>
 W.len x102 fun x103=>
 wb .gtr 3 x103 (.int .i64 4) fun x104=>
 wk x104 (
 (true=true)∧(
 bx 1 x99 [] 1 L100 fun x106 r107=>
 Q (.tup [(.int .i64 2),x106]) L100)) (
 W.loop (iP Q n84) [x86,x87,x99,(.int .i64 0)] L100)
def iQ(Q:R)(v83:Vs)(L85:SH)(n84:Kn):Prop:=
 EK 1 6 v83 fun x86 x87=>
 bo 1 x86 L85 fun x89=>
 W.len x89 fun x90=>
 wb .lss 3 x87 x90 fun x91=>
 wk x91 (
 (sn Q n84 L85 x86 x87)) (
 Q (.tup [(.int .i64 0),(.int .i64 0)]) L85)
def iR(Q:R)(v4:Vs)(L6:SH)(n5:Kn):Prop:=
 EK 1 4 v4 fun x7 x8=>
 bo 1 x7 L6 fun x10=>
 W.len x10 fun x11=>
 wb .lss 3 x8 x11 fun x12=>
 wk x12 (
 (sj Q n5 L6 x7 x8)) (
 W.loop (iQ Q) [x7,(.int .i64 0)] L6)
def jK(t0:AV)(L:SH)(Q:R):Prop:=
 xb t0 L fun x2 L3=>
 W.loop (iR Q) [x2,(.int .i64 0)] L3
theorem sr(t0:AV)(L:SH)(Q:R)(h:jK t0 L Q):am Try.prog 30 [t0] L Q:=
 bC ⟨fun _=>none,fun k=>if k=2 then [1,4]else if k=14 then [1,6,7,8]else if k=8 then [1,6]else [],fun k=>if k=0 then [1]else if k=4 then [5]else if k=10 then [7]else [],fun k=>if k=5 then [0,1,0,4,15,31,63,127,255,127,1023,127,2175,8191,16383,32767]else if k=6 then [0,1,0,7]else if k=12 then [0,1,0,7]else if k=18 then [0,1,0,7]else []⟩ Try.func30 (by kernel_rfl) (by kernel_rfl) h
def ss(n26:Kn)(x29 x30 x28 x40:AV)(L41:SH):Prop:=
 wb .add 3 x29 x40 fun x42=>
 wb .add 3 x30 (.int .i64 1) fun x43=>
 n26 [x28,x42,x43] L41
def su(Q:R)(n50:Kn)(x54 x52 x53 x67:AV)(L68:SH):Prop:=
 W.ext 0 x67 fun x69=>
 W.ext 1 x67 fun x70=>
 wb .neq 47 x69 (.int .i64 0) fun x71=>
 wk x71 (
 Q (.tup [x69,x70]) L68) (
 wb .add 3 x54 (.int .i64 1) fun x72=>
 n50 [x52,x53,x72] L68)
def sv(Q:R)(n50:Kn)(L51:SH)(x53 x54 x52:AV):Prop:=
 W.nilchk x53 fun x59=>
 W.faddr 2 x59 fun x60=>
 W.store 1 x60 x54 L51 fun L61=>
 bo 1 x52 L61 fun x63=>
 gQ 4 3 x63 x54 L61 fun x66=>
 wc (.fn 32 []) [x53,x66] L61 (su Q n50 x54 x52 x53)
def iS(Q:R)(v49:Vs)(L51:SH)(n50:Kn):Prop:=
 wu 1 10 11 v49 fun x52 x53 x54=>
 bo 1 x52 L51 fun x56=>
 W.len x56 fun x57=>
 wb .lss 3 x54 x57 fun x58=>
 wk x58 (
 (sv Q n50 L51 x53 x54 x52)) (
 Q (.tup [(.int .i64 0),(.int .i64 0)]) L51)
def sw(Q:R)(L27:SH)(x28:AV):Prop:=
 dy 2 x28 L27 fun x45=>
 W.build [.nils,.nils,(.int .i64 0),.nils,.nils,.nils] [(0,2,x45)] fun x46=>
 W.box x46 L27 fun x47 L48=>
 W.loop (iS Q) [x28,x47,(.int .i64 0)] L48
def iT(Q:R)(v25:Vs)(L27:SH)(n26:Kn):Prop:=
 wu 1 8 9 v25 fun x28 x29 x30=>
 bo 1 x28 L27 fun x32=>
 W.len x32 fun x33=>
 wb .lss 3 x30 x33 fun x34=>
 wk x34 (
 bo 1 x28 L27 fun x36=>
 gQ 4 3 x36 x30 L27 fun x39=>
 wc (.fn 31 []) [x39] L27 (ss n26 x29 x30 x28)) (
 wb .gtr 3 x29 (.int .i64 60) fun x44=>
 wk x44 (
 Q (.tup [(.int .i64 2),(.int .i64 0)]) L27) (
 (sw Q L27 x28)))
def sx(Q:R)(x2 x20:AV)(L21:SH):Prop:=
 W.ext 0 x20 fun x22=>
 W.ext 1 x20 fun x23=>
 wb .neq 47 x22 (.int .i64 0) fun x24=>
 wk x24 (
 Q (.tup [x22,x23]) L21) (
 W.loop (iT Q) [x2,(.int .i64 0),(.int .i64 0)] L21)
def sy(Q:R)(L11:SH)(x2:AV):Prop:=
 bo 1 x2 L11 fun x16=>
 W.len x16 fun x17=>
 wb .gtr 3 x17 (.int .i64 4) fun x18=>
 wk x18 (
 Q (.tup [(.int .i64 2),(.int .i64 0)]) L11) (
 dy 2 x2 L11 fun x19=>
 wc (.fn 30 []) [x19] L11 (sx Q x2))
def sB(Q:R)(x2 x10:AV)(L11:SH):Prop:=
 W.ext 0 x10 fun x12=>
 W.ext 1 x10 fun x13=>
 wb .neq 47 x12 (.int .i64 0) fun x14=>
 wk x14 (
 Q (.tup [x12,x13]) L11) (
 (sy Q L11 x2))
def sC(Q:R)(x2 x5:AV)(L6:SH):Prop:=
 W.un .not x5 fun x7=>
 wk x7 (
 Q (.tup [(.int .i64 3),(.int .i64 0)]) L6) (
 bo 0 x2 L6 fun x9=>
 wc (.fn 29 []) [x9] L6 (sB Q x2))
def jL(t0:AV)(L:SH)(Q:R):Prop:=
 xb t0 L fun x2 L3=>
 dy 2 x2 L3 fun x4=>
 wc (.fn 28 []) [x4] L3 (sC Q x2)
theorem sD(t0:AV)(L:SH)(Q:R)(h:jL t0 L Q):am Try.prog 12 [t0] L Q:=
 bC ⟨fun _=>none,fun k=>if k=13 then [1,8,9]else if k=20 then [1,10,11]else [],fun k=>if k=0 then [1]else [],fun _=>[]⟩ Try.func12 (by kernel_rfl) (by kernel_rfl) h
def kH(Q:R)(n1:Kn)(L2:SH)(x3 x7 x4 x5 x6:AV):Prop:=
 c8 3 x3 L2 fun x15=>
 ug 11 x15 x7 L2 fun x17=>
 xH [(.int .i64 0),(.int .i64 0),(.str []),(.str []),.nils,(.int .i64 0),(.int .i64 0),(.str []),.nils,.nils,.nils] 11 x17 L2 fun x21 L22=>
 bo 0 x21 L22 fun x24=>
 wb .eql 3 x24 x4 fun x25=>
 wg x25 false (W.faddr 0 x21) L22 fun x26 L28=>
 wg x25 false (wl x26 L28) L28 fun x30 L32=>
 cj x25 false x5 L32 fun x34 L36=>
 wg x25 false (wb .eql 3 x30 x34) L36 fun x37 L39=>
 W.pick x25 (.bool true) x37 fun x41=>
 cj x41 true x6 L39 fun x42 L44=>
 wg x41 true (wb .eql 9 x42 (.str [])) L44 fun x45 L47=>
 cj x41 true x45 L47 fun x49 L51=>
 wg x49 false (W.faddr 2 x21) L51 fun x52 L54=>
 wg x49 false (wl x52 L54) L54 fun x56 L58=>
 cj x49 false x6 L58 fun x60 L62=>
 wg x49 false (wb .eql 9 x56 x60) L62 fun x63 L65=>
 wg x41 true (W.pick x49 (.bool true) x63) L65 fun x67 L69=>
 W.pick x41 x67 (.bool false) fun x71=>
 wk x71 (
 Q (.bool true) L69) (
 wb .add 3 x7 (.int .i64 1) fun x72=>
 n1 [x3,x4,x5,x6,x72] L69)
def du(Q:R)(v0:Vs)(L2:SH)(n1:Kn):Prop:=
 Ah 0 1 2 3 9 v0 fun x3 x4 x5 x6 x7=>
 c8 3 x3 L2 fun x10=>
 W.len x10 fun x11=>
 wb .lss 3 x7 x11 fun x12=>
 wk x12 (
 (kH Q n1 L2 x3 x7 x4 x5 x6)) (
 Q (.bool false) L2)
def fL(t0 t1 t2 t3:AV)(L:SH)(Q:R):Prop:=
 W.loop (du Q) [t0,t1,t2,t3,(.int .i64 0)] L
theorem kI(t0 t1 t2 t3:AV)(L:SH)(Q:R)(h:fL t0 t1 t2 t3 L Q):am Try.prog 63 [t0,t1,t2,t3] L Q:=
 bC ⟨fun _=>none,fun k=>if k=2 then [0,1,2,3,9]else [],fun k=>if k=4 then [10]else [],fun _=>[]⟩ Try.func63 (by kernel_rfl) (by kernel_rfl) h
def qA(Q:R)(L57:SH)(x59:AV)(L61:SH)(q60:Ns):Prop:=
 wn [] q60 [] L57.names fun r62=>
 Q x59 L61
def qB(Q:R)(L53:SH)(x38 x55:AV)(L57:SH)(q56:Ns):Prop:=
 wn [] q56 [] L53.names fun r58=>
 wd [] 13 (.fn 64 []) [x38,x55] L57 (qA Q L57)
def qC(Q:R)(L49:SH)(x47 x38 x51:AV)(L53:SH)(q52:Ns):Prop:=
 wn [] q52 [] L49.names fun r54=>
 wd [] 12 (.fn 64 []) [x47,x51] L53 (qB Q L53 x38)
def qD(Q:R)(L40:SH)(x32 x38 x47:AV)(L49:SH)(q48:Ns):Prop:=
 wn [] q48 [] L40.names fun r50=>
 wd [] 11 (.fn 67 []) [x32] L49 (qC Q L49 x47 x38)
def qE(Q:R)(L27:SH)(x30 x28 x31 x32:AV)(r37 r34:Fp)(x38:AV)(L40:SH)(q39:Ns):Prop:=
 wn [] q39 [] L27.names fun r41=>
 dr [rc 4 r41,rm 3 r37,rm 0 r34] 5 2 x30 L40 fun x42 r43=>
 bx 3 x28 [rm 5 r43,rc 4 r41,rm 3 r37,rm 0 r34] 8 L40 fun x45 r46=>
 wd [] 9 (.fn 65 []) [x42,x31,x45,(.int .i64 6),(.int .i64 6)] L40 (qD Q L40 x32 x38)
def qF(Q:R)(v25:Vs)(L27:SH):Prop:=
 Ah 3 4 5 6 7 v25 fun x28 x29 x30 x31 x32=>
 (true=true)∧(
 dr [] 0 2 x30 L27 fun x33 r34=>
 bx 2 x28 [rm 0 r34] 3 L27 fun x36 r37=>
 wd [] 4 (.fn 65 []) [x33,x31,x36,(.int .i64 8),(.int .i64 8)] L27 (qE Q L27 x30 x28 x31 x32 r37 r34))
def qG(Q:R)(L86:SH)(x88:AV)(L90:SH)(q89:Ns):Prop:=
 wn [] q89 [] L86.names fun r91=>
 Q x88 L90
def qH(Q:R)(L77:SH)(x75 x84:AV)(L86:SH)(q85:Ns):Prop:=
 wn [] q85 [] L77.names fun r87=>
 wd [] 10 (.fn 64 []) [x75,x84] L86 (qG Q L86)
def qI(Q:R)(L24:SH)(x17 x2 x10:AV)(r74 r71:Fp)(x75:AV)(L77:SH)(q76:Ns):Prop:=
 wn [] q76 [] L24.names fun r78=>
 dr [rc 4 r78,rm 3 r74,rm 0 r71] 5 2 x17 L77 fun x79 r80=>
 W.faddr 5 x2 fun x81=>
 dr [rm 5 r80,rc 4 r78,rm 3 r74,rm 0 r71] 8 4 x81 L77 fun x82 r83=>
 wd [] 9 (.fn 66 []) [x79,x10,x82] L77 (qH Q L77 x75)
def qJ(Q:R)(L24:SH)(x17 x2 x10:AV):Prop:=
 (true=true)∧(
 dr [] 0 2 x17 L24 fun x70 r71=>
 bx 2 x2 [rm 0 r71] 3 L24 fun x73 r74=>
 wd [] 4 (.fn 65 []) [x70,x10,x73,(.int .i64 8),(.int .i64 1)] L24 (qI Q L24 x17 x2 x10 r74 r71))
def qK(Q:R)(L125:SH)(x127:AV)(L129:SH)(q128:Ns):Prop:=
 wn [] q128 [] L125.names fun r130=>
 Q x127 L129
def m3(Q:R)(L121:SH)(x97 x123:AV)(L125:SH)(q124:Ns):Prop:=
 wn [] q124 [] L121.names fun r126=>
 wd [] 18 (.fn 64 []) [x97,x123] L125 (qK Q L125)
def m4(Q:R)(L112:SH)(x110 x97 x119:AV)(L121:SH)(q120:Ns):Prop:=
 wn [] q120 [] L112.names fun r122=>
 wd [] 17 (.fn 64 []) [x110,x119] L121 (m3 Q L121 x97)
def m5(Q:R)(L99:SH)(x17 x2 x10 x97:AV)(r109 r107 r105 r102 r100 r96 r93:Fp)(x110:AV)(L112:SH)(q111:Ns):Prop:=
 wn [] q111 [] L99.names fun r113=>
 dr [rc 11 r113,rm 10 r109,rm 9 r107,rm 8 r105,rm 5 r102,rc 4 r100,rm 3 r96,rm 0 r93] 12 2 x17 L112 fun x114 r115=>
 W.faddr 5 x2 fun x116=>
 dr [rm 12 r115,rc 11 r113,rm 10 r109,rm 9 r107,rm 8 r105,rm 5 r102,rc 4 r100,rm 3 r96,rm 0 r93] 15 4 x116 L112 fun x117 r118=>
 wd [] 16 (.fn 66 []) [x114,x10,x117] L112 (m4 Q L112 x110 x97)
def m6(Q:R)(L24:SH)(x17 x2 x10:AV)(r96 r93:Fp)(x97:AV)(L99:SH)(q98:Ns):Prop:=
 wn [] q98 [] L24.names fun r100=>
 dr [rc 4 r100,rm 3 r96,rm 0 r93] 5 2 x17 L99 fun x101 r102=>
 bx 4 x2 [rm 5 r102,rc 4 r100,rm 3 r96,rm 0 r93] 8 L99 fun x104 r105=>
 di [rm 5 r102,rc 4 r100,rm 3 r96,rm 0 r93] 9 4 x104 (.int .i64 0) L99 fun x106 r107=>
 dr [rm 5 r102,rc 4 r100,rm 3 r96,rm 0 r93] 10 4 x106 L99 fun x108 r109=>
 wd [] 11 (.fn 66 []) [x101,x10,x108] L99 (m5 Q L99 x17 x2 x10 x97 r109 r107 r105 r102 r100 r96 r93)
def qL(Q:R)(L24:SH)(x17 x2 x10:AV):Prop:=
 (true=true)∧(
 dr [] 0 2 x17 L24 fun x92 r93=>
 bx 2 x2 [rm 0 r93] 3 L24 fun x95 r96=>
 wd [] 4 (.fn 65 []) [x92,x10,x95,(.int .i64 2),(.int .i64 2)] L24 (m6 Q L24 x17 x2 x10 r96 r93))
def qM(Q:R)(L24:SH)(x2 x17 x10:AV):Prop:=
 bo 4 x2 L24 fun x67=>
 W.len x67 fun x68=>
 wb .eql 3 x68 (.int .i64 0) fun x69=>
 wk x69 (
 (qJ Q L24 x17 x2 x10)) (
 (qL Q L24 x17 x2 x10))
def m7(Q:R)(x152 x171:AV)(L172:SH):Prop:=
 wc (.fn 64 []) [x152,x171] L172 fun x173 L174=>
 Q x173 L174
def m8(Q:R)(x138 x134 x135 x152:AV)(L153:SH):Prop:=
 cj x138 false x134 L153 fun x154 L156=>
 wg x138 false (W.faddr 2 x135) L156 fun x157 L159=>
 wg x138 false (wl x157 L159) L159 fun x161 L163=>
 W.grd x138 false (fun k166=>wc (.fn 63 []) [x154,(.int .i64 4),(.int .i64 4),x161] L163 fun x168 L169=>
 k166 x168 L169) L163 fun x165 L167=>
 W.pick x138 (.bool true) x165 fun x170=>
 wc (.fn 67 []) [x170] L167 (m7 Q x152)
def qN(Q:R)(L133:SH)(x136 x135 x137 x138 x134:AV):Prop:=
 dy 2 x136 L133 fun x149=>
 bo 2 x135 L133 fun x151=>
 wc (.fn 65 []) [x149,x137,x151,(.int .i64 3),(.int .i64 3)] L133 (m8 Q x138 x134 x135)
def m9(Q:R)(x190 x209:AV)(L210:SH):Prop:=
 wc (.fn 64 []) [x190,x209] L210 fun x211 L212=>
 Q x211 L212
def na(Q:R)(x182 x178 x179 x190:AV)(L191:SH):Prop:=
 cj x182 false x178 L191 fun x192 L194=>
 wg x182 false (W.faddr 2 x179) L194 fun x195 L197=>
 wg x182 false (wl x195 L197) L197 fun x199 L201=>
 W.grd x182 false (fun k204=>wc (.fn 63 []) [x192,(.int .i64 5),(.int .i64 6),x199] L201 fun x206 L207=>
 k204 x206 L207) L201 fun x203 L205=>
 W.pick x182 (.bool true) x203 fun x208=>
 wc (.fn 67 []) [x208] L205 (m9 Q x190)
def qO(Q:R)(L177:SH)(x180 x179 x181 x182 x178:AV):Prop:=
 dy 2 x180 L177 fun x187=>
 bo 2 x179 L177 fun x189=>
 wc (.fn 65 []) [x187,x181,x189,(.int .i64 4),(.int .i64 4)] L177 (na Q x182 x178 x179)
def ng(Q:R)(L252:SH)(x230 x227 x231 x259:AV)(L261:SH)(q260:Ns):Prop:=
 wn [] q260 [] L252.names fun r262=>
 cj x230 false x259 L261 fun x263 L265=>
 wg x230 false (W.un .not x263) L265 fun x266 L268=>
 W.pick x230 (.bool true) x266 fun x270=>
 wg x270 false (W.faddr 0 x227) L268 fun x271 L273=>
 wg x270 false (wl x271 L273) L273 fun x275 L277=>
 wg x270 false (wb .eql 3 x275 (.int .i64 9)) L277 fun x279 L281=>
 cj x270 false x279 L281 fun x283 L285=>
 cj x283 true x231 L285 fun x286 L288=>
 wg x270 false (W.pick x283 x286 (.bool false)) L288 fun x289 L291=>
 W.pick x270 (.bool true) x289 fun x293=>
 wc (.fn 67 []) [x293] L291 fun x294 L295=>
 Q x294 L295
def np(Q:R)(L239:SH)(x242 x226 x230 x227 x231 x250:AV)(L252:SH)(q251:Ns):Prop:=
 wn [] q251 [] L239.names fun r253=>
 di [] 8 6 x242 x250 L252 fun x254 r255=>
 bx 5 x254 [] 10 L252 fun x257 r258=>
 wd [] 11 (.fn 63 []) [x226,(.int .i64 4),(.int .i64 4),x257] L252 (ng Q L252 x230 x227 x231)
def qP(Q:R)(L239:SH)(x228 x227 x226 x230 x231:AV):Prop:=
 (true=true)∧(
 bx 0 x228 [] 2 L239 fun x242 r243=>
 bx 0 x228 [rm 2 r243] 4 L239 fun x245 r246=>
 bx 2 x227 [rm 4 r246,rm 2 r243] 6 L239 fun x248 r249=>
 wd [rm 2 r243] 7 (.fn 43 []) [x245,x248] L239 (np Q L239 x242 x226 x230 x227 x231))
def nq(Q:R)(x228 x227 x226 x230 x231 x238:AV)(L239:SH):Prop:=
 wb .neq 47 x238 (.int .i64 0) fun x240=>
 wk x240 (
 Q x238 L239) (
 (qP Q L239 x228 x227 x226 x230 x231))
def qQ(Q:R)(L225:SH)(x228 x227 x229 x226 x230 x231:AV):Prop:=
 dy 2 x228 L225 fun x235=>
 bo 2 x227 L225 fun x237=>
 wc (.fn 65 []) [x235,x229,x237,(.int .i64 5),(.int .i64 5)] L225 (nq Q x228 x227 x226 x230 x231)
def qR(Q:R)(L345:SH)(x226 x227:AV):Prop:=
 (true=true)∧(
 W.nilchk x226 fun x348=>
 bx 4 x348 [] 4 L345 fun x350 r351=>
 bx 2 x227 [rm 4 r351] 6 L345 fun x353 r354=>
 W.calm [rm 4 r351] ⟨7,[],[],[],false,[]⟩ (
 W.bslice 1 [(.str [])] 1 [(0,x353)] L345 fun x355 L356=>
 wn [] [] (af x355) [] fun r357=>
 W.calm [] ⟨8,(af x350++af x355),(af x350),[],false,[]⟩ (
 W.append 1 16 x350 x355 L356 fun x358 L359=>
 wn (af x350++af x355) (af x350) (af x358) [] fun r360=>
 W.nilchk x226 fun x361=>
 W.faddr 4 x361 fun x362=>
 ds [] 11 1 x362 x358 L359 fun L363 r364=>
 Q (.int .i64 0) L363)))
def nr(Q:R)(L333:SH)(x226 x227 x343:AV)(L345:SH)(q344:Ns):Prop:=
 wn [] q344 [] L333.names fun r346=>
 wb .geq 3 x343 (.int .i64 0) fun x347=>
 wk x347 (
 Q (.int .i64 8) L345) (
 (qR Q L345 x226 x227))
def qS(Q:R)(L333:SH)(x226 x227:AV):Prop:=
 (true=true)∧(
 W.nilchk x226 fun x336=>
 bx 4 x336 [] 3 L333 fun x338 r339=>
 bx 2 x227 [rm 3 r339] 5 L333 fun x341 r342=>
 wd [] 6 (.fn 45 []) [x338,x341] L333 (nr Q L333 x226 x227))
def nu(Q:R)(x230 x231 x232 x229 x226 x227 x307:AV)(L308:SH):Prop:=
 cj x230 false x231 L308 fun x309 L311=>
 W.pick x230 (.bool true) x309 fun x312=>
 cj x312 false x232 L311 fun x313 L315=>
 W.pick x312 (.bool true) x313 fun x316=>
 cj x316 false x307 L315 fun x317 L319=>
 cj x316 false x229 L319 fun x320 L322=>
 wg x316 false (wb .eql 3 x317 x320) L322 fun x323 L325=>
 W.pick x316 (.bool true) x323 fun x327=>
 cj x327 false x307 L325 fun x328 L330=>
 wg x327 false (wb .eql 3 x328 (.int .i64 0)) L330 fun x331 L333=>
 W.pick x327 (.bool true) x331 fun x335=>
 wk x335 (
 Q (.int .i64 7) L333) (
 (qS Q L333 x226 x227))
def nv(Q:R)(x228 x227 x230 x231 x232 x229 x226 x300:AV)(L301:SH):Prop:=
 wb .neq 47 x300 (.int .i64 0) fun x302=>
 wk x302 (
 Q x300 L301) (
 bo 1 x228 L301 fun x304=>
 bo 2 x227 L301 fun x306=>
 wc (.fn 44 []) [x304,x306] L301 (nu Q x230 x231 x232 x229 x226 x227))
def qT(Q:R)(L225:SH)(x228 x227 x229 x230 x231 x232 x226:AV):Prop:=
 dy 2 x228 L225 fun x297=>
 bo 2 x227 L225 fun x299=>
 wc (.fn 65 []) [x297,x229,x299,(.int .i64 7),(.int .i64 7)] L225 (nv Q x228 x227 x230 x231 x232 x229 x226)
def nw(Q:R)(x369 x404:AV)(L405:SH):Prop:=
 wc (.fn 64 []) [x369,x404] L405 fun x406 L407=>
 Q x406 L407
def nz(Q:R)(x230 x231 x228 x227 x229 x369:AV)(L370:SH):Prop:=
 cj x230 false x231 L370 fun x371 L373=>
 W.pick x230 (.bool true) x371 fun x374=>
 wg x374 false (W.faddr 1 x228) L373 fun x375 L377=>
 wg x374 false (wl x375 L377) L377 fun x379 L381=>
 wg x374 false (W.faddr 2 x227) L381 fun x383 L385=>
 wg x374 false (wl x383 L385) L385 fun x387 L389=>
 W.grd x374 false (fun k392=>wc (.fn 44 []) [x379,x387] L389 fun x394 L395=>
 k392 x394 L395) L389 fun x391 L393=>
 cj x374 false x229 L393 fun x396 L398=>
 wg x374 false (wb .eql 3 x391 x396) L398 fun x399 L401=>
 W.pick x374 (.bool true) x399 fun x403=>
 wc (.fn 67 []) [x403] L401 (nw Q x369)
def nA(Q:R)(L225:SH)(x228 x227 x229 x230 x231:AV):Prop:=
 dy 2 x228 L225 fun x366=>
 bo 2 x227 L225 fun x368=>
 wc (.fn 65 []) [x366,x229,x368,(.int .i64 7),(.int .i64 7)] L225 (nz Q x230 x231 x228 x227 x229)
def nB(Q:R)(v447:Vs)(L449:SH):Prop:=
 Ah 3 4 5 6 7 v447 fun x450 x451 x452 x453 x454=>
 Q x451 L449
def nC(j448:Kn)(v422:Vs)(x426 x427 x428 x460:AV)(L461:SH):Prop:=
 j448 [x426,x460,x427,x428,(ay [0,3,5,6,14] v422 7)] L461
def nD(j448:Kn)(v422:Vs)(x429 x426 x427 x428 x458:AV)(L459:SH):Prop:=
 wc (.fn 64 []) [x429,x458] L459 (nC j448 v422 x426 x427 x428)
def nE(Q:R)(v422:Vs)(L424:SH):Prop:=
 Ah 0 3 5 6 14 v422 fun x425 x426 x427 x428 x429=>
 (true=true)∧(
 W.nilchk x425 fun x430=>
 bx 5 x430 [] 4 L424 fun x432 r433=>
 bx 2 x426 [rm 4 r433] 6 L424 fun x435 r436=>
 W.calm [rm 4 r433] ⟨7,[],[],[],false,[]⟩ (
 W.bslice 1 [(.str [])] 1 [(0,x435)] L424 fun x437 L438=>
 wn [] [] (af x437) [] fun r439=>
 W.calm [] ⟨8,(af x432++af x437),(af x432),[],false,[]⟩ (
 W.append 1 16 x432 x437 L438 fun x440 L441=>
 wn (af x432++af x437) (af x432) (af x440) [] fun r442=>
 W.nilchk x425 fun x443=>
 W.faddr 5 x443 fun x444=>
 ds [] 11 1 x444 x440 L441 fun L445 r446=>
 W.join (nB Q) fun j448=>
 dy 2 x427 L445 fun x455=>
 W.faddr 5 x426 fun x456=>
 dy 4 x456 L445 fun x457=>
 wc (.fn 66 []) [x455,x428,x457] L445 (nD j448 v422 x429 x426 x427 x428))))
def nF(Q:R)(x226 x227 x228 x229 x420:AV)(L421:SH):Prop:=
 W.join (nE Q) fun j423=>
 (true=true)∧(
 wb .eql 47 x420 (.int .i64 0) fun x462=>
 W.dgrd x462 true (fun k464=>k464 x226 L421 rz) L421 fun x463 L466 r465=>
 W.dgrd x462 true (fun k468=>W.nilchk x463 fun x471=>
 k468 x471 L466 rz) L466 fun x467 L470 r469=>
 W.dgrd x462 true (fun k473=>W.faddr 5 x467 fun x476=>
 k473 x476 L470 rz) L470 fun x472 L475 r474=>
 W.dgrd x462 true (fun k478=>dl [] 6 x472 L475 fun x481 r482=>
 k478 x481 L475 r482) L475 fun x477 L480 r479=>
 W.dgrd x462 true (fun k484=>W.faddr 2 x227 fun x487=>
 k484 x487 L480 rz) L480 fun x483 L486 r485=>
 W.dgrd x462 true (fun k489=>dl [rm 6 r479] 8 x483 L486 fun x492 r493=>
 k489 x492 L486 r493) L486 fun x488 L491 r490=>
 W.dgrd x462 true (fun k495=>wd [] 9 (.fn 45 []) [x477,x488] L491 fun x498 L500 q499=>
 wn [] q499 [] L491.names fun r501=>
 k495 x498 L500 r501) L491 fun x494 L497 r496=>
 W.dgrd x462 true (fun k503=>wb .geq 3 x494 (.int .i64 0) fun x506=>
 k503 x506 L497 rz) L497 fun x502 L505 r504=>
 W.pick x462 x502 (.bool false) fun x507=>
 wk x507 (
 j423 [x226,x227,x228,x229,(.int .i64 8)] L505) (
 j423 [x226,x227,x228,x229,x420] L505))
def nG(Q:R)(x412 x226 x227 x228 x229 x418:AV)(L419:SH):Prop:=
 wc (.fn 64 []) [x412,x418] L419 (nF Q x226 x227 x228 x229)
def nH(Q:R)(x230 x232 x226 x227 x228 x229 x412:AV)(L413:SH):Prop:=
 cj x230 false x232 L413 fun x414 L416=>
 W.pick x230 (.bool true) x414 fun x417=>
 wc (.fn 67 []) [x417] L416 (nG Q x412 x226 x227 x228 x229)
def nI(Q:R)(L225:SH)(x228 x227 x229 x230 x232 x226:AV):Prop:=
 dy 2 x228 L225 fun x409=>
 bo 2 x227 L225 fun x411=>
 wc (.fn 65 []) [x409,x229,x411,(.int .i64 6),(.int .i64 6)] L225 (nH Q x230 x232 x226 x227 x228 x229)
def nJ(Q:R)(j26:Kn)(v223:Vs)(L225:SH)(x233 x228 x227 x229 x230 x232 x226:AV):Prop:=
 wb .eql 3 x233 (.int .i64 14) fun x408=>
 wk x408 (
 (nI Q L225 x228 x227 x229 x230 x232 x226)) (
 j26 [x227,(ay [0,3,5,6,7,8,9,30,119] v223 4),x228,x229,x230] L225)
def nK(Q:R)(j26:Kn)(v223:Vs)(L225:SH)(x233 x228 x227 x229 x230 x231 x232 x226:AV):Prop:=
 wb .eql 3 x233 (.int .i64 13) fun x365=>
 wk x365 (
 (nA Q L225 x228 x227 x229 x230 x231)) (
 (nJ Q j26 v223 L225 x233 x228 x227 x229 x230 x232 x226))
def nL(Q:R)(j26:Kn)(v223:Vs)(L225:SH)(x233 x228 x227 x229 x230 x231 x232 x226:AV):Prop:=
 wb .eql 3 x233 (.int .i64 12) fun x296=>
 wk x296 (
 (qT Q L225 x228 x227 x229 x230 x231 x232 x226)) (
 (nK Q j26 v223 L225 x233 x228 x227 x229 x230 x231 x232 x226))
def nM(Q:R)(j26:Kn)(v223:Vs)(L225:SH):Prop:=
 GF 0 3 5 6 7 8 9 30 119 v223 fun x226 x227 x228 x229 x230 x231 x232 x233 x234=>
 wk x234 (
 (qQ Q L225 x228 x227 x229 x226 x230 x231)) (
 (nL Q j26 v223 L225 x233 x228 x227 x229 x230 x231 x232 x226))
def nN(j224:Kn)(L177:SH)(x185 x178 x179 x180 x181 x182 x183 x184:AV):Prop:=
 wb .eql 3 x185 (.int .i64 10) fun x509=>
 wk x509 (
 j224 [x178,x179,x180,x181,x182,x183,x184,x185,x509] L177) (
 wb .eql 3 x185 (.int .i64 11) fun x510=>
 j224 [x178,x179,x180,x181,x182,x183,x184,x185,x510] L177)
def nO(Q:R)(j26:Kn)(L177:SH)(x185 x178 x179 x180 x181 x182 x183 x184:AV):Prop:=
 W.join (nM Q j26) fun j224=>
 wb .eql 3 x185 (.int .i64 9) fun x508=>
 wk x508 (
 j224 [x178,x179,x180,x181,x182,x183,x184,x185,x508] L177) (
 (nN j224 L177 x185 x178 x179 x180 x181 x182 x183 x184))
def nP(Q:R)(j26:Kn)(L177:SH)(x185 x182 x183 x178 x179 x180 x181 x184:AV):Prop:=
 wb .eql 3 x185 (.int .i64 8) fun x216=>
 wk x216 (
 cj x182 false x183 L177 fun x217 L219=>
 W.pick x182 (.bool true) x217 fun x220=>
 wc (.fn 67 []) [x220] L219 fun x221 L222=>
 Q x221 L222) (
 (nO Q j26 L177 x185 x178 x179 x180 x181 x182 x183 x184))
def nQ(Q:R)(j26:Kn)(L177:SH)(x185 x182 x183 x178 x179 x180 x181 x184:AV):Prop:=
 wb .eql 3 x185 (.int .i64 7) fun x213=>
 wk x213 (
 wc (.fn 67 []) [x182] L177 fun x214 L215=>
 Q x214 L215) (
 (nP Q j26 L177 x185 x182 x183 x178 x179 x180 x181 x184))
def nR(Q:R)(j26:Kn)(v175:Vs)(L177:SH):Prop:=
 GF 0 3 5 6 7 8 9 30 91 v175 fun x178 x179 x180 x181 x182 x183 x184 x185 x186=>
 wk x186 (
 (qO Q L177 x180 x179 x181 x182 x178)) (
 (nQ Q j26 L177 x185 x182 x183 x178 x179 x180 x181 x184))
def nS(Q:R)(j26:Kn)(L133:SH)(x141 x134 x135 x136 x137 x138 x139 x140:AV):Prop:=
 W.join (nR Q j26) fun j176=>
 wb .eql 3 x141 (.int .i64 5) fun x511=>
 wk x511 (
 j176 [x134,x135,x136,x137,x138,x139,x140,x141,x511] L133) (
 wb .eql 3 x141 (.int .i64 6) fun x512=>
 j176 [x134,x135,x136,x137,x138,x139,x140,x141,x512] L133)
def nT(Q:R)(j26:Kn)(L133:SH)(x141 x136 x135 x137 x138 x134 x139 x140:AV):Prop:=
 wb .eql 3 x141 (.int .i64 4) fun x148=>
 wk x148 (
 (qN Q L133 x136 x135 x137 x138 x134)) (
 (nS Q j26 L133 x141 x134 x135 x136 x137 x138 x139 x140))
def nU(Q:R)(j26:Kn)(v131:Vs)(L133:SH):Prop:=
 GF 0 3 5 6 7 8 9 30 67 v131 fun x134 x135 x136 x137 x138 x139 x140 x141 x142=>
 wk x142 (
 dy 2 x136 L133 fun x143=>
 W.faddr 5 x135 fun x144=>
 dy 4 x144 L133 fun x145=>
 wc (.fn 66 []) [x143,x137,x145] L133 fun x146 L147=>
 Q x146 L147) (
 (nT Q j26 L133 x141 x136 x135 x137 x138 x134 x139 x140))
def nV(Q:R)(j26:Kn)(L24:SH)(t0 x64 x2 x17 x10 x19 x21 x23:AV):Prop:=
 W.join (nU Q j26) fun j132=>
 wb .eql 3 x64 (.int .i64 2) fun x513=>
 wk x513 (
 j132 [t0,x2,x17,x10,x19,x21,x23,x64,x513] L24) (
 wb .eql 3 x64 (.int .i64 3) fun x514=>
 j132 [t0,x2,x17,x10,x19,x21,x23,x64,x514] L24)
def nW(Q:R)(t0 x2 x17 x10 x19 x21 x23:AV)(L24:SH):Prop:=
 W.join (qF Q) fun j26=>
 bo 0 x2 L24 fun x64=>
 wb .eql 3 x64 (.int .i64 1) fun x65=>
 wk x65 (
 (qM Q L24 x2 x17 x10)) (
 (nV Q j26 L24 t0 x64 x2 x17 x10 x19 x21 x23))
def nX(Q:R)(t0 x2 x17 x10 x19 x21:AV)(L22:SH):Prop:=
 wc (.fn 63 []) [t0,(.int .i64 3),(.int .i64 3),(.str [])] L22 (nW Q t0 x2 x17 x10 x19 x21)
def nY(Q:R)(t0 x2 x17 x10 x19:AV)(L20:SH):Prop:=
 wc (.fn 63 []) [t0,(.int .i64 8),(.int .i64 8),(.str [])] L20 (nX Q t0 x2 x17 x10 x19)
def iU(t0 t1:AV)(L:SH)(Q:R):Prop:=
 xb t1 L fun x2 L3=>
 (true=true)∧(
 W.nilchk t0 fun x4=>
 W.faddr 0 x4 fun x5=>
 dr [] 3 2 x5 L3 fun x6 r7=>
 W.nilchk t0 fun x8=>
 bx 2 x8 [rm 3 r7] 7 L3 fun x10 r11=>
 W.calm [rm 7 r11,rm 3 r7] ⟨8,[],[],[],false,[]⟩ (
 W.alloc [.nils,.nils] L3 fun x12 L13=>
 wn [] [] (af x12) [] fun r14=>
 ds [rm 7 r11] 9 2 x12 x6 L13 fun L15 r16=>
 W.frz1 x12 L15 fun x17 L18=>
 wc (.fn 63 []) [t0,(.int .i64 7),(.int .i64 7),(.str [])] L18 (nY Q t0 x2 x17 x10)))
theorem qU(t0 t1:AV)(L:SH)(Q:R)(h:iU t0 t1 L Q):am Try.prog 46 [t0,t1] L Q:=
 bC ⟨fun k=>if k=48 then some [3,4,5,6,7]else if k=11 then some [0,3,5,6,7,8,9,30,67]else if k=16 then some [0,3,5,6,7,8,9,30,91]else if k=24 then some [0,3,5,6,7,8,9,30,119]else if k=46 then some [0,3,5,6,14]else none,fun _=>[],fun k=>if k=0 then [3]else if k=1 then [5]else [],fun k=>if k=1 then [0,1,3,7,0,16,48,112,0,271,1023]else if k=8 then [0,0,0,4,15,0,0,0,128,511,1023,2047]else if k=9 then [0,0,0,4,15,0,0,0,128,384,896,2047,0,0,0,16384,65535,131071,262143,524287]else if k=28 then [0,0,2,0,8,0,32,120,254,510,1022,2047,4095]else if k=37 then [0,1,3,7,0,16,63,127]else if k=39 then [0,0,2,6,14,0,32,96,254,511,1023,2047]else if k=45 then [0,1,3,7,15,31,63,7,135,511,1023,2047]else if k=47 then [0,0,2,6,14,0,32,96,254,511,1023,2047]else if k=49 then [0,0,0,4,15,0,0,0,128,511,0,2047,4095,8191,16383]else []⟩ Try.func46 (by kernel_rfl) (by kernel_rfl) h
def eO(Q:R)(n1:Kn)(v57:Vs)(L59:SH):Prop:=
 Ah 0 1 6 8 9 v57 fun x60 x61 x62 x63 x64=>
 (true=true)∧(
 W.nilchk x60 fun x65=>
 bx 3 x65 [] 4 L59 fun x67 r68=>
 W.nilchk x60 fun x69=>
 bx 3 x69 [rm 4 r68] 8 L59 fun x71 r72=>
 W.len x71 fun x73=>
 wb .sub 3 x73 (.int .i64 1) fun x74=>
 W.calm [] ⟨11,(dw x67),[],[],false,[]⟩ (
 W.slice 11 x67 none (some x74) none L59 fun x75=>
 wn (dw x67) [] [] [] fun r76=>
 W.nilchk x60 fun x77=>
 W.faddr 3 x77 fun x78=>
 ds [] 14 1 x78 x75 L59 fun L79 r80=>
 wb .neq 47 x63 (.int .i64 0) fun x81=>
 wk x81 (
 Q (.tup [x63,x64]) L79) (
 wb .add 3 x62 (.int .i64 1) fun x82=>
 n1 [x60,x61,x82] L79)))
def hY(j58:Kn)(x21 x22 x23 x86:AV)(L87:SH):Prop:=
 W.ext 0 x86 fun x88=>
 W.ext 1 x86 fun x89=>
 j58 [x21,x22,x23,x88,x89] L87
def eP(Q:R)(n1:Kn)(x24 x21 x22 x23 x53:AV)(L54:SH):Prop:=
 W.ext 0 x53 fun x55=>
 W.ext 1 x53 fun x56=>
 W.join (eO Q n1) fun j58=>
 wb .eql 47 x55 (.int .i64 0) fun x83=>
 wk x83 (
 bo 10 x24 L54 fun x85=>
 wc (.fn 32 []) [x21,x85] L54 (hY j58 x21 x22 x23)) (
 j58 [x21,x22,x23,x55,x56] L54)
def qV(Q:R)(n1:Kn)(L20:SH)(x21 x24 x22 x23:AV):Prop:=
 (true=true)∧(
 W.nilchk x21 fun x30=>
 bx 3 x30 [] 3 L20 fun x32 r33=>
 dr [rm 3 r33] 4 11 x24 L20 fun x34 r35=>
 W.len x32 fun x36=>
 W.calm [rm 4 r35,rm 3 r33] ⟨6,[],[],[],false,[]⟩ (
 W.bslice 11 [(.int .i64 0),(.int .i64 0),(.str []),(.str []),.nils,(.int .i64 0),(.int .i64 0),(.str []),.nils,.nils,.nils] 1 [(0,(.agg [(.int .i64 0),(.int .i64 0),(.str []),(.str []),.nils,(.int .i64 0),(.int .i64 0),(.str []),.nils,.nils,.nils]))] L20 fun x37 L38=>
 wn [] [] (af x37) [] fun r39=>
 W.calm [] ⟨7,(af x32++af x37),(af x32),[],false,[]⟩ (
 W.append 11 176 x32 x37 L38 fun x40 L41=>
 wn (af x32++af x37) (af x32) (af x40) [] fun r42=>
 di [] 8 11 x40 x36 L41 fun x43 r44=>
 ds [] 9 11 x43 x34 L41 fun L45 r46=>
 W.nilchk x21 fun x47=>
 W.faddr 3 x47 fun x48=>
 ds [rm 9 r46,rm 8 r44] 12 1 x48 x40 L45 fun L49 r50=>
 bo 9 x24 L49 fun x52=>
 wc (.fn 32 []) [x21,x52] L49 (eP Q n1 x24 x21 x22 x23))))
def eQ(Q:R)(n1:Kn)(v18:Vs)(L20:SH):Prop:=
 Ah 0 1 6 7 8 v18 fun x21 x22 x23 x24 x25=>
 wb .neq 47 x25 (.int .i64 0) fun x26=>
 wk x26 (
 (true=true)∧(
 bx 1 x24 [] 2 L20 fun x28 r29=>
 Q (.tup [x25,x28]) L20)) (
 (qV Q n1 L20 x21 x24 x22 x23))
def qW(Q:R)(n1:Kn)(x3 x4 x5 x13 x16:AV)(L17:SH):Prop:=
 W.join (eQ Q n1) fun j19=>
 c8 3 x3 L17 fun x92=>
 W.len x92 fun x93=>
 wb .add 3 x93 (.int .i64 1) fun x94=>
 wb .gtr 3 x94 (.int .i64 6) fun x95=>
 wk x95 (
 j19 [x3,x4,x5,x13,(.int .i64 2)] L17) (
 j19 [x3,x4,x5,x13,x16] L17)
def qX(Q:R)(n1:Kn)(L2:SH)(x4 x5 x3:AV):Prop:=
 ug 11 x4 x5 L2 fun x9=>
 xH [(.int .i64 0),(.int .i64 0),(.str []),(.str []),.nils,(.int .i64 0),(.int .i64 0),(.str []),.nils,.nils,.nils] 11 x9 L2 fun x13 L14=>
 dy 11 x13 L14 fun x15=>
 wc (.fn 46 []) [x3,x15] L14 (qW Q n1 x3 x4 x5 x13)
def hZ(Q:R)(v0:Vs)(L2:SH)(n1:Kn):Prop:=
 wu 0 1 6 v0 fun x3 x4 x5=>
 W.len x4 fun x6=>
 wb .lss 3 x5 x6 fun x7=>
 wk x7 (
 (qX Q n1 L2 x4 x5 x3)) (
 Q (.tup [(.int .i64 0),(.int .i64 0)]) L2)
def iV(t0 t1:AV)(L:SH)(Q:R):Prop:=
 W.loop (hZ Q) [t0,t1,(.int .i64 0)] L
theorem qY(t0 t1:AV)(L:SH)(Q:R)(h:iV t0 t1 L Q):am Try.prog 32 [t0,t1] L Q:=
 bC ⟨fun k=>if k=7 then some [0,1,6,7,8]else if k=13 then some [0,1,6,8,9]else none,fun k=>if k=2 then [0,1,6]else [],fun k=>if k=4 then [7]else [],fun k=>if k=9 then [0,0,2,1,15]else if k=10 then [0,1,3,7,0,15,0,127,255,511,255,1279,3327]else if k=14 then [0,0,2,6,14,0,32,96,224,480,992,2046,4095,8191,16383]else []⟩ Try.func32 (by kernel_rfl) (by kernel_rfl) h
end Go.Proofs.Ytljkdffikfkcgaa.Am
end
section
namespace Go.Proofs.Ytljkdffikfkcgaa.Am
set_option maxRecDepth 100000
set_option linter.unusedVariables false
theorem eR{α:Type}{f:α→List AV}{l:List α}{n i:Nat}{k:IntKind}{L:SH}{K:AV→Prop}(h:K (.lst ((l.take i).map f)))(hi:i≤l.length:=by omega)(hn:∀x,(f x).length=n:=by intro x;rfl):W.slice n (.lst (l.map f)) none (some (.int k (i:Int))) none L K:=by
 refine BI (l:=0) (h:=i) rfl ?_ (Nat.zero_le _) (by simpa using hi) (fun r hr=>?_) ?_
 ·simp[cp,j5]
 ·cases l with
  | nil=>cases hr
  | cons x l=>simp at hr;rw[←hr];exact hn x
 ·simpa[List.map_take]using h
def Ar(n i:Nat)(P:(j:Nat)→j<n→Prop):Prop:=∀j (hj:j<n),j<i→P j hj
theorem kV{n:Nat}{P:(j:Nat)→j<n→Prop}:Ar n 0 P:=fun _ _ h=>absurd h (Nat.not_lt_zero _)
theorem kW{n i:Nat}{P:(j:Nat)→j<n→Prop}(h:Ar n i P)(hi:i<n)(hp:P i hi):Ar n (i+1) P:=fun j hj hlt=>by
 rcases Nat.lt_or_ge j i with h1 | h1
 ·exact h j hj h1
 ·have:j=i:=by omega
  subst this;exact hp
def B0(good:Prop)(u:AV)(K:SH):Prop:=∃e ln:Int,u=.tup [.int .i64 e,.int .i64 ln]∧K=[]∧(e=0→good)
def av.nCell(d:av):Nat:=if d.kind=1∨d.kind=2 then(max d.size 1).toNat else 0
def av.nLock(d:av):Nat:=if d.kind=1∨d.kind=2 then 0 else if d.kind=3∨d.kind=4 then 1 else 0
def av.nCond(d:av):Nat:=if d.kind=1∨d.kind=2 then 0 else if d.kind=3∨d.kind=4 then 0 else if d.kind=5 then 1 else 0
def av.nFut(d:av):Nat:=if d.kind=1∨d.kind=2 then 0 else if d.kind=3∨d.kind=4 then 0 else if d.kind=5 then 0 else 1
def bf{α:Type}(f:α→Nat)(l:List α):Nat:=(l.map f).sum
theorem ck{α:Type}{f:α→Nat}{l:List α}{i:Nat}(h:i<l.length):bf f (l.take (i+1))=bf f (l.take i)+f l[i]:=iv h
structure fC(l:List av)(i:Nat)(h:i<l.length):Prop where
 fresh:bU (l.take i) l[i].name<0
 size:l[i].size≤4
 cells:bf av.nCell (l.take (i+1))≤12
 locks:bf av.nLock (l.take (i+1))≤4
 conds:bf av.nCond (l.take (i+1))≤2
 futs:bf av.nFut (l.take (i+1))≤2
 on:l[i].kind=5→∃d,kE (l.take i) l[i].on=some d∧d.kind=3
def qZ(l:List av):Prop:=∀i (h:i<l.length),fC l i h
theorem As{k:IntKind}{s:Int}{K:AV→Prop}(h:K (.int k (((max s 1).toNat:Nat):Int))):W.mnx true (.int k s) (.int k 1) K:=by
 rw[Cu]
 have:(if(1:Int) > s then(1:Int)else s)=(((max s 1).toNat:Nat):Int):=by split<;>omega
 rw[this];exact h
set_option maxHeartbeats 2000000 in
theorem Dy(l:List av)(hl:l.length<2^40):am Try.prog 29 [.lst (l.map av.enc)] [] (B0 (qZ l)):=by
 refine vG _ _ _ ?_
 unfold mJ
 generalize hQ:B0 (qZ l)=Q
 have hbad:∀e ln:Int,e≠0→Q (.tup [.int .i64 e,.int .i64 ln]) []:=fun e ln h=>by subst hQ;exact⟨e,ln,rfl,rfl,fun h0=>absurd h0 h⟩
 have hgood:qZ l→Q (.tup [.int .i64 0,.int .i64 0]) []:=fun h=>by subst hQ;exact⟨0,0,rfl,rfl,fun _=>h⟩
 clear hQ
 refine eJ l.length (fun i=>Ar l.length i (fC l)) (fun i=>[.lst (l.map av.enc),.int .i64 (bf av.nCell (l.take i):Nat),.int .i64 (bf av.nLock (l.take i):Nat),.int .i64 (bf av.nCond (l.take i):Nat),.int .i64 (bf av.nFut (l.take i):Nat),.int .i64 i]) (by omega) kV rfl (fun i h1 hd hi hG nx hn=>?_) (fun i h1 hd hG nx=>?_)
 all_goals unfold kG
 ·have hx:=aC (f:=av.enc) h1
  have c1:=fX (l.take i) l[i].name (by rw[List.length_take];omega)
  have c2:=fX (l.take i) l[i].on (by rw[List.length_take];omega)
  have b0:bf av.nCell (l.take i)≤12∧bf av.nLock (l.take i)≤4∧bf av.nCond (l.take i)≤2∧bf av.nFut (l.take i)≤2:=by
   cases i with
   | zero=>simp[bf]
   | succ j=>have:=hG j (by omega) (by omega);exact⟨this.cells,this.locks,this.conds,this.futs⟩
  have hok:fC l i h1→nx _ _:=fun h=>hn (kW hG h1 h)
  rw[ck h1,ck h1,ck h1,ck h1]at hok
  have key:decide (0≤bU (l.take i) l[i].name)=false→decide (4<l[i].size)=false→∀a b c d:Nat,a=bf av.nCell (l.take i)+l[i].nCell→b=bf av.nLock (l.take i)+l[i].nLock→c=bf av.nCond (l.take i)+l[i].nCond→d=bf av.nFut (l.take i)+l[i].nFut→
    gw Q nx [.lst (l.map av.enc),.int .i64 (a:Int),.int .i64 (b:Int),.int .i64 (c:Int),.int .i64 (d:Int),.int .i64 (i:Int),.pptr [l[i].enc] 0 0] []:=by
   intro f1 f2 a b c d ea eb ec ed
   rw[←ea,←eb,←ec,←ed]at hok
   have fin:a≤12→b≤4→c≤2→d≤2→(l[i].kind=5→∃d,kE (l.take i) l[i].on=some d∧d.kind=3)→nx _ _:=fun q1 q2 q3 q4 q5=>hok ⟨by simpa using f1,by simpa using f2,by rw[ck h1,←ea];exact q1,by rw[ck h1,←eb];exact q2,by rw[ck h1,←ec];exact q3,by rw[ck h1,←ed];exact q4,q5⟩
   clear hok hn hG b0 ea eb ec ed
   unfold gw
   rcases ef (p:=fun x:av=>decide (x.name=l[i].on)) (l.take i) 0 with⟨g1,g2⟩ | ⟨k,g1,g2,g3⟩
   ·have e1:bU (l.take i) l[i].on=-1:=g1
    rw[e1]at c2
    repeat' (first | refine st ?_ | refine eR ?_ | ((with_reducible refine aq 43 ?_);refine aj (c2) ?_) | ((with_reducible refine al 43 ?_);refine ab (c2) ?_) | refine sb (fun nb_ hnb_=>?_) | refine s2 (fun h=>?_) (fun h=>?_) | fail)
    all_goals first
     | exact hbad _ _ (by decide)
     | exact fin (by simp_all<;>omega) (by simp_all<;>omega) (by simp_all<;>omega) (by simp_all<;>omega) (by simp_all)
   ·have e1:bU (l.take i) l[i].on=(k:Nat):=by rw[bU,g2];simp
    have e2:kE (l.take i) l[i].on=some (l.take i)[k]:=g3
    have hkl:k<l.length:=by rw[List.length_take]at g1;omega
    have e3:(l.take i)[k]=l[k]:=by simp
    rw[e1]at c2
    rw[e2,e3]at fin
    have hy:=aC (f:=av.enc) hkl
    have d2:decide ((k:Int)<0)=false:=by simp
    repeat' (first | refine st ?_ | refine eR ?_ | ((with_reducible refine aq 43 ?_);refine aj (c2) ?_) | ((with_reducible refine al 43 ?_);refine ab (c2) ?_) | refine sb (fun nb_ hnb_=>?_) | refine s2 (fun h=>?_) (fun h=>?_) | fail)
    all_goals first
     | exact hbad _ _ (by decide)
     | exact fin (by simp_all<;>omega) (by simp_all<;>omega) (by simp_all<;>omega) (by simp_all<;>omega) (by simp_all)
  clear hok hn hG hgood
  have p1:=fun(f:decide (4<l[i].size)=false)=>fU (a:=bf av.nCell (l.take i)) (b:=(max l[i].size 1).toNat) (by have:¬4<l[i].size:=(by simpa using f);omega)
  have p2:=fU (a:=bf av.nLock (l.take i)) (b:=1) (by omega)
  have p3:=fU (a:=bf av.nCond (l.take i)) (b:=1) (by omega)
  have p4:=fU (a:=bf av.nFut (l.take i)) (b:=1) (by omega)
  repeat' (first | refine dm (b9 ?_ (p1 (by assumption))) | with_reducible refine key (by assumption) (by assumption) _ _ _ _ ?_ ?_ ?_ ?_ | refine st ?_ | refine eR ?_ | ((with_reducible refine aq 43 ?_);refine aj (c1) ?_) | ((with_reducible refine al 43 ?_);refine ab (c1) ?_) | refine As ?_ | refine sb (fun nb_ hnb_=>?_) | refine s2 (fun h=>?_) (fun h=>?_) | fail)
  all_goals first
   | exact hbad _ _ (by decide)
   | (clear key c1 c2 p1 p2 p3 p4 hbad;simp_all[av.nCell,av.nLock,av.nCond,av.nFut])
 ·repeat' (first | refine st ?_ | refine sb (fun nb_ hnb_=>?_) | refine s2 (fun h=>?_) (fun h=>?_) | fail)
  exact hgood fun j hj=>hG j hj (by omega)
structure kJ(p:aK)(i:Nat)(h:i<p.threads.length):Prop where
 decl:bU p.decls p.threads[i].name<0
 fresh:cx (p.threads.take i) p.threads[i].name<0
structure q6(p:aK)(t:ai):Prop where
 few:t.locals.length≤4
 decl:∀s∈t.locals,bU p.decls s<0
 thread:∀s∈t.locals,cx p.threads s<0
 fresh:∀i (h:i<t.locals.length),fJ (t.locals.take i) t.locals[i]<0
structure kX(p:aK):Prop where
 names:∀i (h:i<p.threads.length),kJ p i h
 locals:∀i (h:i<p.threads.length),q6 p p.threads[i]
theorem At(p:aK)(hw:p.wt<2^40):am Try.prog 30 [.agg p.enc] [] (B0 (kX p)):=by
 have hl1:=p.decls_len
 have hl2:=p.threads_len
 refine sr _ _ _ ?_
 unfold jK
 generalize hQ:B0 (kX p)=Q
 have hbad:∀e ln:Int,e≠0→Q (.tup [.int .i64 e,.int .i64 ln]) []:=fun e ln h=>by subst hQ;exact⟨e,ln,rfl,rfl,fun h0=>absurd h0 h⟩
 have hgood:kX p→Q (.tup [.int .i64 0,.int .i64 0]) []:=fun h=>by subst hQ;exact⟨0,0,rfl,rfl,fun _=>h⟩
 clear hQ
 repeat' (first | refine st ?_ | refine sb (fun nb_ hnb_=>?_) | refine s2 (fun h=>?_) (fun h=>?_) | fail)
 refine eJ p.threads.length (fun i=>Ar p.threads.length i (kJ p)) (fun i=>[.pptr [p.enc] 0 0,.int .i64 i]) (by omega) kV rfl (fun i h1 hd hi hG nx hn=>?_) (fun i h1 hd hG nx=>?_)
 all_goals unfold iR
 ·have hx:=aC (f:=ai.enc) h1
  have c1:=fX p.decls p.threads[i].name (by omega)
  have c2:=hM (p.threads.take i) p.threads[i].name (by rw[List.length_take];omega)
  have hok:kJ p i h1→nx _ _:=fun h=>hn (kW hG h1 h)
  clear hn hG
  repeat' (first | refine st ?_ | refine eR ?_ | ((with_reducible refine aq 43 ?_);refine aj (c1) ?_) | ((with_reducible refine al 43 ?_);refine ab (c1) ?_) | ((with_reducible refine aq 44 ?_);refine aj (c2) ?_) | ((with_reducible refine al 44 ?_);refine ab (c2) ?_) | refine sb (fun nb_ hnb_=>?_) | refine s2 (fun h=>?_) (fun h=>?_) | fail)
  all_goals first
   | exact hbad _ _ (by decide)
   | exact hok ⟨by simp_all,by simp_all⟩
 ·have hN:∀i (h:i<p.threads.length),kJ p i h:=fun j hj=>hG j hj (by omega)
  repeat' (first | refine st ?_ | refine sb (fun nb_ hnb_=>?_) | refine s2 (fun h=>?_) (fun h=>?_) | fail)
  clear hG hd h1
  refine eJ p.threads.length (fun i=>Ar p.threads.length i (fun i h=>q6 p p.threads[i])) (fun i=>[.pptr [p.enc] 0 0,.int .i64 i]) (by omega) kV rfl (fun i h1 hd hi hG nx hn=>?_) (fun i h1 hd hG nx=>?_)
  all_goals unfold iQ
  ·have hx:=aC (f:=ai.enc) h1
   have hok:q6 p p.threads[i]→nx _ _:=fun h=>hn (kW hG h1 h)
   have hlw:=fun(h4:p.threads[i].locals.length≤4)=>h4
   clear hn hG
   generalize p.threads[i]=t at *
   repeat' (first | refine st ?_ | refine sb (fun nb_ hnb_=>?_) | refine s2 (fun h=>?_) (fun h=>?_) | fail)
   ·exact hbad _ _ (by decide)
   ·have h4:t.locals.length≤4:=by simp at h;omega
    refine eJ t.locals.length (fun k=>Ar t.locals.length k (fun k h=>bU p.decls t.locals[k]<0∧cx p.threads t.locals[k]<0∧fJ (t.locals.take k) t.locals[k]<0)) (fun k=>[.pptr [p.enc] 0 0,.int .i64 i,.pptr [t.enc] 0 0,.int .i64 k]) (by omega) kV rfl (fun k g1 gd gi gG ny gn=>?_) (fun k g1 gd gG ny=>?_)
    all_goals unfold iP
    ·have hy:=aC (f:=az) g1
     have c1:=fX p.decls t.locals[k] (by omega)
     have c2:=hM p.threads t.locals[k] (by omega)
     have c3:=fK (t.locals.take k) t.locals[k] (by rw[List.length_take];omega)
     have hok2:(bU p.decls t.locals[k]<0∧cx p.threads t.locals[k]<0∧fJ (t.locals.take k) t.locals[k]<0)→ny _ _:=fun h=>gn (kW gG g1 h)
     clear gn gG
     repeat' (first | refine st ?_ | refine eR ?_ | ((with_reducible refine aq 43 ?_);refine aj (c1) ?_) | ((with_reducible refine al 43 ?_);refine ab (c1) ?_) | ((with_reducible refine aq 44 ?_);refine aj (c2) ?_) | ((with_reducible refine al 44 ?_);refine ab (c2) ?_) | ((with_reducible refine aq 45 ?_);refine aj (c3) ?_) | ((with_reducible refine al 45 ?_);refine ab (c3) ?_) | refine sb (fun nb_ hnb_=>?_) | refine s2 (fun h=>?_) (fun h=>?_) | fail)
     all_goals first
      | exact hbad _ _ (by decide)
      | exact hok2 ⟨by simp_all,by simp_all,by simp_all⟩
    ·have all:∀k (h:k<t.locals.length),bU p.decls t.locals[k]<0∧cx p.threads t.locals[k]<0∧fJ (t.locals.take k) t.locals[k]<0:=fun j hj=>gG j hj (by omega)
     repeat' (first | refine st ?_ | refine sb (fun nb_ hnb_=>?_) | refine s2 (fun h=>?_) (fun h=>?_) | fail)
     refine hok ⟨h4,fun s hs=>?_,fun s hs=>?_,fun k hk=>(all k hk).2.2⟩
     ·obtain⟨j,hj,rfl⟩:=List.getElem_of_mem hs;exact(all j hj).1
     ·obtain⟨j,hj,rfl⟩:=List.getElem_of_mem hs;exact(all j hj).2.1
  ·repeat' (first | refine st ?_ | refine sb (fun nb_ hnb_=>?_) | refine s2 (fun h=>?_) (fun h=>?_) | fail)
   exact hgood ⟨hN,fun j hj=>hG j hj (by omega)⟩
end Go.Proofs.Ytljkdffikfkcgaa.Am
end
section
namespace Go.Proofs.Ytljkdffikfkcgaa.Am
set_option maxRecDepth 100000
set_option linter.unusedVariables false
structure jS where
 t:Nat
 o1:Option Nat
 ar:List aa
 k:Nat
 o2:Option Nat
 sp:List aL
 o3:Option Nat
 se:List aL
def jS.row(p:aK)(s:jS):List AV:=[.lst (p.decls.map av.enc),.lst (p.threads.map ai.enc),.int .i64 s.t,au s.o1 s.k,au s.o2 s.sp.length,au s.o3 s.se.length]
def jS.L(p:aK)(bw:Nat)(s:jS):SH:=(bw,⟨6,[s.row p]⟩)::(ao s.o1 11 (s.ar.map aa.enc)++(ao s.o2 1 (s.sp.map az)++ao s.o3 1 (s.se.map az)))
structure jS.Ok(s:jS)(m:Nat):Prop where
 a0:s.o1=none→s.ar=[]
 ak:s.k≤s.ar.length
 k6:s.k≤6
 p0:s.o2=none→s.sp=[]
 e0:s.o3=none→s.se=[]
 pm:s.sp.length≤m
 em:s.se.length≤m
theorem B1(bw:Nat)(v0 v1 v2 v4 v5:AV)(o1:Option Nat)(ar:List aa)(k:Nat)(R:SH)(a b:Int)(name:aL)(h0:o1=none→ar=[])(hk:k≤ar.length)(h6:k≤6):
  am Try.prog 63 [.ptr bw 0 0,.int .i64 a,.int .i64 b,.str name] ((bw,⟨6,[[v0,v1,v2,au o1 k,v4,v5]]⟩)::(ao o1 11 (ar.map aa.enc)++R)) fun u K=>∃r:Bool,u=.bool r∧K=(bw,⟨6,[[v0,v1,v2,au o1 k,v4,v5]]⟩)::(ao o1 11 (ar.map aa.enc)++R):=by
 refine kI _ _ _ _ _ _ ?_
 unfold fL
 generalize hL:(bw,(⟨6,[[v0,v1,v2,au o1 k,v4,v5]]⟩:Blk))::(ao o1 11 (ar.map aa.enc)++R)=L
 generalize hQ:(fun(u:AV) (K:SH)=>∃r:Bool,u=AV.bool r∧K=L)=Q
 have hq:∀r:Bool,Q (.bool r) L:=fun r=>by subst hQ;exact⟨r,rfl,rfl⟩
 clear hQ
 subst hL
 cases o1 with
 | none=>
  have:=h0 rfl
  subst this
  obtain rfl:k=0:=by simpa using hk
  dsimp only[ao,au,List.nil_append]at *
  refine eJ 0 (fun _=>True) (fun i=>[.ptr bw 0 0,.int .i64 a,.int .i64 b,.str name,.int .i64 i]) (by omega) trivial rfl (fun i h1 hd hi _ nx hn=>by omega) (fun i h1 hd _ nx=>?_)
  unfold du
  repeat' (first | refine st ?_ | refine sb (fun nb_ hnb_=>?_) | refine s2 (fun h=>?_) (fun h=>?_) | fail)
  exact hq _
 | some b1=>
  dsimp only[ao,au,List.cons_append,List.nil_append]at *
  refine eJ k (fun _=>True) (fun i=>[.ptr bw 0 0,.int .i64 a,.int .i64 b,.str name,.int .i64 i]) (by omega) trivial rfl (fun i h1 hd hi _ nx hn=>?_) (fun i h1 hd _ nx=>?_)
  all_goals unfold du
  ·have hx:=xd (l:=ar) (i:=i) (by omega)
   generalize ar[i]'(by omega)=x at *
   repeat' (first | refine st ?_ | refine sb (fun nb_ hnb_=>?_) | refine s2 (fun h=>?_) (fun h=>?_) | fail)
   all_goals first
    | exact hq _
    | exact hn trivial
  ·repeat' (first | refine st ?_ | refine sb (fun nb_ hnb_=>?_) | refine s2 (fun h=>?_) (fun h=>?_) | fail)
   exact hq _
theorem Dz(o:Option Nat)(l:List aL)(R:SH)(x:aL)(h0:o=none→l=[])(hl:l.length<2^62):
  am Try.prog 45 [au o l.length,.str x] (ao o 1 (l.map az)++R) fun u K=>∃r:Int,u=.int .i64 r∧K=ao o 1 (l.map az)++R:=by
 refine kw _ _ _ _ ?_
 unfold jv
 generalize hL:ao o 1 (l.map az)++R=L
 generalize hQ:(fun(u:AV) (K:SH)=>∃r:Int,u=AV.int .i64 r∧K=L)=Q
 have hq:∀r:Int,Q (.int .i64 r) L:=fun r=>by subst hQ;exact⟨r,rfl,rfl⟩
 clear hQ
 subst hL
 cases o with
 | none=>
  have:=h0 rfl
  subst this
  dsimp only[ao,au,List.nil_append,List.length_nil]at *
  refine eJ 0 (fun _=>True) (fun i=>[.emp,.str x,.int .i64 i]) (by omega) trivial rfl (fun i h1 hd hi _ nx hn=>by omega) (fun i h1 hd _ nx=>?_)
  unfold eu
  repeat' (first | refine st ?_ | refine sb (fun nb_ hnb_=>?_) | refine s2 (fun h=>?_) (fun h=>?_) | fail)
  exact hq _
 | some b1=>
  dsimp only[ao,au,List.cons_append,List.nil_append]at *
  refine eJ l.length (fun _=>True) (fun i=>[.sl b1 0 l.length,.str x,.int .i64 i]) (by omega) trivial rfl (fun i h1 hd hi _ nx hn=>?_) (fun i h1 hd _ nx=>?_)
  all_goals unfold eu
  ·have hx:=aC (f:=az) h1
   repeat' (first | refine st ?_ | refine sb (fun nb_ hnb_=>?_) | refine s2 (fun h=>?_) (fun h=>?_) | fail)
   all_goals first
    | exact hq _
    | exact hn trivial
  ·repeat' (first | refine st ?_ | refine sb (fun nb_ hnb_=>?_) | refine s2 (fun h=>?_) (fun h=>?_) | fail)
   exact hq _
theorem am.permR{P:Program}{f:FuncId}{args:List AV}{L:SH}{Q:AV→SH→Prop}(h:am P f args L fun v L'=>∃L'',L'.Perm L''∧Q v L''):am P f args L Q:=⟨h.1,fun H hb hs=>by
 obtain⟨v,H',L',h1,h2,L'',hp,h3⟩:=h.2 H hb hs
 exact⟨v,H',L'',h1,h2.permS hp,h3⟩⟩
theorem am.within{P:Program}{f:FuncId}{args:List AV}{K L R:SH}{α:Type}{F:α→AV}(h:am P f args K fun u K'=>∃r,u=F r∧K'=K)(hp:L.Perm (K++R)):am P f args L fun u K'=>∃r,u=F r∧K'=L:=
 am.permR (h.frame hp fun v K' ⟨r,h1,h2⟩=>⟨L,by rw[h2];exact hp.symm,r,h1,rfl⟩)
end Go.Proofs.Ytljkdffikfkcgaa.Am
end
section
namespace Go.Proofs.Ytljkdffikfkcgaa.Am
set_option maxRecDepth 100000
set_option linter.unusedVariables false
def c6(p:aK)(loc:List aL)(x:aa):Prop:=
 if x.op=1 then(match x.index with
  | []=>dt (aD p loc x.name) 8 1=0∧gv p loc x.expr=0
  | i::_=>dt (aD p loc x.name) 2 2=0∧gv p loc i=0∧gv p loc x.expr=0)
 else if x.op=2∨x.op=3 then gv p loc x.expr=0
 else if x.op=4 then dt (aD p loc x.name) 3 3=0
 else if x.op=5∨x.op=6 then dt (aD p loc x.name) 4 4=0
 else if x.op=7∨x.op=8 then True
 else if x.op=9∨x.op=10∨x.op=11 then dt (aD p loc x.name) 5 5=0
 else if x.op=12∨x.op=13 then dt (aD p loc x.name) 7 7=0
 else if x.op=14 then dt (aD p loc x.name) 6 6=0∧gv p loc x.expr=0
 else dt (aD p loc x.name) 8 8=0∧dt (aD p loc x.arg) 6 6=0
theorem sE{p:aK}{loc:List aL}{nm:aL}(h:kE p.decls nm=none):dt (aD p loc nm) 5 5≠0:=by
 unfold aD
 rw[h,zu]
 cases decide (0≤fJ loc nm)<;>cases decide (0≤cx p.threads nm)<;>decide
def GU(p:aK)(bw:Nat)(s:jS)(m:Nat)(good:Prop)(u:AV)(K:SH):Prop:=
 ∃(e:Int) (s':jS),u=.int .i64 e∧K.Perm (s'.L p bw)∧s'.Ok m∧s'.t=s.t∧s'.o1=s.o1∧s'.ar=s.ar∧s'.k=s.k∧(e=0→good)
theorem ca{a b:Int}:I3 a b=0↔a=0∧b=0:=by unfold I3;split<;>simp_all
set_option maxHeartbeats 4000000 in
theorem GV(p:aK)(bw:Nat)(s:jS)(x:aa)(m:Nat)(hw:p.wt<2^40)(ht:s.t<p.threads.length)(hs:s.Ok m)(hm:m<2^40)(hx:x.wt<2^40):
  am Try.prog 46 [.ptr bw 0 0,.agg x.row] (s.L p bw) (GU p bw s (m+1) (c6 p p.threads[s.t].locals x)):=by
 have hxw:=x.wt_eq
 have hl1:=p.decls_len
 have hl2:=p.threads_len
 obtain⟨op,line,name,arg,index,e,body,els⟩:=x
 simp only[aa.name,aa.arg,aa.index,aa.expr,aa.body,aa.els]at hxw
 have hin:=fun(a b:Int) (nm:aL)=>B1 bw (.lst (p.decls.map av.enc)) (.lst (p.threads.map ai.enc)) (.int .i64 s.t) (au s.o2 s.sp.length) (au s.o3 s.se.length) s.o1 s.ar s.k (ao s.o2 1 (s.sp.map az)++ao s.o3 1 (s.se.map az)) a b nm hs.a0 hs.ak hs.k6
 have cw:=fun(nm:aL) (a b:Int)=>xT p s.t nm a b hw ht
 have ce:=fun(y:ac) (hy:y.wt<2^40)=>E1 p s.t y hw ht hy
 have hex:=ce e (by omega)
 unfold ac.row at hex
 have hda:=fX p.decls name (by omega)
 have hta:=hM p.threads name (by omega)
 have hlen2:s.sp.length≤2^40:=by have:=hs.pm;omega
 have hlen3:s.se.length≤2^40:=by have:=hs.em;omega
 refine am.fz (qU _ _ _ _ ?_)
 unfold iU
 generalize hQ:(fun(v:AV) (L:SH)=>∃v2 L2,aV [v] L [v2] L2∧GU p bw s (m+1) (c6 p p.threads[s.t].locals (.mk op line name arg index e body els)) v2 L2)=Q
 have hqg:∀(v:Int) (K:SH) (s':jS),ez K (s'.L p bw)→s'.Ok (m+1)→s'.t=s.t→s'.o1=s.o1→s'.ar=s.ar→s'.k=s.k→(v=0→c6 p p.threads[s.t].locals (.mk op line name arg index e body els))→Q (.int .i64 v) K:=fun v K s' h1 h2 h3 h4 h5 h6 h7=>by
  subst hQ;exact⟨_,_,aV.pick h1 rfl,v,s',rfl,.refl _,h2,h3,h4,h5,h6,h7⟩
 have hq0:∀(v:Int),(v=0→c6 p p.threads[s.t].locals (.mk op line name arg index e body els))→Q (.int .i64 v) (s.L p bw):=fun v h2=>by
  subst hQ;exact⟨_,_,aV.refl _ _,v,s,rfl,.refl _,⟨hs.a0,hs.ak,hs.k6,hs.p0,hs.e0,Nat.le_succ_of_le hs.pm,Nat.le_succ_of_le hs.em⟩,rfl,rfl,rfl,rfl,h2⟩
 clear hQ
 unfold jS.L jS.row at *
 unfold aa.row
 generalize hloc:p.threads[s.t].locals=loc at *
 clear hloc
 dsimp only[aa.op,aa.line,aa.name,aa.arg,aa.index,aa.expr,aa.body,aa.els]
 by_cases p1:1≤op∧op≤14
 ·have:op=1∨op=2∨op=3∨op=4∨op=5∨op=6∨op=7∨op=8∨op=9∨op=10∨op=11∨op=12∨op=13∨op=14:=by omega
  clear p1
  rcases this with rfl | rfl | rfl | rfl | rfl | rfl | rfl | rfl | rfl | rfl | rfl | rfl | rfl | rfl
  ·cases index with
   | nil=>
    repeat' (first | refine st ?_ | ((with_reducible refine aq 65 ?_);refine aj (cw _ _ _) ?_) | ((with_reducible refine al 65 ?_);refine ab (cw _ _ _) ?_) | ((with_reducible refine aq 63 ?_);(refine cf (hin _ _ _) ?_;rintro _ _ ⟨r_,rfl,rfl⟩)) | ((with_reducible refine aq 64 ?_);refine aj (bO _ _) ?_) | ((with_reducible refine al 64 ?_);refine ab (bO _ _) ?_) | ((with_reducible refine aq 66 ?_);refine aj (hex) ?_) | ((with_reducible refine al 66 ?_);refine ab (hex) ?_) | refine sb (fun nb_ hnb_=>?_) | refine s2 (fun h=>?_) (fun h=>?_) | fail)
    exact hq0 _ (fun h0=>by simpa[c6,aa.op,aa.name,aa.index,aa.expr,ca]using h0)
   | cons i r=>
    have hei:=ce i (by simp only[ac.wts]at hxw;omega)
    unfold ac.row at hei
    have hx0:=zh (l:=i::r) (i:=0) (by simp)
    have d1:decide (((i::r).length:Int)=0)=false:=by simp;omega
    repeat' (first | refine st ?_ | ((with_reducible refine aq 65 ?_);refine aj (cw _ _ _) ?_) | ((with_reducible refine al 65 ?_);refine ab (cw _ _ _) ?_) | ((with_reducible refine aq 63 ?_);(refine cf (hin _ _ _) ?_;rintro _ _ ⟨r_,rfl,rfl⟩)) | ((with_reducible refine aq 64 ?_);refine aj (bO _ _) ?_) | ((with_reducible refine al 64 ?_);refine ab (bO _ _) ?_) | ((with_reducible refine aq 66 ?_);refine aj (hei) ?_) | ((with_reducible refine al 66 ?_);refine ab (hei) ?_) | ((with_reducible refine aq 66 ?_);refine aj (hex) ?_) | ((with_reducible refine al 66 ?_);refine ab (hex) ?_) | refine sb (fun nb_ hnb_=>?_) | refine s2 (fun h=>?_) (fun h=>?_) | fail)
    exact hq0 _ (fun h0=>by simpa[c6,aa.op,aa.name,aa.index,aa.expr,ca]using h0)
  ·repeat' (first | refine st ?_ | ((with_reducible refine aq 65 ?_);refine aj (cw _ _ _) ?_) | ((with_reducible refine al 65 ?_);refine ab (cw _ _ _) ?_) | ((with_reducible refine aq 63 ?_);(refine cf (hin _ _ _) ?_;rintro _ _ ⟨r_,rfl,rfl⟩)) | ((with_reducible refine aq 67 ?_);refine aj (aB _) ?_) | ((with_reducible refine al 67 ?_);refine ab (aB _) ?_) | ((with_reducible refine aq 64 ?_);refine aj (bO _ _) ?_) | ((with_reducible refine al 64 ?_);refine ab (bO _ _) ?_) | ((with_reducible refine aq 66 ?_);refine aj (hex) ?_) | ((with_reducible refine al 66 ?_);refine ab (hex) ?_) | ((with_reducible refine aq 44 ?_);refine aj (hta) ?_) | ((with_reducible refine al 44 ?_);refine ab (hta) ?_) | refine sb (fun nb_ hnb_=>?_) | refine s2 (fun h=>?_) (fun h=>?_) | fail)
   all_goals exact hq0 _ (fun h0=>by simp_all[c6,aa.op,aa.name,aa.index,aa.expr,ca])
  ·repeat' (first | refine st ?_ | ((with_reducible refine aq 65 ?_);refine aj (cw _ _ _) ?_) | ((with_reducible refine al 65 ?_);refine ab (cw _ _ _) ?_) | ((with_reducible refine aq 63 ?_);(refine cf (hin _ _ _) ?_;rintro _ _ ⟨r_,rfl,rfl⟩)) | ((with_reducible refine aq 67 ?_);refine aj (aB _) ?_) | ((with_reducible refine al 67 ?_);refine ab (aB _) ?_) | ((with_reducible refine aq 64 ?_);refine aj (bO _ _) ?_) | ((with_reducible refine al 64 ?_);refine ab (bO _ _) ?_) | ((with_reducible refine aq 66 ?_);refine aj (hex) ?_) | ((with_reducible refine al 66 ?_);refine ab (hex) ?_) | ((with_reducible refine aq 44 ?_);refine aj (hta) ?_) | ((with_reducible refine al 44 ?_);refine ab (hta) ?_) | refine sb (fun nb_ hnb_=>?_) | refine s2 (fun h=>?_) (fun h=>?_) | fail)
   all_goals exact hq0 _ (fun h0=>by simp_all[c6,aa.op,aa.name,aa.index,aa.expr,ca])
  ·repeat' (first | refine st ?_ | ((with_reducible refine aq 65 ?_);refine aj (cw _ _ _) ?_) | ((with_reducible refine al 65 ?_);refine ab (cw _ _ _) ?_) | ((with_reducible refine aq 63 ?_);(refine cf (hin _ _ _) ?_;rintro _ _ ⟨r_,rfl,rfl⟩)) | ((with_reducible refine aq 67 ?_);refine aj (aB _) ?_) | ((with_reducible refine al 67 ?_);refine ab (aB _) ?_) | ((with_reducible refine aq 64 ?_);refine aj (bO _ _) ?_) | ((with_reducible refine al 64 ?_);refine ab (bO _ _) ?_) | ((with_reducible refine aq 66 ?_);refine aj (hex) ?_) | ((with_reducible refine al 66 ?_);refine ab (hex) ?_) | ((with_reducible refine aq 44 ?_);refine aj (hta) ?_) | ((with_reducible refine al 44 ?_);refine ab (hta) ?_) | refine sb (fun nb_ hnb_=>?_) | refine s2 (fun h=>?_) (fun h=>?_) | fail)
   all_goals exact hq0 _ (fun h0=>by simp_all[c6,aa.op,aa.name,aa.index,aa.expr,ca])
  ·repeat' (first | refine st ?_ | ((with_reducible refine aq 65 ?_);refine aj (cw _ _ _) ?_) | ((with_reducible refine al 65 ?_);refine ab (cw _ _ _) ?_) | ((with_reducible refine aq 63 ?_);(refine cf (hin _ _ _) ?_;rintro _ _ ⟨r_,rfl,rfl⟩)) | ((with_reducible refine aq 67 ?_);refine aj (aB _) ?_) | ((with_reducible refine al 67 ?_);refine ab (aB _) ?_) | ((with_reducible refine aq 64 ?_);refine aj (bO _ _) ?_) | ((with_reducible refine al 64 ?_);refine ab (bO _ _) ?_) | ((with_reducible refine aq 66 ?_);refine aj (hex) ?_) | ((with_reducible refine al 66 ?_);refine ab (hex) ?_) | ((with_reducible refine aq 44 ?_);refine aj (hta) ?_) | ((with_reducible refine al 44 ?_);refine ab (hta) ?_) | refine sb (fun nb_ hnb_=>?_) | refine s2 (fun h=>?_) (fun h=>?_) | fail)
   all_goals exact hq0 _ (fun h0=>by simp_all[c6,aa.op,aa.name,aa.index,aa.expr,ca])
  ·repeat' (first | refine st ?_ | ((with_reducible refine aq 65 ?_);refine aj (cw _ _ _) ?_) | ((with_reducible refine al 65 ?_);refine ab (cw _ _ _) ?_) | ((with_reducible refine aq 63 ?_);(refine cf (hin _ _ _) ?_;rintro _ _ ⟨r_,rfl,rfl⟩)) | ((with_reducible refine aq 67 ?_);refine aj (aB _) ?_) | ((with_reducible refine al 67 ?_);refine ab (aB _) ?_) | ((with_reducible refine aq 64 ?_);refine aj (bO _ _) ?_) | ((with_reducible refine al 64 ?_);refine ab (bO _ _) ?_) | ((with_reducible refine aq 66 ?_);refine aj (hex) ?_) | ((with_reducible refine al 66 ?_);refine ab (hex) ?_) | ((with_reducible refine aq 44 ?_);refine aj (hta) ?_) | ((with_reducible refine al 44 ?_);refine ab (hta) ?_) | refine sb (fun nb_ hnb_=>?_) | refine s2 (fun h=>?_) (fun h=>?_) | fail)
   all_goals exact hq0 _ (fun h0=>by simp_all[c6,aa.op,aa.name,aa.index,aa.expr,ca])
  ·repeat' (first | refine st ?_ | ((with_reducible refine aq 65 ?_);refine aj (cw _ _ _) ?_) | ((with_reducible refine al 65 ?_);refine ab (cw _ _ _) ?_) | ((with_reducible refine aq 63 ?_);(refine cf (hin _ _ _) ?_;rintro _ _ ⟨r_,rfl,rfl⟩)) | ((with_reducible refine aq 67 ?_);refine aj (aB _) ?_) | ((with_reducible refine al 67 ?_);refine ab (aB _) ?_) | ((with_reducible refine aq 64 ?_);refine aj (bO _ _) ?_) | ((with_reducible refine al 64 ?_);refine ab (bO _ _) ?_) | ((with_reducible refine aq 66 ?_);refine aj (hex) ?_) | ((with_reducible refine al 66 ?_);refine ab (hex) ?_) | ((with_reducible refine aq 44 ?_);refine aj (hta) ?_) | ((with_reducible refine al 44 ?_);refine ab (hta) ?_) | refine sb (fun nb_ hnb_=>?_) | refine s2 (fun h=>?_) (fun h=>?_) | fail)
   all_goals exact hq0 _ (fun h0=>by simp_all[c6,aa.op,aa.name,aa.index,aa.expr,ca])
  ·repeat' (first | refine st ?_ | ((with_reducible refine aq 65 ?_);refine aj (cw _ _ _) ?_) | ((with_reducible refine al 65 ?_);refine ab (cw _ _ _) ?_) | ((with_reducible refine aq 63 ?_);(refine cf (hin _ _ _) ?_;rintro _ _ ⟨r_,rfl,rfl⟩)) | ((with_reducible refine aq 67 ?_);refine aj (aB _) ?_) | ((with_reducible refine al 67 ?_);refine ab (aB _) ?_) | ((with_reducible refine aq 64 ?_);refine aj (bO _ _) ?_) | ((with_reducible refine al 64 ?_);refine ab (bO _ _) ?_) | ((with_reducible refine aq 66 ?_);refine aj (hex) ?_) | ((with_reducible refine al 66 ?_);refine ab (hex) ?_) | ((with_reducible refine aq 44 ?_);refine aj (hta) ?_) | ((with_reducible refine al 44 ?_);refine ab (hta) ?_) | refine sb (fun nb_ hnb_=>?_) | refine s2 (fun h=>?_) (fun h=>?_) | fail)
   all_goals exact hq0 _ (fun h0=>by simp_all[c6,aa.op,aa.name,aa.index,aa.expr,ca])
  ·rcases ef (p:=fun x:av=>decide (x.name=name)) p.decls 0 with⟨g1,g2⟩ | ⟨k,g1,g2,g3⟩
   ·have d1:decide (dt (aD p loc name) 5 5≠0)=true:=by simpa using sE g2
    repeat' (first | refine st ?_ | ((with_reducible refine aq 65 ?_);refine aj (cw _ _ _) ?_) | ((with_reducible refine al 65 ?_);refine ab (cw _ _ _) ?_) | ((with_reducible refine aq 63 ?_);(refine cf (hin _ _ _) ?_;rintro _ _ ⟨r_,rfl,rfl⟩)) | ((with_reducible refine aq 67 ?_);refine aj (aB _) ?_) | ((with_reducible refine al 67 ?_);refine ab (aB _) ?_) | ((with_reducible refine aq 64 ?_);refine aj (bO _ _) ?_) | ((with_reducible refine al 64 ?_);refine ab (bO _ _) ?_) | ((with_reducible refine aq 66 ?_);refine aj (hex) ?_) | ((with_reducible refine al 66 ?_);refine ab (hex) ?_) | ((with_reducible refine aq 44 ?_);refine aj (hta) ?_) | ((with_reducible refine al 44 ?_);refine ab (hta) ?_) | refine sb (fun nb_ hnb_=>?_) | refine s2 (fun h=>?_) (fun h=>?_) | fail)
    exact hq0 _ (fun h0=>absurd h0 (of_decide_eq_true d1))
   ·have e1:bU p.decls name=(k:Nat):=by rw[bU,g2];simp
    rw[e1]at hda
    have hy:=aC (f:=av.enc) g1
    repeat' (first | refine st ?_ | ((with_reducible refine aq 65 ?_);refine aj (cw _ _ _) ?_) | ((with_reducible refine al 65 ?_);refine ab (cw _ _ _) ?_) | ((with_reducible refine aq 63 ?_);(refine cf (hin _ _ _) ?_;rintro _ _ ⟨r_,rfl,rfl⟩)) | ((with_reducible refine aq 67 ?_);refine aj (aB _) ?_) | ((with_reducible refine al 67 ?_);refine ab (aB _) ?_) | ((with_reducible refine aq 64 ?_);refine aj (bO _ _) ?_) | ((with_reducible refine al 64 ?_);refine ab (bO _ _) ?_) | ((with_reducible refine aq 66 ?_);refine aj (hex) ?_) | ((with_reducible refine al 66 ?_);refine ab (hex) ?_) | ((with_reducible refine aq 44 ?_);refine aj (hta) ?_) | ((with_reducible refine al 44 ?_);refine ab (hta) ?_) | ((with_reducible refine aq 43 ?_);refine aj (hda) ?_) | ((with_reducible refine al 43 ?_);refine ab (hda) ?_) | ((with_reducible refine al 63 ?_);refine uV (hin _ _ _) ?_;rintro _ _ ⟨r_,rfl,rfl⟩) | refine sb (fun nb_ hnb_=>?_) | refine s2 (fun h=>?_) (fun h=>?_) | fail)
    all_goals exact hq0 _ (fun h0=>by simp_all[c6,aa.op,aa.name,aa.index,aa.expr,ca])
  ·rcases ef (p:=fun x:av=>decide (x.name=name)) p.decls 0 with⟨g1,g2⟩ | ⟨k,g1,g2,g3⟩
   ·have d1:decide (dt (aD p loc name) 5 5≠0)=true:=by simpa using sE g2
    repeat' (first | refine st ?_ | ((with_reducible refine aq 65 ?_);refine aj (cw _ _ _) ?_) | ((with_reducible refine al 65 ?_);refine ab (cw _ _ _) ?_) | ((with_reducible refine aq 63 ?_);(refine cf (hin _ _ _) ?_;rintro _ _ ⟨r_,rfl,rfl⟩)) | ((with_reducible refine aq 67 ?_);refine aj (aB _) ?_) | ((with_reducible refine al 67 ?_);refine ab (aB _) ?_) | ((with_reducible refine aq 64 ?_);refine aj (bO _ _) ?_) | ((with_reducible refine al 64 ?_);refine ab (bO _ _) ?_) | ((with_reducible refine aq 66 ?_);refine aj (hex) ?_) | ((with_reducible refine al 66 ?_);refine ab (hex) ?_) | ((with_reducible refine aq 44 ?_);refine aj (hta) ?_) | ((with_reducible refine al 44 ?_);refine ab (hta) ?_) | refine sb (fun nb_ hnb_=>?_) | refine s2 (fun h=>?_) (fun h=>?_) | fail)
    exact hq0 _ (fun h0=>absurd h0 (of_decide_eq_true d1))
   ·have e1:bU p.decls name=(k:Nat):=by rw[bU,g2];simp
    rw[e1]at hda
    have hy:=aC (f:=av.enc) g1
    repeat' (first | refine st ?_ | ((with_reducible refine aq 65 ?_);refine aj (cw _ _ _) ?_) | ((with_reducible refine al 65 ?_);refine ab (cw _ _ _) ?_) | ((with_reducible refine aq 63 ?_);(refine cf (hin _ _ _) ?_;rintro _ _ ⟨r_,rfl,rfl⟩)) | ((with_reducible refine aq 67 ?_);refine aj (aB _) ?_) | ((with_reducible refine al 67 ?_);refine ab (aB _) ?_) | ((with_reducible refine aq 64 ?_);refine aj (bO _ _) ?_) | ((with_reducible refine al 64 ?_);refine ab (bO _ _) ?_) | ((with_reducible refine aq 66 ?_);refine aj (hex) ?_) | ((with_reducible refine al 66 ?_);refine ab (hex) ?_) | ((with_reducible refine aq 44 ?_);refine aj (hta) ?_) | ((with_reducible refine al 44 ?_);refine ab (hta) ?_) | ((with_reducible refine aq 43 ?_);refine aj (hda) ?_) | ((with_reducible refine al 43 ?_);refine ab (hda) ?_) | ((with_reducible refine al 63 ?_);refine uV (hin _ _ _) ?_;rintro _ _ ⟨r_,rfl,rfl⟩) | refine sb (fun nb_ hnb_=>?_) | refine s2 (fun h=>?_) (fun h=>?_) | fail)
    all_goals exact hq0 _ (fun h0=>by simp_all[c6,aa.op,aa.name,aa.index,aa.expr,ca])
  ·rcases ef (p:=fun x:av=>decide (x.name=name)) p.decls 0 with⟨g1,g2⟩ | ⟨k,g1,g2,g3⟩
   ·have d1:decide (dt (aD p loc name) 5 5≠0)=true:=by simpa using sE g2
    repeat' (first | refine st ?_ | ((with_reducible refine aq 65 ?_);refine aj (cw _ _ _) ?_) | ((with_reducible refine al 65 ?_);refine ab (cw _ _ _) ?_) | ((with_reducible refine aq 63 ?_);(refine cf (hin _ _ _) ?_;rintro _ _ ⟨r_,rfl,rfl⟩)) | ((with_reducible refine aq 67 ?_);refine aj (aB _) ?_) | ((with_reducible refine al 67 ?_);refine ab (aB _) ?_) | ((with_reducible refine aq 64 ?_);refine aj (bO _ _) ?_) | ((with_reducible refine al 64 ?_);refine ab (bO _ _) ?_) | ((with_reducible refine aq 66 ?_);refine aj (hex) ?_) | ((with_reducible refine al 66 ?_);refine ab (hex) ?_) | ((with_reducible refine aq 44 ?_);refine aj (hta) ?_) | ((with_reducible refine al 44 ?_);refine ab (hta) ?_) | refine sb (fun nb_ hnb_=>?_) | refine s2 (fun h=>?_) (fun h=>?_) | fail)
    exact hq0 _ (fun h0=>absurd h0 (of_decide_eq_true d1))
   ·have e1:bU p.decls name=(k:Nat):=by rw[bU,g2];simp
    rw[e1]at hda
    have hy:=aC (f:=av.enc) g1
    repeat' (first | refine st ?_ | ((with_reducible refine aq 65 ?_);refine aj (cw _ _ _) ?_) | ((with_reducible refine al 65 ?_);refine ab (cw _ _ _) ?_) | ((with_reducible refine aq 63 ?_);(refine cf (hin _ _ _) ?_;rintro _ _ ⟨r_,rfl,rfl⟩)) | ((with_reducible refine aq 67 ?_);refine aj (aB _) ?_) | ((with_reducible refine al 67 ?_);refine ab (aB _) ?_) | ((with_reducible refine aq 64 ?_);refine aj (bO _ _) ?_) | ((with_reducible refine al 64 ?_);refine ab (bO _ _) ?_) | ((with_reducible refine aq 66 ?_);refine aj (hex) ?_) | ((with_reducible refine al 66 ?_);refine ab (hex) ?_) | ((with_reducible refine aq 44 ?_);refine aj (hta) ?_) | ((with_reducible refine al 44 ?_);refine ab (hta) ?_) | ((with_reducible refine aq 43 ?_);refine aj (hda) ?_) | ((with_reducible refine al 43 ?_);refine ab (hda) ?_) | ((with_reducible refine al 63 ?_);refine uV (hin _ _ _) ?_;rintro _ _ ⟨r_,rfl,rfl⟩) | refine sb (fun nb_ hnb_=>?_) | refine s2 (fun h=>?_) (fun h=>?_) | fail)
    all_goals exact hq0 _ (fun h0=>by simp_all[c6,aa.op,aa.name,aa.index,aa.expr,ca])
  ·have hat:=am.within (R:=[]) (Dz s.o2 s.sp _ name hs.p0 (by omega)) ((show cW s.o2 1 (s.sp.map az) ((bw,(⟨6,[[.lst (p.decls.map av.enc),.lst (p.threads.map ai.enc),.int .i64 s.t,au s.o1 s.k,au s.o2 s.sp.length,au s.o3 s.se.length]]⟩:Blk))::(ao s.o1 11 (s.ar.map aa.enc)++(ao s.o2 1 (s.sp.map az)++ao s.o3 1 (s.se.map az)))) _ by repeat constructor).perm.trans (.of_eq (List.append_nil _).symm))
   repeat' (first | refine st ?_ | ((with_reducible refine aq 65 ?_);refine aj (cw _ _ _) ?_) | ((with_reducible refine al 65 ?_);refine ab (cw _ _ _) ?_) | ((with_reducible refine aq 63 ?_);(refine cf (hin _ _ _) ?_;rintro _ _ ⟨r_,rfl,rfl⟩)) | ((with_reducible refine aq 67 ?_);refine aj (aB _) ?_) | ((with_reducible refine al 67 ?_);refine ab (aB _) ?_) | ((with_reducible refine aq 64 ?_);refine aj (bO _ _) ?_) | ((with_reducible refine al 64 ?_);refine ab (bO _ _) ?_) | ((with_reducible refine aq 66 ?_);refine aj (hex) ?_) | ((with_reducible refine al 66 ?_);refine ab (hex) ?_) | ((with_reducible refine aq 44 ?_);refine aj (hta) ?_) | ((with_reducible refine al 44 ?_);refine ab (hta) ?_) | ((with_reducible refine al 45 ?_);refine uV hat ?_;rintro _ _ ⟨r_,rfl,rfl⟩) | refine cI rp rp (by simp) (fun e=>by first | simp[hs.p0 e]) (by rfl) (by simp) (by simp;omega) (by simp;omega) (by rfl) (fun nb_ hnb_=>?_) | refine sb (fun nb_ hnb_=>?_) | refine s2 (fun h=>?_) (fun h=>?_) | fail)
   all_goals first
    | exact hq0 _ (fun h0=>by simp_all[c6,aa.op,aa.name,aa.index,aa.expr,ca])
    | skip
   all_goals
    refine hqg _ _ {s with o2:=some nb_,sp:=s.sp++[name]} ?_ ⟨hs.a0,hs.ak,hs.k6,nofun,hs.e0,by have:=hs.pm;simp;omega,Nat.le_succ_of_le hs.em⟩ rfl rfl rfl rfl (fun h0=>by simp_all[c6,aa.op,aa.name,aa.index,aa.expr,ca])
    simp only[au,ao,List.length_append,List.length_cons,List.length_nil,List.map_append,List.map_cons,List.map_nil]
    exact .one (.there _ (.there _ (.here _))) (.slot (.there _ (.there _ (.here _))) (.one (.here _) (.slotl (.there _ .last))))
  ·repeat' (first | refine st ?_ | ((with_reducible refine aq 65 ?_);refine aj (cw _ _ _) ?_) | ((with_reducible refine al 65 ?_);refine ab (cw _ _ _) ?_) | ((with_reducible refine aq 63 ?_);(refine cf (hin _ _ _) ?_;rintro _ _ ⟨r_,rfl,rfl⟩)) | ((with_reducible refine aq 67 ?_);refine aj (aB _) ?_) | ((with_reducible refine al 67 ?_);refine ab (aB _) ?_) | ((with_reducible refine aq 64 ?_);refine aj (bO _ _) ?_) | ((with_reducible refine al 64 ?_);refine ab (bO _ _) ?_) | ((with_reducible refine aq 66 ?_);refine aj (hex) ?_) | ((with_reducible refine al 66 ?_);refine ab (hex) ?_) | ((with_reducible refine aq 44 ?_);refine aj (hta) ?_) | ((with_reducible refine al 44 ?_);refine ab (hta) ?_) | refine sb (fun nb_ hnb_=>?_) | refine s2 (fun h=>?_) (fun h=>?_) | fail)
   all_goals exact hq0 _ (fun h0=>by simp_all[c6,aa.op,aa.name,aa.index,aa.expr,ca])
  ·have hat:=am.within (R:=[]) (Dz s.o3 s.se _ name hs.e0 (by omega)) ((show cW s.o3 1 (s.se.map az) ((bw,(⟨6,[[.lst (p.decls.map av.enc),.lst (p.threads.map ai.enc),.int .i64 s.t,au s.o1 s.k,au s.o2 s.sp.length,au s.o3 s.se.length]]⟩:Blk))::(ao s.o1 11 (s.ar.map aa.enc)++(ao s.o2 1 (s.sp.map az)++ao s.o3 1 (s.se.map az)))) _ by repeat constructor).perm.trans (.of_eq (List.append_nil _).symm))
   repeat' (first | refine st ?_ | ((with_reducible refine aq 65 ?_);refine aj (cw _ _ _) ?_) | ((with_reducible refine al 65 ?_);refine ab (cw _ _ _) ?_) | ((with_reducible refine aq 63 ?_);(refine cf (hin _ _ _) ?_;rintro _ _ ⟨r_,rfl,rfl⟩)) | ((with_reducible refine aq 67 ?_);refine aj (aB _) ?_) | ((with_reducible refine al 67 ?_);refine ab (aB _) ?_) | ((with_reducible refine aq 64 ?_);refine aj (bO _ _) ?_) | ((with_reducible refine al 64 ?_);refine ab (bO _ _) ?_) | ((with_reducible refine aq 66 ?_);refine aj (hex) ?_) | ((with_reducible refine al 66 ?_);refine ab (hex) ?_) | ((with_reducible refine aq 44 ?_);refine aj (hta) ?_) | ((with_reducible refine al 44 ?_);refine ab (hta) ?_) | ((with_reducible refine al 45 ?_);refine uV hat ?_;rintro _ _ ⟨r_,rfl,rfl⟩) | refine cI rp rp (by simp) (fun e=>by first | simp[hs.e0 e]) (by rfl) (by simp) (by simp;omega) (by simp;omega) (by rfl) (fun nb_ hnb_=>?_) | refine sb (fun nb_ hnb_=>?_) | refine s2 (fun h=>?_) (fun h=>?_) | fail)
   all_goals
    refine hqg _ _ {s with o3:=some nb_,se:=s.se++[name]} ?_ ⟨hs.a0,hs.ak,hs.k6,hs.p0,nofun,Nat.le_succ_of_le hs.pm,by have:=hs.em;simp;omega⟩ rfl rfl rfl rfl (fun h0=>by simp_all[c6,aa.op,aa.name,aa.index,aa.expr,ca])
    simp only[au,ao,List.length_append,List.length_cons,List.length_nil,List.map_append,List.map_cons,List.map_nil]
    exact .one (.there _ (.there _ (.here _))) (.slot (.there _ (.there _ (.here _))) (.slot (.there _ (.there _ (.here _))) (.one (.here _) (.nil _))))
 ·have dk:∀k:Int,1≤k→k≤14→decide (op=k)=false:=fun k h1 h2=>by simpa using(by omega:¬op=k)
  have d1:=dk 1 (by omega) (by omega)
  have d2:=dk 2 (by omega) (by omega)
  have d3:=dk 3 (by omega) (by omega)
  have d4:=dk 4 (by omega) (by omega)
  have d5:=dk 5 (by omega) (by omega)
  have d6:=dk 6 (by omega) (by omega)
  have d7:=dk 7 (by omega) (by omega)
  have d8:=dk 8 (by omega) (by omega)
  have d9:=dk 9 (by omega) (by omega)
  have d10:=dk 10 (by omega) (by omega)
  have d11:=dk 11 (by omega) (by omega)
  have d12:=dk 12 (by omega) (by omega)
  have d13:=dk 13 (by omega) (by omega)
  have d14:=dk 14 (by omega) (by omega)
  repeat' (first | refine st ?_ | ((with_reducible refine aq 65 ?_);refine aj (cw _ _ _) ?_) | ((with_reducible refine al 65 ?_);refine ab (cw _ _ _) ?_) | ((with_reducible refine aq 63 ?_);(refine cf (hin _ _ _) ?_;rintro _ _ ⟨r_,rfl,rfl⟩)) | ((with_reducible refine aq 67 ?_);refine aj (aB _) ?_) | ((with_reducible refine al 67 ?_);refine ab (aB _) ?_) | ((with_reducible refine aq 64 ?_);refine aj (bO _ _) ?_) | ((with_reducible refine al 64 ?_);refine ab (bO _ _) ?_) | ((with_reducible refine aq 66 ?_);refine aj (hex) ?_) | ((with_reducible refine al 66 ?_);refine ab (hex) ?_) | ((with_reducible refine aq 44 ?_);refine aj (hta) ?_) | ((with_reducible refine al 44 ?_);refine ab (hta) ?_) | refine sb (fun nb_ hnb_=>?_) | refine s2 (fun h=>?_) (fun h=>?_) | fail)
  all_goals exact hq0 _ (fun h0=>by simp_all[c6,aa.op,aa.name,aa.arg,aa.index,aa.expr,ca])
end Go.Proofs.Ytljkdffikfkcgaa.Am
end
section
namespace Go.Proofs.Ytljkdffikfkcgaa.Am
set_option maxRecDepth 100000
set_option linter.unusedVariables false
mutual
def wP(p:aK)(loc:List aL):aa→Prop
 | .mk a b c d e f body els=>c6 p loc (.mk a b c d e f body els)∧StsOk p loc body∧StsOk p loc els
def StsOk(p:aK)(loc:List aL):List aa→Prop
 | []=>True
 | x::l=>wP p loc x∧StsOk p loc l
end
theorem Bm{p:aK}{loc:List aL}(x:aa):wP p loc x↔c6 p loc x∧StsOk p loc x.body∧StsOk p loc x.els:=by cases x;rw[wP];rfl
theorem iW{p:aK}{loc:List aL}:∀l:List aa,StsOk p loc l↔∀x∈l,wP p loc x
 | []=>by simp[StsOk]
 | x::l=>by rw[StsOk,iW l];simp
theorem aa.wts_succ{l:List aa}{i:Nat}(h:i<l.length):aa.wts (l.take (i+1))=aa.wts (l.take i)+l[i].wt:=by
 rw[List.take_succ_eq_append_getElem h]
 generalize l.take i=m
 induction m with
 | nil=>simp[aa.wts]
 | cons y m ih=>simp only[List.cons_append,aa.wts,ih];omega
theorem aa.wts_take(l:List aa)(i:Nat):aa.wts (l.take i)≤aa.wts l:=by
 induction l generalizing i with
 | nil=>simp
 | cons x l ih=>cases i with
  | zero=>simp[aa.wts]
  | succ i=>have:=ih i;simp only[List.take_succ_cons,aa.wts];omega
theorem kY{o:Option Nat}{k:Nat}{K:AV→Prop}(h:K (.int .i64 (k:Int)))(h0:o=none→k=0):W.len (au o k) K:=by
 cases o with
 | none=>rw[h0 rfl]at h;exact A0 h
 | some b=>exact AY h
theorem zx{KL:R}{L L':SH}{o:Option Nat}{i n by_ bX:Nat}{rows m:List (List AV)}{r:List AV}(hX:(bX,(⟨n,m⟩:Blk))∈L)(hm:m=[r])(hd:cW o n rows L L')(hr:i≤rows.length)(h0:o=none→rows=[])(hb:i≤1000)(hby:by_≤1000)(h4:r.all AV.one=true)
  (h:∀b,b∉L.names→KL (.sl b 0 (i+1)) ((b,⟨n,rows.take i++[r]⟩)::L')):W.append n by_ (au o i) (.sl bX 0 1) L KL:=by
 subst hm
 have e1:2*(i+(0+1))*by_≤2*(1000+1)*1000:=Nat.mul_le_mul (by omega) hby
 have e2:2*(0+1)*by_≤2*(0+1)*1000:=Nat.mul_le_mul (by omega) hby
 cases o with
 | none=>
  have hr0:=h0 rfl
  subst hr0
  obtain rfl:i=0:=by simpa using hr
  have hl:=hd.none'
  subst hl
  exact AZ (KL:=KL) (by_:=by_) (ue hX rfl rfl) (by show 2*(0+1)*by_≤2^48;omega) (by simp) (by simpa using h4) (by simp) (fun b hb=>by simpa using h b hb)
 | some b=>
  refine uc (y:=⟨n,rows⟩) (l:=rows.take i) hd.some'.mem' rfl (by simpa using hr) (by simp) (ue hX rfl rfl) ?_ ?_ (by simpa using h4) hd.some' (fun b' hb=>?_)
  ·rw[List.length_take,Nat.min_eq_left hr];simp only[List.length_cons,List.length_nil];omega
  ·rw[List.length_take,Nat.min_eq_left hr];simp only[List.length_cons,List.length_nil];omega
  ·rw[List.length_take,Nat.min_eq_left hr];exact h b' hb
theorem GW{α:Type}(a t b:α)(R:List α):(a::t::b::R).Perm ((b::([a]++R))++[t]):=by
 have h:(a::t::b::R).Perm ([t]++(b::([a]++R))):=(List.Perm.swap t a _).trans ((List.Perm.swap b a R).cons t)
 exact h.trans List.perm_append_comm
theorem sF{n b k m:Nat}{kd:IntKind}{y:Blk}{L:SH}{K:AV→Prop}(h:K (.sl b 0 k))(hh:k≤m)(hm:(b,y)∈L)(hs:y.size=n):W.slice n (.sl b 0 m) none (some (.int kd (k:Int))) none L K:=by
 refine BH (l:=0) (h:=k) rfl (by simp[cp,j5]) (Nat.zero_le _) hh hm hs ?_
 simpa using h
def IH(p:aK)(bw:Nat)(s:jS)(m:Nat)(good:Prop)(u:AV)(K:SH):Prop:=
 ∃(e ln:Int) (s':jS),u=.tup [.int .i64 e,.int .i64 ln]∧K=s'.L p bw∧s'.Ok m∧s'.t=s.t∧s'.k=s.k∧(e=0→good)
theorem GX{p:aK}{bw:Nat}{s:jS}{x:aa}{m:Nat}{good:Prop}(h:am Try.prog 46 [.ptr bw 0 0,.agg x.row] (s.L p bw) (GU p bw s m good)):
  am Try.prog 46 [.ptr bw 0 0,.agg x.row] (s.L p bw) fun u K=>∃(e:Int) (s':jS),u=.int .i64 e∧K=s'.L p bw∧s'.Ok m∧s'.t=s.t∧s'.k=s.k∧(e=0→good):=
 am.permR (h.mono fun v K' ⟨e,s',h1,h2,h3,h4,_,_,h5,h6⟩=>⟨_,h2,e,s',h1,rfl,h3,h4,h5,h6⟩)
def xU:List AV:=[.int .i64 0,.int .i64 0,.str [],.str [],.nils,.int .i64 0,.int .i64 0,.str [],.nils,.nils,.nils]
set_option maxHeartbeats 2000000 in
theorem GY(p:aK)(bw:Nat)(hw:p.wt<2^40):∀(n:Nat) (l:List aa) (s:jS) (m:Nat),aa.wts l≤n→(ht:s.t<p.threads.length)→s.Ok m→m+aa.wts l<2^40→
  am Try.prog 32 [.ptr bw 0 0,.lst (l.map aa.enc)] (s.L p bw) (IH p bw s (m+aa.wts l) (StsOk p p.threads[s.t].locals l)):=by
 intro n
 induction n using Nat.strongRecOn with
 | _ n ih=>
  intro l s0 m hn ht hs0 hm
  have hlen:=aa.wts_len l
  refine am.fz (qY _ _ _ _ ?_)
  unfold iV
  generalize hloc:p.threads[s0.t].locals=loc
  generalize hQ:(fun(v:AV) (L:SH)=>∃v2 L2,aV [v] L [v2] L2∧IH p bw s0 (m+aa.wts l) (StsOk p loc l) v2 L2)=Q
  have hqg:∀(e ln:Int) (K:SH) (s':jS),ez K (s'.L p bw)→s'.Ok (m+aa.wts l)→s'.t=s0.t→s'.k=s0.k→(e=0→StsOk p loc l)→Q (.tup [.int .i64 e,.int .i64 ln]) K:=fun e ln K s' h1 h2 h3 h4 h5=>by
   subst hQ;exact⟨_,_,aV.pick h1 rfl,e,ln,s',rfl,rfl,h2,h3,h4,h5⟩
  clear hQ
  refine cH l.length (fun i (s:jS)=>([.ptr bw 0 0,.lst (l.map aa.enc),.int .i64 i],s.L p bw)) (fun i s=>s.Ok (m+aa.wts (l.take i))∧s.t=s0.t∧s.k=s0.k∧∀j (hj:j<l.length),j<i→wP p loc l[j]) s0 ⟨by simpa[aa.wts]using hs0,rfl,rfl,fun j _ h=>absurd h (Nat.not_lt_zero _)⟩ (.refl _ _) ?_
  rintro i s hi ⟨hs,hst,hsk,hG⟩
  dsimp only
  unfold hZ
  generalize hnx:(fun(vs':List AV) (L':SH)=>∃j o',i<j∧j≤l.length∧(jS.Ok o' (m+aa.wts (l.take j))∧o'.t=s0.t∧o'.k=s0.k∧∀(q:Nat) (hj:q<l.length),q<j→wP p loc l[q])∧aV vs' L' [.ptr bw 0 0,.lst (l.map aa.enc),.int .i64 (j:Int)] (jS.L p bw o'))=nx
  rcases Nat.lt_or_ge i l.length with g1 | g1
  ·have hd:=ct g1
   have hi1:=bH g1 (by omega)
   have hx:=xd g1
   have hwi:=aa.wts_succ g1
   have hwl:=aa.wts_take l (i+1)
   have hwe:=(l[i]).wt_eq
   have hso:=Bm (p:=p) (loc:=loc) l[i]
   have c1:=GX (GV p bw s l[i] (m+aa.wts (l.take i)) hw (by omega) hs (by omega) (by omega))
   have hloc2:p.threads[s.t].locals=loc:=by rw[←hloc];congr 2
   rw[hloc2]at c1
   have hn:∀(s':jS) (L':SH),ez L' (s'.L p bw)→s'.Ok (m+aa.wts (l.take (i+1)))→s'.t=s0.t→s'.k=s0.k→wP p loc l[i]→nx [.ptr bw 0 0,.lst (l.map aa.enc),.int .i64 ((i+1:Nat):Int)] L':=by
    intro s' L' q1 q2 q3 q4 q5
    subst hnx
    refine⟨i+1,s',by omega,by omega,⟨q2,q3,q4,fun j hj hlt=>?_⟩,aV.pick q1 rfl⟩
    rcases Nat.lt_or_ge j i with h1 | h1
    ·exact hG j hj h1
    ·have:j=i:=by omega
     subst this;exact q5
   clear hnx hG
   generalize hxx:l[i]=x at *
   repeat' (first | refine st ?_ | ((with_reducible refine aq 46 ?_);(refine cf c1 ?_;rintro _ _ ⟨e1,s1,rfl,rfl,hs1,ht1,hk1,hg1⟩)) | refine sb (fun nb_ hnb_=>?_) | refine s2 (fun h=>?_) (fun h=>?_) | fail)
   have hbk:=fun(q:Nat) (h:q≤m+aa.wts (l.take (i+1))) (s':jS) (h2:s'.Ok q)=>(⟨h2.a0,h2.ak,h2.k6,h2.p0,h2.e0,by have:=h2.pm;omega,by have:=h2.em;omega⟩:s'.Ok (m+aa.wts (l.take (i+1))))
   have hbl:=fun(s':jS) (h2:s'.Ok (m+aa.wts (l.take (i+1))))=>(⟨h2.a0,h2.ak,h2.k6,h2.p0,h2.e0,by have:=h2.pm;omega,by have:=h2.em;omega⟩:s'.Ok (m+aa.wts l))
   have key:∀e:Int,(e=0→c6 p loc x∧s1.k<6)→eQ Q nx [.ptr bw 0 0,.lst (l.map aa.enc),.int .i64 (i:Int),.pptr [x.row] 0 0,.int .i64 e] (s1.L p bw):=by
    intro e he
    unfold eQ
    unfold jS.L jS.row
    by_cases h0:e=0
    ·subst h0
     obtain⟨hone,hk6⟩:=he rfl
     have hzero:∀(k:Nat) (rows:List (List AV)),k≤rows.length→(rows.take k++[xU])[k]? =some xU:=fun k rows h=>by
      rw[List.getElem?_append_right (by rw[List.length_take];omega),List.length_take,Nat.min_eq_left h,Nat.sub_self];rfl
     have hz:=hzero s1.k (s1.ar.map aa.enc) (by simpa using hs1.ak)
     repeat' (first | refine kY ?_ (fun e=>by have:=hs1.a0 e;have:=hs1.ak;simp_all) | refine st ?_ | refine zx (r:=xU) rp (by rfl) rp (by simpa using hs1.ak) (fun e=>by simp[hs1.a0 e]) (by omega) (by omega) (by rfl) (fun nb_ hnb_=>?_) | refine sb (fun nb_ hnb_=>?_) | refine s2 (fun h=>?_) (fun h=>?_) | fail)
     rename_i bt hbt
     have hrows:(List.take s1.k (s1.ar.map aa.enc)++[xU]).set s1.k x.row=(s1.ar.take s1.k++[x]).map aa.enc:=by
      have hl:(List.take s1.k (s1.ar.map aa.enc)).length=s1.k:=by rw[List.length_take,List.length_map,Nat.min_eq_left hs1.ak]
      rw[List.set_append_right _ _ (by omega),hl,Nat.sub_self,List.map_append,List.map_take,←aa.enc_row];rfl
     let s2:jS:={s1 with o1:=some nb_,ar:=s1.ar.take s1.k++[x],k:=s1.k+1}
     have hs2:s2.Ok (m+aa.wts (l.take i)+1):=⟨nofun,by simp[s2,Nat.min_eq_left hs1.ak],by show s1.k+1≤6;omega,hs1.p0,hs1.e0,hs1.pm,hs1.em⟩
     have c2:=ih (aa.wts x.body) (by omega) x.body s2 (m+aa.wts (l.take i)+1) (Nat.le_refl _) (by show s1.t<_;omega) hs2 (by omega)
     have hloc3:p.threads[s2.t].locals=loc:=by rw[←hloc];congr 2;show s1.t=s0.t;omega
     rw[hloc3]at c2
     refine xE (R:=[(bt,?tmp)]) c2 ?hp ?hk
     case hp=>
      unfold jS.L jS.row
      dsimp only[ao,au,s2]
      rw[←hrows]
      exact GW _ _ _ _
     rintro _ _ ⟨e2,ln2,s3,rfl,rfl,hs3,ht3,hk3,hg3⟩
     have key2:∀(tmp:Nat×Blk) (e ln:Int) (s4:jS),s4.Ok (m+aa.wts (l.take (i+1)))→s4.t=s0.t→s4.k=s1.k+1→(e=0→wP p loc x)→eO Q nx [.ptr bw 0 0,.lst (l.map aa.enc),.int .i64 (i:Int),.int .i64 e,.int .i64 ln] (s4.L p bw++[tmp]):=by
      intro tmp e ln s4 h4 ht4 hk4 hg4
      obtain⟨t4,o1,ar4,k4,o2,sp4,o3,se4⟩:=s4
      dsimp only at ht4 hk4
      subst ht4;subst hk4
      rcases o1 with _ | b4
      ·exfalso
       have:=h4.a0 rfl
       have:=h4.ak
       simp_all
      unfold eO
      unfold jS.L jS.row
      dsimp only[ao,au,List.cons_append,List.nil_append]
      rw[List.append_assoc]
      have es:IntKind.i64.wrap (((s1.k+1:Nat):Int)-1)=(s1.k:Int):=by rw[IntWalk.i64_in _ (by omega)];omega
      by_cases h0:e=0
      ·subst h0
       repeat' (first | refine st ?_ | refine sF ?_ (Nat.le_succ _) rp rfl | refine sb (fun nb_ hnb_=>?_) | refine s2 (fun h=>?_) (fun h=>?_) | fail)
       exact hn ⟨s0.t,some b4,ar4,s1.k,o2,sp4,o3,se4⟩ _ (.one (.here _) (.one (.here _) (.slot (.here _) (.slotl (.here _))))) ⟨nofun,by have:=h4.ak;dsimp only at *;omega,by dsimp only;omega,h4.p0,h4.e0,h4.pm,h4.em⟩ rfl (by dsimp only;omega) (hg4 rfl)
      ·have d0:decide (e≠0)=true:=by simpa using h0
       repeat' (first | refine st ?_ | refine sF ?_ (Nat.le_succ _) rp rfl | refine sb (fun nb_ hnb_=>?_) | refine s2 (fun h=>?_) (fun h=>?_) | fail)
       exact hqg e ln _ ⟨s0.t,some b4,ar4,s1.k,o2,sp4,o3,se4⟩ (.one (.here _) (.one (.here _) (.slot (.here _) (.slotl (.here _))))) (hbl _ ⟨nofun,by have:=h4.ak;dsimp only at *;omega,by dsimp only;omega,h4.p0,h4.e0,h4.pm,h4.em⟩) rfl (by dsimp only;omega) (fun h=>absurd h h0)
     have ht3':s3.t=s0.t:=by rw[ht3];show s1.t=s0.t;omega
     have hk3':s3.k=s1.k+1:=hk3
     have c3:=ih (aa.wts x.els) (by omega) x.els s3 (m+aa.wts (l.take i)+1+aa.wts x.body) (Nat.le_refl _) (by omega) hs3 (by omega)
     have hloc4:p.threads[s3.t].locals=loc:=by rw[←hloc];congr 2
     rw[hloc4]at c3
     by_cases h2:e2=0
     ·have d2:decide (e2=0)=true:=by simpa using h2
      unfold eP
      repeat' (first | refine st ?_ | refine sb (fun nb_ hnb_=>?_) | refine s2 (fun h=>?_) (fun h=>?_) | fail)
      refine xE c3 (.refl _) ?_
      rintro _ _ ⟨e3,ln3,s4,rfl,rfl,hs4,ht4,hk4,hg4⟩
      unfold hY
      repeat' (first | with_reducible refine key2 _ _ _ _ (hbk _ (by omega) _ hs4) (by omega) (by omega) (fun h3=>hso.2 ⟨hone,hg3 h2,hg4 h3⟩) | refine st ?_ | refine sb (fun nb_ hnb_=>?_) | refine s2 (fun h=>?_) (fun h=>?_) | fail)
     ·have d2:decide (e2=0)=false:=by simpa using h2
      unfold eP
      repeat' (first | with_reducible refine key2 _ _ _ _ (hbk _ (by omega) _ hs3) (by omega) (by omega) (fun h3=>absurd h3 h2) | refine st ?_ | refine sb (fun nb_ hnb_=>?_) | refine s2 (fun h=>?_) (fun h=>?_) | fail)
    ·have d0:decide (e≠0)=true:=by simpa using h0
     repeat' (first | refine st ?_ | refine sb (fun nb_ hnb_=>?_) | refine s2 (fun h=>?_) (fun h=>?_) | fail)
     exact hqg e _ _ s1 (.one (.here _) (.slot (.here _) (.slot (.here _) (.slotl .last)))) (hbl _ (hbk _ (by omega) _ hs1)) (by omega) (by omega) (fun h=>absurd h h0)
   have hk7:=hs1.k6
   unfold aa.row at key
   have ek:=bH (i:=s1.k) (n:=7) (by omega) (by omega)
   by_cases h6:s1.k<6
   ·have d6:decide ((6:Int)<((s1.k+1:Nat):Int))=false:=by simp;omega
    repeat' (first | refine kY ?_ (fun e=>by have:=hs1.a0 e;have:=hs1.ak;simp_all) | with_reducible refine key _ (fun h=>⟨hg1 h,h6⟩) | refine st ?_ | refine sb (fun nb_ hnb_=>?_) | refine s2 (fun h=>?_) (fun h=>?_) | fail)
   ·have d6:decide ((6:Int)<((s1.k+1:Nat):Int))=true:=by simp;omega
    repeat' (first | refine kY ?_ (fun e=>by have:=hs1.a0 e;have:=hs1.ak;simp_all) | with_reducible refine key _ (fun h=>absurd h (by decide)) | refine st ?_ | refine sb (fun nb_ hnb_=>?_) | refine s2 (fun h=>?_) (fun h=>?_) | fail)
  ·have hd:=ee g1
   repeat' (first | refine st ?_ | refine sb (fun nb_ hnb_=>?_) | refine s2 (fun h=>?_) (fun h=>?_) | fail)
   have hil:i=l.length:=by omega
   subst hil
   rw[List.take_length]at hs
   exact hqg 0 0 _ s (.one (.here _) (.slot (.here _) (.slot (.here _) (.slotl .last)))) hs hst hsk (fun _=>(iW l).2 fun x hx=>by obtain⟨j,hj,rfl⟩:=List.getElem_of_mem hx;exact hG j hj hj)
end Go.Proofs.Ytljkdffikfkcgaa.Am
end
section
namespace Go.Proofs.Ytljkdffikfkcgaa.Am
set_option maxRecDepth 100000
set_option linter.unusedVariables false
structure fD(p:aK):Prop where
 shaped:Du p=true
 decls:qZ p.decls
 few:p.threads.length≤4
 threads:kX p
 stmts:bf (fun t=>aa.cnts t.body) p.threads≤60
 sts:∀i (h:i<p.threads.length),StsOk p p.threads[i].locals p.threads[i].body
theorem jw{α:Type}(f:α→Nat)(l:List α)(i:Nat):bf f (l.take i)≤bf f l:=by
 unfold bf
 induction l generalizing i with
 | nil=>simp
 | cons x l ih=>cases i with
  | zero=>simp
  | succ i=>have:=ih i;simp only[List.take_succ_cons,List.map_cons,List.sum_cons];omega
theorem zy{α:Type}{f g:α→Nat}(h:∀x,f x≤g x)(l:List α):bf f l≤bf g l:=by
 unfold bf
 induction l with
 | nil=>simp
 | cons x l ih=>have:=h x;simp only[List.map_cons,List.sum_cons];omega
theorem DA(p:aK)(hw:p.wt<2^40):am Try.prog 12 [.agg p.enc] [] (B0 (fD p)):=by
 have hl1:=p.decls_len
 have hl2:=p.threads_len
 have hsum:bf (fun t:ai=>aa.wts t.body) p.threads≤p.wt:=by
  have:=zy (f:=fun t:ai=>aa.wts t.body) (g:=ai.wt) (fun t=>by unfold ai.wt;omega) p.threads
  unfold aK.wt;unfold bf at *;omega
 have hcnt:bf (fun t:ai=>aa.cnts t.body) p.threads≤p.wt:=Nat.le_trans (zy (fun t=>aa.cnts_wt t.body) p.threads) hsum
 have c1:=BX p hw
 have c2:=Dy p.decls (by omega)
 have c3:=At p hw
 refine am.fz (sD _ _ _ ?_)
 unfold jL
 generalize hQ:(fun(v:AV) (L:SH)=>∃v2 L2,aV [v] L [v2] L2∧B0 (fD p) v2 L2)=Q
 have hbad:∀(e ln:Int) (K:SH),e≠0→Q (.tup [.int .i64 e,.int .i64 ln]) K:=fun e ln K h=>by subst hQ;exact⟨_,[],aV.all (.refl _),e,ln,rfl,rfl,fun h0=>absurd h0 h⟩
 have hgood:∀K:SH,fD p→Q (.tup [.int .i64 0,.int .i64 0]) K:=fun K h=>by subst hQ;exact⟨_,[],aV.all (.refl _),0,0,rfl,rfl,fun _=>h⟩
 clear hQ
 by_cases hs:Du p=true
 case neg=>
  have hs:Du p=false:=by simpa using hs
  rw[hs]at c1
  repeat' (first | refine st ?_ | ((with_reducible refine aq 28 ?_);refine aj (c1) ?_) | ((with_reducible refine al 28 ?_);refine ab (c1) ?_) | refine sb (fun nb_ hnb_=>?_) | refine s2 (fun h=>?_) (fun h=>?_) | fail)
  exact hbad _ _ _ (by decide)
 rw[hs]at c1
 repeat' (first | refine st ?_ | ((with_reducible refine aq 28 ?_);refine aj (c1) ?_) | ((with_reducible refine al 28 ?_);refine ab (c1) ?_) | ((with_reducible refine aq 29 ?_);(refine cf c2 ?_;rintro _ _ ⟨e1,ln1,rfl,rfl,hg1⟩)) | ((with_reducible refine aq 30 ?_);(refine cf c3 ?_;rintro _ _ ⟨e2,ln2,rfl,rfl,hg2⟩)) | refine sb (fun nb_ hnb_=>?_) | refine s2 (fun h=>?_) (fun h=>?_) | fail)
 all_goals first
  | exact hbad _ _ _ (by decide)
  | exact hbad _ _ _ (of_decide_eq_true (by assumption))
  | skip
 rename_i f2 h4
 have hg1:=hg1 (by simpa using f2)
 have hg2:=hg2 (by simpa using h)
 have h4:p.threads.length≤4:=by simp at h4;omega
 clear h f2
 refine eJ p.threads.length (fun _=>True) (fun i=>[.pptr [p.enc] 0 0,.int .i64 (bf (fun t:ai=>aa.cnts t.body) (p.threads.take i):Nat),.int .i64 i]) (by omega) trivial rfl (fun i h1 hd hi _ nx hn=>?_) (fun i h1 hd _ nx=>?_)
 all_goals unfold iT
 ·have hx:=aC (f:=ai.enc) h1
  have hss:=ck (f:=fun t:ai=>aa.cnts t.body) h1
  have hst:=jw (fun t:ai=>aa.cnts t.body) p.threads (i+1)
  have hwt:=p.thread_wt h1
  have c4:=Dv _ p.threads[i].body (Nat.le_refl _) (by have:aa.wts p.threads[i].body<p.threads[i].wt:=(by unfold ai.wt;omega);omega)
  have e1:=fU (a:=bf (fun t:ai=>aa.cnts t.body) (p.threads.take i)) (b:=aa.cnts p.threads[i].body) (by omega)
  have hn:=hn trivial
  rw[hss]at hn
  repeat' (first | refine st ?_ | ((with_reducible refine aq 31 ?_);refine aj (c4) ?_) | ((with_reducible refine al 31 ?_);refine ab (c4) ?_) | refine sb (fun nb_ hnb_=>?_) | refine s2 (fun h=>?_) (fun h=>?_) | fail)
  exact hn
 ·have hxd:=hd
  repeat' (first | refine st ?_ | refine sb (fun nb_ hnb_=>?_) | refine s2 (fun h=>?_) (fun h=>?_) | fail)
  ·exact hbad _ _ _ (by decide)
  have h60:bf (fun t:ai=>aa.cnts t.body) p.threads≤60:=by
   rw[h1,List.take_length]at h;simp at h;omega
  generalize nb_=bw at *
  clear hd hxd h1
  refine cH p.threads.length (fun i (s:jS)=>([.pptr [p.enc] 0 0,.ptr bw 0 0,.int .i64 i],s.L p bw)) (fun i s=>s.Ok (bf (fun t:ai=>aa.wts t.body) (p.threads.take i))∧s.k=0∧∀j (hj:j<p.threads.length),j<i→StsOk p p.threads[j].locals p.threads[j].body) ⟨0,none,[],0,none,[],none,[]⟩ ⟨⟨fun _=>rfl,Nat.le_refl _,by decide,fun _=>rfl,fun _=>rfl,by simp,by simp⟩,rfl,fun j _ h=>absurd h (Nat.not_lt_zero _)⟩ ?_ ?_
  ·exact aV.box (K:=[]) (R:=[]) (.refl _) (.cons (.refl _) (.cons (.refl _) (.cons (.refl _) (.cons .nile (.cons .nile (.cons .nile .nil))))))
  ·rintro i s hi ⟨hs1,hk1,hG⟩
   dsimp only
   unfold iS
   generalize hnx:(fun(vs':List AV) (L':SH)=>∃j o',i<j∧j≤p.threads.length∧(jS.Ok o' (bf (fun t:ai=>aa.wts t.body) (p.threads.take j))∧o'.k=0∧∀(q:Nat) (hj:q<p.threads.length),q<j→StsOk p p.threads[q].locals p.threads[q].body)∧aV vs' L' [.pptr [p.enc] 0 0,.ptr bw 0 0,.int .i64 (j:Int)] (jS.L p bw o'))=nx
   rcases Nat.lt_or_ge i p.threads.length with g1 | g1
   ·have hd:=ct g1
    have hi1:=bH g1 (by omega)
    have hx:=aC (f:=ai.enc) g1
    have hss:=ck (f:=fun t:ai=>aa.wts t.body) g1
    have hst:=jw (fun t:ai=>aa.wts t.body) p.threads (i+1)
    have c5:=GY p bw hw _ p.threads[i].body {s with t:=i} (bf (fun t:ai=>aa.wts t.body) (p.threads.take i)) (Nat.le_refl _) g1 ⟨hs1.a0,hs1.ak,hs1.k6,hs1.p0,hs1.e0,hs1.pm,hs1.em⟩ (by omega)
    rw[←hss]at c5
    unfold jS.L jS.row at c5 ⊢
    repeat' (first | refine st ?_ | ((with_reducible refine aq 32 ?_);(refine cf c5 ?_;rintro _ _ ⟨e3,ln3,s3,rfl,rfl,hs3,ht3,hk3,hg3⟩)) | refine sb (fun nb_ hnb_=>?_) | refine s2 (fun h=>?_) (fun h=>?_) | fail)
    ·exact hbad _ _ _ (of_decide_eq_true h)
    ·subst hnx
     refine⟨i+1,s3,by omega,by omega,⟨hs3,by rw[hk3];exact hk1,fun j hj hlt=>?_⟩,.refl _ _⟩
     rcases Nat.lt_or_ge j i with q1 | q1
     ·exact hG j hj q1
     ·have:j=i:=by omega
      subst this
      exact hg3 (by simpa using h)
   ·have hd:=ee g1
    repeat' (first | refine st ?_ | refine sb (fun nb_ hnb_=>?_) | refine s2 (fun h=>?_) (fun h=>?_) | fail)
    exact hgood _ ⟨hs,hg1,h4,hg2,h60,fun j hj=>hG j hj (by omega)⟩
end Go.Proofs.Ytljkdffikfkcgaa.Am
end
