/- part -/
import Derived.Test.YtfckbjehkbhkgaaGreatQwh
import Derived.Test.YtfckbjehkbhkgaaGreatQwt
set_option linter.all false
set_option maxRecDepth 100000
set_option maxHeartbeats 0
namespace Go.Proofs.YtfckbjehkbhkgaaGreat.Am
def w19:AV:=.agg [.lst [[.str [120],.acU 0,.acU 0,.bool false,.acU 0],[.str [121],.acU 0,.acU 0,.bool false,.acU 1],[.str [118],.acU 0,.acU 0,.bool true,.acU 0],[.str [113],.acU 0,.acU 2,.bool false,.acU 0],[.str [113],.acU 1,.acU 2,.bool false,.acU 0]],.lst [[.str [109],.bool false],[.str [110],.bool false],[.str [114],.bool true]],.lst [[.str [99],.acU 0]],.lst [[.str [102]]],.lst [[.str [109,97,105,110]],[.str [116,49]]],.lst [[.acU 0,.acU 0,.acU 0],[.acU 0,.acU 1,.acU 0],[.acU 1,.acU 0,.acU 0]]]
def Ut:AV:=.lst [[.acU 0,.acU (-1)],[.acU 0,.acU (-1)],[.acU 0,.acU (-1)]]
def Ys:AV:=.lst [[.int .u8 0],[.int .u8 0],[.int .u8 0]]
def V5:AV:=.tup [.agg [.lst [[.str [120],.acU 0,.acU 0,.bool false,.acU 0],[.str [121],.acU 0,.acU 0,.bool false,.acU 1],[.str [118],.acU 0,.acU 0,.bool true,.acU 0],[.str [113],.acU 0,.acU 2,.bool false,.acU 0],[.str [113],.acU 1,.acU 2,.bool false,.acU 0]],.lst [[.str [109],.bool false],[.str [110],.bool false],[.str [114],.bool true]],.lst [[.str [99],.acU 0]],.lst [[.str [102]]],.lst [[.str [109,97,105,110]],[.str [116,49]]],.lst [[.acU 0,.acU 0,.acU 0],[.acU 0,.acU 1,.acU 0],[.acU 1,.acU 0,.acU 0]],.lst [[.acU 0,.acU 1,.acU (-1),.acU 0,.acU (-1),.lst [],.lst []],[.acU 0,.acU 20,.acU 1,.acU 0,.acU 0,.lst [],.lst []],[.acU 0,.acU 4,.acU 0,.acU 0,.acU 1,.lst [],.lst []]]],.agg [.lst [[.acU (-1),.lst []],[.acU (-1),.lst []],[.acU (-1),.lst []]],.acU (-1),.lst [[.bool false]],.lst [[.acU 2,.acU 0,.bool false],[.acU 1,.acU 0,.bool false]],.lst [[.acU 0],[.acU 1],[.acU 0],[.acU 0],[.acU 0]],.lst [[.acU 0]],.lst [[.acU 3,.lst [[.acU 0],[.acU 0],[.acU 0]],.lst [[.lst []],[.lst []],[.lst []]],.acU 3],[.acU 0,.lst [[.acU 0],[.acU 0],[.acU 0]],.lst [[.lst []],[.lst []],[.lst []]],.acU 0]]]]
def KD:AV:=.agg [.lst [[.str [120],.acU 0,.acU 0,.bool false,.acU 0],[.str [121],.acU 0,.acU 0,.bool false,.acU 1],[.str [118],.acU 0,.acU 0,.bool true,.acU 0],[.str [113],.acU 0,.acU 2,.bool false,.acU 0],[.str [113],.acU 1,.acU 2,.bool false,.acU 0]],.lst [[.str [109],.bool false],[.str [110],.bool false],[.str [114],.bool true]],.lst [[.str [99],.acU 0]],.lst [[.str [102]]],.lst [[.str [109,97,105,110]],[.str [116,49]]],.lst [[.acU 0,.acU 0,.acU 0],[.acU 0,.acU 1,.acU 0],[.acU 1,.acU 0,.acU 0]],.lst [[.acU 0,.acU 1,.acU (-1),.acU 0,.acU (-1),.lst [],.lst []],[.acU 0,.acU 20,.acU 1,.acU 0,.acU 0,.lst [],.lst []],[.acU 0,.acU 4,.acU 0,.acU 0,.acU 1,.lst [],.lst []]]]
def ZF:AV:=.agg [.lst [[.acU (-1),.lst []],[.acU (-1),.lst []],[.acU (-1),.lst []]],.acU (-1),.lst [[.bool false]],.lst [[.acU 1,.acU 0,.bool false],[.acU 0,.acU 0,.bool false]],.lst [[.acU 0],[.acU 1],[.acU 0],[.acU 0],[.acU 0]],.lst [[.acU 0]],.lst [[.acU 0],[.acU 0]]]
def ZG:AV:=.tup [.lst [[.lst [[.str [120],.acU 0,.acU 0,.bool false,.acU 0],[.str [121],.acU 0,.acU 0,.bool false,.acU 1],[.str [118],.acU 0,.acU 0,.bool true,.acU 0],[.str [113],.acU 0,.acU 2,.bool false,.acU 0],[.str [113],.acU 1,.acU 2,.bool false,.acU 0]],.lst [[.str [109],.bool false],[.str [110],.bool false],[.str [114],.bool true]],.lst [[.str [99],.acU 0]],.lst [[.str [102]]],.lst [[.str [109,97,105,110]],[.str [116,49]]],.lst [[.acU 0,.acU 0,.acU 0],[.acU 0,.acU 1,.acU 0],[.acU 1,.acU 0,.acU 0]],.acU 0,.lst [[.acU (-1),.lst []],[.acU (-1),.lst []],[.acU (-1),.lst []]],.acU (-1),.lst [[.bool false]],.lst [[.acU 1,.acU 0,.bool false],[.acU 0,.acU 0,.bool false]],.lst [[.acU 0],[.acU 1],[.acU 0],[.acU 0],[.acU 0]],.lst [[.acU 0]],.lst [[.acU 0],[.acU 0]],.lst [[.acU 0,.acU 1,.acU (-1),.acU 0,.acU (-1),.lst [],.lst []],[.acU 0,.acU 20,.acU 1,.acU 0,.acU 0,.lst [],.lst []],[.acU 0,.acU 4,.acU 0,.acU 0,.acU 1,.lst [],.lst []]]]],.acU 0]
def Uu:AV:=.agg [.lst [[.str [120],.acU 0,.acU 0,.bool false,.acU 0],[.str [121],.acU 0,.acU 0,.bool false,.acU 1],[.str [118],.acU 0,.acU 0,.bool true,.acU 0],[.str [113],.acU 0,.acU 2,.bool false,.acU 0],[.str [113],.acU 1,.acU 2,.bool false,.acU 0]],.lst [[.str [109],.bool false],[.str [110],.bool false],[.str [114],.bool true]],.lst [[.str [99],.acU 0]],.lst [[.str [102]]],.lst [[.str [109,97,105,110]],[.str [116,49]]],.lst [[.acU 0,.acU 0,.acU 0],[.acU 0,.acU 1,.acU 0],[.acU 1,.acU 0,.acU 0]],.acU 0,.lst [[.acU (-1),.lst []],[.acU (-1),.lst []],[.acU (-1),.lst []]],.acU (-1),.lst [[.bool false]],.lst [[.acU 1,.acU 0,.bool false],[.acU 0,.acU 0,.bool false]],.lst [[.acU 0],[.acU 1],[.acU 0],[.acU 0],[.acU 0]],.lst [[.acU 0]],.lst [[.acU 0],[.acU 0]],.lst [[.acU 0,.acU 1,.acU (-1),.acU 0,.acU (-1),.lst [],.lst []],[.acU 0,.acU 20,.acU 1,.acU 0,.acU 0,.lst [],.lst []],[.acU 0,.acU 4,.acU 0,.acU 0,.acU 1,.lst [],.lst []]]]
def W9:AV:=.agg [.lst [[.acU (-1),.lst []],[.acU (-1),.lst []],[.acU (-1),.lst []]],.acU (-1),.lst [[.bool false]],.lst [[.acU 2,.acU 0,.bool false],[.acU 0,.acU 0,.bool false]],.lst [[.acU 0,.bool true],[.acU 1,.bool true],[.acU 0,.bool true],[.acU 0,.bool true],[.acU 0,.bool true]],.lst [[.acU 0,.bool true]],.lst [[.acU 0]],.lst [[.bool false],[.bool false],[.bool false]],.lst [[.acU 0],[.acU 0],[.acU 0]]]
def RY:dX Tryz.prog 95 [w19] (.bool true):=cB (n:=2000) (d:=50) fV (by kernel_rfl) (by kernel_rfl)
def Xa:dX Tryz.prog 66 [Ys] Ut:=cB (n:=2000) (d:=50) fV (by kernel_rfl) (by kernel_rfl)
def aaM:=BJ 50 [(95,[w19],.bool true)] Eu
def Uv:kE Tryz.prog aaM:=j6 fV λe j=>by rw[aag.1 j];exact RY
def Xb:dX Tryz.prog 101 [cA] (.bool true):=cB (n:=2000) (d:=50) Uv (by kernel_rfl) (by kernel_rfl)
def aaN:=BJ 50 [(101,[cA],.bool true),(95,[w19],.bool true)] Eu
def N8:kE Tryz.prog aaN:=j6 fV λe j=>by
 rcases aaj.1 j with rfl|j
 .exact Xb
 rw[aag.1 j];exact RY
def Xc:dX Tryz.prog 64 [cA,Ut] V5:=cB (n:=2000) (d:=50) N8 (by kernel_rfl) (by kernel_rfl)
def aaO:=BJ 50 [(65,[.nils],cA),(66,[Ys],Ut),(64,[cA,Ut],V5)] Eu
def Uw:kE Tryz.prog aaO:=j6 fV λe j=>by
 rcases aaj.1 j with rfl|j
 .exact aaK
 rcases aaj.1 j with rfl|j
 .exact Xa
 rw[aag.1 j];exact Xc
def Xd:dX Tryz.prog 39 [.nils,Ys] KD:=cB (n:=2000) (d:=50) Uw (by kernel_rfl) (by kernel_rfl)
def Xe:dX Tryz.prog 67 [KD] (.tup [.acU 0,.acU 0]):=cB (n:=2000) (d:=50) N8 (by kernel_rfl) (by kernel_rfl)
def Xf:dX Tryz.prog 68 [KD,.acU 0] ZF:=cB (n:=2000) (d:=50) fV (by kernel_rfl) (by kernel_rfl)
def aaP:=BJ 50 [(67,[KD],.tup [.acU 0,.acU 0]),(68,[KD,.acU 0],ZF)] Eu
def Ux:kE Tryz.prog aaP:=j6 fV λe j=>by
 rcases aaj.1 j with rfl|j
 .exact Xe
 rw[aag.1 j];exact Xf
def Xg:dX Tryz.prog 40 [KD,.acU 3] ZG:=cB (n:=2000) (d:=50) Ux (by kernel_rfl) (by kernel_rfl)
def aaQ:=BJ 50 [(39,[.nils,Ys],KD),(40,[KD,.acU 3],ZG)] Eu
def Uy:kE Tryz.prog aaQ:=j6 fV λe j=>by
 rcases aaj.1 j with rfl|j
 .exact Xd
 rw[aag.1 j];exact Xg
def Xh:dX Tryz.prog 55 [.nils,Ys,.int .u8 2,.int .u8 0] (.tup [Uu,.bool true]):=cB (n:=2000) (d:=50) Uy (by kernel_rfl) (by kernel_rfl)
def Xi:dX Tryz.prog 52 [.lst []] (.lst []):=.of_pure (Dh [] acR) (.lst _ λi r j a h=>by simp at h) λi a h=>by
 match i with
 |0=>cases h;exact .lst _ λi r j a h=>by simp at h
 |i+1=>simp at h
def aaR:=BJ 50 [(52,[.lst []],.lst [])] Eu
def Uz:kE Tryz.prog aaR:=j6 fV λe j=>by rw[aag.1 j];exact Xi
def Xj:dX Tryz.prog 26 [Uu,.lst [[.acU 0,.acU 0]]] (.tup [W9,.bool true]):=cB (n:=2000) (d:=50) Uz (by kernel_rfl) (by kernel_rfl)
def UA:dX Tryz.prog 15 [Uu,W9,.acU 0] (.acU 1):=cB (n:=2000) (d:=50) fV (by kernel_rfl) (by kernel_rfl)
