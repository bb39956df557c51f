/- A part of the proof; the statement is proved in the last part. -/
import Derived.Test.YtbofdbhnbodbiaaGreatDoorQuE
set_option linter.all false
set_option maxRecDepth 100000
set_option maxHeartbeats 20000000
namespace Go.Proofs.YtbofdbhnbodbiaaGreatDoor.Am
def kH:RF:=nv (bO Tryz.prog Tryz.f90 [(63034,⟨[0,4,5,6,7,8,9],[9],true,[]⟩),(54049,⟨[0,4,5,6,7,8,9,36,47],[63034],false,[]⟩),(45040,⟨[0,4,5,6,7,8,9,36,39],[63034],false,[]⟩),(9,⟨[0,4,5,6,7,8],[],true,[]⟩)] [(5,[9])])
abbrev zM(Q:R)(a:Kn):Vs->SH->Prop:=Jp kH 18 Q 63034 [a]
abbrev Be(a:AV)(L:SH)(Q:R):Prop:=Pc kH 20 Q 0 [] [a] L
def zN(j:AV)(L:SH)(Q:R)(h:Be j L Q):ac Tryz.prog 90 [j] L Q:=
 fv kH Tryz.func90 h
def mR:RF:=nv (bO Tryz.prog Tryz.f91 [(42,⟨[1,6,7,8],[24],true,[]⟩),(24,⟨[1,6],[],true,[]⟩),(6,⟨[1,4],[],true,[]⟩)] [(0,[1]),(4,[5]),(10,[7])])
abbrev xh(a:AV)(L:SH)(Q:R):Prop:=Pc mR 20 Q 0 [] [a] L
def vg(j:AV)(L:SH)(Q:R)(h:xh j L Q):ac Tryz.prog 91 [j] L Q:=
 fv mR Tryz.func91 h
def mS:RF:=nv (bO Tryz.prog Tryz.f50 [(60,⟨[1,10,11],[],true,[]⟩),(39,⟨[1,8,9],[],true,[]⟩)] [(0,[1])])
abbrev xi(a:AV)(L:SH)(Q:R):Prop:=Pc mS 20 Q 0 [] [a] L
def vh(j:AV)(L:SH)(Q:R)(h:xi j L Q):ac Tryz.prog 50 [j] L Q:=
 fv mS Tryz.func50 h
def iK:RF:=nv (bO Tryz.prog Tryz.f168 [(6,⟨[0,1,2,3,9],[],true,[]⟩)] [(4,[10])])
abbrev pX(a b c d:AV)(L:SH)(Q:R):Prop:=Pc iK 20 Q 0 [] [a,b,c,d] L
def oX(j t1 t2 t3:AV)(L:SH)(Q:R)(h:pX j t1 t2 t3 L Q):ac Tryz.prog 168 [j,t1,t2,t3] L Q:=
 fv iK Tryz.func168 h
def lI:RF:=nv (bO Tryz.prog Tryz.f135 [(150145,⟨[3,4,5,6,7],[],true,[]⟩),(145,⟨[3,4,5,6,7],[],true,[]⟩),(144139,⟨[0,3,5,6,14],[],true,[7]⟩),(78073,⟨[0,3,5,6,7,8,9,30,119],[150145],true,[4]⟩),(54049,⟨[0,3,5,6,7,8,9,30,91],[150145],true,[]⟩),(39034,⟨[0,3,5,6,7,8,9,30,67],[150145],true,[]⟩)] [(0,[3]),(1,[5])])
abbrev vj(a b:AV)(L:SH)(Q:R):Prop:=Pc lI 20 Q 0 [] [a,b] L
def tJ(j t1:AV)(L:SH)(Q:R)(h:vj j t1 L Q):ac Tryz.prog 135 [j,t1] L Q:=
 fv lI Tryz.func135 h
def fi:RF:=nv (bO Tryz.prog Tryz.f93 [(45040,⟨[0,1,6,8,9],[6],true,[]⟩),(27022,⟨[0,1,6,7,8],[6],true,[]⟩),(6,⟨[0,1,6],[],true,[]⟩)] [(4,[7])])
abbrev tK(Q:R)(a:Kn):Vs->SH->Prop:=Jp fi 17 Q 45040 [a]
abbrev tL(Q:R)(a:Kn):Vs->SH->Prop:=Jp fi 18 Q 27022 [a]
abbrev vk(a b:AV)(L:SH)(Q:R):Prop:=Pc fi 20 Q 0 [] [a,b] L
def tM(j t1:AV)(L:SH)(Q:R)(h:vk j t1 L Q):ac Tryz.prog 93 [j,t1] L Q:=
 fv fi Tryz.func93 h
end Go.Proofs.YtbofdbhnbodbiaaGreatDoor.Am
