/- A part of the proof; the statement is proved in the last part. -/
import Derived.Test.YtbofdbhnbodbiaaGreatDoorQvE
set_option linter.all false
set_option maxRecDepth 100000
set_option maxHeartbeats 20000000
namespace Go.Proofs.YtbofdbhnbodbiaaGreatDoor.Am
def kq:RF:=nv (bO Tryz.prog Tryz.f90 [(63034,⟨[0,4,5,6,7,8,9],[9],true,[]⟩),(54049,⟨[0,4,5,6,7,8,9,36,47],[63034],false,[]⟩),(45040,⟨[0,4,5,6,7,8,9,36,39],[63034],false,[]⟩),(9,⟨[0,4,5,6,7,8],[],true,[]⟩)] [(5,[9])])
abbrev zu(Q:R)(a:Kn):Vs->SH->Prop:=Jp kq 18 Q 63034 [a]
abbrev AN(a:AV)(L:SH)(Q:R):Prop:=Pc kq 20 Q 0 [] [a] L
def zw(j:AV)(L:SH)(Q:R)(h:AN j L Q):ac Tryz.prog 90 [j] L Q:=
 fv kq Tryz.func90 h
def mG:RF:=nv (bO Tryz.prog Tryz.f91 [(42,⟨[1,6,7,8],[24],true,[]⟩),(24,⟨[1,6],[],true,[]⟩),(6,⟨[1,4],[],true,[]⟩)] [(0,[1]),(4,[5]),(10,[7])])
abbrev wQ(a:AV)(L:SH)(Q:R):Prop:=Pc mG 20 Q 0 [] [a] L
def uN(j:AV)(L:SH)(Q:R)(h:wQ j L Q):ac Tryz.prog 91 [j] L Q:=
 fv mG Tryz.func91 h
def mH:RF:=nv (bO Tryz.prog Tryz.f50 [(60,⟨[1,10,11],[],true,[]⟩),(39,⟨[1,8,9],[],true,[]⟩)] [(0,[1])])
abbrev wR(a:AV)(L:SH)(Q:R):Prop:=Pc mH 20 Q 0 [] [a] L
def uO(j:AV)(L:SH)(Q:R)(h:wR j L Q):ac Tryz.prog 50 [j] L Q:=
 fv mH Tryz.func50 h
def iC:RF:=nv (bO Tryz.prog Tryz.f168 [(6,⟨[0,1,2,3,9],[],true,[]⟩)] [(4,[10])])
abbrev pK(a b c d:AV)(L:SH)(Q:R):Prop:=Pc iC 20 Q 0 [] [a,b,c,d] L
def oK(j t1 t2 t3:AV)(L:SH)(Q:R)(h:pK j t1 t2 t3 L Q):ac Tryz.prog 168 [j,t1,t2,t3] L Q:=
 fv iC Tryz.func168 h
def lx:RF:=nv (bO Tryz.prog Tryz.f135 [(150145,⟨[3,4,5,6,7],[],true,[]⟩),(145,⟨[3,4,5,6,7],[],true,[]⟩),(144139,⟨[0,3,5,6,14],[],true,[7]⟩),(78073,⟨[0,3,5,6,7,8,9,30,119],[150145],true,[4]⟩),(54049,⟨[0,3,5,6,7,8,9,30,91],[150145],true,[]⟩),(39034,⟨[0,3,5,6,7,8,9,30,67],[150145],true,[]⟩)] [(0,[3]),(1,[5])])
abbrev uP(a b:AV)(L:SH)(Q:R):Prop:=Pc lx 20 Q 0 [] [a,b] L
def tg(j t1:AV)(L:SH)(Q:R)(h:uP j t1 L Q):ac Tryz.prog 135 [j,t1] L Q:=
 fv lx Tryz.func135 h
def fa:RF:=nv (bO Tryz.prog Tryz.f93 [(45040,⟨[0,1,6,8,9],[6],true,[]⟩),(27022,⟨[0,1,6,7,8],[6],true,[]⟩),(6,⟨[0,1,6],[],true,[]⟩)] [(4,[7])])
abbrev tj(Q:R)(a:Kn):Vs->SH->Prop:=Jp fa 17 Q 45040 [a]
abbrev tm(Q:R)(a:Kn):Vs->SH->Prop:=Jp fa 18 Q 27022 [a]
abbrev uQ(a b:AV)(L:SH)(Q:R):Prop:=Pc fa 20 Q 0 [] [a,b] L
def tp(j t1:AV)(L:SH)(Q:R)(h:uQ j t1 L Q):ac Tryz.prog 93 [j,t1] L Q:=
 fv fa Tryz.func93 h
end Go.Proofs.YtbofdbhnbodbiaaGreatDoor.Am
