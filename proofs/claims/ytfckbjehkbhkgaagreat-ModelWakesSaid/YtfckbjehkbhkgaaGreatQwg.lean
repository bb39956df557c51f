/- part -/
import Derived.Test.YtfckbjehkbhkgaaGreatQwf
import Derived.Sort.OwnSortedInts
set_option linter.all false
set_option maxRecDepth 100000
set_option maxHeartbeats 0
namespace Go.Proofs.YtfckbjehkbhkgaaGreat.Am
def AY(c:Int):Bool:=(decide (97<=c)&&decide (c<=122))||(decide (65<=c)&&decide (c<=90))
def Ma(c:Int):Bool:=decide (48<=c)&&decide (c<=57)
def xS(c:Int):Bool:=AY c||Ma c||decide (c=95)
def Gc(c:Int):aq Tryz.prog 144 [.int .u8 c] (.bool (AY c)):=by
 refine pi _ _ _ ?_;refine vw ?_
 repeat' (first|refine sy ?_|refine s2 ?_ ?_|intro)
 all_goals (refine⟨?_,rfl⟩;simp_all[AY]<;>omega)
def Q5(c:Int):aq Tryz.prog 169 [.int .u8 c] (.bool (Ma c)):=by
 refine ql _ _ _ ?_;refine vw ?_
 repeat' (first|refine sy ?_|refine s2 ?_ ?_|intro)
 all_goals (refine⟨?_,rfl⟩;simp_all[Ma]<;>omega)
def Q6(c:Int):aq Tryz.prog 146 [.int .u8 c] (.bool (xS c)):=by
 refine qm _ _ _ ?_;refine vw ?_
 repeat' (first|refine sy ?_|(refine pf 144 ?_;refine pm (Gc _) ?_)|(refine pf 169 ?_;refine pm (Q5 _) ?_)|refine s2 ?_ ?_|intro)
 all_goals (refine⟨?_,rfl⟩;simp_all[xS]<;>omega)
def JV:List bU:=[[118,97,114],[118,111,108,97,116,105,108,101],[109,117,116,101,120],[114,119,108,111,99,107],[99,111,110,100],[102,117,116,117,114,101],[116,104,114,101,97,100],[105,102],[101,108,115,101],[119,104,105,108,101],[108,111,99,107],[114,101,97,100],[119,114,105,116,101],[116,114,97,110,115,97,99,116,105,111,110],[97,116,111,109,105,99],[119,97,105,116],[110,111,116,105,102,121],[110,111,116,105,102,121,97,108,108],[115,112,97,119,110],[106,111,105,110],[115,101,116],[103,101,116]]
def TY:aq Tryz.prog 168 [] (.lst (JV.map ay)):=by
 refine ac.fz (lK _ _ ?_);refine vw ?_
 repeat' (first|refine sy ?_|refine s2 ?_ ?_|intro)
 exact⟨_,[],ax.all (Fz.sls (l:=JV) (f:=ay) rp rfl acR rfl),rfl,rfl⟩
def TZ(s:bU):Bool:=JV.any λx=>decide (x=s)
def WT(s:bU):aq Tryz.prog 145 [.str s] (.bool (TZ s)):=by
 refine kJ _ _ _ ?_;refine vw ?_
 repeat' (first|refine sy ?_|(refine pf 168 ?_;refine pm (TY) ?_)|refine s2 (λh=>?_) λh=>?_|intro)
 refine eO JV (λx=>decide (x=s)) (λi=>[.str s,.lst (JV.map ay),.acU i]) acR rfl (λi u E M j B D=>?_) (λi u E j B=>?_)
 all_goals refine vw ?_
 .have G:=aj (f:=ay) u
  repeat' (first|refine sy ?_|refine s2 (λh=>?_) λh=>?_|intro)
  .exact⟨by rw[TZ,TX u h],rfl⟩
  .exact D h
 .repeat' (first|refine sy ?_|refine s2 ?_ ?_|intro)
  exact⟨by rw[TZ,WO j],rfl⟩
def kL(s:bU):Bool:=decide (1<=(s.length:Int))&&decide ((s.length:Int)<=12)&&AY (s.getD 0 0).toNat&&!TZ s&&s.all λc=>xS c.toNat
def OZ(s:bU)(N:s.length<2^62):aq Tryz.prog 117 [.str s] (.bool (kL s)):=by
 refine jD _ _ _ ?_;refine vw ?_;generalize E:(λ(u:AV) (K:SH)=>u=AV.bool (kL s)/\K=[])=Q;have B:Q (.bool (kL s)) []:=by subst E;exact⟨rfl,rfl⟩
 clear E;by_cases Y:0<s.length
 .have Z:decide ((s.length:Int)<1)=false:=by simpa using(by omega:(1:Int)<=s.length)
  repeat' (first|refine sy ?_|refine NR (i:=0) ?_ Y|(refine pf 144 ?_;refine pm (Gc _) ?_)|(refine pf 145 ?_;refine pm (WT _) ?_)|refine s2 (λh=>?_) λh=>?_|intro)
  all_goals first
   |(refine Eq.mp (congrArg (λb=>Q (AV.bool b) []) ?_) B;simp_all[kL]<;>omega;done)
   |skip
  refine eO s (λc=>!xS c.toNat) (λi=>[.str s,.acU i]) N rfl (λi D S hi j G O=>?_) (λi D S j G=>?_)
  all_goals refine vw ?_
  .repeat' (first|refine sy ?_|refine NR ?_|(refine pf 146 ?_;refine pm (Q6 _) ?_)|refine s2 (λh=>?_) λh=>?_|intro)
   .refine Eq.mp (congrArg (λb=>Q (AV.bool b) []) ?_) B;have:(s.all λc=>xS c.toNat)=false:=L7 D (by simpa[List.getD,D]using h);simp[kL,this]
   .exact O (by simpa[List.getD,D]using h)
  .repeat' (first|refine sy ?_|refine s2 ?_ ?_|intro)
   refine Eq.mp (congrArg (λb=>Q (AV.bool b) []) ?_) B;have:(s.all λc=>xS c.toNat)=true:=abh.2 λx M=>by simpa using j x M
   simp_all[kL]<;>omega
 .have Z:decide ((s.length:Int)<1)=true:=by simpa using(by omega:(s.length:Int)<1)
  repeat' (first|refine sy ?_|refine s2 ?_ ?_|intro)
  refine Eq.mp (congrArg (λb=>Q (AV.bool b) []) ?_) B;simp_all[kL]
def B7(s:bU):aq Tryz.prog 117 [.str s] (.bool (kL s)):=by
 rcases LE 12 s.length with h|h
 .have j:(s.length:Int)<1->False:=by omega
  refine jD _ _ _ ?_;refine vw ?_;have B:decide ((s.length:Int)<1)=false:=decide_eq_false acN;have u:decide ((s.length:Int) > 12)=true:=decide_eq_true acN;have e:kL s=false:=by unfold kL;rw[show decide ((s.length:Int)<=12)=false from decide_eq_false acN];simp
  rw[e]
  repeat' (first|refine sy ?_|refine s2 ?_ ?_|intro)
  all_goals exact⟨rfl,rfl⟩
 .exact OZ s acN
def Q7{s:bU}:∀(i:Nat) (a:AV),[AV.str s][i]? =some a->bv a:=λi a h=>by
 match i with
 |0=>cases h;exact .str _
 |i+1=>simp at h
def pA:AV:=.agg [.lst [[.acU 1,.acU 0,.str [120],.acU 0,.acU 0,.str []],[.acU 1,.acU 0,.str [121],.acU 0,.acU 1,.str []],[.acU 2,.acU 0,.str [118],.acU 0,.acU 0,.str []],[.acU 1,.acU 0,.str [113],.acU 2,.acU 0,.str []],[.acU 3,.acU 0,.str [109],.acU 0,.acU 0,.str []],[.acU 3,.acU 0,.str [110],.acU 0,.acU 0,.str []],[.acU 4,.acU 0,.str [114],.acU 0,.acU 0,.str []],[.acU 5,.acU 0,.str [99],.acU 0,.acU 0,.str [109]],[.acU 6,.acU 0,.str [102],.acU 0,.acU 0,.str []]],.lst [[.str [109,97,105,110],.acU 0,.lst [[.str [97]],[.str [98]]],.lst [[.acU 12,.acU 0,.str [116,49],.str [],.lst [],.acU 0,.acU 0,.str [],.lst [],.lst [],.lst []],[.acU 1,.acU 0,.str [120],.str [],.lst [],.acU 1,.acU 0,.str [],.lst [],.lst [],.lst []]]],[.str [116,49],.acU 0,.lst [[.str [97]],[.str [98]]],.lst [[.acU 1,.acU 0,.str [120],.str [],.lst [],.acU 1,.acU 0,.str [],.lst [],.lst [],.lst []]]]]]
def cA:AV:=.agg [.lst [[.str [120],.acU 0,.acU 0,.bool false,.acU 0],[.str [121],.acU 0,.acU 0,.bool false,.acU 1],[.str [118],.acU 0,.acU 0,.bool true,.acU 0],[.str [113],.acU 0,.acU 2,.bool false,.acU 0],[.str [113],.acU 1,.acU 2,.bool false,.acU 0]],.lst [[.str [109],.bool false],[.str [110],.bool false],[.str [114],.bool true]],.lst [[.str [99],.acU 0]],.lst [[.str [102]]],.lst [[.str [109,97,105,110]],[.str [116,49]]],.lst [[.acU 0,.acU 0,.acU 0],[.acU 0,.acU 1,.acU 0],[.acU 1,.acU 0,.acU 0]],.lst [[.acU 3,.lst [[.acU 24,.acU 1,.acU 0,.acU 0,.acU 0,.acU 0],[.acU 1,.acU 2,.acU 0,.acU 0,.acU 0,.acU 1],[.acU 8,.acU 0,.acU 2,.acU 0,.acU 0,.acU 1],[.acU 28,.acU 0,.acU 0,.acU 0,.acU 0,.acU (-1)]]],[.acU 3,.lst [[.acU 1,.acU 2,.acU 0,.acU 0,.acU 0,.acU 2],[.acU 8,.acU 0,.acU 2,.acU 0,.acU 0,.acU 2],[.acU 28,.acU 0,.acU 0,.acU 0,.acU 0,.acU (-1)]]]]]
def sA:AV:=.tup [.acU 0,.acU 0]
def rA:AV:=.tup [cA,.acU 0,.acU 0]
def tC:RF:=nv (bQ Tryz.prog Tryz.f12 [] [(0,[1])])
abbrev ED(a:AV)(L:SH)(Q:R):Prop:=Pc tC 20 Q 0 [] [a] L
def Cd(j:AV)(L:SH)(Q:R)(h:ED j L Q):ac Tryz.prog 12 [j] L Q:=
 fv tC Tryz.func12 h
def vX:RF:=nv (bQ Tryz.prog Tryz.f15 [(12,⟨[2,4,20,21,22],[],true,[]⟩)] [(0,[3,4]),(5,[8])])
abbrev HB(a b c:AV)(L:SH)(Q:R):Prop:=Pc vX 20 Q 0 [] [a,b,c] L
def EE(B u j:AV)(L:SH)(Q:R)(h:HB B u j L Q):ac Tryz.prog 15 [B,u,j] L Q:=
 fv vX Tryz.func15 h
def ji:RF:=nv (bQ Tryz.prog Tryz.f19 [(42,⟨[5,9,10,59,60,61],[],true,[]⟩),(24,⟨[2,3,5,9,10,43,44,45],[],true,[]⟩)] [(0,[4,5]),(9,[12])])
abbrev qy(Q:R):Vs->SH->Kn->Prop:=Lp ji 18 Q 42 []
abbrev Ce(Q:R):Vs->SH->Kn->Prop:=Lp ji 19 Q 24 []
abbrev EF(a b c d:AV)(L:SH)(Q:R):Prop:=Pc ji 20 Q 0 [] [a,b,c,d] L
def Cf(D B u j:AV)(L:SH)(Q:R)(h:EF D B u j L Q):ac Tryz.prog 19 [D,B,u,j] L Q:=
 fv ji Tryz.func19 h
def pn:RF:=nv (bQ Tryz.prog Tryz.f17 [] [(0,[3,4]),(4,[8])])
abbrev Aa(a b c:AV)(L:SH)(Q:R):Prop:=Pc pn 20 Q 0 [] [a,b,c] L
def xY(B u j:AV)(L:SH)(Q:R)(h:Aa B u j L Q):ac Tryz.prog 17 [B,u,j] L Q:=
 fv pn Tryz.func17 h
def vY:RF:=nv (bQ Tryz.prog Tryz.f21 [(42037,⟨[4,6,8,9,11,13,14,15],[],true,[]⟩)] [(0,[3,4,5]),(4,[9]),(5,[10]),(8,[13]),(9,[14])])
abbrev HD(a b c:AV)(L:SH)(Q:R):Prop:=Pc vY 20 Q 0 [] [a,b,c] L
def EG(B u j:AV)(L:SH)(Q:R)(h:HD B u j L Q):ac Tryz.prog 21 [B,u,j] L Q:=
 fv vY Tryz.func21 h
def we:RF:=nv (bQ Tryz.prog Tryz.f48 [] [(0,[2,3])])
abbrev HH(a b:AV)(L:SH)(Q:R):Prop:=Pc we 20 Q 0 [] [a,b] L
def EH(u j:AV)(L:SH)(Q:R)(h:HH u j L Q):ac Tryz.prog 48 [u,j] L Q:=
 fv we Tryz.func48 h
def mh:RF:=nv (bQ Tryz.prog Tryz.f42 [(9,⟨[3,9,10,11],[],true,[]⟩)] [])
abbrev Cg(Q:R):Vs->SH->Kn->Prop:=Lp mh 19 Q 9 []
abbrev EI(a:AV)(L:SH)(Q:R):Prop:=Pc mh 20 Q 0 [] [a] L
def Ch(j:AV)(L:SH)(Q:R)(h:EI j L Q):ac Tryz.prog 42 [j] L Q:=
 fv mh Tryz.func42 h
def iY:RF:=nv (bQ Tryz.prog Tryz.f41 [(9,⟨[2,3,16,17,18],[],true,[]⟩)] [(0,[1]),(4,[5])])
abbrev wh(Q:R):Vs->SH->Kn->Prop:=Lp iY 19 Q 9 []
abbrev x7(a:AV)(L:SH)(Q:R):Prop:=Pc iY 20 Q 0 [] [a] L
def wj(j:AV)(L:SH)(Q:R)(h:x7 j L Q):ac Tryz.prog 41 [j] L Q:=
 fv iY Tryz.func41 h
def mi:RF:=nv (bQ Tryz.prog Tryz.f68 [(9,⟨[1,2,4,5,6],[],true,[]⟩)] [(0,[2])])
abbrev Ci(Q:R):Vs->SH->Kn->Prop:=Lp mi 19 Q 9 []
abbrev EJ(a b:AV)(L:SH)(Q:R):Prop:=Pc mi 20 Q 0 [] [a,b] L
def Cj(u j:AV)(L:SH)(Q:R)(h:EJ u j L Q):ac Tryz.prog 68 [u,j] L Q:=
 fv mi Tryz.func68 h
def mj:RF:=nv (bQ Tryz.prog Tryz.f40 [(24,⟨[1,2,8,9],[],true,[]⟩)] [(0,[2])])
abbrev Ck(Q:R):Vs->SH->Kn->Prop:=Lp mj 19 Q 24 []
abbrev EK(a b:AV)(L:SH)(Q:R):Prop:=Pc mj 20 Q 0 [] [a,b] L
def Cl(u j:AV)(L:SH)(Q:R)(h:EK u j L Q):ac Tryz.prog 40 [u,j] L Q:=
 fv mj Tryz.func40 h
def Cn:RF:=nv (bQ Tryz.prog Tryz.f119 [] [])
abbrev Mb(a b:AV)(L:SH)(Q:R):Prop:=Pc Cn 20 Q 0 [] [a,b] L
def JX(u j:AV)(L:SH)(Q:R)(h:Mb u j L Q):ac Tryz.prog 119 [u,j] L Q:=
 fv Cn Tryz.func119 h
def kM:RF:=nv (bQ Tryz.prog Tryz.f96 [(9,⟨[1,3,4],[],true,[]⟩)] [(0,[1])])
abbrev Ab(Q:R):Vs->SH->Kn->Prop:=Lp kM 19 Q 9 []
abbrev Co(a:AV)(L:SH)(Q:R):Prop:=Pc kM 20 Q 0 [] [a] L
def Ac(j:AV)(L:SH)(Q:R)(h:Co j L Q):ac Tryz.prog 96 [j] L Q:=
 fv kM Tryz.func96 h
def iZ:RF:=nv (bQ Tryz.prog Tryz.f97 [(9,⟨[1,3,4],[],true,[]⟩)] [(0,[1])])
abbrev wm(Q:R):Vs->SH->Kn->Prop:=Lp iZ 19 Q 9 []
abbrev x8(a:AV)(L:SH)(Q:R):Prop:=Pc iZ 20 Q 0 [] [a] L
def wo(j:AV)(L:SH)(Q:R)(h:x8 j L Q):ac Tryz.prog 97 [j] L Q:=
 fv iZ Tryz.func97 h
def tD:RF:=nv (bQ Tryz.prog Tryz.f120 [] [(0,[2])])
abbrev EL(a b:AV)(L:SH)(Q:R):Prop:=Pc tD 20 Q 0 [] [a,b] L
def Cp(u j:AV)(L:SH)(Q:R)(h:EL u j L Q):ac Tryz.prog 120 [u,j] L Q:=
 fv tD Tryz.func120 h
def fL:RF:=nv (bQ Tryz.prog Tryz.f98 [(27,⟨[1,3,4,5,6],[9],true,[]⟩),(48,⟨[1,3,7],[],true,[]⟩),(9,⟨[1,3,4],[],true,[]⟩)] [(0,[1]),(1,[3]),(5,[5]),(18,[8])])
abbrev x9(Q:R)(a:Kn):Vs->SH->Kn->Prop:=Lp fL 18 Q 27 [a]
abbrev yb(Q:R):Vs->SH->Kn->Prop:=Lp fL 18 Q 48 []
abbrev yd(Q:R):Vs->SH->Kn->Prop:=Lp fL 19 Q 9 []
abbrev Ad(a:AV)(L:SH)(Q:R):Prop:=Pc fL 20 Q 0 [] [a] L
def ye(j:AV)(L:SH)(Q:R)(h:Ad j L Q):ac Tryz.prog 98 [j] L Q:=
 fv fL Tryz.func98 h
def zx:RF:=nv (bQ Tryz.prog Tryz.f27 [(6,⟨[1,2,3,7],[],true,[]⟩)] [(0,[3])])
abbrev JY(a b c:AV)(L:SH)(Q:R):Prop:=Pc zx 20 Q 0 [] [a,b,c] L
def HI(B u j:AV)(L:SH)(Q:R)(h:JY B u j L Q):ac Tryz.prog 27 [B,u,j] L Q:=
 fv zx Tryz.func27 h
def ml:RF:=nv (bQ Tryz.prog Tryz.f99 [(6,⟨[1,2,3,7],[],true,[]⟩)] [(0,[3])])
abbrev Cq(Q:R):Vs->SH->Kn->Prop:=Lp ml 19 Q 6 []
abbrev EM(a b c:AV)(L:SH)(Q:R):Prop:=Pc ml 20 Q 0 [] [a,b,c] L
def Cr(B u j:AV)(L:SH)(Q:R)(h:EM B u j L Q):ac Tryz.prog 99 [B,u,j] L Q:=
 fv ml Tryz.func99 h
def jj:RF:=nv (bQ Tryz.prog Tryz.f62 [(30,⟨[1,4,5],[],true,[]⟩),(12,⟨[1,3],[],true,[]⟩)] [(0,[1]),(12,[6]),(13,[7])])
abbrev Cs(Q:R):Vs->SH->Kn->Prop:=Lp jj 18 Q 30 []
abbrev Ct(Q:R):Vs->SH->Kn->Prop:=Lp jj 19 Q 12 []
abbrev EN(a:AV)(L:SH)(Q:R):Prop:=Pc jj 20 Q 0 [] [a] L
def Cu(j:AV)(L:SH)(Q:R)(h:EN j L Q):ac Tryz.prog 62 [j] L Q:=
 fv jj Tryz.func62 h
def Cw:RF:=nv (bQ Tryz.prog Tryz.f76 [] [])
abbrev Mc(a b:AV)(L:SH)(Q:R):Prop:=Pc Cw 20 Q 0 [] [a,b] L
def JZ(u j:AV)(L:SH)(Q:R)(h:Mc u j L Q):ac Tryz.prog 76 [u,j] L Q:=
 fv Cw Tryz.func76 h
def tE:RF:=nv (bQ Tryz.prog Tryz.f77 [(96091,⟨[2,3,79],[],true,[]⟩),(87082,⟨[2,3,7,71],[],true,[]⟩),(78073,⟨[2,3,7,61],[],true,[]⟩),(63058,⟨[2,3,7,43],[],true,[]⟩),(48043,⟨[2,3,7,26],[],true,[]⟩),(39034,⟨[2,3,7,18],[],true,[]⟩),(30025,⟨[2,3,7,8],[],true,[]⟩)] [(0,[3])])
abbrev EO(a b c:AV)(L:SH)(Q:R):Prop:=Pc tE 20 Q 0 [] [a,b,c] L
def Cx(B u j:AV)(L:SH)(Q:R)(h:EO B u j L Q):ac Tryz.prog 77 [B,u,j] L Q:=
 fv tE Tryz.func77 h
def wq:RF:=nv (bQ Tryz.prog Tryz.f75 [(6,⟨[2,3,5],[],true,[]⟩)] [(0,[2,3])])
abbrev HJ(a b:AV)(L:SH)(Q:R):Prop:=Pc wq 20 Q 0 [] [a,b] L
def EP(u j:AV)(L:SH)(Q:R)(h:HJ u j L Q):ac Tryz.prog 75 [u,j] L Q:=
 fv wq Tryz.func75 h
def jF:RF:=nv (bQ Tryz.prog Tryz.f47 [(105100,⟨[2,4,5,6,70,160],[],true,[]⟩),(63058,⟨[2,4,5,6,11,70,119],[],true,[]⟩),(902,⟨[2,3,4,5,6],[],true,[]⟩)] [(0,[5,6]),(3,[11])])
abbrev wu(Q:R)(a:SH)(b c d e f:AV):Prop:=Pc jF 19 Q 902 [] [b,c,d,f,e] a
abbrev Ag(a b c d e:AV)(L:SH)(Q:R):Prop:=Pc jF 20 Q 0 [] [a,b,c,d,e] L
def yf(E D B u j:AV)(L:SH)(Q:R)(h:Ag E D B u j L Q):ac Tryz.prog 47 [E,D,B,u,j] L Q:=
 fv jF Tryz.func47 h
def zy:RF:=nv (bQ Tryz.prog Tryz.f28 [(6,⟨[0,1,5],[],true,[]⟩)] [])
abbrev J0(a b:AV)(L:SH)(Q:R):Prop:=Pc zy 20 Q 0 [] [a,b] L
def HK(u j:AV)(L:SH)(Q:R)(h:J0 u j L Q):ac Tryz.prog 28 [u,j] L Q:=
 fv zy Tryz.func28 h
def wx:RF:=nv (bQ Tryz.prog Tryz.f43 [(9,⟨[1,2,3,4],[],true,[]⟩)] [(0,[1])])
abbrev HL(a:AV)(L:SH)(Q:R):Prop:=Pc wx 20 Q 0 [] [a] L
def EQ(j:AV)(L:SH)(Q:R)(h:HL j L Q):ac Tryz.prog 43 [j] L Q:=
 fv wx Tryz.func43 h
def po:RF:=nv (bQ Tryz.prog Tryz.f86 [(9,⟨[0,1,5,6],[],true,[]⟩)] [])
abbrev Ah(a b:AV)(L:SH)(Q:R):Prop:=Pc po 20 Q 0 [] [a,b] L
def yg(u j:AV)(L:SH)(Q:R)(h:Ah u j L Q):ac Tryz.prog 86 [u,j] L Q:=
 fv po Tryz.func86 h
def jG:RF:=nv (bQ Tryz.prog Tryz.f87 [(9,⟨[1,2,5,6],[],true,[]⟩)] [(0,[2])])
abbrev yh(Q:R):Vs->SH->Kn->Prop:=Lp jG 19 Q 9 []
abbrev Ai(a b:AV)(L:SH)(Q:R):Prop:=Pc jG 20 Q 0 [] [a,b] L
def mY(u j:AV)(L:SH)(Q:R)(h:Ai u j L Q):ac Tryz.prog 87 [u,j] L Q:=
 fv jG Tryz.func87 h
def mn:RF:=nv (bQ Tryz.prog Tryz.f54 [(165160,⟨[7,12,15],[],true,[]⟩),(126121,⟨[7,12,17],[165160],false,[]⟩),(138,⟨[7,12,18,19],[165160],false,[]⟩),(48043,⟨[2,4,5,6,7,12,15,30,54],[165160],false,[]⟩),(39034,⟨[2,4,5,6,7,12,15,30,45],[165160],false,[]⟩),(908,⟨[2,3,4,5,6,7,12,29],[],true,[]⟩)] [(0,[6])])
abbrev pp(Q:R)(a b c d e f g h:AV)(i:SH):Prop:=Pc mn 19 Q 908 [] [b,a,c,d,g,e,f,h] i
abbrev tF(a b c d e f:AV)(L:SH)(Q:R):Prop:=Pc mn 20 Q 0 [] [a,b,c,d,e,f] L
def Cy(G E D B u j:AV)(L:SH)(Q:R)(h:tF G E D B u j L Q):ac Tryz.prog 54 [G,E,D,B,u,j] L Q:=
 fv mn Tryz.func54 h
def gT:RF:=nv (bQ Tryz.prog Tryz.f100 [(51046,⟨[1,2,3,6,7],[33],false,[]⟩),(33,⟨[1,2,3,6],[],true,[]⟩),(21,⟨[1,2,3,5],[],true,[]⟩),(9,⟨[1,2,3,4],[],true,[]⟩)] [(0,[1])])
abbrev qA(Q:R):Vs->SH->Kn->Prop:=Lp gT 17 Q 33 []
abbrev qB(Q:R):Vs->SH->Kn->Prop:=Lp gT 18 Q 21 []
abbrev qC(Q:R):Vs->SH->Kn->Prop:=Lp gT 19 Q 9 []
abbrev ER(a:AV)(L:SH)(Q:R):Prop:=Pc gT 20 Q 0 [] [a] L
def qD(j:AV)(L:SH)(Q:R)(h:ER j L Q):ac Tryz.prog 100 [j] L Q:=
 fv gT Tryz.func100 h
section
inductive eG (o:Option Nat) (n:Nat) (rows:List (List AV)):SH->SH->Prop where
 |here (R:SH):eG o n rows (ab o n rows++R) R
 |last:eG o n rows (ab o n rows) []
 |there (p:Nat×Blk) {L L':SH}:eG o n rows L L'->eG o n rows (p::L) (p::L')
 |skip (o2:Option Nat) (n2:Nat) (rows2:List (List AV)) {L L':SH}:eG o n rows L L'->eG o n rows (ab o2 n2 rows2++L) (ab o2 n2 rows2++L')
theorem eG.some'{b n:Nat}{rows:List (List AV)}{L L':SH}(h:eG (some b) n rows L L'):dF b ⟨n,rows⟩ L L':=by
 induction h with
 |here R=>exact .here R
 |last=>exact .here []
 |there p h u=>exact .there p u
 |skip B D j h u=>exact u.app _
theorem eG.none'{n:Nat}{rows:List (List AV)}{L L':SH}(h:eG none n rows L L'):L=L':=by
 induction h with
 |here R=>rfl
 |last=>rfl
 |there p h u=>rw[u]
 |skip B D j h u=>rw[u]
theorem eG.perm{o:Option Nat}{n:Nat}{rows:List (List AV)}{L L':SH}(h:eG o n rows L L'):L.Perm (ab o n rows++L'):=by
 cases o with
 |none=>rw[h.none'];exact .refl _
 |some b=>exact h.some'.perm
theorem dF.mem'{b:Nat}{x:Blk}{L L':SH}(h:dF b x L L'):(b,x)∈L:=by
 induction h with
 |here L=>simp
 |there p h j=>simp[j]
section
variable {KL:AV->SH->Prop} {L L':SH}
theorem aM{o:Option Nat}{i n by_ M k:Nat}{rows m:List (List AV)}(E:(M,(⟨n,m⟩:Blk))∈L)(B:eG o n rows L L')(u:rows.length=i)(S:o=none->rows=[])(O:k=m.length)(Z:0<m.length)(h2:2*(i+m.length)*by_<=2^48)(G:2*(i+m.length)<=2^62)(h4:(m.all λr=>r.all AV.one)=true)
  (h:∀b,b∉L.names->KL (.sl b 0 (i+m.length)) ((b,⟨n,rows++m⟩)::L')):W.append n by_ (af o i) (.sl M 0 k) L KL:=by
 subst O;cases o with
 |none=>have j:=S rfl;subst j;simp only[abq]at u;subst u;have N:=B.none';subst N;have:=Hk (KL:=KL) (L:=L) (by_:=by_) (j7 E rfl rfl) (by simpa using h2) (by simpa using G) h4 (by show m.length≠0;omega) (λb D=>by simpa using h b D);exact this
 |some b=>subst u;exact lJ (y:=⟨n,rows⟩) (l:=rows) B.some'.mem' rfl acQ acQ (j7 E rfl rfl) h2 G h4 B.some' (λY D=>h Y D)
theorem CC{α:Type}{f:α->List AV}{l:List α}{o:Option Nat}{i n by_:Nat}{rows:List (List AV)}(G:eG o n rows L L')(M:∀x,(f x).length=n)(j:rows.length=i)(S:o=none->rows=[])(h2:2*(i+l.length)*by_<=2^48)(N:2*(i+l.length)<=2^62)(h4:∀x,(f x).all AV.one=true)
  (h:∀B,(B=none->rows++l.map f=[])->KL (af B (i+l.length)) (ab B n (rows++l.map f)++L')):W.append n by_ (af o i) (.lst (l.map f)) L KL:=by
 have u:((l.map f).all λr=>r.all AV.one)=true:=by rw[abh];intro r j;obtain⟨x,_,rfl⟩:=abP.1 j;exact h4 x
 cases o with
 |none=>
  have D:=S rfl;subst D;simp only[abq]at j;subst j;have E:=G.none';subst E;refine⟨[],l.map f,rfl,vG M,by simpa using h2,by simpa using N,u,λe=>?_,λe b O=>?_⟩
  .have E:l=[]:=by simpa using e
   subst E;exact h none λ_=>rfl
  .have:=h (some b) nofun;simpa[af,ab]using this
 |some b=>subst j;refine lJ (y:=⟨n,rows⟩) (l:=rows) G.some'.mem' rfl acQ acQ (vG M) (by simpa using h2) (by simpa using N) u G.some' (λY O=>?_);have:=h (some Y) nofun;simpa[af,ab]using this
inductive cO:SH->SH->Prop where
 |nil (L:SH):cO L []
 |one {b:Nat} {x:Blk} {L L' R:SH}:dF b x L L'->cO L' R->cO L ((b,x)::R)
 |slot {o:Option Nat} {n:Nat} {rows:List (List AV)} {L L' R:SH}:eG o n rows L L'->cO L' R->cO L (ab o n rows++R)
 |slotl {o:Option Nat} {n:Nat} {rows:List (List AV)} {L L':SH}:eG o n rows L L'->cO L (ab o n rows)
theorem cO.perm{L R:SH}(h:cO L R):∃K,L.Perm (K++R):=by
 induction h with
 |nil L=>exact⟨L,acQ⟩
 |one j hp u=>obtain⟨K,B⟩:=u;exact⟨K,(j.perm.trans ((B.cons _).trans List.perm_middle.symm))⟩
 |slot j hp u=>obtain⟨K,B⟩:=u;refine⟨K,j.perm.trans ((B.append_left _).trans ?_)⟩;rw[<-List.append_assoc,<-List.append_assoc];exact aar.append_right _
 |slotl j=>exact⟨_,j.perm.trans aar⟩
theorem ax.pick{vs j:List AV}{R:SH}(h:cO L R)(u:vs=j):ax vs L j R:=by subst u;obtain⟨K,B⟩:=h.perm;exact ax.forget B
end
end
structure cb where
 op:Int
 a:Int
 b:Int
 c:Int
 n:Int
 site:Int
 deriving Inhabited
def cb.enc(i:cb):List AV:=[.acU i.op,.acU i.a,.acU i.b,.acU i.c,.acU i.n,.acU i.site]
structure i6 where
 regs:Int
 ins:List cb
def i6.enc(c:i6):List AV:=[.acU c.regs,.lst (c.ins.map cb.enc)]
def mo(b:Bool):Int:=if b then 1 else 0
def Md(op a:Int):Int×Bool:=if op=4 then(IntKind.i64.wrap (0-a),true)else if op=5 then(mo (decide (a=0)),true)else(0,false)
def uC(op a b:Int):Int×Bool:=
 if op=6 then(IntKind.i64.wrap (a+b),true)else
 if op=7 then(IntKind.i64.wrap (a-b),true)else
 if op=8 then(IntKind.i64.wrap (a*b),true)else
 if op=9 then(if b=0 then 0 else IntKind.i64.wrap (a.tdiv b),true)else
 if op=10 then(if b=0 then 0 else a.tmod b,true)else
 if op=11 then(mo (decide (a=b)),true)else
 if op=12 then(mo (decide (a≠b)),true)else
 if op=13 then(mo (decide (a<b)),true)else
 if op=14 then(mo (decide (a<=b)),true)else
 if op=15 then(mo (decide (b<a)),true)else
 if op=16 then(mo (decide (b<=a)),true)else
 if op=17 then(mo (decide (a≠0)&&decide (b≠0)),true)else
 if op=18 then(mo (decide (a≠0)||decide (b≠0)),true)else(0,false)
structure aU where
 name:bU
 index:Int
 size:Int
 vol:Bool
 init:Int
 deriving Inhabited
def aU.enc(c:aU):List AV:=[.str c.name,.acU c.index,.acU c.size,.bool c.vol,.acU c.init]
structure bZ where
 name:bU
 rw:Bool
 deriving Inhabited
def bZ.enc(c:bZ):List AV:=[.str c.name,.bool c.rw]
structure cM where
 name:bU
 mutex:Int
 deriving Inhabited
def cM.enc(c:cM):List AV:=[.str c.name,.acU c.mutex]
structure cF where
 thread:Int
 stmt:Int
 line:Int
 deriving Inhabited
def cF.enc(c:cF):List AV:=[.acU c.thread,.acU c.stmt,.acU c.line]
structure aF where
 cells:List aU
 locks:List bZ
 conds:List cM
 futures:List bU
 threads:List bU
 sites:List cF
def aF.enc(w:aF):List AV:=[.lst (w.cells.map aU.enc),.lst (w.locks.map bZ.enc),.lst (w.conds.map cM.enc),.lst (w.futures.map ay),.lst (w.threads.map ay),.lst (w.sites.map cF.enc)]
structure aD where
 thread:Int
 wake:Int
def aD.enc(c:aD):List AV:=[.acU c.thread,.acU c.wake]
structure bP where
 w:aF
 ts:List i6
def bP.enc(c:bP):List AV:=[.lst (c.w.cells.map aU.enc),.lst (c.w.locks.map bZ.enc),.lst (c.w.conds.map cM.enc),.lst (c.w.futures.map ay),.lst (c.w.threads.map ay),.lst (c.w.sites.map cF.enc),.lst (c.ts.map i6.enc)]
def iE(l:List bZ)(s:bU):Int:=lm (λx=>decide (x.name=s)) l 0
def wE(l:List aU)(s:bU):Int:=lm (λx=>decide (x.name=s)) l 0
def bS(i:cb):List Int:=
 if i.op=1\/i.op=6\/i.op=10\/i.op=27 then [i.a]else
 if i.op=2\/i.op=3 then [i.a,i.b]else
 if i.op=4 then [i.a,i.b,i.c]else
 if i.op=7 then [i.a,i.c]else
 if i.op=8\/i.op=26 then [i.b]else
 if i.op=9 then [i.b,i.c]else []
def Gd(w:aF)(i:Int):Bool:=inB i w.cells.length&&decide ((w.cells.getD i.toNat default).size=0)
def Me(w:aF)(i n:Int):Bool:=inB i w.cells.length&&decide ((w.cells.getD i.toNat default).index=0)&&decide ((w.cells.getD i.toNat default).size≠0)&&decide ((w.cells.getD i.toNat default).size=n)
def qG(w:aF)(i:Int)(rw:Bool):Bool:=inB i w.locks.length&&((w.locks.getD i.toNat ⟨[],false⟩).rw==rw)
def sK(w:aF)(i:cb):Bool:=
 if i.op=6 then Gd w i.b else if i.op=8 then Gd w i.a else if i.op=7 then Me w i.b i.n else if i.op=9 then Me w i.a i.n else
 if i.op=11\/i.op=12 then qG w i.a false else if i.op=13\/i.op=14\/i.op=15\/i.op=16 then qG w i.a true else
 if i.op=21\/i.op=22\/i.op=23 then inB i.a w.conds.length else if i.op=24\/i.op=25 then inB i.a w.threads.length else
 if i.op=26 then inB i.a w.futures.length else if i.op=27 then inB i.b w.futures.length else
 if i.op=3 then decide (i.n=4\/i.n=5)else if i.op=4 then decide (6<=i.n/\i.n<=18)else true
def cb.sil(i:cb):Prop:=1<=i.op/\i.op<=5
inductive AZ (ins:List cb):Nat->Nat->Prop where
 |ev (k:Nat) (i:cb):ins[k]? =some i->¬i.sil->AZ ins k 0
 |go (k m:Nat) (i:cb):ins[k]? =some i->i.sil->i.op≠5->AZ ins (k+1) m->AZ ins k (m+1)
 |jump (k m j:Nat) (i:cb):ins[k]? =some i->i.op=5->i.a=(j:Nat)->AZ ins j m->AZ ins k (m+1)
def yn(ins:List cb)(k:Nat):Prop:=∃m,AZ ins k m
def AZ.uniq{O:List cb}{k m1:Nat}(h1:AZ O k m1):∀{N:Nat},AZ O k N->m1=N:=by
 induction h1 with
 |ev k i E M=>
  intro N S;cases S with
  |ev=>rfl
  |go _ _ G u B=>rw[E]at u;cases u;exact absurd B M
  |jump _ _ j G u B=>rw[E]at u;cases u;exact absurd ⟨acN,acN⟩ M
 |go k m i E M Z hm Y=>
  intro N S;cases S with
  |ev _ G u B=>rw[E]at u;cases u;exact absurd M B
  |go _ _ G u B _ D=>rw[Y D]
  |jump _ _ j G u B=>rw[E]at u;cases u;exact absurd B Z
 |jump k m j i E M ha hm Y=>
  intro N S;cases S with
  |ev _ G u B=>rw[E]at u;cases u;exact absurd ⟨acN,acN⟩ B
  |go _ _ G u B Z D=>rw[E]at u;cases u;exact absurd M Z
  |jump _ _ j' G u B ha' D=>
   rw[E]at u;cases u;have:j=j':=by omega
   subst this;rw[Y D]
def AZ.lt{u:List cb}{k m:Nat}(h:AZ u k m):k<u.length:=by
 cases h with
 |ev _ i B _=>exact(abL.1 B).1
 |go _ _ i B=>exact(abL.1 B).1
 |jump _ _ j i B=>exact(abL.1 B).1
def AZ.path{u:List cb}{k m:Nat}(h:AZ u k m):∃l:List Nat,l.length=m+1/\(∀j∈l,j<u.length/\∃q,q<=m/\AZ u j q)/\l.Nodup:=by
 induction h with
 |ev k i N M=>exact⟨[k],rfl,by simp only[aag,forall_eq];exact⟨(AZ.ev k i N M).lt,0,Fd _,.ev k i N M⟩,acQ⟩
 |go k m i N M h5 Z Y=>
  obtain⟨l,h1,O,h3⟩:=Y;have D:=AZ.go k m i N M h5 Z;refine⟨k::l,by simp[h1],λj E=>?_,abG.2 ⟨λB=>?_,h3⟩⟩
  .rcases aaj.1 E with rfl|E
   .exact⟨D.lt,_,Fd _,D⟩
   .obtain⟨S,q,g2,G⟩:=O j E;exact⟨S,q,acN,G⟩
  .obtain⟨S,q,g2,G⟩:=O k B;have:=D.uniq G;omega
 |jump k m j i N M ha Z Y=>
  obtain⟨l,h1,O,h3⟩:=Y;have D:=AZ.jump k m j i N M ha Z;refine⟨k::l,by simp[h1],λj E=>?_,abG.2 ⟨λB=>?_,h3⟩⟩
  .rcases aaj.1 E with rfl|E
   .exact⟨D.lt,_,Fd _,D⟩
   .obtain⟨S,q,g2,G⟩:=O j E;exact⟨S,q,acN,G⟩
  .obtain⟨S,q,g2,G⟩:=O k B;have:=D.uniq G;omega
def Ge{α:Type}[BEq α][LawfulBEq α]:∀{l U:List α},l.Nodup->(∀x∈l,x∈U)->l.length<=U.length
 |[],U,_,_=>by simp
 | x::l,U,hn,hs=>by
  have u:x∈U:=hs x acQ;have B:=abG.1 hn;have:=Ge (l:=l) (U:=U.erase x) B.2 λy j=>(List.mem_erase_of_ne (by rintro rfl;exact B.1 j)).2 (hs y (by simp[j]))
  rw[List.length_erase_of_mem u]at this;have:=List.length_pos_of_mem u;simp only[abi];omega
def Q8:∀{n:Nat} {l:List Nat},l.Nodup->(∀j∈l,j<n)->l.length<=n:=by
 intro n l u h;have:=Ge u (U:=List.range n) λj B=>acd.2 (h j B)
 simpa using this
def AZ.bound{u:List cb}{k m:Nat}(h:AZ u k m):m<u.length:=by obtain⟨l,G,E,D⟩:=h.path;have:=Q8 D (λj B=>(E j B).1);omega
def bH(t:ThrD)(c:Int):Bool:=decide (t.status=3)&&decide (t.cond=c)
def fitsS(w:aF)(s:SyncD):Bool:=decide (s.locks.length=w.locks.length)&&decide (s.done.length=w.futures.length)&&decide (s.threads.length=w.threads.length)&&w.conds.all λc=>inB c.mutex w.locks.length
def rwAt(w:aF)(o:Int):Bool:=(w.locks.getD o.toNat default).rw
def allowedS(w:aF)(k o:Int):Bool:=
 if k=1\/k=2\/k=5\/k=12\/k=13\/k=14\/k=15 then decide (o=-1)
 else if k=3\/k=4 then inB o w.cells.length
 else if k=6\/k=7 then inB o w.locks.length&&!rwAt w o
 else if k=8\/k=9\/k=10\/k=11 then inB o w.locks.length&&rwAt w o
 else if k=16\/k=17\/k=18\/k=19 then inB o w.conds.length
 else if k=20\/k=21 then inB o w.threads.length
 else if k=22\/k=23 then inB o w.futures.length
 else false
def aQ(s:SyncD)(o:Int):LockD:=s.locks.getD o.toNat default
def a8(s:SyncD)(o:Int):ThrD:=s.threads.getD o.toNat default
def qH(s:SyncD)(o:Int):Bool:=s.done.getD o.toNat default
def jI(w:aF)(o:Int):Int:=(w.conds.getD o.toNat default).mutex
def df(w:aF)(s:SyncD)(t k o:Int):Bool:=
 if k=6 then decide ((aQ s o).owner=-1)
 else if k=10 then decide ((aQ s o).owner=-1)&&decide ((aQ s o).readers.length=0)
 else if k=8 then decide ((aQ s o).owner=-1)&&!(aQ s o).readers.contains t
 else if k=7\/k=11 then decide ((aQ s o).owner=t)
 else if k=9 then(aQ s o).readers.contains t
 else if k=12 then decide (s.tx=-1)
 else if k=13 then decide (s.tx=t)
 else if k=14 then !(a8 s t).atomic
 else if k=15 then(a8 s t).atomic
 else if k=16\/k=18\/k=19 then decide ((aQ s (jI w o)).owner=t)
 else if k=20 then decide (o≠t)&&decide ((a8 s o).status=0)
 else if k=21 then decide (o≠t)&&decide ((a8 s o).status=5)
 else if k=22 then !qH s o
 else if k=23 then qH s o
 else true
def aC(w:aF)(s:SyncD)(t k o:Int):Bool:=
  fitsS w s&&inB t w.threads.length&&allowedS w k o &&
    (if k=1 then decide ((a8 s t).status=1)
     else if k=17 then decide ((a8 s t).status=4)&&decide ((a8 s t).cond=o)&&decide ((aQ s (jI w o)).owner=-1)
     else decide ((a8 s t).status=2)&&df w s t k o)
structure Ar(w:aF)(s:SyncD):Prop where
 locks:s.locks.length=w.locks.length
 done:s.done.length=w.futures.length
 threads:s.threads.length=w.threads.length
 conds:∀c∈w.conds,inB c.mutex w.locks.length=true
def cH{w:aF}{s:SyncD}:fitsS w s=true↔Ar w s:=by simp only[fitsS,aas,decide_eq_true_eq,abh];exact⟨λ⟨⟨⟨D,B⟩,u⟩,j⟩=>⟨D,B,u,j⟩,λ⟨D,B,u,j⟩=>⟨⟨⟨D,B⟩,u⟩,j⟩⟩
def Gf{w:aF}{s:SyncD}(h:Ar w s){o:Int}(u:inB o w.conds.length=true):inB (jI w o) s.locks.length=true:=by
 obtain⟨D,B⟩:=ao.1 u;have j:o.toNat<w.conds.length:=by omega
 rw[h.locks];have:w.conds.getD o.toNat default=w.conds[o.toNat]:=by simp[j]
 unfold jI;rw[this];exact h.conds _ (LT j)
def J1{s:SyncD}(j:∀l∈s.locks,l.readers.length<2^40)(o:Int):(aQ s o).readers.length<2^62:=by
 unfold aQ;rcases LE o.toNat s.locks.length with h|h
 .have:=j _ (LT h);simp[h];omega
 .simp[List.getD,aah h];decide
def wF(k:Int):(k<1\/23<k)\/k=1\/k=2\/k=3\/k=4\/k=5\/k=6\/k=7\/k=8\/k=9\/k=10\/k=11\/k=12\/k=13\/k=14\/k=15\/k=16\/k=17\/k=18\/k=19\/k=20\/k=21\/k=22\/k=23:=by omega
def T3{k c:Int}(j:k<1\/23<k)(u:1<=c)(h2:c<=23):decide (k=c)=false:=by simp;omega
def fD{w:aF}{k o:Int}(j:k<1\/23<k):allowedS w k o=false:=by
 unfold allowedS
 repeat (rw[if_neg acN])
section
open Go.RowKit
theorem ko{w w':World}{σ:bO}{T:Nat->Prop}(h:Below w.heap.size w w')(u:∀c,σ.fr c->c<w.heap.size):fT w σ T w' σ T:=
 ⟨h.os,h.tape,h.output,h.size,λc j _=>h.block c j,λc B e j=>⟨B,by rw[h.block c (acm.1 j).1];exact j,rfl⟩,λ_ _ h=>h,rfl,λc j=>h.block c (u c j),λ_ h=>.inl h⟩
theorem yp{w w':World}{σ:bO}{H:ah}(j:bJ w σ H)(h:Below w.heap.size w w'):bJ w' σ H:=
 ⟨j.named,λb B D=>abk (j.lt b B D) h.size,λb x D=>by
  obtain⟨B,M,e,E,G⟩:=j.live b x D;exact⟨B,M,e,E,G.mono (ko h λc u=>(j.apart c u).1) (h.block _ (j.lt b B E))⟩,λc u=>⟨abk (j.apart c u).1 h.size,(j.apart c u).2⟩,j.inj,j.glob.mono (ko h λc u=>(j.apart c u).1)⟩
theorem O1{w w':World}{σ:bO}{H:ah}{b g:Nat}(Z:bJ w σ H)(D:Below w.heap.size w w')(hb:σ b=none)(hlt:b<H.next)(hg:w.heap.size<=g){x:Blk}{cs:Array Value}{e:TypeId}(hgb:w'.heap[g]? =some (.cells cs e (0,0)))
  (even:∀(i:Nat) (r:List AV),x.rows[i]? =some r->r.length=x.size) (room:x.rows.length*x.size<=cs.size)
  (rep:∀(i:Nat) (r:List AV) (j:Nat) (a:AV) (u:Value),x.rows[i]? =some r->r[j]? =some a->cs[i*x.size+j]? =some u->bC w σ (aX σ H) a u) :
  bJ w' (σ.set b ⟨g,0,x.size⟩) (H.new b x)/\fT w σ (aX σ H) w' (σ.set b ⟨g,0,x.size⟩) (aX (σ.set b ⟨g,0,x.size⟩) (H.new b x)):=by
 have hnone:H.get b=none:=by
  cases hg:H.get b with
  |none=>rfl
  |some y=>obtain⟨S,_,_,G,_⟩:=Z.live b y hg;rw[hb]at G;cases G
 have hgl:g<w'.heap.size:=(acm.1 hgb).1;have ext:fT w σ (aX σ H) w' (σ.set b ⟨g,0,x.size⟩) (aX (σ.set b ⟨g,0,x.size⟩) (H.new b x)):=by
  refine⟨D.os,D.tape,D.output,D.size,λc M _=>D.block c M,λc cs' e' M=>⟨cs',by rw[D.block c (acm.1 M).1];exact M,rfl⟩,λc q hq=>bO.set_old hb hq,rfl,λc M=>D.block c (Z.apart c M).1,?_⟩;rintro c (hfr|⟨b',y,S,G,N,Y⟩)
  .exact .inl (.inl hfr)
  rw[ah.get_new]at G;by_cases O:b=b'
  .subst O;rw[bO.set_eq]at N;cases N;exact .inr (by simp only[]at Y;omega)
  .rw[if_neg O]at G;rw[bO.set_ne _ _ O]at N;exact .inl (.inr ⟨b',y,S,G,N,Y⟩)
 refine⟨⟨?_,?_,?_,?_,?_,Z.glob.mono ext⟩,ext⟩
 .intro c S M;by_cases B:b=c
  .subst B;exact hlt
  .rw[bO.set_ne _ _ B]at M;exact Z.named c S M
 .intro c S M;by_cases B:b=c
  .subst B;rw[bO.set_eq]at M;cases M;exact hgl
  .rw[bO.set_ne _ _ B]at M;exact abk (Z.lt c S M) D.size
 .intro c y hy;rw[ah.get_new]at hy;by_cases B:b=c
  .subst B;rw[if_pos rfl]at hy;cases hy;exact⟨_,cs,e,bO.set_eq _ _ _,.of (.inl rfl) ⟨rfl,hgb,even,by simpa using room,λi r j a u G N Y=>(rep i r j a u G N (by simpa using Y)).mono ext⟩⟩
  .rw[if_neg B]at hy;obtain⟨S,cs',e',G,N⟩:=Z.live c y hy;exact⟨S,cs',e',by rw[bO.set_ne _ _ B];exact G,N.mono ext (D.block _ (Z.lt c S G))⟩
 .intro c M;refine⟨abk (Z.apart c M).1 D.size,?_⟩;rintro⟨b',y,S,G,N,Y⟩;rw[ah.get_new]at G;by_cases O:b=b'
  .subst O;rw[bO.set_eq]at N;cases N;have:=(Z.apart c M).1;simp only[]at Y;omega
  .rw[if_neg O]at G;rw[bO.set_ne _ _ O]at N;exact(Z.apart c M).2 ⟨b',y,S,G,N,Y⟩
 .intro c c' y y' S pl' G N Y h4 h5;rw[ah.get_new]at G N;by_cases B:b=c
  .by_cases E:b=c'
   .exact B.symm.trans E
   .subst B;rw[bO.set_eq]at Y;cases Y;rw[bO.set_ne _ _ E]at h4;have:=Z.lt c' pl' h4;simp only[]at h5;omega
  .by_cases E:b=c'
   .subst E;rw[bO.set_eq]at h4;cases h4;rw[bO.set_ne _ _ B]at Y;have:=Z.lt c S Y;simp only[]at h5;omega
   .rw[if_neg B]at G;rw[if_neg E]at N;rw[bO.set_ne _ _ B]at Y;rw[bO.set_ne _ _ E]at h4;exact Z.inj c c' y y' S pl' G N Y h4 h5
theorem NT{w:World}{σ:bO}{T:Nat->Prop}{a:AV}{vs:List Value}(h:fX w σ T [a] vs):∃v,vs=[v]/\bC w σ T a v:=by
 match vs,h with
 |[v],h=>exact⟨v,rfl,h.2 0 a v rfl rfl⟩
 |[],h=>exact absurd h.1 acQ
 |_::_::_,h=>exact absurd h.1 acQ
section
variable {P:Program} {f:FuncId} {e:TypeId} {size bytes:Nat}
def HN(P:Program)(f:FuncId)(e:TypeId)(size bytes:Nat):Prop:=∀(A:Option Addr) (n c:Nat) (xs:List Value) (w:World),Go.Proofs.YtfckbjehkbhkgaaGreat.Flat w size A n xs->(∀x∈xs,x.oneCell'=true)->n*bytes<=140737488355328->(A=none->n=0)->
 Calls P f #[.slice A n c] w λe' w'=>∃v,e'=.returned v/\w'.ownsRow w.heap.size e size v n xs/\Below w.heap.size w w'
theorem CE(hcl:HN P f e size bytes)(O:∃fn c,P.funcs[f]? =some fn/\fn.body=some c)(rows:List (List AV))(hne:rows≠[])(hone:(rows.all λr=>r.all AV.one)=true)(hev:∀r∈rows,r.length=size)(hbig:rows.length*bytes<=140737488355328):
  ac P f [.lst rows] [] λv L=>∃b,v=.sl b 0 rows.length/\L=[(b,⟨size,rows⟩)]:=by
 have E:∀(i:Nat) (r:List AV),rows[i]? =some r->r.length=size:=λi r hr=>hev r (abN hr)
 refine⟨O,λH hb hs=>⟨.sl H.next 0 rows.length,({H with next:=H.next+1}:ah).new H.next ⟨size,rows⟩,[(H.next,⟨size,rows⟩)],?_,?_,H.next,rfl,rfl⟩⟩
 .intro w M vs hW hvs;obtain⟨v,rfl,hv⟩:=NT hvs;obtain⟨A,cap,rfl,hn,hm,ha⟩:=hv.lst_inv;obtain⟨b,o,sz,rfl,hl,hrep⟩:=ha hne;have hl0:0<rows.length:=acE.2 hne;obtain rfl:size=sz:=by rw[<-hl.even 0 rows[0] (mt hl0)];exact(E 0 rows[0] (mt hl0)).symm
  have hdm:∀p,p<rows.length*size->p / size<rows.length/\p % size<size/\p=p / size*size+p % size:=λp hp=>
   ⟨(Nat.div_lt_iff_lt_mul hl.pos).2 hp,Nat.mod_lt _ hl.pos,by rw[Nat.mul_comm];exact(Nat.div_add_mod _ _).symm⟩
  let xs:List Value:=(List.range (rows.length*size)).map λp=>(w.cell? ⟨b,o+p,none⟩).getD undef
  have Y:xs.length=rows.length*size:=by simp[xs]
  have D:∀p u,xs[p]? =some u->w.cell? ⟨b,o+p,none⟩=some u:=λp u Z=>by
   have hp:p<rows.length*size:=by rw[<-Y];exact aH Z
   simp only[xs,abn,acM hp,abp,aaS]at Z;obtain⟨d1,d2,d3⟩:=hdm p hp;obtain⟨q,hq⟩:=hl.cell (p / size) (p % size) d1 d2;rw[abW,<-d3]at hq;rw[hq]at Z ⊢;simp only[abS]at Z;rw[Z]
  have hrp:∀(i:Nat) (r:List AV) (j:Nat) (a:AV) (u:Value),rows[i]? =some r->r[j]? =some a->xs[i*size+j]? =some u->bC w M (aX M H) a u:=λi r j a u S h2 h3=>hrep i r j a u S h2 (by rw[abW];exact D _ u h3)
  have N:∀x∈xs,x.oneCell'=true:=λx hx=>by
   obtain⟨p,hp,rfl⟩:=abC hx;have hp':p<rows.length*size:=by omega
   obtain⟨d1,d2,d3⟩:=hdm p hp';have hr:rows[p / size]? =some rows[p / size]:=mt d1;have hj:p % size<rows[p / size].length:=by rw[E _ _ hr];exact d2
   have S:=hrp (p / size) _ (p % size) _ xs[p] hr (mt hj) (by rw[<-d3];exact mt hp);exact S.one (abh.1 (abh.1 hone _ (LT d1)) _ (LT hj))
  refine(hcl (some ⟨b,o,none⟩) rows.length cap xs w ⟨Y,λ_=>⟨b,o,rfl,D⟩⟩ N hbig (λh=>by cases h)).mono ?_;rintro e' w' ⟨v',rfl,hown,hbl⟩;rcases hown.2 with⟨_,h0⟩|⟨g,cap',cur,rfl,hg,hgb,hnc,hcm,hcs,ht⟩
  .omega
  have hσ:M H.next=none:=by
   cases hq:M H.next with
   |none=>rfl
   |some pl=>exact absurd (hW.named _ pl hq) (Nat.lt_irrefl _)
  have hW1:bJ w M {H with next:=H.next+1}:=hW.congr (λ_=>rfl) (acC _);have G:aX M ({H with next:=H.next+1}:ah)=aX M H:=aX.congr λ_=>rfl
  have hle:rows.length*size<=cur.size:=by rw[hcs];exact abl _ hnc
  obtain⟨g1,g2⟩:=O1 (b:=H.next) (g:=g) (x:=⟨size,rows⟩) hW1 hbl hσ (Nat.lt_succ_self _) hg hgb E hle (λi r j a u S h2 h3=>by
   rw[G];refine hrp i r j a u S h2 ?_;have hj:j<size:=by rw[<-E i r S];exact aH h2
   rw[<-ht,abJ (pY (aH S) hj),abv];exact h3)
  refine⟨_,_,rfl,?_,g1,by rw[G]at g2;exact g2,λc pl B=>?_⟩
  .refine bC.sl H.next 0 rows.length ⟨g,0,size⟩ ⟨g,0,none⟩ cap' (bO.set_eq _ _ _) (.inl rfl) hnc hcm λ_=>⟨acQ,cur,e,hgb,acS⟩
  .by_cases hbc:H.next=c
   .subst hbc;exact .inr (Fd _)
   .rw[bO.set_ne _ _ hbc]at B;exact .inl B
 .refine⟨acC _,λc B=>?_,⟨acQ,λp hp=>?_⟩,λc x B _=>⟨?_,?_⟩,λc B h0=>?_,λc B hlt=>?_⟩
  .have B:H.next+1<=c:=B;rw[ah.get_new,if_neg acN];exact hb c acN
  .simp only[aag]at hp;subst hp;rw[ah.get_new,if_pos rfl]
  .rw[ah.get_new,if_neg];exact B;rintro rfl;rw[hb _ (Fd _)]at B;cases B
  .simp only[aai,abF,aag];rintro rfl;rw[hb _ (Fd _)]at B;cases B
  .rw[ah.get_new,if_neg acN];exact h0
  .simp only[aai,abF,aag]at B;omega
theorem Mg(G:HN P f e size bytes)(j:∃S c,P.funcs[f]? =some S/\S.body=some c):ac P f [.lst []] [] λv L=>v=.lst []/\L=[]:=by
 refine⟨j,λH hb hs=>⟨.lst [],H,[],?_,.refl hb hs,rfl,rfl⟩⟩;intro w Z vs O D;obtain⟨v,rfl,hv⟩:=NT D;obtain⟨A,N,rfl,hn,hm,_⟩:=hv.lst_inv;refine(G A 0 N [] w ⟨acQ,acN⟩ acQ acN (λ_=>rfl)).mono ?_;rintro e' w' ⟨v',rfl,u,B⟩;refine⟨v',Z,rfl,?_,yp O B,ko B λc M=>(O.apart c M).1,λc pl M=>.inl M⟩;rcases u.2 with⟨rfl,_⟩|⟨g,Y,cur,rfl,hg,hgb,hnc,E,hcs,ht⟩
 .exact .lst0 _ _ (by unfold maxLen;omega)
 .exact .lst0 _ _ E
theorem Mh(E:∀(A:Option Addr) (c:Nat) (w:World),Calls P f #[.slice A 0 c] w λS w'=>∃B,S=.returned (.slice B 0 0)/\Below w.heap.size w w')(j:∃O c,P.funcs[f]? =some O/\O.body=some c):ac P f [.lst []] [] λv L=>v=.emp/\L=[]:=by refine⟨j,λH hb hs=>⟨.emp,H,[],?_,.refl hb hs,rfl,rfl⟩⟩;intro w Y vs N D;obtain⟨v,rfl,Z⟩:=NT D;obtain⟨A,M,rfl,hn,hm,_⟩:=Z.lst_inv;refine(E A M w).mono ?_;rintro S w' ⟨B,rfl,u⟩;exact⟨_,Y,rfl,.emp B,yp N u,ko u λc G=>(N.apart c G).1,λc pl G=>.inl G⟩
end
end
section
open Go.RowKit
def cU:Option Nat->Nat->AV
 |none,_=>.lst []
 |some b,n=>.sl b 0 n
def yq{P:Program}{f:FuncId}{e:TypeId}{size u:Nat}(D:HN P f e size u)(j:∃N c,P.funcs[f]? =some N/\N.body=some c)(rows:List (List AV))(B:(rows.all λr=>r.all AV.one)=true)(M:∀r∈rows,r.length=size)(E:rows.length*u<=140737488355328):
  ac P f [.lst rows] [] λv L=>∃o,v=cU o rows.length/\L=ab o size rows/\(o=none->rows=[]):=by
 rcases List.eq_nil_or_concat rows with rfl|⟨Y,y,G⟩
 .exact(Mg D j).mono λv L ⟨S,O⟩=>⟨none,S,O,λ_=>rfl⟩
 .refine(CE D j rows (by rw[G];simp) B M E).mono ?_;rintro v L ⟨b,rfl,rfl⟩;exact⟨some b,rfl,rfl,λh=>by cases h⟩
end
def Fr.perm{B:Nat}{L E L'':SH}{H H':ah}(h:Fr B L H E H')(hp:E.Perm L''):Fr B L H L'' H':=
 ⟨h.next,h.bd,h.sub.perm hp,λb x D u=>⟨(h.keep b x D u).1,λG=>(h.keep b x D u).2 ((hp.map Prod.fst).mem_iff.2 G)⟩,h.dom,λb M j=>h.fresh b ((hp.map Prod.fst).mem_iff.2 M) j⟩
def ac.perm{P:Program}{f:FuncId}{args:List AV}{L:SH}{Q:AV->SH->Prop}(h:ac P f args L λv j=>∃L'',j.Perm L''/\Q v L''):ac P f args L Q:=⟨h.1,λH B u=>by
 obtain⟨v,M,j,G,E,L'',hp,D⟩:=h.2 H B u;exact⟨v,M,L'',G,E.perm hp,D⟩⟩
def fy.refl(K:SH):∀l:List AV,fy K l l
 |[]=>.nil
 |a::l=>.cons (.refl a) (fy.refl K l)
def ax.row{vs:List AV}{L K R:SH}{b n:Nat}{rows rows':List (List AV)}(O:L.Perm (K++(b,⟨n,rows⟩)::R))(B:rows.length=rows'.length)(N:∀(j:Nat) (r E:List AV),rows[j]? =some r->rows'[j]? =some E->fy K r E):ax vs L vs ((b,⟨n,rows'⟩)::R):=by
 refine⟨K,(b,⟨n,rows⟩)::R,O,⟨rfl,λi a a2 D u=>by rw[D]at u;cases u;exact .refl _⟩,rfl,λi p q D u=>?_⟩
 match i with
 |0=>cases D;cases u;exact⟨rfl,rfl,B,λj s s2 g1 Z=>(N j s s2 g1 Z).at_⟩
 |i+1=>simp only[acj]at D u;rw[D]at u;cases u;exact⟨rfl,rfl,rfl,λj r r2 Y M=>by rw[Y]at M;cases M;exact⟨rfl,λk a a2 S G=>by rw[S]at G;cases G;exact .refl _⟩⟩
inductive CF:SH->SH->SH->Prop where
 |nil (L:SH):CF L [] L
 |one {b:Nat} {x:Blk} {L L' R K:SH}:dF b x L L'->CF L' R K->CF L ((b,x)::R) K
 |slot {o:Option Nat} {n:Nat} {rows:List (List AV)} {L L' R K:SH}:eG o n rows L L'->CF L' R K->CF L (ab o n rows++R) K
def CF.perm{L R K:SH}(h:CF L R K):L.Perm (K++R):=by
 induction h with
 |nil L=>simp
 |one u hp j=>exact(u.perm.trans ((j.cons _).trans List.perm_middle.symm))
 |slot u hp j=>refine u.perm.trans ((j.append_left _).trans ?_);rw[<-List.append_assoc,<-List.append_assoc];exact aar.append_right _
def ax.pickE{vs j:List AV}{L R R2:SH}(h:cO L R)(u:vs=j)(B:R=R2):ax vs L j R2:=by subst B;exact ax.pick h u
def ax.rowA{vs E:List AV}{L A R K:SH}{b n:Nat}{rows rows':List (List AV)}(h:CF L (A++(b,⟨n,rows⟩)::R) K)(G:rows.length=rows'.length)(hr:∀(j:Nat) (r N:List AV),rows[j]? =some r->rows'[j]? =some N->fy K r N)(hv:vs=E):ax vs L E (A++(b,⟨n,rows'⟩)::R):=by
 subst hv;refine⟨K,_,h.perm,⟨rfl,λi a O B u=>by rw[B]at u;cases u;exact .refl _⟩,acQ,λi p q B u=>?_⟩;have D:p=q->p.1=q.1/\p.2.size=q.2.size/\p.2.rows.length=q.2.rows.length/\∀(j:Nat) (r M:List AV),p.2.rows[j]? =some r->q.2.rows[j]? =some M->r.length=M.length/\∀(k:Nat) (a O:AV),r[k]? =some a->M[k]? =some O->Fz K a O:=λe=>by subst e;exact⟨rfl,rfl,rfl,λj r M h3 Z=>by rw[h3]at Z;cases Z;exact⟨rfl,λk a O h5 Y=>by rw[h5]at Y;cases Y;exact .refl _⟩⟩
 rcases LE i A.length with S|S
 .rw[aaW S]at B u;rw[B]at u;cases u;exact D rfl
 .rw[aaL S]at B u;generalize i-A.length=k at B u
  match k with
  |0=>cases B;cases u;exact⟨rfl,rfl,G,λj r N g1 g2=>(hr j r N g1 g2).at_⟩
  |k+1=>simp only[acj]at B u;rw[B]at u;cases u;exact D rfl
section
section
variable {KL:AV->SH->Prop} {L L':SH}
theorem dJ{α:Type}{f:α->List AV}{l:List α}{b i n by_:Nat}{rows:List (List AV)}{L L':SH}{KL:AV->SH->Prop}(D:dF b ⟨n,rows⟩ L L')(E:∀x,(f x).length=n)(u:rows.length=i)(h2:2*(i+l.length)*by_<=2^48)(M:2*(i+l.length)<=2^62)(h4:∀x,(f x).all AV.one=true)
  (h:∀j,j∉L.names->KL (.sl j 0 (i+l.length)) ((j,⟨n,rows++l.map f⟩)::L')):W.append n by_ (.sl b 0 i) (.lst (l.map f)) L KL:=by
 have B:((l.map f).all λr=>r.all AV.one)=true:=by rw[abh];intro r u;obtain⟨x,_,rfl⟩:=abP.1 u;exact h4 x
 subst u;exact lJ (y:=⟨n,rows⟩) (l:=rows) D.mem' rfl acQ acQ (vG E) (by simpa using h2) (by simpa using M) B D (λj G=>by simpa using h j G)
end
theorem fm{P:Program}{KL:AV->SH->Prop}{g:FuncId}{args:List AV}{L:SH}{R:AV->SH->Prop}(h:ac P g args [] R)(B:∀v K,R v K->KL v (L++K)):W.callM P g args L KL:=
 ⟨.perm (h.frame (K:=[]) (R:=L) (.refl _) λu K j=>⟨L++K,aar,B u K j⟩)⟩
theorem J2{α β:Type}{f:α->β}{l m:List α}{n:Nat}(h:l.take n=m):((l.map f).drop 0).take n=m.map f:=by rw[List.drop_zero,<-List.map_take,h]
end
section
open Go.RowKit Go.Sort
def yr(l:List Int):List Int:=l.mergeSort λx y=>decide (x<=y)
def A0(l:List Int):(yr l).length=l.length:=by simp[yr]
def J3{xs:List Int}{i:Nat}{r:List AV}(h:(xs.map aa)[i]? =some r):∃x,xs[i]? =some x/\r=[.int .i64 x]:=by
 rw[abn]at h;cases j:xs[i]? with
 |none=>rw[j]at h;cases h
 |some x=>rw[j]at h;cases h;exact⟨x,rfl,rfl⟩
def J4{P:Program}{f:FuncId}(hbody:∃fn c,P.funcs[f]? =some fn/\fn.body=some c)(b:Nat)(xs G:List Int)(hlen:G.length=xs.length)(v:AV)(ret:Addr->Nat->Value)
  (hrep:∀(w':World) (σ:bO) (T:Nat->Prop) (B:de) (a:Addr) (D:Nat),σ b=some B->B.ok->xs.length<=D->D<=maxLen->(0<D->a=⟨B.block,B.base+0*B.size,none⟩/\∃cs e,w'.heap[B.block]? =some (.cells cs e (0,0))/\B.base+(0+D)*B.size<=cs.size)->bC w' σ T v (ret a D))
  (hpos:∀(O S D:Nat) (w:World),Holds (Value.int .i64) w O S xs.toArray->O<w.heap.size->xs.length<=D->Calls P f #[.slice (some ⟨O,S,none⟩) xs.length D] w λe w'=>e=.returned (ret ⟨O,S,none⟩ D)/\∃n os,w'=grow (putRow (Value.int .i64) (Sort.ahead w n) O S G.toArray) os)
  (hzero:xs.length=0->∀(a:Addr) (D:Nat) (w:World),Calls P f #[.slice (some a) 0 D] w λe w'=>e=.returned (ret a D)/\w'=w) :
  ac P f [.sl b 0 xs.length] [(b,⟨1,xs.map aa⟩)] λu L=>u=v/\L=[(b,⟨1,G.map aa⟩)]:=by
 refine⟨hbody,λH hb hs=>⟨v,H.put b (some ⟨1,G.map aa⟩),[(b,⟨1,G.map aa⟩)],?_,?_,rfl,rfl⟩⟩
 .intro w σ vs hW hvs;obtain⟨v,rfl,hv⟩:=NT hvs;obtain⟨B,a,D,rfl,E,hnc,hmx,ha⟩:=hv.sl_inv;have hg:H.get b=some ⟨1,xs.map aa⟩:=hs.get (b,⟨1,xs.map aa⟩) acQ;obtain⟨pl',cs,e,g1,N⟩:=hW.live b _ hg;rw[E]at g1;cases g1;replace N:=N.1 (hv.sl_ok E);have hsz:B.size=1:=N.size;rcases abZ xs.length with h0|h0
  .have Z:xs=[]:=abU.1 h0;have hy:G=[]:=abU.1 acN;have hz:=hzero h0 a D w;rw[h0];refine hz.mono ?_;rintro e' w' ⟨rfl,rfl⟩;have hput:=hW.put hg E (mJ.refl N.block) (x':=⟨1,G.map aa⟩) N.size.symm (by simp[hy]) (by simpa[hy,Z]using N.room) (by simp[hy]);exact⟨_,σ,rfl,hrep _ _ _ B a D E (hv.sl_ok E) hnc hmx ha,hput.1,hput.2,λc B M=>.inl M⟩
  .have ha':=ha;obtain⟨rfl,cs',te,hcs',hroom⟩:=ha acN;rw[N.block]at hcs';cases hcs';have hr:=N.room;simp only[acl,Nat.mul_one]at hr;have hcell:∀(i:Nat) (x:Int),xs[i]? =some x->cs[B.base+i]? =some (.int .i64 x):=λi x Z=>by
    have hi:=aH Z;have Y:B.base+i<cs.size:=by omega
    have:=N.rep i [.int .i64 x] 0 (.int .i64 x) cs[B.base+i] (by simp[Z,aa]) rfl (by simp[abu Y]);cases hq:cs[B.base+i]with
    |_=>rw[hq]at this;cases this<;>rw[abu Y,hq]
   have hH:Holds (Value.int .i64) w B.block (B.base+0*B.size) xs.toArray:=λj hj=>by
    have hj':j<xs.length:=by simpa using hj
    refine⟨?_,by simp[World.frozen?,N.block]⟩;have:=hcell j xs[j] (mt hj');simp[World.cell?,N.block,this,hj']
   refine(hpos B.block (B.base+0*B.size) D w hH (hW.lt b B E) hnc).mono ?_;rintro e' w' ⟨rfl,n,os,rfl⟩;have hz:B.base+0*B.size=B.base:=by omega
   rw[show putRow (Value.int .i64) (Sort.ahead w n) B.block (B.base+0*B.size) G.toArray=putRow (Value.int .i64) (Sort.ahead w n) B.block B.base G.toArray by rw[hz]];have hw:mJ w (putRow (Value.int .i64) (Sort.ahead w n) B.block B.base G.toArray) B.block cs (putCells (Value.int .i64) B.base G.toArray cs) e:=
    ⟨rfl,rfl,rfl,by simp[Sort.ahead],N.block,by simp[putRow,mapBlock,Sort.ahead,Array.getElem?_modify,N.block,onCells],by simp[putCells],λd hd=>by
     have:B.block≠d:=λe=>hd e.symm
     simp[putRow,mapBlock,Sort.ahead,Array.getElem?_modify,this]⟩
   obtain⟨p1,p2⟩:=hW.put hg E hw (x':=⟨1,G.map aa⟩) N.size.symm (λi r hr=>by obtain⟨x,_,rfl⟩:=J3 hr;rfl) (by simp only[acl,Nat.mul_one];omega) (λi r j a u hr hj hu=>by
    obtain⟨x,Z,rfl⟩:=J3 hr
    match j,hj with
    |0,hj=>
     cases hj;have hi:=aH Z;have Y:B.base+i<cs.size:=by omega
     simp only[Nat.mul_one,acz]at hu;have:(putCells (Value.int .i64) B.base G.toArray cs)[B.base+i]? =some (.int .i64 x):=by
      have hx':G[i]=x:=by rw[mt hi]at Z;exact Option.some.inj Z
      simp[putCells,Y,hi,hx']
     rw[this]at hu;cases hu;exact .int _ _
    |j+1,hj=>simp at hj)
   generalize hw1:putRow (Value.int .i64) (Sort.ahead w n) B.block B.base G.toArray=w1 at p1 p2;have hbl:Below w1.heap.size w1 (grow w1 os):=⟨rfl,rfl,rfl,by simp[grow],λk hk=>heap_grow_old _ _ hk⟩;have hE:=p2.trans (ko hbl λc M=>(p1.apart c M).1);exact⟨_,σ,rfl,hrep _ _ _ B _ D E (hv.sl_ok E) hnc hmx (λh=>⟨rfl,by obtain⟨cs2,k1,k2⟩:=hE.shape _ _ _ N.block;exact⟨cs2,_,k1,acN⟩⟩),yp p1 hbl,p2.trans (ko hbl λc M=>(p1.apart c M).1),λc B M=>.inl M⟩
 .have hg:H.get b=some ⟨1,xs.map aa⟩:=hs.get (b,⟨1,xs.map aa⟩) acQ;refine⟨Fd _,λc M=>?_,⟨acQ,λp hp=>?_⟩,λc x M hn=>⟨?_,?_⟩,λc M h0=>?_,λc M hlt=>?_⟩
  .rw[ah.get_put,if_neg];exact hb c M;rintro rfl;rw[hb _ M]at hg;cases hg
  .simp only[aag]at hp;subst hp;rw[ah.get_put,if_pos rfl]
  .rw[ah.get_put,if_neg];exact M;rintro rfl;exact hn acQ
  .simpa using hn
  .rw[ah.get_put,if_neg];exact h0;rintro rfl;rw[hg]at h0;cases h0
  .simpa using M
def T6(b:Nat)(xs:List Int)(E:xs.length<4611686018427387904):ac Tryz.prog 79 [.sl b 0 xs.length] [(b,⟨1,xs.map aa⟩)] λv L=>v=.tup []/\L=[(b,⟨1,(yr xs).map aa⟩)]:=
 J4 ⟨_,_,Tryz.func79,rfl⟩ b xs (yr xs) (A0 xs) (.tup []) (λ_ _=>.tuple #[]) (λ_ _ _ _ _ _ _ _ _ _ _=>.tup [] [] rfl acQ)
  (λD B j w G u _=>Tryz.slices_Sort_int D B j xs w G u E) (λ_ a j w=>Tryz.slices_Sort_int_none (some a) j w)
def qK(l:List Int):(Lib.compact l).length<=l.length:=by unfold Lib.compact Lib.compactUpTo;rw[acl];exact abe (aci _ _) acQ
def Mi(b:Nat)(xs:List Int)(Y:xs.length<=9223372036854775807):ac Tryz.prog 80 [.sl b 0 xs.length] [(b,⟨1,xs.map aa⟩)] λv L=>v=.sl b 0 (Lib.compact xs).length/\L=[(b,⟨1,(Lib.compact xs++List.replicate (xs.length-(Lib.compact xs).length) 0).map aa⟩)]:=
 J4 ⟨_,_,Tryz.func80,rfl⟩ b xs _ (by have:=qK xs;simp;omega) (.sl b 0 (Lib.compact xs).length) (λa j=>.slice (some a) (Lib.compact xs).length j)
  (λw_ σ T O a j E G D h3 h4=>.sl b 0 _ O a j E G (abe (qK xs) D) h3 h4)
  (λM B j w Z N u=>(Tryz.slices_Compact_int M B j xs w Z Y u).mono λe w' ⟨E,q,D⟩=>⟨E,q,#[],by rw[D,grow_empty]⟩)
  (λG a j w=>by
   have S:xs=[]:=abU.1 G;subst S;exact Tryz.slices_Compact_int_empty (some a) j w)
def rP(xs:List Int)(G:xs.length*8<=140737488355328):ac Tryz.prog 52 [.lst (xs.map aa)] [] λv L=>∃o,v=af o xs.length/\L=ab o 1 (xs.map aa)/\(o=none->xs=[]):=by
 rcases List.eq_nil_or_concat xs with rfl|⟨S,y,j⟩
 .exact(Mh cloneI_zero ⟨_,_,Tryz.func52,rfl⟩).mono λv L ⟨B,O⟩=>⟨none,B,O,λ_=>rfl⟩
 .have u:xs.map aa≠[]:=by rw[j];simp
  refine(CE (λA n c xs w M B E N=>cloneI_any A n c xs w M B E N) ⟨_,_,Tryz.func52,rfl⟩ (xs.map aa) u (by simp[aa,AV.one]) (λr D=>by obtain⟨x,_,rfl⟩:=abP.1 D;rfl) (by simpa using G)).mono ?_;rintro v L ⟨b,rfl,rfl⟩;exact⟨some b,by simp[af],rfl,λh=>by cases h⟩
end
section
open Go.RowKit
def rQ(xs:List Bool)(B:xs.length<=140737488355328):ac Tryz.prog 51 [.lst (xs.map au)] [] λv L=>∃o,v=cU o xs.length/\L=ab o 1 (xs.map au)/\(o=none->xs=[]):=by refine(yq (λA n c xs w D G u E=>cloneB_any A n c xs w D G u E) ⟨_,_,Tryz.func51,rfl⟩ (xs.map au) (by simp[au,AV.one]) (λr j=>by obtain⟨x,_,rfl⟩:=abP.1 j;rfl) (by simpa using B)).mono ?_;rintro v L ⟨o,rfl,rfl,h⟩;exact⟨o,acQ,rfl,λe=>by simpa using h e⟩
end
section
open Go.RowKit
def yu(xs:List ThrD)(B:xs.length*24<=140737488355328):ac Tryz.prog 69 [.lst (xs.map ThrD.enc)] [] λv L=>∃o,v=cU o xs.length/\L=ab o 3 (xs.map ThrD.enc)/\(o=none->xs=[]):=by refine(yq (λA n c xs w D G u E=>cloneT_any A n c xs w D G u E) ⟨_,_,Tryz.func69,rfl⟩ (xs.map ThrD.enc) (by simp[ThrD.enc,AV.one]) (λr j=>by obtain⟨x,_,rfl⟩:=abP.1 j;rfl) (by simpa using B)).mono ?_;rintro v L ⟨o,rfl,rfl,h⟩;exact⟨o,acQ,rfl,λe=>by simpa using h e⟩
end
def jJ(d:Array Int)(G:∀i j,i<j->j<d.size->d[i]!<=d[j]!):∀m,m<=d.size->
  (Lib.compactUpTo d m).Pairwise (·<·)/\(∀x∈Lib.compactUpTo d m,∃j,j<m/\x=d[j]!)/\(∀j,j<m->d[j]!∈Lib.compactUpTo d m)
 |0,_=>⟨by simp[Lib.compactUpTo],by simp[Lib.compactUpTo],by intro j D;omega⟩
 | m+1,hm=>by
  obtain⟨Y,h2,M⟩:=jJ d G m acN;rw[Lib.compactUpTo_succ];by_cases B:Lib.keeps d m=true
  .rw[if_pos B];refine⟨?_,?_,?_⟩
   .rw[List.pairwise_append];refine⟨Y,acQ,?_⟩;intro x u y N;obtain⟨j,D,rfl⟩:=h2 x u;simp at N;subst N;have hle:=G j m D acN;have Z:d[j]!≠d[m]! :=by
     intro O;have E:0<m:=by omega
     have h4:d[m]!≠d[m-1]! :=by intro S;rw[Lib.keeps_neg E S]at B;cases B
     have S:d[j]!<=d[m-1]! :=by
      rcases LE j (m-1)with h|h
      .exact G j (m-1) h acN
      .rw[show j=m-1 from by omega];exact Int.le_refl _
     have h6:d[m-1]!<=d[m]! :=G (m-1) m acN acN;exact h4 acN
    omega
   .intro x u;rw[aak]at u;rcases u with u|u
    .obtain⟨j,D,e⟩:=h2 x u;exact⟨j,acN,e⟩
    .simp at u;exact⟨m,acN,u⟩
   .intro j D;rw[aak];rcases LE j m with h|h
    .exact .inl (M j h)
    .rw[show j=m from by omega];exact .inr acQ
  .rw[if_neg B,aby];have E:0<m:=by
    rcases abZ m with h|h
    .subst h;exact absurd (Lib.keeps_lt_one d 0 acN) B
    .exact h
   have O:d[m]! =d[m-1]! :=by apply Classical.byContradiction;intro h;exact B (Lib.keeps_pos h)
   refine⟨Y,λx u=>?_,λj D=>?_⟩
   .obtain⟨j,D,e⟩:=h2 x u;exact⟨j,acN,e⟩
   .rcases LE j m with h|h
    .exact M j h
    .rw[show j=m from by omega,O];exact M (m-1) acN
def Ua(l:List Int)(j:Nat)(u:j<l.length):l.toArray[j]! =l[j]:=by rw[getElem!_pos _ _ (by simpa using u)];simp
def CK(l:List Int):∀i j,i<j->j<(yr l).toArray.size->(yr l).toArray[i]!<=(yr l).toArray[j]! :=by
 intro i j B D;have u:j<(yr l).length:=by simpa using D
 rw[Ua _ i acN,Ua _ j u];have hp:(yr l).Pairwise (λx y=>(decide (x<=y))=true):=List.pairwise_mergeSort (λa b c=>by simp;omega) (λa b=>by simp;omega) l;have:=(List.pairwise_iff_getElem.1 hp) i j acN u B;simpa using this
def Qj(l:List Int):List Int:=Lib.compact (yr l)
def HU(l:List Int)(x:Int):x∈Qj l↔x∈l:=by
 obtain⟨M,G,E⟩:=jJ (yr l).toArray (CK _) (yr l).length acQ;have D:∀y,y∈yr l↔y∈l:=λy=>by simp[yr,List.mem_mergeSort]
 unfold Qj Lib.compact;constructor
 .intro B;obtain⟨j,u,rfl⟩:=G x B;rw[Ua _ j u];exact(D _).1 (LT _)
 .intro B;obtain⟨j,u,rfl⟩:=abC ((D x).2 B);rw[<-Ua _ j u];exact E j u
def NX(l:List Int):(Qj l).Pairwise (·<·):=
 (jJ (yr l).toArray (CK _) (yr l).length acQ).1
def Ub{a b:List Int}(B:a.Pairwise (·<·))(u:b.Pairwise (·<·))(h:∀x,x∈a↔x∈b):a=b:=by
 have E:a.Nodup:=B.imp λj=>by omega
 have D:b.Nodup:=u.imp λj=>by omega
 exact List.Perm.eq_of_pairwise (le:=λx y:Int=>x<y) (λx y _ _ M G=>by omega) B u ((List.perm_ext_iff_of_nodup E D).2 h)
structure bI where
 pc:Int
 regs:List Int
 taint:List (List Int)
 ev:Int
def eX(l:List Int):List AV:=[.lst (l.map aa)]
def bI.enc(s:bI):List AV:=[.acU s.pc,.lst (s.regs.map aa),.lst (s.taint.map eX),.acU s.ev]
def bI.zero:bI:=⟨0,[],[],0⟩
def bI.has(s:bI)(r:Int):Bool:=inB r s.regs.length
def bI.reg(s:bI)(r:Int):Int:=s.regs.getD r.toNat 0
def bI.tnt(s:bI)(r:Int):List Int:=s.taint.getD r.toNat []
def bI.put(s:bI)(a v:Int)(t:List Int):bI:=⟨IntKind.i64.wrap (s.pc+1),s.regs.set a.toNat v,s.taint.set a.toNat t,s.ev⟩
def Rm(n:Int):Int:=if n<1\/100<n then 0 else n
def Zp(n a:Int):Md (Rm n) a=Md n a:=by
 unfold Rm;split
 .rename_i h;unfold Md;simp only[show¬(0:Int)=4 by omega,show¬(0:Int)=5 by omega,show¬n=4 by omega,show¬n=5 by omega,if_false]
 .rfl
def WX(n a b:Int):uC (Rm n) a b=uC n a b:=by
 unfold Rm;split
 .rename_i h;unfold uC;rw[if_neg acN,if_neg acN,if_neg acN,if_neg acN,if_neg acN,if_neg acN,if_neg acN,if_neg acN,if_neg acN,if_neg acN,if_neg acN,if_neg acN,if_neg acN];rw[if_neg acN,if_neg acN,if_neg acN,if_neg acN,if_neg acN,if_neg acN,if_neg acN,if_neg acN,if_neg acN,if_neg acN,if_neg acN,if_neg acN,if_neg acN]
 .rfl
def cL(i:cb)(s:bI):Option bI:=
 if i.op=1 then(if s.has i.a then some (s.put i.a i.n [])else none)else
 if i.op=2 then(if s.has i.a&&s.has i.b then some (s.put i.a (s.reg i.b) (s.tnt i.b))else none)else
 if i.op=3 then(if s.has i.a&&s.has i.b&&(Md i.n (s.reg i.b)).2 then some (s.put i.a (Md i.n (s.reg i.b)).1 (s.tnt i.b))else none)else
 if i.op=4 then(if s.has i.a&&s.has i.b&&s.has i.c&&(uC i.n (s.reg i.b) (s.reg i.c)).2 then some (s.put i.a (uC i.n (s.reg i.b) (s.reg i.c)).1 (Qj (s.tnt i.b++s.tnt i.c)))else none)else
 some {s with pc:=i.a}
def gA(ins:List cb):Nat->bI->bI×Bool
 |0,s=>if inB s.pc ins.length then(if(ins.getD s.pc.toNat default).op<1\/5<(ins.getD s.pc.toNat default).op then(s,true)else(bI.zero,false))else(bI.zero,false)
 | k+1,s=>if inB s.pc ins.length then(if(ins.getD s.pc.toNat default).op<1\/5<(ins.getD s.pc.toNat default).op then(s,true)else
   match cL (ins.getD s.pc.toNat default) s with
   |none=>(bI.zero,false)
   |some s2=>gA ins k s2)else(bI.zero,false)
def cD(c:i6)(s:bI):bI×Bool:=
 if(s.regs.length:Int)=c.regs/\(s.taint.length:Int)=c.regs then gA c.ins c.ins.length s else(bI.zero,false)
def Ka(p:bI×Bool):AV:=.tup [.agg p.1.enc,.bool p.2]
structure j8(U:List Int)(s:bI):Prop where
 len:s.taint.length=s.regs.length
 small:s.regs.length<2^40
 short:∀l∈s.taint,l.length<=2^30
 sub:∀l∈s.taint,∀x∈l,x∈U
def Gm:∀{l U:List Int},l.Nodup->(∀x∈l,x∈U)->l.length<=U.length
 |[],U,_,_=>by simp
 | x::l,U,hn,hs=>by
  have u:x∈U:=hs x acQ;have B:=abG.1 hn;have:=Gm (l:=l) (U:=U.erase x) B.2 λy j=>(List.mem_erase_of_ne (by rintro rfl;exact B.1 j)).2 (hs y (by simp[j]))
  rw[List.length_erase_of_mem u]at this;have:=List.length_pos_of_mem u;simp only[abi];omega
def Gn{U l:List Int}(h:∀x∈l,x∈U):(Qj l).length<=U.length:=by have j:(Qj l).Nodup:=(NX l).imp (λ{a b} (h:a<b)=>by omega);exact Gm j λx u=>h x ((HU l x).1 u)
def j8.tnt{U:List Int}{s:bI}(h:j8 U s)(r:Int):(s.tnt r).length<=2^30/\∀x∈s.tnt r,x∈U:=by
 unfold bI.tnt;rw[acG];cases j:s.taint[r.toNat]? with
 |none=>simp
 |some l=>exact⟨h.short l (abN j),h.sub l (abN j)⟩
def j8.put{U:List Int}{s:bI}(h:j8 U s)(a v:Int){t:List Int}(u:t.length<=2^30)(h2:∀x∈t,x∈U):j8 U (s.put a v t):=by
 refine⟨by simp[bI.put,h.len],by simpa[bI.put]using h.small,λl j=>?_,λl j=>?_⟩
 .rcases aca j with g|g
  .exact h.short l g
  .rw[g];exact u
 .rcases aca j with g|g
  .exact h.sub l g
  .rw[g];exact h2
def j8.step{U:List Int}(D:U.length<=2^30){s s2:bI}{i:cb}(h:j8 U s)(j:cL i s=some s2):j8 U s2:=by
 unfold cL at j;split at j
 .split at j
  .cases j;exact h.put _ _ acQ acQ
  .cases j
 .split at j
  .split at j
   .cases j;exact h.put _ _ (h.tnt _).1 (h.tnt _).2
   .cases j
  .split at j
   .split at j
    .cases j;exact h.put _ _ (h.tnt _).1 (h.tnt _).2
    .cases j
   .split at j
    .split at j
     .cases j;have B:∀x∈s.tnt i.b++s.tnt i.c,x∈U:=λx u=>by
       rcases aak.1 u with g|g
       .exact(h.tnt _).2 x g
       .exact(h.tnt _).2 x g
      exact h.put _ _ (abe (Gn B) D) λx u=>B x ((HU _ _).1 u)
     .cases j
    .cases j;exact⟨h.len,h.small,h.short,h.sub⟩
def O7(p:Int×Bool):AV:=.tup [.acU p.1,.bool p.2]
def tJ:RF:=nv (bQ Tryz.prog Tryz.f193 [] [])
abbrev E6(a b:AV)(L:SH)(Q:R):Prop:=Pc tJ 20 Q 0 [] [a,b] L
def CZ(u j:AV)(L:SH)(Q:R)(h:E6 u j L Q):ac Tryz.prog 193 [u,j] L Q:=
 fv tJ Tryz.func193 h
