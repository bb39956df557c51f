/- part -/
import Derived.Test.YtfcfhjadaknphaaGreatDoorQxl
set_option linter.all false
set_option maxRecDepth 100000
set_option maxHeartbeats 0
namespace Go.Proofs.YtfcfhjadaknphaaGreatDoor.Am
def PS{k c:Int}(j:k<1\/23<k)(u:1<=c)(h2:c<=23):decide (k=c)=false:=by simp;omega
def P0{a b:List Int}(B:a.Pairwise (·<·))(u:b.Pairwise (·<·))(h:∀x,x∈a↔x∈b):a=b:=by
 have E:a.Nodup:=B.imp λj=>by omega
 have D:b.Nodup:=u.imp λj=>by omega
 exact List.Perm.eq_of_pairwise (le:=λx y:Int=>x<y) (λx y _ _ M G=>by omega) B u ((List.perm_ext_iff_of_nodup E D).2 h)
def Nr(n:Int):Int:=if n<1\/100<n then 0 else n
def U3(n a:Int):Ay (Nr n) a=Ay n a:=by
 unfold Nr;split
 .rename_i h;unfold Ay;simp only[show¬(0:Int)=4 by omega,show¬(0:Int)=5 by omega,show¬n=4 by omega,show¬n=5 by omega,if_false]
 .rfl
def Sp(n a b:Int):jV (Nr n) a b=jV n a b:=by
 unfold Nr;split
 .rename_i h;unfold jV;rw[if_neg YC,if_neg YC,if_neg YC,if_neg YC,if_neg YC,if_neg YC,if_neg YC,if_neg YC,if_neg YC,if_neg YC,if_neg YC,if_neg YC,if_neg YC];rw[if_neg YC,if_neg YC,if_neg YC,if_neg YC,if_neg YC,if_neg YC,if_neg YC,if_neg YC,if_neg YC,if_neg YC,if_neg YC,if_neg YC,if_neg YC]
 .rfl
def su:RF:=nv (cg Tryz.prog Tryz.f43 [] [(0,[3,4])])
abbrev CH(a b c:AV)(L:SH)(Q:R):Prop:=Pc su 20 Q 0 [] [a,b,c] L
def A0(B u j:AV)(L:SH)(Q:R)(h:CH B u j L Q):ac Tryz.prog 43 [B,u,j] L Q:=
 fv su Tryz.func43 h
def sw:RF:=nv (cg Tryz.prog Tryz.f19 [] [(0,[3,4]),(1,[7])])
abbrev CI(a b c:AV)(L:SH)(Q:R):Prop:=Pc sw 20 Q 0 [] [a,b,c] L
def A3(B u j:AV)(L:SH)(Q:R)(h:CI B u j L Q):ac Tryz.prog 19 [B,u,j] L Q:=
 fv sw Tryz.func19 h
def gN:RF:=nv (cg Tryz.prog Tryz.f36 [(39,⟨[1,2,3,6],[],true,[]⟩),(27,⟨[1,2,3,5],[],true,[]⟩),(15,⟨[1,2,3,4],[],true,[]⟩)] [(0,[1])])
abbrev Bf(Q:R):Vs->SH->Kn->Prop:=Lp gN 17 Q 39 []
abbrev Bg(Q:R):Vs->SH->Kn->Prop:=Lp gN 18 Q 27 []
abbrev Bh(Q:R):Vs->SH->Kn->Prop:=Lp gN 19 Q 15 []
abbrev CN(a:AV)(L:SH)(Q:R):Prop:=Pc gN 20 Q 0 [] [a] L
def Bi(j:AV)(L:SH)(Q:R)(h:CN j L Q):ac Tryz.prog 36 [j] L Q:=
 fv gN Tryz.func36 h
def oa:RF:=nv (cg Tryz.prog Tryz.f122 [(9,⟨[1,2,3,4],[],true,[]⟩)] [(0,[1])])
abbrev sE(Q:R):Vs->SH->Kn->Prop:=Lp oa 19 Q 9 []
abbrev Fb(a:AV)(L:SH)(Q:R):Prop:=Pc oa 20 Q 0 [] [a] L
def CO(j:AV)(L:SH)(Q:R)(h:Fb j L Q):ac Tryz.prog 122 [j] L Q:=
 fv oa Tryz.func122 h
def oe:RF:=nv (cg Tryz.prog Tryz.f124 [(12,⟨[2,3,5],[],true,[]⟩)] [(0,[2,3]),(6,[6])])
abbrev CQ(Q:R):Vs->SH->Kn->Prop:=Lp oe 19 Q 12 []
abbrev Fe(a b:AV)(L:SH)(Q:R):Prop:=Pc oe 20 Q 0 [] [a,b] L
def CR(u j:AV)(L:SH)(Q:R)(h:Fe u j L Q):ac Tryz.prog 124 [u,j] L Q:=
 fv oe Tryz.func124 h
def vf:RF:=nv (cg Tryz.prog Tryz.f125 [] [])
abbrev Ff(a:AV)(L:SH)(Q:R):Prop:=Pc vf 20 Q 0 [] [a] L
def CS(j:AV)(L:SH)(Q:R)(h:Ff j L Q):ac Tryz.prog 125 [j] L Q:=
 fv vf Tryz.func125 h
def qj:RF:=nv (cg Tryz.prog Tryz.f126 [(15010,⟨[2,3,6,7],[],true,[]⟩)] [(0,[2,3])])
abbrev Bj(a b:AV)(L:SH)(Q:R):Prop:=Pc qj 20 Q 0 [] [a,b] L
def yW(u j:AV)(L:SH)(Q:R)(h:Bj u j L Q):ac Tryz.prog 126 [u,j] L Q:=
 fv qj Tryz.func126 h
def oN:RF:=nv (cg Tryz.prog Tryz.f77 [(72067,⟨[6,8,9,10],[],true,[]⟩),(69064,⟨[6,8,9,10,98],[72067],false,[]⟩)] [(0,[3,4]),(3,[8]),(4,[9])])
abbrev yX(a b c:AV)(L:SH)(Q:R):Prop:=Pc oN 20 Q 0 [] [a,b,c] L
def w9(B u j:AV)(L:SH)(Q:R)(h:yX B u j L Q):ac Tryz.prog 77 [B,u,j] L Q:=
 fv oN Tryz.func77 h
def oO:RF:=nv (cg Tryz.prog Tryz.f37 [] [(0,[3,4]),(1,[7])])
abbrev yY(a b c:AV)(L:SH)(Q:R):Prop:=Pc oO 20 Q 0 [] [a,b,c] L
def xc(B u j:AV)(L:SH)(Q:R)(h:yY B u j L Q):ac Tryz.prog 37 [B,u,j] L Q:=
 fv oO Tryz.func37 h
def gr:RF:=nv (cg Tryz.prog Tryz.f75 [(123118,⟨[4,5,6,7,9,14],[],true,[]⟩),(111106,⟨[3,4,5,6,7,9,14,16],[],true,[]⟩),(102097,⟨[3,4,5,6,7,9,14,15,16],[],true,[]⟩),(54049,⟨[3,4,5,6,7,9,14,15,16,77,78],[102097],false,[]⟩),(2108,⟨[3,4,5,6,7,9,11,12,51],[],true,[]⟩)] [(0,[3,5]),(4,[11]),(10,[15])])
abbrev gO(Q:R):Vs->SH->Prop:=Jp gr 16 Q 123118 []
abbrev lZ(Q:R):Vs->SH->Prop:=Jp gr 17 Q 111106 []
abbrev i7(Q:R):Vs->SH->Prop:=Jp gr 18 Q 102097 []
abbrev sF(Q:R)(a b c d e f g h i:AV)(j:SH):Prop:=Pc gr 19 Q 2108 [] [d,a,c,g,h,e,b,f,i] j
abbrev Fg(a b c:AV)(L:SH)(Q:R):Prop:=Pc gr 20 Q 0 [] [a,b,c] L
def CU(B u j:AV)(L:SH)(Q:R)(h:Fg B u j L Q):ac Tryz.prog 75 [B,u,j] L Q:=
 fv gr Tryz.func75 h
def og:RF:=nv (cg Tryz.prog Tryz.f35 [(6,⟨[2,3,4,5,9,10],[],true,[]⟩)] [(0,[4]),(4,[11,12])])
abbrev CV(Q:R):Vs->SH->Kn->Prop:=Lp og 19 Q 6 []
abbrev Fh(a b c d:AV)(L:SH)(Q:R):Prop:=Pc og 20 Q 0 [] [a,b,c,d] L
def CW(D B u j:AV)(L:SH)(Q:R)(h:Fh D B u j L Q):ac Tryz.prog 35 [D,B,u,j] L Q:=
 fv og Tryz.func35 h
def eX:RF:=nv (cg Tryz.prog Tryz.f16 [(33028,⟨[2,4,5,6,7],[],true,[]⟩),(18,⟨[2,4,5,6,7,8],[12,33028],false,[]⟩),(12,⟨[2,4,5,6,7],[33028],false,[]⟩)] [(0,[2])])
abbrev lE(Q:R):Vs->SH->Prop:=Jp eX 19 Q 33028 []
abbrev vg(a b:Kn):Vs->SH->Kn->Prop:=Lp eX 18 q0 18 [a,b]
abbrev vh(a:Kn):Vs->SH->Kn->Prop:=Lp eX 19 q0 12 [a]
abbrev xd(a b:AV)(L:SH)(Q:R):Prop:=Pc eX 20 Q 0 [] [a,b] L
def vi(u j:AV)(L:SH)(Q:R)(h:xd u j L Q):ac Tryz.prog 16 [u,j] L Q:=
 fv eX Tryz.func16 h
def sG:RF:=nv (cg Tryz.prog Tryz.f114 [] [])
abbrev CX(a b:AV)(L:SH)(Q:R):Prop:=Pc sG 20 Q 0 [] [a,b] L
def Bk(u j:AV)(L:SH)(Q:R)(h:CX u j L Q):ac Tryz.prog 114 [u,j] L Q:=
 fv sG Tryz.func114 h
def Bl:RF:=nv (cg Tryz.prog Tryz.f128 [] [])
abbrev I9(a b:AV)(L:SH)(Q:R):Prop:=Pc Bl 20 Q 0 [] [a,b] L
def Hv(u j:AV)(L:SH)(Q:R)(h:I9 u j L Q):ac Tryz.prog 128 [u,j] L Q:=
 fv Bl Tryz.func128 h
def sH:RF:=nv (cg Tryz.prog Tryz.f129 [(96091,⟨[2,3,79],[],true,[]⟩),(87082,⟨[2,3,7,71],[],true,[]⟩),(78073,⟨[2,3,7,61],[],true,[]⟩),(63058,⟨[2,3,7,43],[],true,[]⟩),(48043,⟨[2,3,7,26],[],true,[]⟩),(39034,⟨[2,3,7,18],[],true,[]⟩),(30025,⟨[2,3,7,8],[],true,[]⟩)] [(0,[3])])
abbrev CY(a b c:AV)(L:SH)(Q:R):Prop:=Pc sH 20 Q 0 [] [a,b,c] L
def Bm(B u j:AV)(L:SH)(Q:R)(h:CY B u j L Q):ac Tryz.prog 129 [B,u,j] L Q:=
 fv sH Tryz.func129 h
def vl:RF:=nv (cg Tryz.prog Tryz.f127 [(6,⟨[2,3,5],[],true,[]⟩)] [(0,[2,3])])
abbrev Fi(a b:AV)(L:SH)(Q:R):Prop:=Pc vl 20 Q 0 [] [a,b] L
def CZ(u j:AV)(L:SH)(Q:R)(h:Fi u j L Q):ac Tryz.prog 127 [u,j] L Q:=
 fv vl Tryz.func127 h
def jG:RF:=nv (cg Tryz.prog Tryz.f78 [(105100,⟨[2,4,5,6,70,160],[],true,[]⟩),(63058,⟨[2,4,5,6,11,70,119],[],true,[]⟩),(902,⟨[2,3,4,5,6],[],true,[]⟩)] [(0,[5,6]),(3,[11])])
abbrev vm(Q:R)(a:SH)(b c d e f:AV):Prop:=Pc jG 19 Q 902 [] [b,c,d,f,e] a
abbrev yZ(a b c d e:AV)(L:SH)(Q:R):Prop:=Pc jG 20 Q 0 [] [a,b,c,d,e] L
def xe(E D B u j:AV)(L:SH)(Q:R)(h:yZ E D B u j L Q):ac Tryz.prog 78 [E,D,B,u,j] L Q:=
 fv jG Tryz.func78 h
def x9:RF:=nv (cg Tryz.prog Tryz.f130 [(6,⟨[0,1,5],[],true,[]⟩)] [])
abbrev Hw(a b:AV)(L:SH)(Q:R):Prop:=Pc x9 20 Q 0 [] [a,b] L
def Fj(u j:AV)(L:SH)(Q:R)(h:Hw u j L Q):ac Tryz.prog 130 [u,j] L Q:=
 fv x9 Tryz.func130 h
def vn:RF:=nv (cg Tryz.prog Tryz.f168 [(9,⟨[1,2,3,4],[],true,[]⟩)] [(0,[1])])
abbrev Fk(a:AV)(L:SH)(Q:R):Prop:=Pc vn 20 Q 0 [] [a] L
def C0(j:AV)(L:SH)(Q:R)(h:Fk j L Q):ac Tryz.prog 168 [j] L Q:=
 fv vn Tryz.func168 h
def oP:RF:=nv (cg Tryz.prog Tryz.f170 [(9,⟨[0,1,5,6],[],true,[]⟩)] [])
abbrev y5(a b:AV)(L:SH)(Q:R):Prop:=Pc oP 20 Q 0 [] [a,b] L
def xf(u j:AV)(L:SH)(Q:R)(h:y5 u j L Q):ac Tryz.prog 170 [u,j] L Q:=
 fv oP Tryz.func170 h
def oQ:RF:=nv (cg Tryz.prog Tryz.f171 [(9,⟨[1,2,5,6],[],true,[]⟩)] [(0,[2])])
abbrev y6(a b:AV)(L:SH)(Q:R):Prop:=Pc oQ 20 Q 0 [] [a,b] L
def xg(u j:AV)(L:SH)(Q:R)(h:y6 u j L Q):ac Tryz.prog 171 [u,j] L Q:=
 fv oQ Tryz.func171 h
def l5:RF:=nv (cg Tryz.prog Tryz.f121 [(165160,⟨[7,12,15],[],true,[]⟩),(126121,⟨[7,12,17],[165160],false,[]⟩),(138,⟨[7,12,18,19],[165160],false,[]⟩),(48043,⟨[2,4,5,6,7,12,15,30,54],[165160],false,[]⟩),(39034,⟨[2,4,5,6,7,12,15,30,45],[165160],false,[]⟩),(908,⟨[2,3,4,5,6,7,12,29],[],true,[]⟩)] [(0,[6])])
abbrev oR(Q:R)(a b c d e f g h:AV)(i:SH):Prop:=Pc l5 19 Q 908 [] [b,a,c,d,g,e,f,h] i
abbrev sI(a b c d e f:AV)(L:SH)(Q:R):Prop:=Pc l5 20 Q 0 [] [a,b,c,d,e,f] L
def Bn(G E D B u j:AV)(L:SH)(Q:R)(h:sI G E D B u j L Q):ac Tryz.prog 121 [G,E,D,B,u,j] L Q:=
 fv l5 Tryz.func121 h
def gP:RF:=nv (cg Tryz.prog Tryz.f76 [(51046,⟨[1,2,3,6,7],[33],false,[]⟩),(33,⟨[1,2,3,6],[],true,[]⟩),(21,⟨[1,2,3,5],[],true,[]⟩),(9,⟨[1,2,3,4],[],true,[]⟩)] [(0,[1])])
abbrev Bo(Q:R):Vs->SH->Kn->Prop:=Lp gP 17 Q 33 []
abbrev Bp(Q:R):Vs->SH->Kn->Prop:=Lp gP 18 Q 21 []
abbrev Bq(Q:R):Vs->SH->Kn->Prop:=Lp gP 19 Q 9 []
abbrev C1(a:AV)(L:SH)(Q:R):Prop:=Pc gP 20 Q 0 [] [a] L
def Br(j:AV)(L:SH)(Q:R)(h:C1 j L Q):ac Tryz.prog 76 [j] L Q:=
 fv gP Tryz.func76 h
def qk:RF:=nv (cg Tryz.prog Tryz.f167 [] [])
abbrev Bs(a:AV)(L:SH)(Q:R):Prop:=Pc qk 20 Q 0 [] [a] L
def oS(j:AV)(L:SH)(Q:R)(h:Bs j L Q):ac Tryz.prog 167 [j] L Q:=
 fv qk Tryz.func167 h
def gQ:RF:=nv (cg Tryz.prog Tryz.f117 [(39,⟨[1,4,5,6,7],[9],true,[]⟩),(72,⟨[1,4,10],[],true,[]⟩),(60,⟨[1,4,9],[],true,[]⟩),(9,⟨[1,4,5],[],true,[]⟩)] [(0,[1]),(4,[6]),(15,[8])])
abbrev Bt(Q:R)(a:Kn):Vs->SH->Kn->Prop:=Lp gQ 18 Q 39 [a]
abbrev Bu(Q:R):Vs->SH->Kn->Prop:=Lp gQ 17 Q 72 []
abbrev Bv(Q:R):Vs->SH->Kn->Prop:=Lp gQ 18 Q 60 []
abbrev sJ(a:AV)(L:SH)(Q:R):Prop:=Pc gQ 20 Q 0 [] [a] L
def ql(j:AV)(L:SH)(Q:R)(h:sJ j L Q):ac Tryz.prog 117 [j] L Q:=
 fv gQ Tryz.func117 h
def gY:RF:=nv (cg Tryz.prog Tryz.f73 [(54,⟨[1,8],[],true,[]⟩),(36,⟨[1,6],[],true,[]⟩),(21,⟨[1,3,5],[],true,[]⟩)] [(0,[1]),(20,[9])])
abbrev rJ(Q:R):Vs->SH->Kn->Prop:=Lp gY 17 Q 54 []
abbrev tM(a:AV)(L:SH)(Q:R):Prop:=Pc gY 20 Q 0 [] [a] L
def rK(j:AV)(L:SH)(Q:R)(h:tM j L Q):ac Tryz.prog 73 [j] L Q:=
 fv gY Tryz.func73 h
def Bw:RF:=nv (cg Tryz.prog Tryz.f120 [] [])
abbrev Ja(a b:AV)(L:SH)(Q:R):Prop:=Pc Bw 20 Q 0 [] [a,b] L
def Hz(u j:AV)(L:SH)(Q:R)(h:Ja u j L Q):ac Tryz.prog 120 [u,j] L Q:=
 fv Bw Tryz.func120 h
def sK:RF:=nv (cg Tryz.prog Tryz.f166 [] [(0,[3])])
abbrev C3(a b c:AV)(L:SH)(Q:R):Prop:=Pc sK 20 Q 0 [] [a,b,c] L
def Bx(B u j:AV)(L:SH)(Q:R)(h:C3 B u j L Q):ac Tryz.prog 166 [B,u,j] L Q:=
 fv sK Tryz.func166 h
def oU:RF:=nv (cg Tryz.prog Tryz.f118 [(75070,⟨[2,3,6,108],[],true,[]⟩),(66061,⟨[2,3,6,98],[],true,[]⟩),(54049,⟨[2,3,6,78],[],true,[]⟩),(39034,⟨[2,3,6,59],[],true,[]⟩)] [(0,[2,3])])
abbrev y7(a b:AV)(L:SH)(Q:R):Prop:=Pc oU 20 Q 0 [] [a,b] L
def xi(u j:AV)(L:SH)(Q:R)(h:y7 u j L Q):ac Tryz.prog 118 [u,j] L Q:=
 fv oU Tryz.func118 h
def sL:RF:=nv (cg Tryz.prog Tryz.f119 [(6,⟨[0,1,5],[],true,[]⟩)] [])
abbrev C4(a b:AV)(L:SH)(Q:R):Prop:=Pc sL 20 Q 0 [] [a,b] L
def By(u j:AV)(L:SH)(Q:R)(h:C4 u j L Q):ac Tryz.prog 119 [u,j] L Q:=
 fv sL Tryz.func119 h
def gH:RF:=nv (cg Tryz.prog Tryz.f74 [(48,⟨[1,3,5,7,8,10,11],[15],true,[]⟩),(15,⟨[1,3,5,7,8],[],true,[]⟩)] [(0,[3,5]),(7,[9])])
abbrev ju(Q:R)(a:Kn):Vs->SH->Kn->Prop:=Lp gH 18 Q 48 [a]
abbrev rL(a b c:AV)(L:SH)(Q:R):Prop:=Pc gH 20 Q 0 [] [a,b,c] L
def qm(B u j:AV)(L:SH)(Q:R)(h:rL B u j L Q):ac Tryz.prog 74 [B,u,j] L Q:=
 fv gH Tryz.func74 h
def sM:RF:=nv (cg Tryz.prog Tryz.f34 [(12,⟨[1,3],[],true,[]⟩)] [(0,[1])])
abbrev C5(a:AV)(L:SH)(Q:R):Prop:=Pc sM 20 Q 0 [] [a] L
def Bz(j:AV)(L:SH)(Q:R)(h:C5 j L Q):ac Tryz.prog 34 [j] L Q:=
 fv sM Tryz.func34 h
section
section
variable (c:aL) (s:bU) (t:Int) (b:Bool) (hv:ao Tryz.prog 28 [.agg c.enc] (.bool b))
include hv
theorem Oi(hp:b=true->ao Tryz.prog 81 [.agg c.enc,.agg s.enc,.YJ t] (gM (bS c s t))):ao Tryz.prog 43 [.agg c.enc,.agg s.enc,.YJ t] (gM (if b then bS c s t else none)):=by
 refine Rm λQ u=>A0 _ _ _ _ _ ?_
 refine vw ?_;have B:c.enc=[.lst (c.w.cells.map aH.enc),.lst (c.w.locks.map bv.enc),.lst (c.w.conds.map bO.enc),.lst (c.w.futures.map av),.lst (c.w.threads.map av),.lst (c.w.sites.map bM.enc),.lst (c.ts.map eG.enc)]:=rfl;have j:s.enc=[.lst (s.sync.locks.map LockD.enc),.YJ s.sync.tx,.lst (s.sync.done.map aD),.lst (s.sync.threads.map ThrD.enc),.lst (s.cells.map ah),.lst (s.futures.map ah),.lst (s.threads.map aG.enc)]:=rfl;cases b with
 |false=>
  have D:∀L,Q (.tup [.agg [.YJ 0,.YJ 0,.YJ 0,.YJ 0,.YJ 0,.nils,.nils],.bool false]) L:=λL=>u _ L (Fz.tups (.cons (Fz.aggs (m:=bH.zero.enc) (by exact fl)) (.cons (.refl _) .nil)))
  clear hp u;rw[B,j]at *
  repeat' (first|refine sy ?_|refine s2 ?_ ?_|intro)
  exact D _
 |true=>
  have hp:=hp rfl;simp only[if_true]at u;generalize bS c s t=r at *;cases r with
  |none=>
   have D:∀L,Q (gM none) L:=λL=>u _ L (.refl _)
   clear u;unfold gM bH.zero bH.enc at *;dsimp only at *;rw[B,j]at *
   repeat' (first|refine sy ?_|(refine pf 81 ?_;refine pm (hp) ?_)|refine s2 ?_ ?_|intro)
   exact D _
  |some e=>
   have D:∀L,Q (gM (some e)) L:=λL=>u _ L (.refl _)
   clear u;unfold gM bH.enc at *;dsimp only at *;rw[B,j]at *
   repeat' (first|refine sy ?_|(refine pf 81 ?_;refine pm (hp) ?_)|refine s2 ?_ ?_|intro)
   exact D _
end
theorem Oj(c:aL)(s:bU)(t:Int)(r:Option bH)(hp:ao Tryz.prog 43 [.agg c.enc,.agg s.enc,.YJ t] (gM r))(u:r≠none->c.w.conds.length<2^62/\∀l∈s.sync.locks,l.readers.length<2^40):
  ao Tryz.prog 19 [.agg c.enc,.agg s.enc,.YJ t] (.bool (LS c s t r)):=by
 refine Pi λQ D=>A3 _ _ _ _ _ ?_
 refine vw ?_;have B:c.enc=[.lst (c.w.cells.map aH.enc),.lst (c.w.locks.map bv.enc),.lst (c.w.conds.map bO.enc),.lst (c.w.futures.map av),.lst (c.w.threads.map av),.lst (c.w.sites.map bM.enc),.lst (c.ts.map eG.enc)]:=rfl;have j:s.enc=[.lst (s.sync.locks.map LockD.enc),.YJ s.sync.tx,.lst (s.sync.done.map aD),.lst (s.sync.threads.map ThrD.enc),.lst (s.cells.map ah),.lst (s.futures.map ah),.lst (s.threads.map aG.enc)]:=rfl;cases r with
 |none=>
  unfold LS at D;unfold gM bH.zero bH.enc at hp;dsimp only at *;rw[B,j]at *
  repeat' (first|refine sy ?_|(refine pf 43 ?_;refine pm (hp) ?_)|refine s2 ?_ ?_|intro)
  exact D _
 |some e=>
  have M:=AC c.w s.sync t e.kind e.obj (u nofun).1 (u nofun).2;unfold LS at D;have G:c.w.enc=[.lst (c.w.cells.map aH.enc),.lst (c.w.locks.map bv.enc),.lst (c.w.conds.map bO.enc),.lst (c.w.futures.map av),.lst (c.w.threads.map av),.lst (c.w.sites.map bM.enc)]:=rfl;have E:s.sync.enc=[.lst (s.sync.locks.map LockD.enc),.YJ s.sync.tx,.lst (s.sync.done.map aD),.lst (s.sync.threads.map ThrD.enc)]:=rfl;rw[G,E]at M;unfold gM bH.enc at hp;dsimp only at *;rw[B,j]at *
  repeat' (first|refine sy ?_|(refine pf 43 ?_;refine pm (hp) ?_)|refine s2 ?_ ?_|intro)
  exact D _
end
def gb:RF:=nv (cg Tryz.prog Tryz.f4 [(27,⟨[5,7,8,11],[],true,[]⟩)] [(3,[5]),(4,[7,8]),(5,[9,10])])
abbrev pn(Q:R):Vs->SH->Kn->Prop:=Lp gb 19 Q 27 []
abbrev qw(a b:AV)(L:SH)(Q:R):Prop:=Pc gb 20 Q 0 [] [a,b] L
def po(u j:AV)(L:SH)(Q:R)(h:qw u j L Q):ac Tryz.prog 4 [u,j] L Q:=
 fv gb Tryz.func4 h
