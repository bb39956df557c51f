/- part -/
import Derived.Test.YtfcfhjadaknphaaGreatDoorQxl
set_option linter.all false
set_option maxRecDepth 100000
set_option maxHeartbeats 0
namespace Go.Proofs.YtfcfhjadaknphaaGreatDoor.Am
def D9{f:FuncId}{args:List AV}{p:List bH×bU}{L:SH}{KL:AV->SH->Prop}(h:ac Tryz.prog f args [] (HU p))(j:∀o:Option Nat,(o=none->p.1=[])->KL (.tup [ai o p.1.length,.agg p.2.enc]) (ab o 7 (p.1.map bH.enc)++L)):W.callM Tryz.prog f args L KL:=⟨h.frame (.refl _) (by rintro _ _ ⟨o,u,rfl,rfl⟩;exact j o u)⟩
def ft:List AV:=[.nils,.nils,.nils,.nils,.nils,.nils,.nils]
def Oo(c:aL)(hc:fy c)(hins:∀t∈c.ts,t.ins.length<2^40)(B:List bH×bU)(H0:gt c B)(o0:Option Nat)(ho0:o0=none->B.1=[])(Y:0<(eg c 400 B).1.length)(bt O M:Nat)(n1:bt≠O)(n2:bt≠M)(n3:O≠M)(Q:R)(hq:∀a b L,fi L a (fI.mk c.w (eg c 400 B).1).enc->fi L b (eg c 400 B).2.enc->Q (.tup [.agg a,.agg b]) L):
  W.loop (yR (oL Q)) [.pptr [c.enc] 0 0,.ptr bt 0 0,.ptr O 0 0,ai o0 B.1.length,.ptr M 0 0] ((M,⟨7,[B.2.enc]⟩)::(ab o0 7 (B.1.map bH.enc)++[(O,⟨7,[ay]⟩),(bt,⟨7,[ft]⟩)])):=by
 refine bF 400 (λk (o:Option Nat)=>([.pptr [c.enc] 0 0,.ptr bt 0 0,.ptr O 0 0,ai o (eg c k B).1.length,.ptr M 0 0],(M,⟨7,[(eg c k B).2.enc]⟩)::(O,⟨7,[ay]⟩)::(bt,⟨7,[ft]⟩)::ab o 7 ((eg c k B).1.map bH.enc))) (λk o=>o=none->(eg c k B).1=[]) o0 ho0 (by
  cases o0
  all_goals
   dsimp only[ai,ab,List.nil_append,List.cons_append,eg];exact aE.pickE rp rfl rfl) ?_
 intro k o hk ho;dsimp only;have hR:=gt.cmp hc hins k H0;have E:=λh=>HT (c:=c) (k:=k) (p:=B) (q:=eg c k B) hk rfl h
 have u:=λ(ev:List bH) (s n:bU) (e:bH) (hp:eg c k B=(ev,s))=>HS (n:=n) (e:=e) hp;have G:=λ(h:k=400)=>zE (c:=c) k B YC;generalize hp:eg c k B=p at *;obtain⟨ev,D⟩:=p;have u:=λn e=>u ev D n e rfl
 dsimp only at *;have hw:=hc.world;have hcd:=jr hc hins;have hcw:=w5 c.w (by have:=hw.c12;omega) (by have:=hw.l4;omega) (by have:=hw.d2;omega) (by have:=hw.f2;omega) (by have:=hw.t4;omega) (by have:=hw.s60;omega);have hl:=On c D (by have:=hc.len;have:=hw.t4;omega) λt=>E8 U9 c D t (-1) (u7 hR.le hR.inv hcd.ins hcd.len hcd.con)
 have hwe:c.w.enc=[.lst (c.w.cells.map aH.enc),.lst (c.w.locks.map bv.enc),.lst (c.w.conds.map bO.enc),.lst (c.w.futures.map av),.lst (c.w.threads.map av),.lst (c.w.sites.map bM.enc)]:=rfl;have Z:c.enc=[.lst (c.w.cells.map aH.enc),.lst (c.w.locks.map bv.enc),.lst (c.w.conds.map bO.enc),.lst (c.w.futures.map av),.lst (c.w.threads.map av),.lst (c.w.sites.map bM.enc),.lst (c.ts.map eG.enc)]:=rfl;have S:∀s:bU,s.enc=[.lst (s.sync.locks.map LockD.enc),.YJ s.sync.tx,.lst (s.sync.done.map aD),.lst (s.sync.threads.map ThrD.enc),.lst (s.cells.map ah),.lst (s.futures.map ah),.lst (s.threads.map aG.enc)]:=λ_=>rfl
 rw[hwe]at hcw;have fin:sS c (ev,D)->∀L,(∀q∈ab o 7 (ev.map bH.enc),q∈L)->Q (.tup [.agg [.lst (c.w.cells.map aH.enc),.lst (c.w.locks.map bv.enc),.lst (c.w.conds.map bO.enc),.lst (c.w.futures.map av),.lst (c.w.threads.map av),.lst (c.w.sites.map bM.enc),ai o ev.length],.agg D.enc]) L:=λhe L hm=>by
  have e:=E he;rw[e]at hq;refine hq _ _ L (.cons (.refl _) (.cons (.refl _) (.cons (.refl _) (.cons (.refl _) (.cons (.refl _) (.cons (.refl _) (.cons ?_ .nil))))))) (fi.refl _ _);cases o with
  |none=>rw[ho rfl];exact .emp
  |some b=>exact Fz.sls (hm _ (.head _)) rfl YG rfl
 clear hq;refine vw ?_;obtain⟨J,hJ⟩:∃J,J=oL Q:=⟨_,rfl⟩;have jn:sS c (ev,D)->J [.pptr [c.enc] 0 0,.ptr bt 0 0,.ptr O 0 0,ai o ev.length,.ptr M 0 0] ((M,⟨7,[D.enc]⟩)::(O,⟨7,[ay]⟩)::(bt,⟨7,[ft]⟩)::ab o 7 (ev.map bH.enc)):=λhe=>by
  have fin:=fin he;rw[E he]at Y;rw[hJ];unfold ay ft;refine vw ?_;cases o with
  |none=>rw[ho rfl]at Y;exact absurd Y YF
  |some bo=>
   rw[S,Z]at *;dsimp only[ai,ab]at *
   repeat' (first|refine sy ?_|refine s2 ?_ ?_|intro)
   exact fin _ YF
 rw[<-hJ];clear fin hJ E Y;rcases Fn ev.length 400 with g1|g1
 .have d1:decide ((ev.length:Int)<400)=true:=decide_eq_true YC;cases hr:fJ c D with
  |none=>
   have jn:=jn (.inr hr);rw[hr]at hl;have hee:jp none=.tup [.agg [.lst [],.YJ 0,.lst [],.lst [],.lst [],.lst [],.lst []],.agg [.YJ 0,.YJ 0,.YJ 0,.YJ 0,.YJ 0,.lst [],.lst []],.bool false]:=rfl;rw[hee]at hl;unfold ay ft at *;clear u G;rw[S,Z]at *;cases o
   all_goals
    dsimp only[ai,ab]at *
    repeat' (first|refine sy ?_|refine s2 ?_ ?_|intro)
    exact jn
  |some r=>
   obtain⟨n,e⟩:=r;have hk4:k<400:=by
    rcases Fn k 400 with g|g
    .exact g
    .exfalso;rcases G YC with h|h
     .dsimp only at h;omega
     .dsimp only at h;rw[hr]at h;cases h
   have u:=u n e g1 hr;rw[hr]at hl;have hee:jp (some (n,e))=.tup [.agg [.lst (n.sync.locks.map LockD.enc),.YJ n.sync.tx,.lst (n.sync.done.map aD),.lst (n.sync.threads.map ThrD.enc),.lst (n.cells.map ah),.lst (n.futures.map ah),.lst (n.threads.map aG.enc)],.agg [.YJ e.thread,.YJ e.kind,.YJ e.obj,.YJ e.value,.YJ e.site,.lst (e.deps.map ah),.lst (e.frm.map ah)],.bool true]:=rfl;rw[hee]at hl;have he:e.enc=[.YJ e.thread,.YJ e.kind,.YJ e.obj,.YJ e.value,.YJ e.site,.lst (e.deps.map ah),.lst (e.frm.map ah)]:=rfl;have fin3:∀(nb:Nat) (L:SH),dD L ((M,(⟨7,[n.enc]⟩:Blk))::(O,⟨7,[ay]⟩)::(bt,⟨7,[ft]⟩)::ab (some nb) 7 (ev.map bH.enc++[e.enc]))->∃(j:Nat) (o':Option Nat),k<j/\j<=400/\(o'=none->(eg c j B).1=[])/\aE [.pptr [c.enc] 0 0,.ptr bt 0 0,.ptr O 0 0,.sl nb 0 (ev.length+1),.ptr M 0 0] L
     [.pptr [c.enc] 0 0,.ptr bt 0 0,.ptr O 0 0,ai o' (eg c j B).1.length,.ptr M 0 0] ((M,⟨7,[(eg c j B).2.enc]⟩)::(O,⟨7,[ay]⟩)::(bt,⟨7,[ft]⟩)::ab o' 7 ((eg c j B).1.map bH.enc)):=by
    intro nb L hL;refine⟨k+1,some nb,YC,YC,nofun,?_⟩;rw[u];exact aE.pickE hL (by simp[ai]) YF
   have hev400:ev.length<2^30:=by omega
   unfold ay ft at *;clear u G jn hcw;rw[S n,he]at *;rw[S D,Z]at *
   repeat' (first|refine sy ?_|refine bG rp rp YF (λe=>by first|simp[ho e]) YE YF YH YH YE (λnb_ hnb_=>?_)|refine uW ?_ (λe=>by rw[ho e];rfl)|refine s2 ?_ ?_|intro)
   exact fin3 _ _ rp
 .have d1:decide ((ev.length:Int)<400)=false:=decide_eq_false YC;have jn:=jn (.inl g1);clear u G hl;unfold ay ft at *;rw[S,Z]at *;cases o with
  |none=>rw[ho rfl]at g1;simp at g1
  |some bo=>
   dsimp only[ai,ab]at *
   repeat' (first|refine sy ?_|refine s2 ?_ ?_|intro)
   exact jn
def yj(c:aL)(B:fy c)(j:∀t∈c.ts,t.ins.length<2^40)(l:List bW)(O:l.length<2^62):ao Tryz.prog 15 [.agg c.enc,.lst (l.map bW.enc)] (.tup [.agg (fI.mk c.w (aR c l).1).enc,.agg (aR c l).2.enc]):=by
 have hv:=AZ c λt ht=>by have:=j t ht;omega
 rw[show iz (fy c)=true from fo.2 B]at hv;have u:=B.world;have G:=D0 c (by have:=u.c12;omega) (by have:=u.l4;omega) (by have:=u.f2;omega) (by have:=u.t4;omega) (by have:=B.len;have:=u.t4;omega) (u9 B);have hf:=Jq c (jr B j) l O G (zC B);have hcw:=w5 c.w (by have:=u.c12;omega) (by have:=u.l4;omega) (by have:=u.d2;omega) (by have:=u.f2;omega) (by have:=u.t4;omega) (by have:=u.s60;omega);refine ac.fz (yS _ _ _ _ ?_);refine vw ?_;generalize hQ:(λ(v:AV) (L:SH)=>∃Y L2,aE [v] L [Y] L2/\Y=AV.tup [.agg (fI.mk c.w (aR c l).1).enc,.agg (aR c l).2.enc]/\L2=[])=Q;have hq:∀a b L,fi L a (fI.mk c.w (aR c l).1).enc->fi L b (aR c l).2.enc->Q (.tup [.agg a,.agg b]) L:=λa b L h1 h2=>by subst hQ;exact⟨_,[],aE.all (Fz.tups (.cons (Fz.aggs h1) (.cons (Fz.aggs h2) .nil))),rfl,rfl⟩
 clear hQ;have S:c.enc=[.lst (c.w.cells.map aH.enc),.lst (c.w.locks.map bv.enc),.lst (c.w.conds.map bO.enc),.lst (c.w.futures.map av),.lst (c.w.threads.map av),.lst (c.w.sites.map bM.enc),.lst (c.ts.map eG.enc)]:=rfl;have D:∀s:bU,s.enc=[.lst (s.sync.locks.map LockD.enc),.YJ s.sync.tx,.lst (s.sync.done.map aD),.lst (s.sync.threads.map ThrD.enc),.lst (s.cells.map ah),.lst (s.futures.map ah),.lst (s.threads.map aG.enc)]:=λ_=>rfl
 have Z:=λbt br bs o ho n1 n2 n3=>Oo c B j (fN c l) (gt.fol B j l (kH B)) o ho (gU B j l) bt br bs n1 n2 n3 Q hq
 clear hq;unfold ay ft at Z;rw[D,S]at *
 repeat' (first|refine sy ?_|((with_reducible refine aU 29 ?_);(refine D9 hf (λo_ M=>?_);rw[D]))|refine s2 ?_ ?_|intro)
 exact Z _ _ _ _ M (by intro E;subst E;simp[SH.names]at *) (by intro E;subst E;simp[SH.names]at *) (by intro E;subst E;simp[SH.names]at *)
def l9:RF:=nv (cg Tryz.prog Tryz.f47 [(63034,⟨[0,4,5,6,7,8,9],[9],true,[]⟩),(54049,⟨[0,4,5,6,7,8,9,36,47],[63034],false,[]⟩),(45040,⟨[0,4,5,6,7,8,9,36,39],[63034],false,[]⟩),(9,⟨[0,4,5,6,7,8],[],true,[]⟩)] [(5,[9])])
abbrev BL(Q:R)(a:Kn):Vs->SH->Prop:=Jp l9 18 Q 63034 [a]
abbrev De(a:AV)(L:SH)(Q:R):Prop:=Pc l9 20 Q 0 [] [a] L
def BM(j:AV)(L:SH)(Q:R)(h:De j L Q):ac Tryz.prog 47 [j] L Q:=
 fv l9 Tryz.func47 h
def oX:RF:=nv (cg Tryz.prog Tryz.f48 [(42,⟨[1,6,7,8],[24],true,[]⟩),(24,⟨[1,6],[],true,[]⟩),(6,⟨[1,4],[],true,[]⟩)] [(0,[1]),(4,[5]),(10,[7])])
abbrev zf(a:AV)(L:SH)(Q:R):Prop:=Pc oX 20 Q 0 [] [a] L
def xo(j:AV)(L:SH)(Q:R)(h:zf j L Q):ac Tryz.prog 48 [j] L Q:=
 fv oX Tryz.func48 h
def oY:RF:=nv (cg Tryz.prog Tryz.f24 [(60,⟨[1,10,11],[],true,[]⟩),(39,⟨[1,8,9],[],true,[]⟩)] [(0,[1])])
abbrev zg(a:AV)(L:SH)(Q:R):Prop:=Pc oY 20 Q 0 [] [a] L
def xp(j:AV)(L:SH)(Q:R)(h:zg j L Q):ac Tryz.prog 24 [j] L Q:=
 fv oY Tryz.func24 h
def jQ:RF:=nv (cg Tryz.prog Tryz.f137 [(6,⟨[0,1,2,3,9],[],true,[]⟩)] [(4,[10])])
abbrev rO(a b c d:AV)(L:SH)(Q:R):Prop:=Pc jQ 20 Q 0 [] [a,b,c,d] L
def qz(D B u j:AV)(L:SH)(Q:R)(h:rO D B u j L Q):ac Tryz.prog 137 [D,B,u,j] L Q:=
 fv jQ Tryz.func137 h
def mW:RF:=nv (cg Tryz.prog Tryz.f97 [(150145,⟨[3,4,5,6,7],[],true,[]⟩),(145,⟨[3,4,5,6,7],[],true,[]⟩),(144139,⟨[0,3,5,6,14],[],true,[7]⟩),(78073,⟨[0,3,5,6,7,8,9,30,119],[150145],true,[4]⟩),(54049,⟨[0,3,5,6,7,8,9,30,91],[150145],true,[]⟩),(39034,⟨[0,3,5,6,7,8,9,30,67],[150145],true,[]⟩)] [(0,[3]),(1,[5])])
abbrev xq(a b:AV)(L:SH)(Q:R):Prop:=Pc mW 20 Q 0 [] [a,b] L
def vE(u j:AV)(L:SH)(Q:R)(h:xq u j L Q):ac Tryz.prog 97 [u,j] L Q:=
 fv mW Tryz.func97 h
def gu:RF:=nv (cg Tryz.prog Tryz.f50 [(45040,⟨[0,1,6,8,9],[6],true,[]⟩),(27022,⟨[0,1,6,7,8],[6],true,[]⟩),(6,⟨[0,1,6],[],true,[]⟩)] [(4,[7])])
abbrev vF(Q:R)(a:Kn):Vs->SH->Prop:=Jp gu 17 Q 45040 [a]
abbrev vG(Q:R)(a:Kn):Vs->SH->Prop:=Jp gu 18 Q 27022 [a]
abbrev xr(a b:AV)(L:SH)(Q:R):Prop:=Pc gu 20 Q 0 [] [a,b] L
def vH(u j:AV)(L:SH)(Q:R)(h:xr u j L Q):ac Tryz.prog 50 [u,j] L Q:=
 fv gu Tryz.func50 h
def mX:RF:=nv (cg Tryz.prog Tryz.f22 [] [])
abbrev xt(a b:AV)(L:SH)(Q:R):Prop:=Pc mX 20 Q 0 [] [a,b] L
def vI(u j:AV)(L:SH)(Q:R)(h:xt u j L Q):ac Tryz.prog 22 [u,j] L Q:=
 fv mX Tryz.func22 h
def BN:RF:=nv (cg Tryz.prog Tryz.f26 [] [])
abbrev Jv(a:AV)(L:SH)(Q:R):Prop:=Pc BN 20 Q 0 [] [a] L
def HY(j:AV)(L:SH)(Q:R)(h:Jv j L Q):ac Tryz.prog 26 [j] L Q:=
 fv BN Tryz.func26 h
def yk:RF:=nv (cg Tryz.prog Tryz.f88 [] [])
abbrev HZ(a:AV)(L:SH)(Q:R):Prop:=Pc yk 20 Q 0 [] [a] L
def FC(j:AV)(L:SH)(Q:R)(h:HZ j L Q):ac Tryz.prog 88 [j] L Q:=
 fv yk Tryz.func88 h
def sT:RF:=nv (cg Tryz.prog Tryz.f87 [] [(0,[4,5])])
abbrev Df(a b c:AV)(L:SH)(Q:R):Prop:=Pc sT 20 Q 0 [] [a,b,c] L
def BO(B u j:AV)(L:SH)(Q:R)(h:Df B u j L Q):ac Tryz.prog 87 [B,u,j] L Q:=
 fv sT Tryz.func87 h
def sU:RF:=nv (cg Tryz.prog Tryz.f25 [] [(0,[3])])
abbrev Dg(a b:AV)(L:SH)(Q:R):Prop:=Pc sU 20 Q 0 [] [a,b] L
def BP(u j:AV)(L:SH)(Q:R)(h:Dg u j L Q):ac Tryz.prog 25 [u,j] L Q:=
 fv sU Tryz.func25 h
def vJ:RF:=nv (cg Tryz.prog Tryz.f21 [] [])
abbrev FD(L:SH)(Q:R):Prop:=Pc vJ 20 Q 0 [] [] L
def Dh(L:SH)(Q:R)(h:FD L Q):ac Tryz.prog 21 [] L Q:=
 fv vJ Tryz.func21 h
def kI:RF:=nv (cg Tryz.prog Tryz.f89 [] [])
abbrev tR(a b:AV)(L:SH)(Q:R):Prop:=Pc kI 20 Q 0 [] [a,b] L
def rP(u j:AV)(L:SH)(Q:R)(h:tR u j L Q):ac Tryz.prog 89 [u,j] L Q:=
 fv kI Tryz.func89 h
def lL:RF:=nv (cg Tryz.prog Tryz.f86 [] [])
abbrev vK(a b:AV)(L:SH)(Q:R):Prop:=Pc lL 20 Q 0 [] [a,b] L
def kJ(u j:AV)(L:SH)(Q:R)(h:vK u j L Q):ac Tryz.prog 86 [u,j] L Q:=
 fv lL Tryz.func86 h
def kK:RF:=nv (cg Tryz.prog Tryz.f90 [] [])
abbrev tS(a b c:AV)(L:SH)(Q:R):Prop:=Pc kK 20 Q 0 [] [a,b,c] L
def rQ(B u j:AV)(L:SH)(Q:R)(h:tS B u j L Q):ac Tryz.prog 90 [B,u,j] L Q:=
 fv kK Tryz.func90 h
def kL:RF:=nv (cg Tryz.prog Tryz.f23 [(9,⟨[0,1,2,7,8],[],true,[]⟩)] [])
abbrev tT(a b c:AV)(L:SH)(Q:R):Prop:=Pc kL 20 Q 0 [] [a,b,c] L
def rR(B u j:AV)(L:SH)(Q:R)(h:tT B u j L Q):ac Tryz.prog 23 [B,u,j] L Q:=
 fv kL Tryz.func23 h
def eF:RF:=nv (cg Tryz.prog Tryz.f45 [(1502,⟨[0,4,5],[],true,[]⟩),(2102,⟨[0,4],[],true,[]⟩),(2402,⟨[0,1,4,5,6],[],true,[]⟩)] [(18,[9]),(28,[11]),(33,[12])])
abbrev tU(Q:R)(a:SH)(b c d:AV):Prop:=Pc eF 19 Q 1502 [] [b,d,c] a
abbrev tV(Q:R)(a:SH)(b c:AV):Prop:=Pc eF 19 Q 2102 [] [b,c] a
abbrev rS(Q:R)(a:SH)(b c d e f:AV):Prop:=Pc eF 19 Q 2402 [] [b,c,e,d,f] a
abbrev vL(a b:AV)(L:SH)(Q:R):Prop:=Pc eF 20 Q 0 [] [a,b] L
def kM(u j:AV)(L:SH)(Q:R)(h:vL u j L Q):ac Tryz.prog 45 [u,j] L Q:=
 fv eF Tryz.func45 h
def ge:RF:=nv (cg Tryz.prog Tryz.f7 [(57052,⟨[2,3,4,5,6,7,8],[18],false,[]⟩),(48040,⟨[2,3,4,5,6,7,8],[18],false,[]⟩),(36,⟨[2,3,4,5,6,7,8,9],[48040],false,[]⟩),(18,⟨[2,3,4,5,6,7],[],true,[]⟩)] [])
abbrev ey(a:Kn):Vs->SH->Prop:=Jp ge 18 q0 48040 [a]
abbrev zh(a:Kn):Vs->SH->Kn->Prop:=Lp ge 18 q0 36 [a]
abbrev zj(Q:R):Vs->SH->Kn->Prop:=Lp ge 19 Q 18 []
abbrev BQ(a:AV)(L:SH)(Q:R):Prop:=Pc ge 20 Q 0 [] [a] L
def zk(j:AV)(L:SH)(Q:R)(h:BQ j L Q):ac Tryz.prog 7 [j] L Q:=
 fv ge Tryz.func7 h
def yl:RF:=nv (cg Tryz.prog Tryz.f8 [] [(1,[3])])
abbrev H3(a:AV)(L:SH)(Q:R):Prop:=Pc yl 20 Q 0 [] [a] L
def FE(j:AV)(L:SH)(Q:R)(h:H3 j L Q):ac Tryz.prog 8 [j] L Q:=
 fv yl Tryz.func8 h
