/- A part of the proof; the statement is proved in the last part. -/
import Derived.Test.YtbofdbhnbodbiaaGreatDoorQvL
set_option linter.all false
set_option maxRecDepth 100000
set_option maxHeartbeats 20000000
namespace Go.Proofs.YtbofdbhnbodbiaaGreatDoor.Am
def oL:RF:=nv (bO Tryz.prog Tryz.f94 [(6,⟨[0,1,5],[],true,[]⟩)] [])
abbrev zD(a b:AV)(L:SH)(Q:R):Prop:=Pc oL 20 Q 0 [] [a,b] L
def mI(j t1:AV)(L:SH)(Q:R)(h:zD j t1 L Q):ac Tryz.prog 94 [j,t1] L Q:=
 fv oL Tryz.func94 h
def oM:RF:=nv (bO Tryz.prog Tryz.f173 [(6,⟨[1,2,5],[],true,[]⟩)] [(0,[2])])
abbrev zE(a b:AV)(L:SH)(Q:R):Prop:=Pc oM 20 Q 0 [] [a,b] L
def wV(j t1:AV)(L:SH)(Q:R)(h:zE j t1 L Q):ac Tryz.prog 173 [j,t1] L Q:=
 fv oM Tryz.func173 h
def qE:RF:=nv (bO Tryz.prog Tryz.f95 [(6,⟨[0,1,2,3,10],[],true,[]⟩)] [])
abbrev AR(a b c d:AV)(L:SH)(Q:R):Prop:=Pc qE 20 Q 0 [] [a,b,c,d] L
def zF(j t1 t2 t3:AV)(L:SH)(Q:R)(h:AR j t1 t2 t3 L Q):ac Tryz.prog 95 [j,t1,t2,t3] L Q:=
 fv qE Tryz.func95 h
def eu:RF:=nv (bO Tryz.prog Tryz.f51 [(42,⟨[1,2,3,6,7,8],[18],false,[]⟩),(60055,⟨[1,2,3,6,7,31,65],[18],false,[]⟩),(42037,⟨[1,2,3,6,7,31,39],[18],false,[]⟩),(2402,⟨[1,2,3,6],[18],false,[]⟩),(7502,⟨[1,2,3,9],[69],false,[]⟩),(69,⟨[1,2,3,9],[],true,[]⟩),(18,⟨[1,2,3,6],[],true,[]⟩)] [(0,[1]),(8,[7])])
abbrev zG(a:Kn):Vs->SH->Kn->Prop:=Lp eu 16 q0 42 [a]
abbrev zH(a:Kn)(b:SH)(c d e f:AV):Prop:=Pc eu 18 q0 2402 [a] [c,e,f,d] b
abbrev zI(a:Kn)(b:SH)(c d e f:AV):Prop:=Pc eu 17 q0 7502 [a] [d,f,c,e] b
abbrev zJ(Q:R):Vs->SH->Kn->Prop:=Lp eu 18 Q 69 []
abbrev AS(a:AV)(L:SH)(Q:R):Prop:=Pc eu 20 Q 0 [] [a] L
def zK(j:AV)(L:SH)(Q:R)(h:AS j L Q):ac Tryz.prog 51 [j] L Q:=
 fv eu Tryz.func51 h
def mJ:RF:=nv (bO Tryz.prog Tryz.f53 [] [])
abbrev wW(a b:AV)(L:SH)(Q:R):Prop:=Pc mJ 20 Q 0 [] [a,b] L
def uS(j t1:AV)(L:SH)(Q:R)(h:wW j t1 L Q):ac Tryz.prog 53 [j,t1] L Q:=
 fv mJ Tryz.func53 h
def jX:RF:=nv (bO Tryz.prog Tryz.f140 [] [(0,[4])])
abbrev tC(a b c:AV)(L:SH)(Q:R):Prop:=Pc jX 20 Q 0 [] [a,b,c] L
def rE(j t1 t2:AV)(L:SH)(Q:R)(h:tC j t1 t2 L Q):ac Tryz.prog 140 [j,t1,t2] L Q:=
 fv jX Tryz.func140 h
def jp:RF:=nv (bO Tryz.prog Tryz.f136 [] [(0,[3])])
abbrev rF(a b:AV)(L:SH)(Q:R):Prop:=Pc jp 20 Q 0 [] [a,b] L
def pP(j t1:AV)(L:SH)(Q:R)(h:rF j t1 L Q):ac Tryz.prog 136 [j,t1] L Q:=
 fv jp Tryz.func136 h
def hO:RF:=nv (bO Tryz.prog Tryz.f137 [] [(0,[3])])
abbrev oN(a b:AV)(L:SH)(Q:R):Prop:=Pc hO 20 Q 0 [] [a,b] L
def mU(j t1:AV)(L:SH)(Q:R)(h:oN j t1 L Q):ac Tryz.prog 137 [j,t1] L Q:=
 fv hO Tryz.func137 h
def jq:RF:=nv (bO Tryz.prog Tryz.f138 [] [(0,[6])])
abbrev rG(a b c d e:AV)(L:SH)(Q:R):Prop:=Pc jq 20 Q 0 [] [a,b,c,d,e] L
def pQ(u t1 t2 t3 j:AV)(L:SH)(Q:R)(h:rG u t1 t2 t3 j L Q):ac Tryz.prog 138 [u,t1,t2,t3,j] L Q:=
 fv jq Tryz.func138 h
def lB:RF:=nv (bO Tryz.prog Tryz.f139 [(6,⟨[0,1,5],[],true,[]⟩)] [])
abbrev uT(a b:AV)(L:SH)(Q:R):Prop:=Pc lB 20 Q 0 [] [a,b] L
def tD(j t1:AV)(L:SH)(Q:R)(h:uT j t1 L Q):ac Tryz.prog 139 [j,t1] L Q:=
 fv lB Tryz.func139 h
def lC:RF:=nv (bO Tryz.prog Tryz.f96 [(30025,⟨[0,3,4,25,31],[],true,[]⟩)] [(0,[3])])
abbrev uU(a b:AV)(L:SH)(Q:R):Prop:=Pc lC 20 Q 0 [] [a,b] L
def tE(j t1:AV)(L:SH)(Q:R)(h:uU j t1 L Q):ac Tryz.prog 96 [j,t1] L Q:=
 fv lC Tryz.func96 h
def jY:RF:=nv (bO Tryz.prog Tryz.f52 [(3,⟨[0,1,4],[],true,[]⟩)] [])
abbrev tF(a b:AV)(L:SH)(Q:R):Prop:=Pc jY 20 Q 0 [] [a,b] L
def rH(j t1:AV)(L:SH)(Q:R)(h:tF j t1 L Q):ac Tryz.prog 52 [j,t1] L Q:=
 fv jY Tryz.func52 h
def dw:RF:=nv (bO Tryz.prog Tryz.f24 [(60,⟨[1,2,7,8,9,10,11,12,13,14],[48],false,[]⟩),(6902,⟨[1,2,7,8,9,11],[21],false,[]⟩),(48,⟨[1,2,7,8,9,10,11,12],[21],false,[]⟩),(2702,⟨[1,2,7,8,9],[21],false,[]⟩),(21,⟨[1,2,7,8,9],[],true,[]⟩)] [(0,[1])])
abbrev uV(a:Kn):Vs->SH->Kn->Prop:=Lp dw 16 q0 60 [a]
abbrev uW(a:Kn)(b:SH)(c d e f g h:AV):Prop:=Pc dw 16 q0 6902 [a] [f,g,c,h,e,d] b
abbrev uX(a:Kn):Vs->SH->Kn->Prop:=Lp dw 17 q0 48 [a]
abbrev uY(a:Kn)(b:SH)(c d e f g:AV):Prop:=Pc dw 18 q0 2702 [a] [d,g,c,f,e] b
abbrev wX(a:AV)(L:SH)(Q:R):Prop:=Pc dw 20 Q 0 [] [a] L
def uZ(j:AV)(L:SH)(Q:R)(h:wX j L Q):ac Tryz.prog 24 [j] L Q:=
 fv dw Tryz.func24 h
def IF(l:List bC)(s:bu)(M:l.length<2^62):aq Tryz.prog 94 [.lst (l.map bC.enc),.str s] (.Uf (ge l s)):=by
 refine mI _ _ _ _ ?_;refine vw ?_;refine dy l (λx=>decide (x.name=s)) (λi=>[.lst (l.map bC.enc),.str s,.Uf i]) M rfl (λi D N S j E G=>?_) (λi D N j E=>?_)
 all_goals refine vw ?_
 .have O:=ao (f:=bC.enc) D
  repeat' (first|refine st ?_|refine sb λB u=>?_|refine s2 (λh=>?_) λh=>?_|fail)
  .exact⟨by rw[ge,kQ D j h],rfl⟩
  .exact G h
 .repeat' (first|refine st ?_|refine sb λB u=>?_|refine s2 (λh=>?_) λh=>?_|fail)
  exact⟨by rw[ge,eY j],rfl⟩
def BM(w:aI)(s:bu)(M:w.cells.length<2^62):aq Tryz.prog 173 [.agg w.enc,.str s] (.Uf (sh w.cells s)):=by
 refine wV _ _ _ _ ?_;refine vw ?_;refine xU ?_;refine dy w.cells (λx=>decide (x.name=s)) (λi=>[.str s,.pptr [w.enc] 0 0,.Uf i]) M rfl (λi D N S j E G=>?_) (λi D N j E=>?_)
 all_goals refine vw ?_
 .have O:=ao (f:=aH.enc) D
  repeat' (first|refine st ?_|refine sb λB u=>?_|refine s2 (λh=>?_) λh=>?_|fail)
  .exact⟨by rw[sh,kQ D j h],rfl⟩
  .exact G h
 .repeat' (first|refine st ?_|refine sb λB u=>?_|refine s2 (λh=>?_) λh=>?_|fail)
  exact⟨by rw[sh,eY j],rfl⟩
section
def gt(w:aI)(loc:List bu)(v:AV)(site next:Int):Blk:=⟨10,[[.lst (w.cells.map aH.enc),.lst (w.locks.map bC.enc),.lst (w.conds.map bR.enc),.lst (w.futures.map au),.lst (w.threads.map au),.lst (w.sites.map bU.enc),.lst (loc.map au),v,.Uf site,.Uf next]]⟩
def aS.at_(i:aS)(s:Int):aS:={i with site:=s}
theorem O3(bg:Nat)(w:aI)(loc:List bu)(o:Option Nat)(out:List aS)(site next:Int)(i:aS)(M:o=none->out=[])(N:out.length<2^30):
  ac Tryz.prog 53 [.ptr bg 0 0,.agg i.enc] ((bg,gt w loc (aj o out.length) site next)::ab o 6 (out.map aS.enc)) λu K=>∃(v:AV) (b:Nat),u=v/\v=.tup []/\K=(bg,gt w loc (aj (some b) (out.length+1)) site next)::ab (some b) 6 ((out++[i.at_ site]).map aS.enc):=by
 refine ac.fz (uS _ _ _ _ ?_);refine vw ?_;generalize E:(λ(v:AV) (L:SH)=>∃D L2,az [v] L [D] L2/\∃(v:AV) (b:Nat),D=v/\v=AV.tup []/\L2=(bg,gt w loc (aj (some b) (out.length+1)) site next)::ab (some b) 6 ((out++[i.at_ site]).map aS.enc))=Q;have G:∀(b:Nat) (L:SH),fV L ((bg,gt w loc (aj (some b) (out.length+1)) site next)::ab (some b) 6 (out.map aS.enc++[(i.at_ site).enc]))->Q (.tup []) L:=λb L h=>by subst E;refine⟨_,_,az.pickE h rfl (R2:=(bg,gt w loc (aj (some b) (out.length+1)) site next)::ab (some b) 6 ((out++[i.at_ site]).map aS.enc)) (by rw[LT];rfl),_,b,rfl,rfl,rfl⟩
 clear E;unfold gt at *
 repeat' (first|refine st ?_|refine bF rp rp Ud (λe=>by first|simp[M e]) Uc Ud (by simp;omega) (by simp;omega) Uc (λj B=>?_)|refine sb λj B=>?_|refine s2 (λh=>?_) λh=>?_|fail)
 cases i;exact G j _ (.one (.there _ (.there _ (.there _ (.here _)))) (.one (.here _) (.nil _)))
section
variable {bg:Nat} {w:aI} {loc:List bu} {o:Option Nat} {out:List aS} {site next:Int} {L L1 L2:SH}
theorem O4{i:aS}{KL:R}(B:eJ bg (gt w loc (aj o out.length) site next) L L1)(h2:ea o 6 (out.map aS.enc) L1 L2)(D:o=none->out=[])(u:out.length<2^30)
  (j:∀b:Nat,KL (.tup []) ((bg,gt w loc (aj (some b) (out++[i.at_ site]).length) site next)::(L2++ab (some b) 6 ((out++[i.at_ site]).map aS.enc)))):W.callM Tryz.prog 53 [.ptr bg 0 0,.agg i.enc] L KL:=by
 refine tf (M:=L2) (O3 bg w loc o out site next i D u) (B.perm.trans (h2.perm.cons _)) ?_;rintro _ _ ⟨v,b,rfl,rfl,rfl⟩;refine⟨_,.cons _ SG,?_⟩;have:=j b;rw[SD]at this;exact this
end
end
section
theorem an{P:Prop}(h:P:=by first|assumption|exact nofun|fail):P:=h
theorem om{P:Prop}(h:P:=by omega):P:=h
def lD(f:FuncId)(args:List AV)(w:aI)(loc:List bu)(k:Nat):Prop:=∀(bg:Nat) (o:Option Nat) (out:List aS) (site next:Int),(o=none->out=[])->out.length+k<2^30->
 ac Tryz.prog f (.ptr bg 0 0::args) ((bg,gt w loc (aj o out.length) site next)::ab o 6 (out.map aS.enc)) λu K=>∃(o':Option Nat) (out':List aS) (site' next':Int),u=.tup []/\(o'=none->out'=[])/\out.length<=out'.length/\out'.length<=out.length+k/\K=(bg,gt w loc (aj o' out'.length) site' next')::ab o' 6 (out'.map aS.enc)
section
variable {f:FuncId} {args:List AV} {w:aI} {loc:List bu} {k m bg:Nat} {o:Option Nat} {out:List aS} {site next:Int} {L L1 L2:SH} {KL:R}
theorem dh(h:lD f args w loc k)(h1:eJ bg (gt w loc (aj o m) site next) L L1)(h2:ea o 6 (out.map aS.enc) L1 L2)(O:m=out.length)(h0:o=none->out=[])(S:out.length+k<2^30)
  (N:∀(D:Option Nat) (j:List aS) (u B:Int),(D=none->j=[])->out.length<=j.length->j.length<=out.length+k->KL (.tup []) ((bg,gt w loc (aj D j.length) u B)::(L2++ab D 6 (j.map aS.enc)))):W.callM Tryz.prog f (.ptr bg 0 0::args) L KL:=by
 subst O;refine tf (M:=L2) (h bg o out site next h0 S) (h1.perm.trans (h2.perm.cons _)) ?_;rintro _ _ ⟨D,j,E,G,rfl,h3,Z,Y,rfl⟩;exact⟨_,.cons _ SG,N D j E G h3 Z Y⟩
theorem oO{b:Nat}(h:lD f args w loc k)(h1:eJ bg (gt w loc (aj (some b) m) site next) L L1)(h2:ea (some b) 6 (out.map aS.enc) L1 L2)(S:m=out.length)(hp:0<out.length)(Y:out.length+k<2^30)
  (O:∀(D:Nat) (j:List aS) (u B:Int),out.length<=j.length->j.length<=out.length+k->KL (.tup []) ((bg,gt w loc (aj (some D) j.length) u B)::(L2++ab (some D) 6 (j.map aS.enc)))):W.callM Tryz.prog f (.ptr bg 0 0::args) L KL:=by
 refine dh h h1 h2 S nofun Y λM j G N h3 E Z=>?_
 rcases M with _|D
 .have:=h3 rfl;subst this;have h6:out.length<=0:=E;omega
 .exact O D j G N E Z
theorem dM{M G E D B u:Int}(Y:eJ bg (gt w loc (aj o m) site next) L L1)(h2:ea o 6 (out.map aS.enc) L1 L2)(O:m=out.length)(Z:o=none->out=[])(S:out.length<2^30)
  (N:∀(b:Nat) (j:List aS),j.length=out.length+1->KL (.tup []) ((bg,gt w loc (aj (some b) j.length) site next)::(L2++ab (some b) 6 (j.map aS.enc)))):W.callM Tryz.prog 53 [.ptr bg 0 0,.agg [.Uf M,.Uf G,.Uf E,.Uf D,.Uf B,.Uf u]] L KL:=by
 subst O;exact O4 (i:=⟨M,G,E,D,B,u⟩) Y h2 Z S λb=>N b _ Ud
theorem u3{Q:R}
  (O:(λ(v:AV) (L:SH)=>∃G L2,az [v] L [G] L2/\∃(E:Option Nat) (u:List aS) (B D:Int),G=.tup []/\(E=none->u=[])/\out.length<=u.length/\u.length<=out.length+k/\L2=(bg,gt w loc (aj E u.length) B D)::ab E 6 (u.map aS.enc))=Q)
  (E:Option Nat) (u:List aS) (B D:Int) (j:Nat) (L:SH) (h:fV L ((bg,gt w loc (aj E j) B D)::ab E 6 (u.map aS.enc))) (N:j=u.length) (M:E=none->u=[]) (S:out.length<=u.length) (h2:u.length<=out.length+k):Q (.tup []) L:=by
 subst O N;exact⟨_,_,az.pick h rfl,E,u,B,D,rfl,M,S,h2,rfl⟩
theorem lD.mono{B:Nat}(h:lD f args w loc k)(O:k<=B):lD f args w loc B:=λbg o out site next M N=>(h bg o out site next M Ua).mono λu K ⟨E,j,D,G,a,b,c,d,e⟩=>⟨E,j,D,G,a,b,c,Ua,e⟩
theorem C2{K:AV->Prop}(h:K (.Uf (out.length:Int)))(j:o=none->out=[]:=by assumption):W.len (aj o out.length) K:=xf h λe=>by rw[j e];rfl
end
theorem O5{op:Int}{name:bu}{n:Nat}(h:yd op name n+z0 op<2^50):op≠0/\(n=0->op=1\/op=2)/\(op=3->name=[113]):=by
 unfold yd z0 z3 at h;refine⟨λe=>?_,λe=>?_,λe=>?_⟩
 .rw[if_pos e]at h;omega
 .rw[if_pos e]at h;by_cases g:op=0\/op=1\/op=2
  .rcases g with g|g|g
   .rw[if_pos g]at h;omega
   .exact .inl g
   .exact .inr g
  .rw[if_neg g]at h;omega
 .by_cases g:name=[113]
  .exact g
  .rw[if_neg g,if_pos e]at h;omega
theorem MA:∀(l:List aw) (h:1<l.length),(l[0]'Ua).wt+l[1].wt<=aw.wts l
 |x::y::l,_=>by simp only[aw.wts,List.getElem_cons_zero,List.getElem_cons_succ];omega
structure WQ(w:aI):Prop where
 c:w.cells.length<2^40
 l:w.locks.length<2^40
 d:w.conds.length<2^40
 f:w.futures.length<2^40
 t:w.threads.length<2^40
 q:∃b:Nat,b<w.cells.length/\sh w.cells [113]=b
section
variable {w:aI} {loc:List bu} (hw:WQ w) (hlo:loc.length<2^40)
include hw hlo
theorem xk:∀(n:Nat) (e:aw) (d:Int),e.wt+z0 e.op<=n->n<2^29->lD 140 [.agg e.row,.Uf d] w loc e.wt:=by
 intro n
 induction n using Nat.strongRecOn with
 |_ n ih=>
 intro e d hn hn2 bg o out site next h0 hl
 have hwe:=e.wt_eq;have B:∀(i:Nat) (h:i<e.l.length) (d:Int),lD 140 [.agg e.l[i].row,.Uf d] w loc e.l[i].wt:=λi h d=>ih _ (by have:=aw.wts_get0 e.l i h;omega) e.l[i] d (Fd _) (by have:=aw.wts_get0 e.l i h;omega)
 have kw:=aw.wts_get0 e.l;have G:=MA e.l;have Y:=λ(i:Nat) (h:i<e.l.length)=>yb h;obtain⟨b1,b2,b3⟩:=O5 (op:=e.op) (name:=e.name) (n:=e.l.length) Ua;have ha:=EY loc e.name Ua;have hc:=BM w e.name (by have:=hw.c;omega);refine ac.fz (rE _ _ _ _ _ ?_);refine vw ?_;generalize hQ:(λ(v:AV) (L:SH)=>∃v2 L2,az [v] L [v2] L2/\∃(o':Option Nat) (out':List aS) (site' next':Int),_)=Q;have fin:=u3 hQ;clear hQ;unfold aw.row;clear ih hn;generalize e.l=l at *;generalize e.op=op at *;generalize e.name=name at *;by_cases p1:op=1
 .subst p1
  repeat' (first|refine st ?_|((with_reducible refine bb 53 ?_);(refine dM rp rp om an om (λZ j u=>?_)))|refine sb λE D=>?_|refine s2 (λh=>?_) λh=>?_|fail)
  exact fin _ _ _ _ _ _ (.one (.here _) (.slotl .last)) om an om om
 by_cases p2:op=2
 .subst p2
  repeat' (first|refine st ?_|((with_reducible refine bb 53 ?_);(refine dM rp rp om an om (λZ j u=>?_)))|((with_reducible refine eh 53 ?_);refine md ?_;refine dM rp rp om an om (λZ j u ks_=>?_))|(refine pf 108 ?_;refine pm (ha) ?_)|(refine pf 173 ?_;refine pm (hc) ?_)|refine sb λE D=>?_|refine s2 (λh=>?_) λh=>?_|fail)
  all_goals exact fin _ _ _ _ _ _ (.one (.here _) (.slotl .last)) om an om om
 have d1:decide (op=1)=false:=decide_eq_false p1;have d2:decide (op=2)=false:=decide_eq_false p2;have S:0<l.length:=by
  rcases Ts l.length with h|h
  .rcases b2 h with h|h
   .exact absurd h p1
   .exact absurd h p2
  .exact h
 have k0:=B 0 S;have x0:=Y 0 S;have g0:=kw 0 S;by_cases p3:op=3
 .subst p3;obtain⟨b,hb,hcb⟩:=hw.q;rw[b3 rfl,hcb]at hc;have e3:=b3 rfl;subst e3;have hxc:=ao (f:=aH.enc) hb;clear B kw G Y b1 b2 b3;generalize l[0]=a at *
  repeat' (first|refine st ?_|((with_reducible refine bb 140 ?_);(refine dh (k0 _) rp rp om an om (λo_ j s_ n_ M u N=>?_)))|(refine pf 173 ?_;refine pm (hc) ?_)|((with_reducible refine bb 53 ?_);(refine dM rp rp om an om (λZ j u=>?_)))|refine sb λE D=>?_|refine s2 (λh=>?_) λh=>?_|fail)
  exact fin _ _ _ _ _ _ (.one (.here _) (.slotl .last)) om an om om
 have d3:decide (op=3)=false:=decide_eq_false p3;by_cases p4:l.length=1
 .have d4:decide ((l.length:Int)=1)=true:=decide_eq_true Ua;clear B kw G Y b1 b2 b3;generalize l[0]=a at *
  repeat' (first|refine st ?_|((with_reducible refine bb 140 ?_);(refine dh (k0 _) rp rp om an om (λo_ j s_ n_ M u N=>?_)))|((with_reducible refine bb 53 ?_);(refine dM rp rp om an om (λZ j u=>?_)))|refine sb λE D=>?_|refine s2 (λh=>?_) λh=>?_|fail)
  exact fin _ _ _ _ _ _ (.one (.here _) (.slotl .last)) om an om om
 .have d4:decide ((l.length:Int)=1)=false:=decide_eq_false Ua;have O:1<l.length:=by omega
  have k1:=B 1 O;have x1:=Y 1 O;have g1:=G O;clear B kw G Y b1 b2 b3;generalize l[0]=a at *;generalize l[1]=c at *
  repeat' (first|refine st ?_|((with_reducible refine bb 140 ?_);(refine dh (k0 _) rp rp om an om (λo_ j s_ n_ M u N=>?_)))|((with_reducible refine bb 140 ?_);(refine dh (k1 _) rp rp om an om (λo_ j s_ n_ M u N=>?_)))|((with_reducible refine bb 53 ?_);(refine dM rp rp om an om (λZ j u=>?_)))|refine sb λE D=>?_|refine s2 (λh=>?_) λh=>?_|fail)
  exact fin _ _ _ _ _ _ (.one (.here _) (.slotl .last)) om an om om
end
end
end Go.Proofs.YtbofdbhnbodbiaaGreatDoor.Am
