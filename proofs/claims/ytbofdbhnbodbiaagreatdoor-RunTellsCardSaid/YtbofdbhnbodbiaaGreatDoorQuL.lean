/- A part of the proof; the statement is proved in the last part. -/
import Derived.Test.YtbofdbhnbodbiaaGreatDoorQuK
set_option linter.all false
set_option maxRecDepth 100000
set_option maxHeartbeats 20000000
namespace Go.Proofs.YtbofdbhnbodbiaaGreatDoor.Am
def Jd:aq Tryz.prog 13 [] (.bool true):=.of_ok (fZ (n:=2000) (d:=50) Se (by kernel_rfl) (by kernel_rfl))
def Nb(t s:List UInt8):aq Tryz.prog 6 [.lst (t.map fL),.lst (s.map fL)] (.bool (decide (200<t.length)||decide (100<s.length))):=by
 refine Bb _ _ _ _ ?_;refine vw ?_;by_cases B:200<t.length
 .have G:decide ((t.length:Int) > 200)=true:=decide_eq_true UW
  repeat' (first|refine st ?_|refine sb λu j=>?_|refine s2 (λh=>?_) λh=>?_|fail)
  exact⟨by rw[decide_eq_true B];rfl,rfl⟩
 .have G:decide ((t.length:Int) > 200)=false:=decide_eq_false UW;by_cases E:100<s.length
  .have D:decide ((s.length:Int) > 100)=true:=decide_eq_true UW
   repeat' (first|refine st ?_|refine sb λu j=>?_|refine s2 (λh=>?_) λh=>?_|fail)
   exact⟨by rw[decide_eq_false B,decide_eq_true E];exact congrArg AV.bool D,rfl⟩
  .have D:decide ((s.length:Int) > 100)=false:=decide_eq_false UW
   repeat' (first|refine st ?_|refine sb λu j=>?_|refine s2 (λh=>?_) λh=>?_|fail)
   exact⟨by rw[decide_eq_false B,decide_eq_false E];exact congrArg AV.bool D,rfl⟩
def LD(c:aY)(j:∀t∈c.ts,t.ins.length<2^40)(l:List cK):aq Tryz.prog 11 [.agg (fa c l).1.enc,.agg (fa c l).1.enc] (.bool true)/\aq Tryz.prog 12 [.agg (fa c l).2.enc,.agg (fa c l).2.enc] (.bool true):=by
 have M:=IJ c j l;have g:∀w:aG,(fa c l).1.w=w->w.cells.length<2^62/\w.locks.length<2^62/\w.conds.length<2^62/\w.futures.length<2^62/\w.threads.length<2^62/\w.sites.length<2^62->aq Tryz.prog 11 [.agg (fa c l).1.enc,.agg (fa c l).1.enc] (.bool true):=λw e h=>by refine IN _ ?_ M.1 UW;rw[e];exact La w h.1 h.2.1 h.2.2.1 h.2.2.2.1 h.2.2.2.2.1 h.2.2.2.2.2
 cases D:gA (gS c)with
 |false=>
  have B:fa c l=(⟨⟨[],[],[],[],[],[]⟩,[]⟩,cy.zero):=by unfold fa;rw[D];rfl
  refine⟨g _ (by rw[B]) U0,?_⟩;rw[B];exact E6 c 0 UW _ ⟨nofun,TG _,TG _,nofun,TG _,TG _,TG _,TG _⟩
 |true=>
  have E:=eH.1 D;have u:=E.world;have B:fa c l=(⟨c.w,(ep c l).1⟩,(ep c l).2):=by unfold fa;rw[D];rfl
  refine⟨g c.w (by rw[B]) ⟨by have:=u.c12;omega,by have:=u.l4;omega,by have:=u.d2;omega,by have:=u.f2;omega,by have:=u.t4;omega,by have:=u.s60;omega⟩,?_⟩;rw[B];have G:=xy (ii E j) l (p:=([],bL c)) (pp E) (TG _);exact E6 c _ G.2 _ G.1
def LE(t s:List UInt8)(hc:t.length<2^40->∃c:aY,aq Tryz.prog 7 [.lst (t.map fL)] (.agg c.enc)/\(∀x∈c.ts,x.ins.length<2^40)):aq Tryz.prog 3 [.lst (t.map fL),.lst (s.map fL)] (.bool true):=by
 have j:=Nb t s;refine ac.fz (tH _ _ _ _ ?_);refine vw ?_;generalize hQ:(λ(v:AV) (L:SH)=>∃v2 L2,az [v] L [v2] L2/\v2=AV.bool true/\L2=[])=Q;have hq:∀L,Q (.bool true) L:=λL=>by subst hQ;exact⟨_,[],az.all (.refl _),rfl,rfl⟩
 clear hQ;by_cases hl:200<t.length\/100<s.length
 .rw[show(decide (200<t.length)||decide (100<s.length))=true by simpa using hl]at j
  repeat' (first|refine st ?_|(refine pf 6 ?_;refine pm (j) ?_)|refine sb λE D=>?_|refine s2 (λh=>?_) λh=>?_|fail)
  exact hq _
 .rw[show(decide (200<t.length)||decide (100<s.length))=false by simpa using hl]at j;obtain⟨c,B,u⟩:=hc UW;have Y:=FA s UW;have haw:=Jd;generalize S:s.map Ja=l at *;have hll:l.length<=100:=by rw[<-S];simp;omega
  have hr:=MP c u l UW;have O:=M1 c u l UW;obtain⟨N,M⟩:=LD c u l;generalize fa c l=r at *;obtain⟨⟨w1,ev⟩,st1⟩:=r;dsimp only at *;have G:∀s:cy,s.enc=[.lst (s.sync.locks.map LockD.enc),.U1 s.sync.tx,.lst (s.sync.done.map aB),.lst (s.sync.threads.map ThrD.enc),.lst (s.cells.map ah),.lst (s.futures.map ah),.lst (s.threads.map aD.enc)]:=λ_=>rfl
  unfold oJ.enc at *;have Z:c.enc=[.lst (c.w.cells.map aF.enc),.lst (c.w.locks.map bn.enc),.lst (c.w.conds.map bP.enc),.lst (c.w.futures.map au),.lst (c.w.threads.map au),.lst (c.w.sites.map bQ.enc),.lst (c.ts.map eB.enc)]:=rfl;rw[G]at *;rw[Z]at *;dsimp only at *
  repeat' (first|refine st ?_|(refine pf 6 ?_;refine pm (j) ?_)|(refine pf 7 ?_;refine pm (B) ?_)|(refine pf 8 ?_;refine pm (Y) ?_)|(refine pf 9 ?_;refine pm (hr) ?_)|(refine pf 10 ?_;refine pm (O) ?_)|(refine pf 11 ?_;refine pm (N) ?_)|(refine pf 12 ?_;refine pm (M) ?_)|(refine pf 13 ?_;refine pm (haw) ?_)|refine sb λE D=>?_|refine s2 (λh=>?_) λh=>?_|fail)
  exact hq _
def oY:RF:=nv (bO Tryz.prog Tryz.f94 [(6,⟨[0,1,5],[],true,[]⟩)] [])
abbrev zU(a b:AV)(L:SH)(Q:R):Prop:=Pc oY 20 Q 0 [] [a,b] L
def mT(j t1:AV)(L:SH)(Q:R)(h:zU j t1 L Q):ac Tryz.prog 94 [j,t1] L Q:=
 fv oY Tryz.func94 h
def oZ:RF:=nv (bO Tryz.prog Tryz.f173 [(6,⟨[1,2,5],[],true,[]⟩)] [(0,[2])])
abbrev zV(a b:AV)(L:SH)(Q:R):Prop:=Pc oZ 20 Q 0 [] [a,b] L
def xm(j t1:AV)(L:SH)(Q:R)(h:zV j t1 L Q):ac Tryz.prog 173 [j,t1] L Q:=
 fv oZ Tryz.func173 h
def qM:RF:=nv (bO Tryz.prog Tryz.f95 [(6,⟨[0,1,2,3,10],[],true,[]⟩)] [])
abbrev Bi(a b c d:AV)(L:SH)(Q:R):Prop:=Pc qM 20 Q 0 [] [a,b,c,d] L
def zW(j t1 t2 t3:AV)(L:SH)(Q:R)(h:Bi j t1 t2 t3 L Q):ac Tryz.prog 95 [j,t1,t2,t3] L Q:=
 fv qM Tryz.func95 h
def eC:RF:=nv (bO Tryz.prog Tryz.f51 [(42,⟨[1,2,3,6,7,8],[18],false,[]⟩),(60055,⟨[1,2,3,6,7,31,65],[18],false,[]⟩),(42037,⟨[1,2,3,6,7,31,39],[18],false,[]⟩),(2402,⟨[1,2,3,6],[18],false,[]⟩),(7502,⟨[1,2,3,9],[69],false,[]⟩),(69,⟨[1,2,3,9],[],true,[]⟩),(18,⟨[1,2,3,6],[],true,[]⟩)] [(0,[1]),(8,[7])])
abbrev zX(a:Kn):Vs->SH->Kn->Prop:=Lp eC 16 q0 42 [a]
abbrev zY(a:Kn)(b:SH)(c d e f:AV):Prop:=Pc eC 18 q0 2402 [a] [c,e,f,d] b
abbrev zZ(a:Kn)(b:SH)(c d e f:AV):Prop:=Pc eC 17 q0 7502 [a] [d,f,c,e] b
abbrev z7(Q:R):Vs->SH->Kn->Prop:=Lp eC 18 Q 69 []
abbrev Bj(a:AV)(L:SH)(Q:R):Prop:=Pc eC 20 Q 0 [] [a] L
def z8(j:AV)(L:SH)(Q:R)(h:Bj j L Q):ac Tryz.prog 51 [j] L Q:=
 fv eC Tryz.func51 h
def mU:RF:=nv (bO Tryz.prog Tryz.f53 [] [])
abbrev xn(a b:AV)(L:SH)(Q:R):Prop:=Pc mU 20 Q 0 [] [a,b] L
def vm(j t1:AV)(L:SH)(Q:R)(h:xn j t1 L Q):ac Tryz.prog 53 [j,t1] L Q:=
 fv mU Tryz.func53 h
def j9:RF:=nv (bO Tryz.prog Tryz.f140 [] [(0,[4])])
abbrev tT(a b c:AV)(L:SH)(Q:R):Prop:=Pc j9 20 Q 0 [] [a,b,c] L
def rS(j t1 t2:AV)(L:SH)(Q:R)(h:tT j t1 t2 L Q):ac Tryz.prog 140 [j,t1,t2] L Q:=
 fv j9 Tryz.func140 h
def jy:RF:=nv (bO Tryz.prog Tryz.f136 [] [(0,[3])])
abbrev rT(a b:AV)(L:SH)(Q:R):Prop:=Pc jy 20 Q 0 [] [a,b] L
def p9(j t1:AV)(L:SH)(Q:R)(h:rT j t1 L Q):ac Tryz.prog 136 [j,t1] L Q:=
 fv jy Tryz.func136 h
def ik:RF:=nv (bO Tryz.prog Tryz.f137 [] [(0,[3])])
abbrev o4(a b:AV)(L:SH)(Q:R):Prop:=Pc ik 20 Q 0 [] [a,b] L
def nw(j t1:AV)(L:SH)(Q:R)(h:o4 j t1 L Q):ac Tryz.prog 137 [j,t1] L Q:=
 fv ik Tryz.func137 h
def jz:RF:=nv (bO Tryz.prog Tryz.f138 [] [(0,[6])])
abbrev rU(a b c d e:AV)(L:SH)(Q:R):Prop:=Pc jz 20 Q 0 [] [a,b,c,d,e] L
def qa(u t1 t2 t3 j:AV)(L:SH)(Q:R)(h:rU u t1 t2 t3 j L Q):ac Tryz.prog 138 [u,t1,t2,t3,j] L Q:=
 fv jz Tryz.func138 h
def lL:RF:=nv (bO Tryz.prog Tryz.f139 [(6,⟨[0,1,5],[],true,[]⟩)] [])
abbrev vn(a b:AV)(L:SH)(Q:R):Prop:=Pc lL 20 Q 0 [] [a,b] L
def tU(j t1:AV)(L:SH)(Q:R)(h:vn j t1 L Q):ac Tryz.prog 139 [j,t1] L Q:=
 fv lL Tryz.func139 h
def lM:RF:=nv (bO Tryz.prog Tryz.f96 [(30025,⟨[0,3,4,25,31],[],true,[]⟩)] [(0,[3])])
abbrev vp(a b:AV)(L:SH)(Q:R):Prop:=Pc lM 20 Q 0 [] [a,b] L
def tV(j t1:AV)(L:SH)(Q:R)(h:vp j t1 L Q):ac Tryz.prog 96 [j,t1] L Q:=
 fv lM Tryz.func96 h
def kf:RF:=nv (bO Tryz.prog Tryz.f52 [(3,⟨[0,1,4],[],true,[]⟩)] [])
abbrev tW(a b:AV)(L:SH)(Q:R):Prop:=Pc kf 20 Q 0 [] [a,b] L
def rV(j t1:AV)(L:SH)(Q:R)(h:tW j t1 L Q):ac Tryz.prog 52 [j,t1] L Q:=
 fv kf Tryz.func52 h
def dD:RF:=nv (bO Tryz.prog Tryz.f24 [(60,⟨[1,2,7,8,9,10,11,12,13,14],[48],false,[]⟩),(6902,⟨[1,2,7,8,9,11],[21],false,[]⟩),(48,⟨[1,2,7,8,9,10,11,12],[21],false,[]⟩),(2702,⟨[1,2,7,8,9],[21],false,[]⟩),(21,⟨[1,2,7,8,9],[],true,[]⟩)] [(0,[1])])
abbrev vq(a:Kn):Vs->SH->Kn->Prop:=Lp dD 16 q0 60 [a]
abbrev vt(a:Kn)(b:SH)(c d e f g h:AV):Prop:=Pc dD 16 q0 6902 [a] [f,g,c,h,e,d] b
abbrev vu(a:Kn):Vs->SH->Kn->Prop:=Lp dD 17 q0 48 [a]
abbrev vx(a:Kn)(b:SH)(c d e f g:AV):Prop:=Pc dD 18 q0 2702 [a] [d,g,c,f,e] b
abbrev xo(a:AV)(L:SH)(Q:R):Prop:=Pc dD 20 Q 0 [] [a] L
def vy(j:AV)(L:SH)(Q:R)(h:xo j L Q):ac Tryz.prog 24 [j] L Q:=
 fv dD Tryz.func24 h
def Je(l:List bn)(s:bv)(M:l.length<2^62):aq Tryz.prog 94 [.lst (l.map bn.enc),.str s] (.U1 (gr l s)):=by
 refine mT _ _ _ _ ?_;refine vw ?_;refine dt l (λx=>decide (x.name=s)) (λi=>[.lst (l.map bn.enc),.str s,.U1 i]) M rfl (λi D N S j E G=>?_) (λi D N j E=>?_)
 all_goals refine vw ?_
 .have O:=am (f:=bn.enc) D
  repeat' (first|refine st ?_|refine sb λB u=>?_|refine s2 (λh=>?_) λh=>?_|fail)
  .exact⟨by rw[gr,kZ D j h],rfl⟩
  .exact G h
 .repeat' (first|refine st ?_|refine sb λB u=>?_|refine s2 (λh=>?_) λh=>?_|fail)
  exact⟨by rw[gr,fg j],rfl⟩
def Cc(w:aG)(s:bv)(M:w.cells.length<2^62):aq Tryz.prog 173 [.agg w.enc,.str s] (.U1 (sI w.cells s)):=by
 refine xm _ _ _ _ ?_;refine vw ?_;refine yn ?_;refine dt w.cells (λx=>decide (x.name=s)) (λi=>[.str s,.pptr [w.enc] 0 0,.U1 i]) M rfl (λi D N S j E G=>?_) (λi D N j E=>?_)
 all_goals refine vw ?_
 .have O:=am (f:=aF.enc) D
  repeat' (first|refine st ?_|refine sb λB u=>?_|refine s2 (λh=>?_) λh=>?_|fail)
  .exact⟨by rw[sI,kZ D j h],rfl⟩
  .exact G h
 .repeat' (first|refine st ?_|refine sb λB u=>?_|refine s2 (λh=>?_) λh=>?_|fail)
  exact⟨by rw[sI,fg j],rfl⟩
section
def gz(w:aG)(loc:List bv)(v:AV)(site next:Int):Blk:=⟨10,[[.lst (w.cells.map aF.enc),.lst (w.locks.map bn.enc),.lst (w.conds.map bP.enc),.lst (w.futures.map au),.lst (w.threads.map au),.lst (w.sites.map bQ.enc),.lst (loc.map au),v,.U1 site,.U1 next]]⟩
def aT.at_(i:aT)(s:Int):aT:={i with site:=s}
theorem PN(bg:Nat)(w:aG)(loc:List bv)(o:Option Nat)(out:List aT)(site next:Int)(i:aT)(M:o=none->out=[])(N:out.length<2^30):
  ac Tryz.prog 53 [.ptr bg 0 0,.agg i.enc] ((bg,gz w loc (aj o out.length) site next)::ab o 6 (out.map aT.enc)) λu K=>∃(v:AV) (b:Nat),u=v/\v=.tup []/\K=(bg,gz w loc (aj (some b) (out.length+1)) site next)::ab (some b) 6 ((out++[i.at_ site]).map aT.enc):=by
 refine ac.fz (vm _ _ _ _ ?_);refine vw ?_;generalize E:(λ(v:AV) (L:SH)=>∃D L2,az [v] L [D] L2/\∃(v:AV) (b:Nat),D=v/\v=AV.tup []/\L2=(bg,gz w loc (aj (some b) (out.length+1)) site next)::ab (some b) 6 ((out++[i.at_ site]).map aT.enc))=Q;have G:∀(b:Nat) (L:SH),fE L ((bg,gz w loc (aj (some b) (out.length+1)) site next)::ab (some b) 6 (out.map aT.enc++[(i.at_ site).enc]))->Q (.tup []) L:=λb L h=>by subst E;refine⟨_,_,az.pickE h rfl (R2:=(bg,gz w loc (aj (some b) (out.length+1)) site next)::ab (some b) 6 ((out++[i.at_ site]).map aT.enc)) (by rw[Ti];rfl),_,b,rfl,rfl,rfl⟩
 clear E;unfold gz at *
 repeat' (first|refine st ?_|refine bA rp rp UZ (λe=>by first|simp[M e]) UY UZ (by simp;omega) (by simp;omega) UY (λj B=>?_)|refine sb λj B=>?_|refine s2 (λh=>?_) λh=>?_|fail)
 cases i;exact G j _ (.one (.there _ (.there _ (.there _ (.here _)))) (.one (.here _) (.nil _)))
section
variable {bg:Nat} {w:aG} {loc:List bv} {o:Option Nat} {out:List aT} {site next:Int} {L L1 L2:SH}
theorem PO{i:aT}{KL:R}(B:eO bg (gz w loc (aj o out.length) site next) L L1)(h2:ee o 6 (out.map aT.enc) L1 L2)(D:o=none->out=[])(u:out.length<2^30)
  (j:∀b:Nat,KL (.tup []) ((bg,gz w loc (aj (some b) (out++[i.at_ site]).length) site next)::(L2++ab (some b) 6 ((out++[i.at_ site]).map aT.enc)))):W.callM Tryz.prog 53 [.ptr bg 0 0,.agg i.enc] L KL:=by
 refine tI (M:=L2) (PN bg w loc o out site next i D u) (B.perm.trans (h2.perm.cons _)) ?_;rintro _ _ ⟨v,b,rfl,rfl,rfl⟩;refine⟨_,.cons _ Tt,?_⟩;have:=j b;rw[Tp]at this;exact this
end
end
section
theorem an{P:Prop}(h:P:=by first|assumption|exact nofun|fail):P:=h
theorem om{P:Prop}(h:P:=by omega):P:=h
def lN(f:FuncId)(args:List AV)(w:aG)(loc:List bv)(k:Nat):Prop:=∀(bg:Nat) (o:Option Nat) (out:List aT) (site next:Int),(o=none->out=[])->out.length+k<2^30->
 ac Tryz.prog f (.ptr bg 0 0::args) ((bg,gz w loc (aj o out.length) site next)::ab o 6 (out.map aT.enc)) λu K=>∃(o':Option Nat) (out':List aT) (site' next':Int),u=.tup []/\(o'=none->out'=[])/\out.length<=out'.length/\out'.length<=out.length+k/\K=(bg,gz w loc (aj o' out'.length) site' next')::ab o' 6 (out'.map aT.enc)
section
variable {f:FuncId} {args:List AV} {w:aG} {loc:List bv} {k m bg:Nat} {o:Option Nat} {out:List aT} {site next:Int} {L L1 L2:SH} {KL:R}
theorem du(h:lN f args w loc k)(h1:eO bg (gz w loc (aj o m) site next) L L1)(h2:ee o 6 (out.map aT.enc) L1 L2)(O:m=out.length)(h0:o=none->out=[])(S:out.length+k<2^30)
  (N:∀(D:Option Nat) (j:List aT) (u B:Int),(D=none->j=[])->out.length<=j.length->j.length<=out.length+k->KL (.tup []) ((bg,gz w loc (aj D j.length) u B)::(L2++ab D 6 (j.map aT.enc)))):W.callM Tryz.prog f (.ptr bg 0 0::args) L KL:=by
 subst O;refine tI (M:=L2) (h bg o out site next h0 S) (h1.perm.trans (h2.perm.cons _)) ?_;rintro _ _ ⟨D,j,E,G,rfl,h3,Z,Y,rfl⟩;exact⟨_,.cons _ Tt,N D j E G h3 Z Y⟩
theorem o5{b:Nat}(h:lN f args w loc k)(h1:eO bg (gz w loc (aj (some b) m) site next) L L1)(h2:ee (some b) 6 (out.map aT.enc) L1 L2)(S:m=out.length)(hp:0<out.length)(Y:out.length+k<2^30)
  (O:∀(D:Nat) (j:List aT) (u B:Int),out.length<=j.length->j.length<=out.length+k->KL (.tup []) ((bg,gz w loc (aj (some D) j.length) u B)::(L2++ab (some D) 6 (j.map aT.enc)))):W.callM Tryz.prog f (.ptr bg 0 0::args) L KL:=by
 refine du h h1 h2 S nofun Y λM j G N h3 E Z=>?_
 rcases M with _|D
 .have:=h3 rfl;subst this;have h6:out.length<=0:=E;omega
 .exact O D j G N E Z
theorem dP{M G E D B u:Int}(Y:eO bg (gz w loc (aj o m) site next) L L1)(h2:ee o 6 (out.map aT.enc) L1 L2)(O:m=out.length)(Z:o=none->out=[])(S:out.length<2^30)
  (N:∀(b:Nat) (j:List aT),j.length=out.length+1->KL (.tup []) ((bg,gz w loc (aj (some b) j.length) site next)::(L2++ab (some b) 6 (j.map aT.enc)))):W.callM Tryz.prog 53 [.ptr bg 0 0,.agg [.U1 M,.U1 G,.U1 E,.U1 D,.U1 B,.U1 u]] L KL:=by
 subst O;exact PO (i:=⟨M,G,E,D,B,u⟩) Y h2 Z S λb=>N b _ UZ
theorem vz{Q:R}
  (O:(λ(v:AV) (L:SH)=>∃G L2,az [v] L [G] L2/\∃(E:Option Nat) (u:List aT) (B D:Int),G=.tup []/\(E=none->u=[])/\out.length<=u.length/\u.length<=out.length+k/\L2=(bg,gz w loc (aj E u.length) B D)::ab E 6 (u.map aT.enc))=Q)
  (E:Option Nat) (u:List aT) (B D:Int) (j:Nat) (L:SH) (h:fE L ((bg,gz w loc (aj E j) B D)::ab E 6 (u.map aT.enc))) (N:j=u.length) (M:E=none->u=[]) (S:out.length<=u.length) (h2:u.length<=out.length+k):Q (.tup []) L:=by
 subst O N;exact⟨_,_,az.pick h rfl,E,u,B,D,rfl,M,S,h2,rfl⟩
theorem lN.mono{B:Nat}(h:lN f args w loc k)(O:k<=B):lN f args w loc B:=λbg o out site next M N=>(h bg o out site next M UW).mono λu K ⟨E,j,D,G,a,b,c,d,e⟩=>⟨E,j,D,G,a,b,c,UW,e⟩
theorem Dy{K:AV->Prop}(h:K (.U1 (out.length:Int)))(j:o=none->out=[]:=by assumption):W.len (aj o out.length) K:=xA h λe=>by rw[j e];rfl
end
theorem PP{op:Int}{name:bv}{n:Nat}(h:yz op name n+z0 op<2^50):op≠0/\(n=0->op=1\/op=2)/\(op=3->name=[113]):=by
 unfold yz z0 z3 at h;refine⟨λe=>?_,λe=>?_,λe=>?_⟩
 .rw[if_pos e]at h;omega
 .rw[if_pos e]at h;by_cases g:op=0\/op=1\/op=2
  .rcases g with g|g|g
   .rw[if_pos g]at h;omega
   .exact .inl g
   .exact .inr g
  .rw[if_neg g]at h;omega
 .by_cases g:name=[113]
  .exact g
  .rw[if_neg g,if_pos e]at h;omega
theorem Nc:∀(l:List ax) (h:1<l.length),(l[0]'UW).wt+l[1].wt<=ax.wts l
 |x::y::l,_=>by simp only[ax.wts,List.getElem_cons_zero,List.getElem_cons_succ];omega
structure WQ(w:aG):Prop where
 c:w.cells.length<2^40
 l:w.locks.length<2^40
 d:w.conds.length<2^40
 f:w.futures.length<2^40
 t:w.threads.length<2^40
 q:∃b:Nat,b<w.cells.length/\sI w.cells [113]=b
section
variable {w:aG} {loc:List bv} (hw:WQ w) (hlo:loc.length<2^40)
include hw hlo
theorem xF:∀(n:Nat) (e:ax) (d:Int),e.wt+z0 e.op<=n->n<2^29->lN 140 [.agg e.row,.U1 d] w loc e.wt:=by
 intro n
 induction n using Nat.strongRecOn with
 |_ n ih=>
 intro e d hn hn2 bg o out site next h0 hl
 have hwe:=e.wt_eq;have B:∀(i:Nat) (h:i<e.l.length) (d:Int),lN 140 [.agg e.l[i].row,.U1 d] w loc e.l[i].wt:=λi h d=>ih _ (by have:=ax.wts_get0 e.l i h;omega) e.l[i] d (Te _) (by have:=ax.wts_get0 e.l i h;omega)
 have kw:=ax.wts_get0 e.l;have G:=Nc e.l;have Y:=λ(i:Nat) (h:i<e.l.length)=>yx h;obtain⟨b1,b2,b3⟩:=PP (op:=e.op) (name:=e.name) (n:=e.l.length) UW;have ha:=Fu loc e.name UW;have hc:=Cc w e.name (by have:=hw.c;omega);refine ac.fz (rS _ _ _ _ _ ?_);refine vw ?_;generalize hQ:(λ(v:AV) (L:SH)=>∃v2 L2,az [v] L [v2] L2/\∃(o':Option Nat) (out':List aT) (site' next':Int),_)=Q;have fin:=vz hQ;clear hQ;unfold ax.row;clear ih hn;generalize e.l=l at *;generalize e.op=op at *;generalize e.name=name at *;by_cases p1:op=1
 .subst p1
  repeat' (first|refine st ?_|((with_reducible refine bb 53 ?_);(refine dP rp rp om an om (λZ j u=>?_)))|refine sb λE D=>?_|refine s2 (λh=>?_) λh=>?_|fail)
  exact fin _ _ _ _ _ _ (.one (.here _) (.slotl .last)) om an om om
 by_cases p2:op=2
 .subst p2
  repeat' (first|refine st ?_|((with_reducible refine bb 53 ?_);(refine dP rp rp om an om (λZ j u=>?_)))|((with_reducible refine ew 53 ?_);refine mt ?_;refine dP rp rp om an om (λZ j u ks_=>?_))|(refine pf 108 ?_;refine pm (ha) ?_)|(refine pf 173 ?_;refine pm (hc) ?_)|refine sb λE D=>?_|refine s2 (λh=>?_) λh=>?_|fail)
  all_goals exact fin _ _ _ _ _ _ (.one (.here _) (.slotl .last)) om an om om
 have d1:decide (op=1)=false:=decide_eq_false p1;have d2:decide (op=2)=false:=decide_eq_false p2;have S:0<l.length:=by
  rcases Ug l.length with h|h
  .rcases b2 h with h|h
   .exact absurd h p1
   .exact absurd h p2
  .exact h
 have k0:=B 0 S;have x0:=Y 0 S;have g0:=kw 0 S;by_cases p3:op=3
 .subst p3;obtain⟨b,hb,hcb⟩:=hw.q;rw[b3 rfl,hcb]at hc;have e3:=b3 rfl;subst e3;have hxc:=am (f:=aF.enc) hb;clear B kw G Y b1 b2 b3;generalize l[0]=a at *
  repeat' (first|refine st ?_|((with_reducible refine bb 140 ?_);(refine du (k0 _) rp rp om an om (λo_ j s_ n_ M u N=>?_)))|(refine pf 173 ?_;refine pm (hc) ?_)|((with_reducible refine bb 53 ?_);(refine dP rp rp om an om (λZ j u=>?_)))|refine sb λE D=>?_|refine s2 (λh=>?_) λh=>?_|fail)
  exact fin _ _ _ _ _ _ (.one (.here _) (.slotl .last)) om an om om
 have d3:decide (op=3)=false:=decide_eq_false p3;by_cases p4:l.length=1
 .have d4:decide ((l.length:Int)=1)=true:=decide_eq_true UW;clear B kw G Y b1 b2 b3;generalize l[0]=a at *
  repeat' (first|refine st ?_|((with_reducible refine bb 140 ?_);(refine du (k0 _) rp rp om an om (λo_ j s_ n_ M u N=>?_)))|((with_reducible refine bb 53 ?_);(refine dP rp rp om an om (λZ j u=>?_)))|refine sb λE D=>?_|refine s2 (λh=>?_) λh=>?_|fail)
  exact fin _ _ _ _ _ _ (.one (.here _) (.slotl .last)) om an om om
 .have d4:decide ((l.length:Int)=1)=false:=decide_eq_false UW;have O:1<l.length:=by omega
  have k1:=B 1 O;have x1:=Y 1 O;have g1:=G O;clear B kw G Y b1 b2 b3;generalize l[0]=a at *;generalize l[1]=c at *
  repeat' (first|refine st ?_|((with_reducible refine bb 140 ?_);(refine du (k0 _) rp rp om an om (λo_ j s_ n_ M u N=>?_)))|((with_reducible refine bb 140 ?_);(refine du (k1 _) rp rp om an om (λo_ j s_ n_ M u N=>?_)))|((with_reducible refine bb 53 ?_);(refine dP rp rp om an om (λZ j u=>?_)))|refine sb λE D=>?_|refine s2 (λh=>?_) λh=>?_|fail)
  exact fin _ _ _ _ _ _ (.one (.here _) (.slotl .last)) om an om om
end
end
end Go.Proofs.YtbofdbhnbodbiaaGreatDoor.Am
