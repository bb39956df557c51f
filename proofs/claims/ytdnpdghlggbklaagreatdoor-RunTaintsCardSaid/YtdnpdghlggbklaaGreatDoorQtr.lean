/- A part of the proof; the statement is proved in the last part. -/
import Derived.Test.YtdnpdghlggbklaaGreatDoorQtq
set_option linter.unusedSimpArgs false
set_option linter.unusedVariables false
namespace Go.Proofs.YtdnpdghlggbklaaGreatDoor.Am
section
set_option maxRecDepth 100000
set_option maxHeartbeats 4000000
set_option linter.unusedSimpArgs false
set_option linter.unusedSectionVars false
theorem IM{KS:SH→Prop}{n b i off:Nat}{v:AV}{x:Blk}{r cs:List AV}{L L':SH}(hu:DQ b x ⟨x.size,x.rows.set i (bK r off cs)⟩ L L')(h1:x.rows[i]? =some r)(h2:v.cells? =some cs)(h3:cs.length=n)(h4:cs.all AV.one=true)(h5:off+n≤r.length)(h:KS L'):W.store n (.ptr b i off) v L KS:=⟨x,r,cs,L',h1,h2,h3,h4,h5,hu,h⟩
theorem cM{n b m:Nat}{k:IntKind}{i:Int}{y:Blk}{L:SH}{K:AV→Prop}(h0:0≤i)(h1:i.toNat<m)(hm:(b,y)∈L)(h2:y.size=n)(h:K (.ptr b i.toNat 0)):W.idx n (.sl b 0 m) (.int k i) L K:=ML h0 h1 hm h2 (by rw[Y2];exact h)
def iR(Q:R)(L168:SH)(x132 x24 x142 x167 x171 x10 x14 x6 x8 x177 x115:AV):Prop:=
 aC 1 x24 L168 λx269=>wb .eql 3 x269 (.ZO 3) λx270=>wk x270 (Cs (bR Q) L168 x132 x24 x142 x167 x171 x10 x14 x6 x8 x177) (zd (bR Q) L168 x269 x132 x24 x142 x167 x171 x10 x14 x6 x8 x177 x115)
section
variable (c:bB) (s:dw) (t wake:Int) (h1:inB t s.threads.length=true) (hc:inB t c.ts.length=true) (th:aH) (hth:aI s t=th) (i:bq) (hi:aT (am c t) th.pc=i) (hpc:inB th.pc (am c t).ins.length=true) (sy:SyncD) (sv:Int) (e:aY) (b132 b24 b8 b6 bt tb:Nat) (o oc of:Option Nat) (hn1:b24≠b6) (hn2:b24∉SH.names ((b8,(⟨7,[ey]⟩:Blk))::[]) ) (ho:o=none→th.regs=[]) (hoc:oc=none→s.cells=[]) (hof:of=none→s.futures=[]) (Q:R)
def cO(th:aH)(tb:Nat)(o:Option Nat):List AV:=[.ZO th.pc,aS o th.regs.length,.sl tb 0 th.taint.length,.ZO th.ev]
def iD(s:dw)(th:aH)(tb:Nat)(o oc of:Option Nat):SH:=ae o 1 (th.regs.map aj)++(tb,⟨1,th.taint.map cz⟩)::(ae oc 1 (s.cells.map aj)++ae of 1 (s.futures.map aj))
def jT(s:dw)(t:Int)(th:aH)(e:aY)(b24 b8 b6 bt tb:Nat)(o:Option Nat)(RR:SH):SH:=
 (b24,⟨7,[e.enc]⟩)::(b8,⟨7,[ey]⟩)::(b6,⟨7,[bT]⟩)::(bt,⟨4,(s.threads.map aH.enc).set t.toNat (cO th tb o)⟩)::RR
def gU(s:dw)(sy:SyncD)(bt:Nat)(oc of:Option Nat):List AV:=[.lst (sy.locks.map LockD.enc),.ZO sy.tx,.lst (sy.done.map bj),.lst (sy.threads.map ThrD.enc),aS oc s.cells.length,aS of s.futures.length,.sl bt 0 s.threads.length]
include h1 hc hth hi hpc
theorem UO(RR:SH)(h:∀b132,iR Q ((b132,⟨7,[gU s sy bt oc of]⟩)::jT s t th e b24 b8 b6 bt tb o RR) (.ptr b132 0 0) (.ptr b24 0 0) (.ptr bt t.toNat 0) (.pptr [i.enc] 0 0) (.ZO th.ev) (.pptr [c.enc] 0 0) (.pptr [[.ZO t,.ZO wake]] 0 0) (.ptr b6 0 0) (.ptr b8 0 0) (.ZO (IntKind.i64.wrap (th.pc+1))) (.ZO sv)):
  ld Q (.pptr [sy.enc] 0 0) (.pptr [[.ZO t,.ZO wake]] 0 0) (.pptr [c.enc] 0 0) (.ptr b24 0 0) (.ptr b6 0 0) (.ptr b8 0 0) (.ZO sv) (.agg [.nils,.ZO 0,.nils,.nils,aS oc s.cells.length,aS of s.futures.length,.sl bt 0 s.threads.length]) (jT s t th e b24 b8 b6 bt tb o RR):=by
 obtain⟨i1,i2⟩:=ax.1 h1;have hlt:t.toNat<(s.threads.map aH.enc).length:=by simp;omega
 have x1:(c.ts.map hY.enc)[t.toNat]? =some (am c t).enc:=oo hc;have y1:=ax.1 hc;have x4:((am c t).ins.map bq.enc)[th.pc.toNat]? =some i.enc:=by rw[←hi];exact dU hpc
 have y4:=ax.1 hpc;have s0:=eg (cO th tb o) hlt;unfold cO at s0;unfold ld SyncD.enc;unfold jT cO gU at *;unfold iR at h;have hce:c.enc=[.lst (c.w.cells.map bA.enc),.lst (c.w.locks.map cq.enc),.lst (c.w.conds.map db.enc),.lst (c.w.futures.map av),.lst (c.w.threads.map av),.lst (c.w.sites.map cQ.enc),.lst (c.ts.map hY.enc)]:=rfl;rw[hce]at *;have hie:(am c t).enc=[.ZO (am c t).regs,.lst ((am c t).ins.map bq.enc)]:=rfl;rw[hie]at x1;cases oc
 all_goals cases of
 all_goals
  dsimp only[aS]at *;have hlt2:t.toNat<s.threads.length:=by omega
  repeat' (first|exact h _|refine cM i1 hlt2 rp rfl ?_|refine st ?_|refine IM rp ZL ZL ZL ZL ZM ?_|refine sb λnb_ hnb_=>?_|refine s2 (λh=>?_) λh=>?_|fail)
end
end
section
set_option maxRecDepth 100000
set_option maxHeartbeats 4000000
set_option linter.unusedSimpArgs false
set_option linter.unusedSectionVars false
section
variable (c:bB) (s:dw) (t wake:Int) (h1:inB t s.threads.length=true) (hc:inB t c.ts.length=true) (th:aH) (i:bq) (sy:SyncD) (sv:Int) (e:aY) (b132 b24 b8 b6 bt tb:Nat) (o oc of:Option Nat) (hn1:b24≠b6) (ho:o=none→th.regs=[]) (hoc:oc=none→s.cells=[]) (hof:of=none→s.futures=[])
 (htn:th.taint.length=th.regs.length) (hse:az Tryz.prog 52 [.agg (am c t).enc,.agg (bS i e s th sv).thread.enc] (EN (aQ (am c t) (bS i e s th sv).thread))) (Q:R) (hq:∀v L,Fz L v (IL (uL c s t sy e (bS i e s th sv)))→Q v L)
def jU(c:bB)(s:dw)(t wake:Int)(th:aH)(i:bq)(sy:SyncD)(sv:Int)(e:aY)(b132 b24 b8 b6 bt tb:Nat)(o oc of:Option Nat)(Q:R):Prop:=
 iR Q ((b132,⟨7,[gU s sy bt oc of]⟩)::jT s t th e b24 b8 b6 bt tb o (iD s th tb o oc of)) (.ptr b132 0 0) (.ptr b24 0 0) (.ptr bt t.toNat 0) (.pptr [i.enc] 0 0) (.ZO th.ev) (.pptr [c.enc] 0 0) (.pptr [[.ZO t,.ZO wake]] 0 0) (.ptr b6 0 0) (.ptr b8 0 0) (.ZO (IntKind.i64.wrap (th.pc+1))) (.ZO sv)
include h1 hc hn1 ho hoc hof htn hse hq
theorem XS(hk:e.kind=3)(ra:0≤i.a∧i.a<th.regs.length)(hob:inB e.obj s.cells.length=true):jU c s t wake th i sy sv e b132 b24 b8 b6 bt tb o oc of Q:=by
 have hact:bS i e s th sv=⟨kH s.cells e.obj,s.cells,s.futures,⟨IntKind.i64.wrap (th.pc+1),th.regs.set i.a.toNat (kH s.cells e.obj),th.taint.set i.a.toNat [th.ev],IntKind.i64.wrap (th.ev+1)⟩⟩:=by simp[bS,hk]
 rw[hact]at hse hq;obtain⟨e1,ek,eo,v0,es,d,f⟩:=e;obtain⟨op,ia,ib,ic,m,site⟩:=i;dsimp only at *;subst hk;have hob1:=ax.1 hob;have hi1:=ax.1 h1;cases o with
 |none=>rw[ho rfl]at ra;simp at ra;omega
 |some bo=>
  cases oc with
  |none=>rw[hoc rfl]at hob1;simp at hob1;omega
  |some boc=>
   unfold jU iR jT iD gU cO;obtain⟨J,hJ⟩:∃J,J=bR Q:=⟨_,rfl⟩;rw[←hJ];have s0:=eg (cO th tb (some bo)) (l:=s.threads.map aH.enc) (n:=t.toNat) (by simp;omega);unfold cO at s0;dsimp only[aS,ae,List.cons_append,List.nil_append]at *;have y1:=qU (s:=th) ra.1 ra.2;have y2:=uK (s:=th) ra.1 ZJ;have y3:(s.cells.map aj)[eo.toNat]? =some [.ZO (kH s.cells eo)]:=oo hob;have z1:ia.toNat<th.regs.length:=by omega
   have z2:ia.toNat<th.taint.length:=by omega
   have z3:eo.toNat<s.cells.length:=by omega
   repeat' (first|refine cM ra.1 z1 rp rfl ?_|refine cM ra.1 z2 rp rfl ?_|refine cM hob1.1 z3 rp rfl ?_|refine Hk (cM hob1.1 z3 rp rfl ?_)|refine st ?_|refine sb λnb_ hnb_=>?_|refine s2 (λh=>?_) λh=>?_|fail)
   rw[hJ];refine FC c s t wake h1 hc sy ⟨e1,3,eo,v0,es,d,f⟩ ⟨kH s.cells eo,s.cells,s.futures,⟨IntKind.i64.wrap (th.pc+1),th.regs.set ia.toNat (kH s.cells eo),th.taint.set ia.toNat [th.ev],IntKind.i64.wrap (th.ev+1)⟩⟩ b132 b24 b8 b6 bt (some boc) of [(nb_,⟨1,[[.ZO th.ev]]⟩),(bo,⟨1,(th.regs.map aj).set ia.toNat [.ZO (kH s.cells eo)]⟩),(tb,⟨1,(th.taint.map cz).set ia.toNat [.sl nb_ 0 1]⟩)]
    ((boc,⟨1,s.cells.map aj⟩)::ae of 1 (s.futures.map aj)) ((bo,⟨1,(th.regs.map aj).set ia.toNat [.ZO (kH s.cells eo)]⟩)::(tb,⟨1,(th.taint.map cz).set ia.toNat [.sl nb_ 0 1]⟩)::(boc,⟨1,s.cells.map aj⟩)::ae of 1 (s.futures.map aj)) [(nb_,⟨1,[[.ZO th.ev]]⟩)] (.inr ⟨_,rfl⟩) (by dsimp only;omega) (.refl _) (.sl bo 0 th.regs.length) (.sl tb 0 th.taint.length) ?_ ?_ hn1 nofun hof ?_ ?_ hse th.pc th.ev rfl Q hq
   ·exact λL hL=>Fz.sls (hL _ (.tail _ (.head _))) (by simp[Y6,aj]) ZN ZM
   ·exact λL hL=>LU ZN rfl z2 (hL _ (.tail _ (.tail _ (.head _)))) (.cons (Fz.sls (l:=[th.ev]) (f:=aj) (hL _ (.head _)) rfl ZN rfl) .nil)
   ·exact λb hb=>by cases hb;exact⟨_,rfl,.head _⟩
   ·exact λb hb=>by subst hb;exact⟨_,rfl,.tail _ (.head _)⟩
theorem WW(hk:e.kind=23)(ra:0≤i.a∧i.a<th.regs.length)(hob:inB e.obj s.futures.length=true):jU c s t wake th i sy sv e b132 b24 b8 b6 bt tb o oc of Q:=by
 have hact:bS i e s th sv=⟨kH s.futures e.obj,s.cells,s.futures,⟨IntKind.i64.wrap (th.pc+1),th.regs.set i.a.toNat (kH s.futures e.obj),th.taint.set i.a.toNat [th.ev],IntKind.i64.wrap (th.ev+1)⟩⟩:=by simp[bS,hk]
 rw[hact]at hse hq;obtain⟨e1,ek,eo,v0,es,d,f⟩:=e;obtain⟨op,ia,ib,ic,m,site⟩:=i;dsimp only at *;subst hk;have hob1:=ax.1 hob;have hi1:=ax.1 h1;cases o with
 |none=>rw[ho rfl]at ra;simp at ra;omega
 |some bo=>
  cases of with
  |none=>rw[hof rfl]at hob1;simp at hob1;omega
  |some bof=>
   unfold jU iR jT iD gU cO;obtain⟨J,hJ⟩:∃J,J=bR Q:=⟨_,rfl⟩;rw[←hJ];have s0:=eg (cO th tb (some bo)) (l:=s.threads.map aH.enc) (n:=t.toNat) (by simp;omega);unfold cO at s0;have y1:=qU (s:=th) ra.1 ra.2;have y2:=uK (s:=th) ra.1 ZJ;have y3:(s.futures.map aj)[eo.toNat]? =some [.ZO (kH s.futures eo)]:=oo hob;have z1:ia.toNat<th.regs.length:=by omega
   have z2:ia.toNat<th.taint.length:=by omega
   have z3:eo.toNat<s.futures.length:=by omega
   have goal:∀(nb_:Nat) (A:SH),A=[(bof,⟨1,s.futures.map aj⟩)]→J [.pptr [c.enc] 0 0,.pptr [[.ZO t,.ZO wake]] 0 0,.ptr b6 0 0,.ptr b8 0 0,.ptr b24 0 0,.ptr b132 0 0,.ptr bt t.toNat 0,.ZO (IntKind.i64.wrap (th.pc+1))]
     ((nb_,⟨1,[[.ZO th.ev]]⟩)::(b132,⟨7,[gU s sy bt oc (some bof)]⟩)::(b24,⟨7,[(aY.mk e1 23 eo (kH s.futures eo) es d f).enc]⟩)::(b8,⟨7,[ey]⟩)::(b6,⟨7,[bT]⟩)::(bt,⟨4,(s.threads.map aH.enc).set t.toNat (cO th tb (some bo))⟩)::(bo,⟨1,(th.regs.map aj).set ia.toNat [.ZO (kH s.futures eo)]⟩)::(tb,⟨1,(th.taint.map cz).set ia.toNat [.sl nb_ 0 1]⟩)::(ae oc 1 (s.cells.map aj)++A)):=by
    rintro nb_ A rfl;rw[hJ];refine FC c s t wake h1 hc sy ⟨e1,23,eo,v0,es,d,f⟩ ⟨kH s.futures eo,s.cells,s.futures,⟨IntKind.i64.wrap (th.pc+1),th.regs.set ia.toNat (kH s.futures eo),th.taint.set ia.toNat [th.ev],IntKind.i64.wrap (th.ev+1)⟩⟩ b132 b24 b8 b6 bt oc (some bof) [(nb_,⟨1,[[.ZO th.ev]]⟩),(bo,⟨1,(th.regs.map aj).set ia.toNat [.ZO (kH s.futures eo)]⟩),(tb,⟨1,(th.taint.map cz).set ia.toNat [.sl nb_ 0 1]⟩)]
     (ae oc 1 (s.cells.map aj)++[(bof,⟨1,s.futures.map aj⟩)]) ((bo,⟨1,(th.regs.map aj).set ia.toNat [.ZO (kH s.futures eo)]⟩)::(tb,⟨1,(th.taint.map cz).set ia.toNat [.sl nb_ 0 1]⟩)::(ae oc 1 (s.cells.map aj)++[(bof,⟨1,s.futures.map aj⟩)])) [(nb_,⟨1,[[.ZO th.ev]]⟩)] (.inr ⟨_,rfl⟩) (by dsimp only;omega) (.refl _) (.sl bo 0 th.regs.length) (.sl tb 0 th.taint.length) ?_ ?_ hn1 hoc nofun ?_ ?_ hse th.pc th.ev rfl Q hq
    ·exact λL hL=>Fz.sls (hL _ (.tail _ (.head _))) (by simp[Y6,aj]) ZN ZM
    ·exact λL hL=>LU ZN rfl z2 (hL _ (.tail _ (.tail _ (.head _)))) (.cons (Fz.sls (l:=[th.ev]) (f:=aj) (hL _ (.head _)) rfl ZN rfl) .nil)
    ·exact λb hb=>by subst hb;exact⟨_,rfl,.head _⟩
    ·exact λb hb=>by cases hb;exact⟨_,rfl,ZM⟩
   cases oc
   all_goals
    dsimp only[aS,ae,List.cons_append,List.nil_append]at *
    repeat' (first|refine cM ra.1 z1 rp rfl ?_|refine cM ra.1 z2 rp rfl ?_|refine cM hob1.1 z3 rp rfl ?_|refine Hk (cM hob1.1 z3 rp rfl ?_)|refine st ?_|refine sb λnb_ hnb_=>?_|refine s2 (λh=>?_) λh=>?_|fail)
    exact goal nb_ _ rfl
end
end
section
set_option maxRecDepth 100000
set_option maxHeartbeats 4000000
set_option linter.unusedSimpArgs false
set_option linter.unusedSectionVars false
section
variable (c:bB) (s:dw) (t wake:Int) (h1:inB t s.threads.length=true) (hc:inB t c.ts.length=true) (th:aH) (i:bq) (sy:SyncD) (sv:Int) (e:aY) (b132 b24 b8 b6 bt tb:Nat) (o oc of:Option Nat) (hn1:b24≠b6) (ho:o=none→th.regs=[]) (hoc:oc=none→s.cells=[]) (hof:of=none→s.futures=[])
 (htn:th.taint.length=th.regs.length) (hse:az Tryz.prog 52 [.agg (am c t).enc,.agg (bS i e s th sv).thread.enc] (EN (aQ (am c t) (bS i e s th sv).thread))) (Q:R) (hq:∀v L,Fz L v (IL (uL c s t sy e (bS i e s th sv)))→Q v L)
include h1 hc hn1 ho hoc hof htn hse hq
theorem XT(hk:e.kind=4)(ra:0≤i.b∧i.b<th.regs.length)(hob:inB e.obj s.cells.length=true):jU c s t wake th i sy sv e b132 b24 b8 b6 bt tb o oc of Q:=by
 have hact:bS i e s th sv=⟨th.reg i.b,s.cells.set e.obj.toNat (th.reg i.b),s.futures,⟨IntKind.i64.wrap (th.pc+1),th.regs,th.taint,IntKind.i64.wrap (th.ev+1)⟩⟩:=by simp[bS,hk]
 rw[hact]at hse hq;obtain⟨e1,ek,eo,v0,es,d,f⟩:=e;obtain⟨op,ia,ib,ic,m,site⟩:=i;dsimp only at *;subst hk;have hob1:=ax.1 hob;have hi1:=ax.1 h1;cases o with
 |none=>rw[ho rfl]at ra;simp at ra;omega
 |some bo=>
  cases oc with
  |none=>rw[hoc rfl]at hob1;simp at hob1;omega
  |some boc=>
   unfold jU iR jT iD gU cO;obtain⟨J,hJ⟩:∃J,J=bR Q:=⟨_,rfl⟩;rw[←hJ];have s0:=eg (cO th tb (some bo)) (l:=s.threads.map aH.enc) (n:=t.toNat) (by simp;omega);unfold cO at s0;have y1:=qU (s:=th) ra.1 ra.2;have y3:(s.cells.map aj)[eo.toNat]? =some [.ZO (kH s.cells eo)]:=oo hob;have z1:ib.toNat<th.regs.length:=by omega
   have z3:eo.toNat<s.cells.length:=by omega
   have goal:∀(A:SH),A=[]→J [.pptr [c.enc] 0 0,.pptr [[.ZO t,.ZO wake]] 0 0,.ptr b6 0 0,.ptr b8 0 0,.ptr b24 0 0,.ptr b132 0 0,.ptr bt t.toNat 0,.ZO (IntKind.i64.wrap (th.pc+1))]
     ((b132,⟨7,[gU s sy bt (some boc) of]⟩)::(b24,⟨7,[(aY.mk e1 4 eo (th.reg ib) es d f).enc]⟩)::(b8,⟨7,[ey]⟩)::(b6,⟨7,[bT]⟩)::(bt,⟨4,(s.threads.map aH.enc).set t.toNat (cO th tb (some bo))⟩)::(bo,⟨1,th.regs.map aj⟩)::(tb,⟨1,th.taint.map cz⟩)::((boc,⟨1,(s.cells.map aj).set eo.toNat [.ZO (th.reg ib)]⟩)::(ae of 1 (s.futures.map aj)++A))):=by
    rintro A rfl;rw[hJ];have:=FC c s t wake h1 hc sy ⟨e1,4,eo,v0,es,d,f⟩ ⟨th.reg ib,s.cells.set eo.toNat (th.reg ib),s.futures,⟨IntKind.i64.wrap (th.pc+1),th.regs,th.taint,IntKind.i64.wrap (th.ev+1)⟩⟩ b132 b24 b8 b6 bt (some boc) of [(bo,⟨1,th.regs.map aj⟩),(tb,⟨1,th.taint.map cz⟩)]
     ((boc,⟨1,(s.cells.map aj).set eo.toNat [.ZO (th.reg ib)]⟩)::(ae of 1 (s.futures.map aj)++[])) ((bo,⟨1,th.regs.map aj⟩)::(tb,⟨1,th.taint.map cz⟩)::((boc,⟨1,(s.cells.map aj).set eo.toNat [.ZO (th.reg ib)]⟩)::(ae of 1 (s.futures.map aj)++[]))) [] (.inl rfl) (λ_=>rfl) (.refl _) (.sl bo 0 th.regs.length) (.sl tb 0 th.taint.length) ?_ ?_ hn1 nofun hof ?_ ?_ hse th.pc th.ev rfl Q hq
    ·simp only[ZC]at this;exact this
    ·exact λL hL=>Fz.sls (hL _ (.head _)) rfl ZN rfl
    ·exact λL hL=>Fz.sls (hL _ (.tail _ (.head _))) rfl ZN rfl
    ·exact λb hb=>by cases hb;exact⟨_,by simp[Y6,aj],.head _⟩
    ·exact λb hb=>by subst hb;exact⟨_,rfl,.tail _ (.head _)⟩
   cases of
   all_goals
    dsimp only[aS,ae,List.cons_append,List.nil_append]at *
    repeat' (first|refine cM ra.1 z1 rp rfl ?_|refine cM hob1.1 z3 rp rfl ?_|refine Hk (cM hob1.1 z3 rp rfl ?_)|refine st ?_|refine sb λnb_ hnb_=>?_|refine s2 (λh=>?_) λh=>?_|fail)
    exact goal _ rfl
theorem WX(hk:e.kind=22)(ra:0≤i.b∧i.b<th.regs.length)(hob:inB e.obj s.futures.length=true):jU c s t wake th i sy sv e b132 b24 b8 b6 bt tb o oc of Q:=by
 have hact:bS i e s th sv=⟨th.reg i.b,s.cells,s.futures.set e.obj.toNat (th.reg i.b),⟨IntKind.i64.wrap (th.pc+1),th.regs,th.taint,IntKind.i64.wrap (th.ev+1)⟩⟩:=by simp[bS,hk]
 rw[hact]at hse hq;obtain⟨e1,ek,eo,v0,es,d,f⟩:=e;obtain⟨op,ia,ib,ic,m,site⟩:=i;dsimp only at *;subst hk;have hob1:=ax.1 hob;have hi1:=ax.1 h1;cases o with
 |none=>rw[ho rfl]at ra;simp at ra;omega
 |some bo=>
  cases of with
  |none=>rw[hof rfl]at hob1;simp at hob1;omega
  |some bof=>
   unfold jU iR jT iD gU cO;obtain⟨J,hJ⟩:∃J,J=bR Q:=⟨_,rfl⟩;rw[←hJ];have s0:=eg (cO th tb (some bo)) (l:=s.threads.map aH.enc) (n:=t.toNat) (by simp;omega);unfold cO at s0;have y1:=qU (s:=th) ra.1 ra.2;have y3:(s.futures.map aj)[eo.toNat]? =some [.ZO (kH s.futures eo)]:=oo hob;have z1:ib.toNat<th.regs.length:=by omega
   have z3:eo.toNat<s.futures.length:=by omega
   have goal:∀(A:SH),A=[(bof,⟨1,(s.futures.map aj).set eo.toNat [.ZO (th.reg ib)]⟩)]→J [.pptr [c.enc] 0 0,.pptr [[.ZO t,.ZO wake]] 0 0,.ptr b6 0 0,.ptr b8 0 0,.ptr b24 0 0,.ptr b132 0 0,.ptr bt t.toNat 0,.ZO (IntKind.i64.wrap (th.pc+1))]
     ((b132,⟨7,[gU s sy bt oc (some bof)]⟩)::(b24,⟨7,[(aY.mk e1 22 eo (th.reg ib) es d f).enc]⟩)::(b8,⟨7,[ey]⟩)::(b6,⟨7,[bT]⟩)::(bt,⟨4,(s.threads.map aH.enc).set t.toNat (cO th tb (some bo))⟩)::(bo,⟨1,th.regs.map aj⟩)::(tb,⟨1,th.taint.map cz⟩)::(ae oc 1 (s.cells.map aj)++A)):=by
    rintro A rfl;rw[hJ];have:=FC c s t wake h1 hc sy ⟨e1,22,eo,v0,es,d,f⟩ ⟨th.reg ib,s.cells,s.futures.set eo.toNat (th.reg ib),⟨IntKind.i64.wrap (th.pc+1),th.regs,th.taint,IntKind.i64.wrap (th.ev+1)⟩⟩ b132 b24 b8 b6 bt oc (some bof) [(bo,⟨1,th.regs.map aj⟩),(tb,⟨1,th.taint.map cz⟩)]
     (ae oc 1 (s.cells.map aj)++[(bof,⟨1,(s.futures.map aj).set eo.toNat [.ZO (th.reg ib)]⟩)]) ((bo,⟨1,th.regs.map aj⟩)::(tb,⟨1,th.taint.map cz⟩)::(ae oc 1 (s.cells.map aj)++[(bof,⟨1,(s.futures.map aj).set eo.toNat [.ZO (th.reg ib)]⟩)])) [] (.inl rfl) (λ_=>rfl) (.refl _) (.sl bo 0 th.regs.length) (.sl tb 0 th.taint.length) ?_ ?_ hn1 hoc nofun ?_ ?_ hse th.pc th.ev rfl Q hq
    ·simp only[ZC]at this;exact this
    ·exact λL hL=>Fz.sls (hL _ (.head _)) rfl ZN rfl
    ·exact λL hL=>Fz.sls (hL _ (.tail _ (.head _))) rfl ZN rfl
    ·exact λb hb=>by subst hb;exact⟨_,rfl,.head _⟩
    ·exact λb hb=>by cases hb;exact⟨(s.futures.map aj).set eo.toNat [.ZO (th.reg ib)],by simp[Y6,aj],ZM⟩
   cases oc
   all_goals
    dsimp only[aS,ae,List.cons_append,List.nil_append]at *
    repeat' (first|refine cM ra.1 z1 rp rfl ?_|refine cM hob1.1 z3 rp rfl ?_|refine Hk (cM hob1.1 z3 rp rfl ?_)|refine st ?_|refine sb λnb_ hnb_=>?_|refine s2 (λh=>?_) λh=>?_|fail)
    exact goal _ rfl
end
end
section
set_option maxRecDepth 100000
set_option maxHeartbeats 4000000
set_option linter.unusedSimpArgs false
set_option linter.unusedSectionVars false
section
variable (c:bB) (s:dw) (t wake:Int) (h1:inB t s.threads.length=true) (hc:inB t c.ts.length=true) (th:aH) (i:bq) (sy:SyncD) (sv:Int) (e:aY) (b132 b24 b8 b6 bt tb:Nat) (o oc of:Option Nat) (hn1:b24≠b6) (ho:o=none→th.regs=[]) (hoc:oc=none→s.cells=[]) (hof:of=none→s.futures=[])
 (htn:th.taint.length=th.regs.length) (hse:az Tryz.prog 52 [.agg (am c t).enc,.agg (bS i e s th sv).thread.enc] (EN (aQ (am c t) (bS i e s th sv).thread))) (Q:R) (hq:∀v L,Fz L v (IL (uL c s t sy e (bS i e s th sv)))→Q v L)
include h1 hc hn1 ho hoc hof htn hse hq
theorem Ng(v p:Int)(ha:bS i e s th sv=⟨v,s.cells,s.futures,⟨p,th.regs,th.taint,IntKind.i64.wrap (th.ev+1)⟩⟩)(ev2:aY)(he2:ev2={e with value:=v}):
  bR Q [.pptr [c.enc] 0 0,.pptr [[.ZO t,.ZO wake]] 0 0,.ptr b6 0 0,.ptr b8 0 0,.ptr b24 0 0,.ptr b132 0 0,.ptr bt t.toNat 0,.ZO p]
   ((b132,⟨7,[gU s sy bt oc of]⟩)::(b24,⟨7,[ev2.enc]⟩)::(b8,⟨7,[ey]⟩)::(b6,⟨7,[bT]⟩)::(bt,⟨4,(s.threads.map aH.enc).set t.toNat (cO th tb o)⟩)::iD s th tb o oc of):=by
 subst he2;rw[ha]at hse hq;refine FC c s t wake h1 hc sy e ⟨v,s.cells,s.futures,⟨p,th.regs,th.taint,IntKind.i64.wrap (th.ev+1)⟩⟩ b132 b24 b8 b6 bt oc of (ae o 1 (th.regs.map aj)++[(tb,⟨1,th.taint.map cz⟩)]) (ae oc 1 (s.cells.map aj)++ae of 1 (s.futures.map aj)) (iD s th tb o oc of) [] (.inl rfl) (λ_=>rfl) (by unfold iD;simp) (aS o th.regs.length) (.sl tb 0 th.taint.length) ?_ ?_ hn1 hoc hof ?_ ?_ hse th.pc th.ev rfl Q hq
 ·exact λL hL=>mA rfl ho λb hb=>hL _ (by subst hb;simp[ae])
 ·exact λL hL=>Fz.sls (hL _ (Yq _ (.head _))) rfl ZN rfl
 ·exact λb hb=>by subst hb;exact⟨_,rfl,by simp[ae]⟩
 ·exact λb hb=>by subst hb;exact⟨_,rfl,by simp[ae]⟩
theorem XU(hk:e.kind=5)(ra:0≤i.a∧i.a<th.regs.length):jU c s t wake th i sy sv e b132 b24 b8 b6 bt tb o oc of Q:=by
 have js:=Ng c s t wake h1 hc th i sy sv e b132 b24 b8 b6 bt tb o oc of hn1 ho hoc hof htn hse Q hq;by_cases hb:th.reg i.a≠0
 ·replace js:=js 1 (IntKind.i64.wrap (th.pc+1)) (by simp[bS,hk,hb]) _ rfl;have d1:decide (th.reg i.a≠0)=true:=decide_eq_true hb;clear hse hq;obtain⟨e1,ek,eo,v0,es,d,f⟩:=e;obtain⟨op,ia,ib,ic,m,site⟩:=i;dsimp only at *;subst hk;have hi1:=ax.1 h1;cases o with
  |none=>rw[ho rfl]at ra;simp at ra;omega
  |some bo=>
   unfold jU iR jT iD gU cO;unfold iD gU cO at js;obtain⟨J,hJ⟩:∃J,J=bR Q:=⟨_,rfl⟩;rw[←hJ]at js ⊢;have s0:=eg (cO th tb (some bo)) (l:=s.threads.map aH.enc) (n:=t.toNat) (by simp;omega);unfold cO at s0;have y1:=qU (s:=th) ra.1 ra.2;have z1:ia.toNat<th.regs.length:=by omega
   generalize ae oc 1 (s.cells.map aj)++ae of 1 (s.futures.map aj)=T at *;dsimp only[aS,ae,List.cons_append,List.nil_append]at *
   repeat' (first|refine cM ra.1 z1 rp rfl ?_|refine st ?_|refine sb λnb_ hnb_=>?_|refine s2 (λh=>?_) λh=>?_|fail)
   exact js
 ·replace js:=js e.value i.b (by simp[bS,hk,hb]) _ rfl;have d1:decide (th.reg i.a≠0)=false:=decide_eq_false hb;clear hse hq;obtain⟨e1,ek,eo,v0,es,d,f⟩:=e;obtain⟨op,ia,ib,ic,m,site⟩:=i;dsimp only at *;subst hk;have hi1:=ax.1 h1;cases o with
  |none=>rw[ho rfl]at ra;simp at ra;omega
  |some bo=>
   unfold jU iR jT iD gU cO;unfold iD gU cO at js;obtain⟨J,hJ⟩:∃J,J=bR Q:=⟨_,rfl⟩;rw[←hJ]at js ⊢;have s0:=eg (cO th tb (some bo)) (l:=s.threads.map aH.enc) (n:=t.toNat) (by simp;omega);unfold cO at s0;have y1:=qU (s:=th) ra.1 ra.2;have z1:ia.toNat<th.regs.length:=by omega
   generalize ae oc 1 (s.cells.map aj)++ae of 1 (s.futures.map aj)=T at *;dsimp only[aS,ae,List.cons_append,List.nil_append]at *
   repeat' (first|refine cM ra.1 z1 rp rfl ?_|refine st ?_|refine sb λnb_ hnb_=>?_|refine s2 (λh=>?_) λh=>?_|fail)
   exact js
theorem XV(hk:e.kind≠3∧e.kind≠23∧e.kind≠4∧e.kind≠22∧e.kind≠5):jU c s t wake th i sy sv e b132 b24 b8 b6 bt tb o oc of Q:=by
 obtain⟨k3,k23,k4,k22,k5⟩:=hk;have js:=Ng c s t wake h1 hc th i sy sv e b132 b24 b8 b6 bt tb o oc of hn1 ho hoc hof htn hse Q hq;have d3:decide (e.kind=3)=false:=decide_eq_false k3;have d23:decide (e.kind=23)=false:=decide_eq_false k23;have d4:decide (e.kind=4)=false:=decide_eq_false k4;have d22:decide (e.kind=22)=false:=decide_eq_false k22;have d5:decide (e.kind=5)=false:=decide_eq_false k5;have hi1:=ax.1 h1;have s0:=eg (cO th tb o) (l:=s.threads.map aH.enc) (n:=t.toNat) (by simp;omega);have en:e.enc=[.ZO e.thread,.ZO e.kind,.ZO e.obj,.ZO e.value,.ZO e.site,.lst (e.deps.map aj),.lst (e.frm.map aj)]:=rfl;by_cases p1:e.kind=18∨e.kind=19
 ·replace js:=js sv (IntKind.i64.wrap (th.pc+1)) (by unfold bS;rw[if_neg k3,if_neg k23,if_neg k4,if_neg k22,if_neg k5,if_pos p1]) _ rfl;unfold jU iR jT;unfold gU cO at *;obtain⟨J,hJ⟩:∃J,J=bR Q:=⟨_,rfl⟩;rw[←hJ]at js ⊢;generalize iD s th tb o oc of=T at *;rw[en];rcases p1 with p1|p1
  ·have d18:decide (e.kind=18)=true:=decide_eq_true p1
   repeat' (first|refine st ?_|refine sb λnb_ hnb_=>?_|refine s2 (λh=>?_) λh=>?_|fail)
   exact js
  ·have d18:decide (e.kind=18)=false:=decide_eq_false ZJ;have d19:decide (e.kind=19)=true:=decide_eq_true p1
   repeat' (first|refine st ?_|refine sb λnb_ hnb_=>?_|refine s2 (λh=>?_) λh=>?_|fail)
   exact js
 ·have d18:decide (e.kind=18)=false:=decide_eq_false ZJ;have d19:decide (e.kind=19)=false:=decide_eq_false ZJ;by_cases p2:e.kind=1∨e.kind=16∨e.kind=2
  ·replace js:=js e.value th.pc (by unfold bS;rw[if_neg k3,if_neg k23,if_neg k4,if_neg k22,if_neg k5,if_neg p1,if_pos p2]) _ rfl;unfold jU iR jT;unfold gU cO at *;obtain⟨J,hJ⟩:∃J,J=bR Q:=⟨_,rfl⟩;rw[←hJ]at js ⊢;generalize iD s th tb o oc of=T at *;rw[en]
   repeat' (first|refine st ?_|refine sb λnb_ hnb_=>?_|refine s2 (λh=>?_) λh=>?_|fail)
   all_goals first
    |exact js
    |(exfalso;simp_all<;>omega)
  ·replace js:=js e.value (IntKind.i64.wrap (th.pc+1)) (by unfold bS;rw[if_neg k3,if_neg k23,if_neg k4,if_neg k22,if_neg k5,if_neg p1,if_neg p2]) _ rfl;unfold jU iR jT;unfold gU cO at *;obtain⟨J,hJ⟩:∃J,J=bR Q:=⟨_,rfl⟩;rw[←hJ]at js ⊢;generalize iD s th tb o oc of=T at *;rw[en]
   repeat' (first|refine st ?_|refine sb λnb_ hnb_=>?_|refine s2 (λh=>?_) λh=>?_|fail)
   all_goals first
    |exact js
    |(exfalso;simp_all<;>omega)
end
end
section
set_option maxRecDepth 100000
set_option maxHeartbeats 4000000
set_option linter.unusedSimpArgs false
set_option linter.unusedSectionVars false
theorem Qm(q:Nat)(o:Option Nat)(tb:Nat)(l:List aH)(hq:q<l.length):jc q o tb l=(l.map aH.enc).set q (cO (l.getD q aH.zero) tb o):=by
 apply Zh;intro j;rw[Yu];rcases X9 j l.length with hj|hj
 ·rw[zg _ _ _ _ _ hj];by_cases e:q=j
  ·subst e;rw[if_pos rfl,if_pos (by simpa using hj)];simp[GX,cO,hj]
  ·rw[if_neg e];simp[GX,show¬j=q from λh=>e h.symm,hj]
 ·rw[X8 (by rw[dh];exact hj),if_neg ZJ,X8 (by simpa using hj)]
theorem N6(i:bq)(s:aH)(t:Int):(cm i s t).kind=ij i.op:=by
 unfold cm;dsimp only
 repeat' split
 all_goals rfl
theorem Qn{i:bq}{n:Int}(h1:1≤i.op)(h2:i.op≤28)(hr:∀r∈cf i,0≤r∧r<n):((ij i.op=3∨ij i.op=23∨ij i.op=5)→0≤i.a∧i.a<n)∧((ij i.op=4∨ij i.op=22)→0≤i.b∧i.b<n):=by obtain⟨op,ia,ib,ic,m,site⟩:=i;dsimp only at *;rcases ops op h1 h2 with rfl|rfl|rfl|rfl|rfl|rfl|rfl|rfl|rfl|rfl|rfl|rfl|rfl|rfl|rfl|rfl|rfl|rfl|rfl|rfl|rfl|rfl|rfl|rfl|rfl|rfl|rfl|rfl<;>simp_all[ij,dI,cf]
structure WY(c:bB)(s:dw)(t:Int)(e:aY):Prop where
 ready:iQ c s t=true
 ra:(e.kind=3∨e.kind=23∨e.kind=5)→0≤(aT (am c t) (aI s t).pc).a∧(aT (am c t) (aI s t).pc).a<(aI s t).regs.length
 rb:(e.kind=4∨e.kind=22)→0≤(aT (am c t) (aI s t).pc).b∧(aT (am c t) (aI s t).pc).b<(aI s t).regs.length
theorem eW{c:bB}{s:dw}{t:Int}(h:iQ c s t=true):inB t c.ts.length=true∧inB t s.threads.length=true∧inB t s.sync.threads.length=true∧inB (aI s t).pc (am c t).ins.length=true∧((aI s t).regs.length:Int)=(am c t).regs∧((aI s t).taint.length:Int)=(am c t).regs:=by unfold iQ at h;simp only[Yl,decide_eq_true_eq]at h;obtain⟨⟨⟨⟨⟨a,b⟩,c⟩,d⟩,e⟩,f⟩:=h;exact⟨a,b,c,d,e,f⟩
theorem FD{c:bB}{s:dw}{t:Int}{e:aY}(hi:∀x∈c.ts,FA x)(h:eF c s t=some e):WY c s t e:=by
 unfold eF at h;by_cases hr:iQ c s t=true
 ·rw[if_pos hr]at h;obtain⟨a1,a2,a3,a4,a5,a6⟩:=eW hr;obtain⟨o1,o2,o3⟩:=hi _ (jq (d:=⟨0,[]⟩) a1) _ (jq (d:=default) a4);rw[show(c.ts.getD t.toNat ⟨0,[]⟩).ins.getD (aI s t).pc.toNat default=aT (am c t) (aI s t).pc from rfl]at o1 o2 o3;have hk:=Qn (n:=(aI s t).regs.length) o1 o2 (λr hr=>by have:=o3 r hr;rw[show(c.ts.getD t.toNat ⟨0,[]⟩).regs=(am c t).regs from rfl]at this;omega);have key:e.kind=1∨e.kind=17∨e.kind=ij (aT (am c t) (aI s t).pc).op:=by
   dsimp only at h;split at h
   ·cases h;exact .inl rfl
   ·split at h
    ·cases h;exact .inr (.inl rfl)
    ·split at h
     ·split at h
      ·cases h;exact .inr (.inr (N6 _ _ _))
      ·cases h
     ·cases h
  refine⟨hr,λhx=>hk.1 ?_,λhx=>hk.2 ?_⟩
  ·rcases key with k|k|k
   ·omega
   ·omega
   ·rw[←k];exact hx
  ·rcases key with k|k|k
   ·omega
   ·omega
   ·rw[←k];exact hx
 ·rw[if_neg hr]at h;cases h
theorem DU(c:bB)(s:dw)(t wake:Int):oX c s t wake=match eF c s t with
  |none=>none
  | some e=>if s.cells.length=c.w.cells.length∧s.futures.length=c.w.futures.length then
    (if(fI c.w s.sync t e.kind e.obj wake).2.2 then uL c s t (fI c.w s.sync t e.kind e.obj wake).1 e (bS (aT (am c t) (aI s t).pc) e s (aI s t) (fI c.w s.sync t e.kind e.obj wake).2.1)else none)else none:=by
 unfold oX uL;rfl
theorem KJ{w:aO}{s:SyncD}{t k o wake:Int}(h:(fI w s t k o wake).2.2=true):allowedS w k o=true:=by
 unfold fI at h;split at h
 ·rename_i he;unfold bn at he;simp only[Yl]at he;exact he.1.2
 ·cases h
structure Tl(U:List Int)(c:bB)(s:dw):Prop where
 ins:∀x∈c.ts,FA x
 len:∀x∈c.ts,x.ins.length<2^40
 u30:U.length≤2^30
 thr:∀x∈s.threads,jF U x∧x.ev∈U∧x.regs.length≤2^30
 sm:PT c.w s.sync
 nt:s.threads.length≤2^30
 nc:s.cells.length<2^40
 nf:s.futures.length<2^40
theorem KK{U:List Int}{i:bq}{e:aY}{s:dw}{th:aH}{sv:Int}(h:jF U th)(hev:th.ev∈U):jF U (bS i e s th sv).thread:=by
 obtain⟨l1,l2,l3,l4⟩:=h;have set1:jF U ⟨th.pc,th.regs,th.taint.set i.a.toNat [th.ev],th.ev⟩:=by
  refine⟨by simpa using l1,l2,λl hl=>?_,λl hl x hx=>?_⟩
  ·rcases Zf hl with h|rfl
   ·exact l3 l h
   ·simp
  ·rcases Zf hl with h|rfl
   ·exact l4 l h x hx
   ·rw[Ye.1 hx];exact hev
 unfold bS;dsimp only
 repeat' split
 all_goals first
  |exact⟨l1,l2,l3,l4⟩
  |exact⟨by simpa using l1,by simpa using l2,set1.short,set1.sub⟩
theorem Sh(U:List Int)(c:bB)(s:dw)(t wake:Int)(H:Tl U c s):az Tryz.prog 25 [.agg c.enc,.agg s.enc,.agg [.ZO t,.ZO wake]] (IL (oX c s t wake)):=by
 obtain⟨hi,hl,hu,hth,hsm,hnt,hnc,hnf⟩:=H;have hp:=Se c s t hi (λx hx r=>by
  have:=(hth x hx).1.short;unfold aH.tnt;rcases X9 r.toNat x.taint.length with h|h
  ·have:=this _ (Yr h);simp[h];omega
  ·simp[List.getD,X8 h])
 rw[DU];refine af.fz (KG _ _ _ _ _ ?_);unfold Fy;generalize hQ:(λ(v:AV) (L:SH)=>∃v2 L2,aG [v] L [v2] L2∧v2=_∧L2=[])=Q;have hq:∀v L,Fz L v (IL (match eF c s t with
  |none=>none
  | some e=>if s.cells.length=c.w.cells.length∧s.futures.length=c.w.futures.length then
    (if(fI c.w s.sync t e.kind e.obj wake).2.2 then uL c s t (fI c.w s.sync t e.kind e.obj wake).1 e (bS (aT (am c t) (aI s t).pc) e s (aI s t) (fI c.w s.sync t e.kind e.obj wake).2.1)else none)else none))→Q v L:=λv L h=>by subst hQ;exact⟨_,[],aG.all h,rfl,rfl⟩
 clear hQ;have hce:c.enc=[.lst (c.w.cells.map bA.enc),.lst (c.w.locks.map cq.enc),.lst (c.w.conds.map db.enc),.lst (c.w.futures.map av),.lst (c.w.threads.map av),.lst (c.w.sites.map cQ.enc),.lst (c.ts.map hY.enc)]:=rfl;have hse:s.enc=[.lst (s.sync.locks.map LockD.enc),.ZO s.sync.tx,.lst (s.sync.done.map bj),.lst (s.sync.threads.map ThrD.enc),.lst (s.cells.map aj),.lst (s.futures.map aj),.lst (s.threads.map aH.enc)]:=rfl;cases hpe:eF c s t with
 |none=>
  rw[hpe]at hp hq;unfold Nf at hp;have hz:=λv L (h:v=_)=>hq v L (by rw[h];exact zj L)
  unfold bT ey aY.zero aY.enc at *;dsimp only[List.map]at hp;rw[hce,hse]at *
  repeat' (first|refine st ?_|(refine pf 26 ?_;refine pm (hp) ?_)|refine sb λnb_ hnb_=>?_|refine s2 (λh=>?_) λh=>?_|fail)
  exact hz _ _ rfl
 |some e=>
  rw[hpe]at hp hq;unfold Nf at hp;dsimp only at hp hq;have hpp:=FD hi hpe;have ha:=PV c.w s.sync t e.kind e.obj wake hsm;have hcp:=Sg s t.toNat hnt hnc hnf (λx hx=>⟨(hth x hx).1.small,by have:=(hth x hx).1.len;have:=(hth x hx).2.2;omega,(hth x hx).1.short⟩);have een:e.enc=[.ZO e.thread,.ZO e.kind,.ZO e.obj,.ZO e.value,.ZO e.site,.lst (e.deps.map aj),.lst (e.frm.map aj)]:=rfl;generalize hres:fI c.w s.sync t e.kind e.obj wake=r at *;obtain⟨sy,sv,ok⟩:=r;unfold Uu at ha;dsimp only at ha hq;by_cases hln:s.cells.length=c.w.cells.length∧s.futures.length=c.w.futures.length
  ·rw[if_pos hln]at hq;have d1:decide ((s.cells.length:Int)≠c.w.cells.length)=false:=decide_eq_false ZJ;have d2:decide ((s.futures.length:Int)≠c.w.futures.length)=false:=decide_eq_false ZJ;cases ok with
   |false=>
    have hz:=λv L (h:v=_)=>hq v L (by rw[h];exact zj L)
    unfold bT ey at hz;rw[hce,hse,een]at *
    repeat' (first|refine st ?_|(refine pf 26 ?_;refine pm (hp) ?_)|(refine pf 50 ?_;refine pm (ha) ?_)|refine sb λnb_ hnb_=>?_|refine s2 (λh=>?_) λh=>?_|fail)
    exact hz _ _ rfl
   |true=>
    rw[if_pos rfl]at hq;obtain⟨a1,a2,a3,a4,a5,a6⟩:=eW hpp.ready;have al:=KJ (w:=c.w) (s:=s.sync) (t:=t) (k:=e.kind) (o:=e.obj) (wake:=wake) (by rw[hres]);have hmem:aI s t∈s.threads:=jq (d:=aH.zero) a2;have hT:=hth _ hmem;have hobc:e.kind=3∨e.kind=4→inB e.obj s.cells.length=true:=λhk=>by unfold allowedS at al;rw[if_neg ZJ,if_pos hk]at al;rw[hln.1];exact al
    have hobf:e.kind=22∨e.kind=23→inB e.obj s.futures.length=true:=λhk=>by unfold allowedS at al;rw[if_neg ZJ,if_neg ZJ,if_neg ZJ,if_neg ZJ,if_neg ZJ,if_neg ZJ,if_pos hk]at al;rw[hln.2];exact al
    have tame:=KK (i:=aT (am c t) (aI s t).pc) (e:=e) (s:=s) (sv:=sv) hT.1 hT.2.1;have hset:=NX (am c t) _ U hu tame.small (by rw[tame.len];exact tame.small) tame.short tame.sub (hl _ (show am c t∈c.ts from jq a1));have fin:∀(v:AV) (K:SH) (b24 b8 b6:Nat),b24≠b6→UL s t.toNat v K→ld Q (.pptr [sy.enc] 0 0) (.pptr [[.ZO t,.ZO wake]] 0 0) (.pptr [c.enc] 0 0) (.ptr b24 0 0) (.ptr b6 0 0) (.ptr b8 0 0) (.ZO sv) v ((b24,⟨7,[e.enc]⟩)::(b8,⟨7,[ey]⟩)::(b6,⟨7,[bT]⟩)::K):=by
     rintro v K b24 b8 b6 hn ⟨oc,of,bt,o,tb,rfl,rfl,hoc,hof,ho⟩;have hlt:t.toNat<s.threads.length:=by have:=ax.1 a2;omega
     have e1:(b24,(⟨7,[e.enc]⟩:Blk))::(b8,⟨7,[ey]⟩)::(b6,⟨7,[bT]⟩)::((bt,⟨4,jc t.toNat o tb s.threads⟩)::(qX t.toNat o tb s.threads s.threads.length++(ae oc 1 (s.cells.map aj)++ae of 1 (s.futures.map aj))))=jT s t (aI s t) e b24 b8 b6 bt tb o (iD s (aI s t) tb o oc of):=by rw[Qm _ _ _ _ hlt,qX,if_pos hlt];unfold jT iD;rw[YP];rfl
     rw[e1];refine UO c s t wake a2 a1 _ rfl _ rfl a4 sy sv e b24 b8 b6 bt tb o oc of Q _ λb132=>?_
     have ho':o=none→(aI s t).regs=[]:=λh=>ho h hlt
     have htn:(aI s t).taint.length=(aI s t).regs.length:=by omega
     by_cases k3:e.kind=3
     ·exact XS c s t wake a2 a1 _ _ sy sv e b132 b24 b8 b6 bt tb o oc of hn ho' hoc hof htn hset Q hq k3 (hpp.ra ZJ) (hobc ZJ)
     by_cases k23:e.kind=23
     ·exact WW c s t wake a2 a1 _ _ sy sv e b132 b24 b8 b6 bt tb o oc of hn ho' hoc hof htn hset Q hq k23 (hpp.ra ZJ) (hobf ZJ)
     by_cases k4:e.kind=4
     ·exact XT c s t wake a2 a1 _ _ sy sv e b132 b24 b8 b6 bt tb o oc of hn ho' hoc hof htn hset Q hq k4 (hpp.rb ZJ) (hobc ZJ)
     by_cases k22:e.kind=22
     ·exact WX c s t wake a2 a1 _ _ sy sv e b132 b24 b8 b6 bt tb o oc of hn ho' hoc hof htn hset Q hq k22 (hpp.rb ZJ) (hobf ZJ)
     by_cases k5:e.kind=5
     ·exact XU c s t wake a2 a1 _ _ sy sv e b132 b24 b8 b6 bt tb o oc of hn ho' hoc hof htn hset Q hq k5 (hpp.ra ZJ)
     exact XV c s t wake a2 a1 _ _ sy sv e b132 b24 b8 b6 bt tb o oc of hn ho' hoc hof htn hset Q hq ⟨k3,k23,k4,k22,k5⟩
    unfold bT ey at fin;clear hq hset tame hobc hobf al hpp hT hmem;rw[hce,hse,een]at *
    repeat' (first|refine st ?_|(refine pf 26 ?_;refine pm (hp) ?_)|(refine pf 50 ?_;refine pm (ha) ?_)|((with_reducible refine bz 51 ?_);(refine qi hcp ?_;intro v K hK;exact fin _ _ _ _ _ (λh_=>by subst h_;simp[SH.names]at hnb_) hK))|refine sb λnb_ hnb_=>?_|refine s2 (λh=>?_) λh=>?_|fail)
  ·rw[if_neg hln]at hq;have hz:=λv L (h:v=_)=>hq v L (by rw[h];exact zj L)
   unfold bT ey at hz;rw[hce,hse,een]at *;by_cases hl1:s.cells.length=c.w.cells.length
   ·have d1:decide ((s.cells.length:Int)≠c.w.cells.length)=false:=decide_eq_false ZJ;have d2:decide ((s.futures.length:Int)≠c.w.futures.length)=true:=decide_eq_true ZJ
    repeat' (first|refine st ?_|(refine pf 26 ?_;refine pm (hp) ?_)|refine sb λnb_ hnb_=>?_|refine s2 (λh=>?_) λh=>?_|fail)
    exact hz _ _ rfl
   ·have d1:decide ((s.cells.length:Int)≠c.w.cells.length)=true:=decide_eq_true ZJ
    repeat' (first|refine st ?_|(refine pf 26 ?_;refine pm (hp) ?_)|refine sb λnb_ hnb_=>?_|refine s2 (λh=>?_) λh=>?_|fail)
    exact hz _ _ rfl
end
section
set_option maxRecDepth 100000
set_option maxHeartbeats 4000000
set_option linter.unusedSimpArgs false
set_option linter.unusedSectionVars false
def LV(t:hY):aH:=⟨0,List.replicate t.regs.toNat 0,List.replicate t.regs.toNat [],0⟩
theorem UP(l:List hY)(h1:l.length≤1000)(hr:∀t∈l,0≤t.regs∧t.regs≤1000)(sy:SyncD)(x y:AV)(hx:∃b n,x=.sl b 0 n)(hy:∃b n,y=.sl b 0 n)(b2 b37 bt:Nat)(RR L0:SH)(Q:R)(hL0:L0.Perm ((bt,⟨4,[]⟩)::(b37,⟨7,[[.lst (sy.locks.map LockD.enc),.ZO sy.tx,.lst (sy.done.map bj),.lst (sy.threads.map ThrD.enc),x,y,.sl bt 0 0]]⟩)::(b2,⟨7,[bT]⟩)::RR))
  (hq:∀(bt:Nat) (L:SH),(bt,(⟨4,(l.map LV).map aH.enc⟩:Blk))∈L→(∀q∈RR,q∈L)→Q (.agg [.lst (sy.locks.map LockD.enc),.ZO sy.tx,.lst (sy.done.map bj),.lst (sy.threads.map ThrD.enc),x,y,.sl bt 0 l.length]) L) :
  W.loop (jo Q) [.ptr b2 0 0,.ptr b37 0 0,.lst (l.map hY.enc),.ZO l.length,.ZO (0:Nat)] L0:=by
 refine bW l.length (λk (b':Nat)=>([.ptr b2 0 0,.ptr b37 0 0,.lst (l.map hY.enc),.ZO l.length,.ZO k],(b',⟨4,((l.take k).map LV).map aH.enc⟩)::(b37,⟨7,[[.lst (sy.locks.map LockD.enc),.ZO sy.tx,.lst (sy.done.map bj),.lst (sy.threads.map ThrD.enc),x,y,.sl b' 0 k]]⟩)::(b2,⟨7,[bT]⟩)::RR)) (λ_ _=>True) bt trivial (aG.forget (K:=[]) hL0) ?_;intro k b' hk _;dsimp only;unfold jo;obtain⟨bx,nx,rfl⟩:=hx;obtain⟨by_,ny,rfl⟩:=hy;rcases Nat.lt_or_ge k l.length with g1|g1
 ·have hd:=bE g1;have hxx:=ay (f:=hY.enc) g1;obtain⟨r1,r2⟩:=hr _ (Yr g1);have htk:l.take (k+1)=l.take k++[l[k]]:=Yd g1;generalize hT:l[k]=tk at *;obtain⟨m,hm⟩:∃m:Nat,tk.regs=(m:Int):=⟨tk.regs.toNat,ZJ⟩;have hke:tk.enc=[.ZO (m:Int),.lst (tk.ins.map bq.enc)]:=by rw[←hm];rfl
  rw[hke]at hxx
  repeat' (first|refine st ?_|refine gr (i:=m) (j:=m) ZJ ZJ ZJ (λnb_ hnb_=>?_)|refine qW rp rp (by simp;omega) rfl (by simp;omega) (by simp;omega) rfl (λnb_ hnb_=>?_)|refine sb λnb_ hnb_=>?_|fail)
  rename_i kr _ kt _ ka _;refine⟨k+1,nb_,ZJ,ZJ,trivial,?_⟩;rw[aA g1 ZJ,htk,Yc,Yc];have e:LV tk=⟨0,List.replicate m 0,List.replicate m [],0⟩:=by unfold LV;rw[hm];rfl
  refine aG.row (K:=[(ka,_),(kt,_),(kr,_)]) (R:=(b37,_)::(b2,_)::RR) (Zs (l₁:=[_,_,_])).symm ZM ?_;intro j r r' q1 q2;rcases X9 j (((l.take k).map LV).map aH.enc).length with hj|hj
  ·rw[Yp hj]at q1 q2;rw[q1]at q2;cases q2;exact iV.refl _ _
  ·rw[Yh hj]at q1 q2;rcases hmm:j-(((l.take k).map LV).map aH.enc).length with _|mm
   ·rw[hmm]at q1 q2;cases q1;cases q2;rw[e];refine .cons (.refl _) (.cons ?_ (.cons ?_ (.cons (.refl _) .nil)))
    ·exact Fz.sls (l:=List.replicate m 0) (f:=aj) (.tail _ (.tail _ (.head _))) (by simp[aj]) ZN ZM
    ·refine Fz.slm (l:=List.replicate m []) (f:=λ_=>[.nils]) (g:=cz) (.tail _ (.head _)) ZM ZN ZM (λy _=>rfl) (λy hy q a a2 q1 q2=>?_);obtain rfl:=(List.mem_replicate.1 hy).2
     match q with
     |0=>cases q1;cases q2;exact .nils
   ·rw[hmm]at q1;simp at q1
 ·have hd:=bI g1;have hk0:k=l.length:=by omega
  subst hk0;rw[YL (X7 _)];unfold bT
  repeat' (first|refine st ?_|refine sb λnb_ hnb_=>?_|refine s2 (λh=>?_) λh=>?_|fail)
  exact hq b' _ (.head _) (λq h=>by simp[h])
theorem UQ(c:bB)(h1:c.w.cells.length≤1000)(w1 w2 w3 w4 y z:AV)(b2 b37 bc:Nat)(RR L0:SH)(Q:R)(hL0:L0.Perm ((bc,⟨1,[]⟩)::(b37,⟨7,[[w1,w2,w3,w4,.sl bc 0 0,y,z]]⟩)::RR))
  (hq:∀bc:Nat,W.loop (jo Q) [.ptr b2 0 0,.ptr b37 0 0,.lst (c.ts.map hY.enc),.ZO c.ts.length,.ZO (0:Nat)] ((bc,⟨1,(c.w.cells.map bA.init).map aj⟩)::(b37,⟨7,[[w1,w2,w3,w4,.sl bc 0 c.w.cells.length,y,z]]⟩)::RR)) :
  W.loop (jp Q) [.pptr [c.enc] 0 0,.ptr b2 0 0,.ptr b37 0 0,.lst (c.w.cells.map bA.enc),.ZO c.w.cells.length,.ZO (0:Nat)] L0:=by
 refine bW c.w.cells.length (λk (b':Nat)=>([.pptr [c.enc] 0 0,.ptr b2 0 0,.ptr b37 0 0,.lst (c.w.cells.map bA.enc),.ZO c.w.cells.length,.ZO k],(b',⟨1,((c.w.cells.take k).map bA.init).map aj⟩)::(b37,⟨7,[[w1,w2,w3,w4,.sl b' 0 k,y,z]]⟩)::RR)) (λ_ _=>True) bc trivial (aG.forget (K:=[]) hL0) ?_;intro k b' hk _;dsimp only;unfold jp;rcases Nat.lt_or_ge k c.w.cells.length with g1|g1
 ·have hd:=bE g1;have hxx:=ay (f:=bA.enc) g1;have htk:c.w.cells.take (k+1)=c.w.cells.take k++[c.w.cells[k]]:=Yd g1;generalize hT:c.w.cells[k]=ck at *;have hce:ck.enc=[.str ck.name,.ZO ck.index,.ZO ck.size,.bool ck.vol,.ZO ck.init]:=rfl;rw[hce]at hxx
  repeat' (first|refine st ?_|refine qW rp rp (by simp;omega) rfl (by simp;omega) (by simp;omega) rfl (λnb_ hnb_=>?_)|refine sb λnb_ hnb_=>?_|fail)
  refine⟨k+1,nb_,ZJ,ZJ,trivial,?_⟩;rw[aA g1 ZJ,htk,Yc,Yc];exact aG.forget (K:=[(_,_)]) (List.Perm.swap _ _ _)
 ·have hk0:k=c.w.cells.length:=by omega
  subst hk0;rw[YL (X7 _)];have:=hq b';have hd:=bI g1;rw[show c.enc=[.lst (c.w.cells.map bA.enc),.lst (c.w.locks.map cq.enc),.lst (c.w.conds.map db.enc),.lst (c.w.futures.map av),.lst (c.w.threads.map av),.lst (c.w.sites.map cQ.enc),.lst (c.ts.map hY.enc)]from rfl]
  repeat' (first|exact this|refine st ?_|refine sb λnb_ hnb_=>?_|refine s2 (λh=>?_) λh=>?_|fail)
theorem N7(c:bB)(h1:c.w.cells.length≤100)(h2:c.w.locks.length≤100)(h3:c.w.futures.length≤100)(h4:c.w.threads.length≤100)(h5:c.ts.length≤1000)(hr:∀t∈c.ts,0≤t.regs∧t.regs≤1000):az Tryz.prog 40 [.agg c.enc] (.agg (bN c).enc):=by
 have hst:=P5 c.w h2 h3 h4;refine af.fz (IE _ _ _ ?_);unfold Cr;generalize hQ:(λ(v:AV) (L:SH)=>∃v2 L2,aG [v] L [v2] L2∧v2=AV.agg (bN c).enc∧L2=[])=Q;have hq:∀v L,Fz L v (.agg (bN c).enc)→Q v L:=λv L h=>by subst hQ;exact⟨_,[],aG.all h,rfl,rfl⟩
 clear hQ;have hwe:c.w.enc=[.lst (c.w.cells.map bA.enc),.lst (c.w.locks.map cq.enc),.lst (c.w.conds.map db.enc),.lst (c.w.futures.map av),.lst (c.w.threads.map av),.lst (c.w.sites.map cQ.enc)]:=rfl;have hce:c.enc=[.lst (c.w.cells.map bA.enc),.lst (c.w.locks.map cq.enc),.lst (c.w.conds.map db.enc),.lst (c.w.futures.map av),.lst (c.w.threads.map av),.lst (c.w.sites.map cQ.enc),.lst (c.ts.map hY.enc)]:=rfl;rw[hwe]at hst;have hsy:(cU c.w).enc=[.lst ((cU c.w).locks.map LockD.enc),.ZO (cU c.w).tx,.lst ((cU c.w).done.map bj),.lst ((cU c.w).threads.map ThrD.enc)]:=rfl;rw[hsy]at hst;rw[hce];generalize hsg:cU c.w=sy at *;have lp:∀(b2 b37 bc bf bt:Nat) (L:SH),L=(b37,⟨7,[[.lst (sy.locks.map LockD.enc),.ZO sy.tx,.lst (sy.done.map bj),.lst (sy.threads.map ThrD.enc),.sl bc 0 0,.sl bf 0 c.w.futures.length,.sl bt 0 0]]⟩)::(bt,⟨4,[]⟩)::(bf,⟨1,List.replicate c.w.futures.length [.ZO 0]⟩)::(bc,⟨1,[]⟩)::[(b2,⟨7,[bT]⟩)]→
   W.loop (jp Q) [.pptr [c.enc] 0 0,.ptr b2 0 0,.ptr b37 0 0,.lst (c.w.cells.map bA.enc),.ZO c.w.cells.length,.ZO (0:Nat)] L:=by
  rintro b2 b37 bc bf bt L rfl;refine UQ c ZJ (.lst (sy.locks.map LockD.enc)) (.ZO sy.tx) (.lst (sy.done.map bj)) (.lst (sy.threads.map ThrD.enc)) (.sl bf 0 c.w.futures.length) (.sl bt 0 0) b2 b37 bc ((bt,⟨4,[]⟩)::(bf,⟨1,List.replicate c.w.futures.length [.ZO 0]⟩)::[(b2,⟨7,[bT]⟩)]) _ Q ?_ λbc=>?_
  ·exact Zs (l₁:=[_,_,_]) (l₂:=[_])
  refine UP c.ts h5 hr sy (.sl bc 0 c.w.cells.length) (.sl bf 0 c.w.futures.length) ⟨bc,_,rfl⟩ ⟨bf,_,rfl⟩ b2 b37 bt [(bc,⟨1,(c.w.cells.map bA.init).map aj⟩),(bf,⟨1,List.replicate c.w.futures.length [.ZO 0]⟩)] _ Q ?_ λbt L hm hL=>?_
  ·exact(Zs (l₁:=[_,_])).trans (((List.Perm.swap _ _ _).trans ((Zs (l₁:=[_,_])).cons _)).cons _)
  refine hq _ _ ?_;have he:(bN c).enc=[.lst (sy.locks.map LockD.enc),.ZO sy.tx,.lst (sy.done.map bj),.lst (sy.threads.map ThrD.enc),.lst ((c.w.cells.map bA.init).map aj),.lst ((List.replicate c.w.futures.length (0:Int)).map aj),.lst ((c.ts.map LV).map aH.enc)]:=by unfold bN dw.enc;rw[hsg];rfl
  rw[he];refine Fz.aggs (.cons (.refl _) (.cons (.refl _) (.cons (.refl _) (.cons (.refl _) (.cons ?_ (.cons ?_ (.cons ?_ .nil)))))))
  ·exact Fz.sls (hL _ (.head _)) rfl ZN ZM
  ·exact Fz.sls (hL _ (.tail _ (.head _))) (by simp[aj]) ZN ZM
  ·exact Fz.sls hm rfl ZN ZM
 repeat' (first|exact lp _ _ _ _ _ _ rfl|refine st ?_|(refine pf 71 ?_;refine pm (hst) ?_)|refine gr (i:=0) (j:=c.w.cells.length) ZJ ZJ ZJ (λnb_ hnb_=>?_)|refine gr (i:=c.w.futures.length) (j:=c.w.futures.length) ZJ ZJ ZJ (λnb_ hnb_=>?_)|refine gr (i:=0) (j:=c.ts.length) ZJ ZJ ZJ (λnb_ hnb_=>?_)|refine sb λnb_ hnb_=>?_|refine s2 (λh=>?_) λh=>?_|fail)
end
section
set_option linter.unusedSimpArgs false
def U9:List Int:=(List.range 401).map λk:Nat=>(k:Int)
theorem Qo{n:Int}(h0:0≤n)(h1:n≤400):n∈U9:=YH.2 ⟨n.toNat,Y3.2 ZJ,ZJ⟩
theorem Qp:U9.length≤2^30:=by simp[U9]
structure BD(c:bB)(n:Nat)(s:dw):Prop where
 thr:∀x∈s.threads,jF U9 x∧0≤x.ev∧x.ev≤n∧x.regs.length≤1000
 nt:s.threads.length≤1000
 lk:s.sync.locks.length≤1000
 rd:∀l∈s.sync.locks,l.readers.length≤n
 dn:s.sync.done.length≤1000
 th:s.sync.threads.length≤1000
 nc:s.cells.length≤1000
 nf:s.futures.length≤1000
structure UR(s s':SyncD)(n:Nat):Prop where
 lk:s'.locks.length=s.locks.length
 dn:s'.done.length=s.done.length
 th:s'.threads.length=s.threads.length
 rd:∀l∈s'.locks,l.readers.length≤n+1
theorem N8(l:List Int)(t:Int):(yw l t).length≤l.length+1:=by unfold yw;have:=qj (AT (l++[t]));rw[rt]at this;simpa using this
theorem N9{s:SyncD}{n:Nat}(h:∀l∈s.locks,l.readers.length≤n)(o:Int):(aP s o).readers.length≤n:=by
 unfold aP;rcases X9 o.toNat s.locks.length with h1|h1
 ·simpa[List.getD,h1]using h _ (Yr h1)
 ·simp[List.getD,X8 h1];exact YK _
theorem Oa{w:aO}{s:SyncD}{t k o wake:Int}{n:Nat}(h:∀l∈s.locks,l.readers.length≤n):UR s (aU w s t k o wake).1 n:=by
  have same:∀l∈s.locks,l.readers.length≤n+1:=λl hl=>Zi (h l hl)
  have lk:∀(i:Int) (f:LockD→LockD),(∀x,x.readers.length≤n→(f x).readers.length≤n+1)→∀l∈aL s i f,l.readers.length≤n+1:=λi f hf l hl=>by
    unfold aL at hl;rcases Zf hl with h1|rfl
    · exact same l h1
    · exact hf _ (N9 h i)
  have own:∀(i v:Int),∀l∈aL s i (λx=>{x with owner:=v}),l.readers.length≤n+1:=λi v=>lk i _ λx hx=>Zi hx
  have ll:∀(i:Int) (f:LockD→LockD),(aL s i f).length=s.locks.length:=λi f=>by simp[aL]
  have tl:∀(i:Int) (f:ThrD→ThrD),(aZ s i f).length=s.threads.length:=λi f=>by simp[aZ]
  unfold aU
  repeat' refine iteInduction (motive:=λx:SyncD×Int=>UR s x.1 n) (λ_=>?_) (λ_=>?_)
  all_goals refine⟨by simp[aL],ZM,by simp[aZ,Bb,cV,Cp],?_⟩
  all_goals first
    |exact same
    | (intro l hl; dsimp only at hl
       refine lk _ _ (λx hx=>?_) l hl;dsimp only
       first
         |exact Zi hx
         |exact Yn (N8 _ _) (Nat.succ_le_succ hx)
         |exact Yn (Zb _ _) (Zi hx))
theorem IN{i:bq}{e:aY}{s:dw}{th:aH}{sv:Int}:(bS i e s th sv).thread.ev=IntKind.i64.wrap (th.ev+1)∧(bS i e s th sv).thread.regs.length=th.regs.length∧(bS i e s th sv).cells.length=s.cells.length∧(bS i e s th sv).futures.length=s.futures.length:=by
 unfold bS;dsimp only
 repeat' split
 all_goals exact⟨rfl,ZM,ZM,ZM⟩
theorem Si{i:bq}{s s2:aH}(h:bQ i s=some s2):s2.ev=s.ev:=by
 unfold bQ at h
 repeat' split at h
 all_goals first
  |(cases h;rfl)
  |cases h
theorem US{ins:List bq}:∀(k:Nat) {s y:aH},ef ins k s=(y,true)→y.ev=s.ev∧y.regs.length=s.regs.length:=by
 intro k
 induction k with
 |zero=>
  intro s y h;unfold ef at h
  repeat' split at h
  all_goals first
   |(cases h;exact⟨rfl,rfl⟩)
   |cases h
 |succ k ih=>
  intro s y h;unfold ef at h;split at h
  ·split at h
   ·cases h;exact⟨rfl,rfl⟩
   ·split at h
    ·cases h
    ·rename_i s2 he;obtain⟨a,b⟩:=ih h;rw[a,b,Si he,(Hy he).1];exact⟨rfl,rfl⟩
  ·cases h
theorem BE{c:hY}{s y:aH}(h:aQ c s=(y,true)):y.ev=s.ev∧y.regs.length=s.regs.length:=by
 unfold aQ at h;split at h
 ·exact US _ h
 ·cases h
structure WZ(c:bB)(s:dw)(t wake:Int)(s':dw)(e':aY):Prop where
 ex:∃(e:aY) (th':aH),eF c s t=some e∧(fI c.w s.sync t e.kind e.obj wake).2.2=true∧s.cells.length=c.w.cells.length∧s.futures.length=c.w.futures.length∧
  (th'=(bS (aT (am c t) (aI s t).pc) e s (aI s t) (fI c.w s.sync t e.kind e.obj wake).2.1).thread∨aQ (am c t) (bS (aT (am c t) (aI s t).pc) e s (aI s t) (fI c.w s.sync t e.kind e.obj wake).2.1).thread=(th',true))∧
  s'=⟨(fI c.w s.sync t e.kind e.obj wake).1,(bS (aT (am c t) (aI s t).pc) e s (aI s t) (fI c.w s.sync t e.kind e.obj wake).2.1).cells,(bS (aT (am c t) (aI s t).pc) e s (aI s t) (fI c.w s.sync t e.kind e.obj wake).2.1).futures,s.threads.set t.toNat th'⟩∧
  e'={e with value:=(bS (aT (am c t) (aI s t).pc) e s (aI s t) (fI c.w s.sync t e.kind e.obj wake).2.1).value}
theorem FE{c:bB}{s s':dw}{t wake:Int}{e':aY}(h:oX c s t wake=some (s',e')):WZ c s t wake s' e':=by
 rw[DU]at h;cases hp:eF c s t with
 |none=>rw[hp]at h;cases h
 |some e=>
  rw[hp]at h;dsimp only at h;split at h
  ·rename_i hl;split at h
   ·rename_i hr;unfold uL at h;split at h
    ·split at h
     ·rename_i hz;cases h;exact⟨e,_,hp,hr,hl.1,hl.2,.inr (Prod.ext rfl hz),rfl,rfl⟩
     ·cases h
    ·cases h;exact⟨e,_,hp,hr,hl.1,hl.2,.inl rfl,rfl,rfl⟩
   ·cases h
  ·cases h
theorem Qq{c:bB}{s s':dw}{t wake:Int}{e':aY}{n:Nat}(hn:n<400)(H:BD c n s)(hi:∀x∈c.ts,FA x)(h:oX c s t wake=some (s',e')):BD c (n+1) s':=by
 obtain⟨e,th',hp,hr,hl1,hl2,hth,rfl,rfl⟩:=FE h;have a2:=(eW (FD hi hp).ready).2.1;have hmem:aI s t∈s.threads:=jq (d:=aH.zero) a2;obtain⟨t1,t2,t3,t4⟩:=H.thr _ hmem;have at_:=KK (U:=U9) (i:=aT (am c t) (aI s t).pc) (e:=e) (s:=s) (sv:=(fI c.w s.sync t e.kind e.obj wake).2.1) t1 (Qo t2 ZJ);obtain⟨q1,q2,q3,q4⟩:=IN (i:=aT (am c t) (aI s t).pc) (e:=e) (s:=s) (th:=aI s t) (sv:=(fI c.w s.sync t e.kind e.obj wake).2.1);rw[YU _ ZJ]at q1;have hL:UR s.sync (fI c.w s.sync t e.kind e.obj wake).1 n:=by
  unfold fI at hr ⊢;split
  ·exact Oa H.rd
  ·rename_i he;rw[if_neg he]at hr;cases hr
 have key:jF U9 th'∧th'.ev=(aI s t).ev+1∧th'.regs.length=(aI s t).regs.length:=by
  rcases hth with rfl|hz
  ·exact⟨at_,q1,q2⟩
  ·have:=Kg (c:=am c t) Qp at_;rw[hz]at this;obtain⟨a,b⟩:=BE hz;exact⟨this,ZJ,ZJ⟩
 refine⟨λx hx=>?_,by simpa using H.nt,by rw[hL.lk];exact H.lk,hL.rd,by rw[hL.dn];exact H.dn,by rw[hL.th];exact H.th,by rw[q3];exact H.nc,by rw[q4];exact H.nf⟩;rcases Zf hx with h1|rfl
 ·obtain⟨b1,b2,b3,b4⟩:=H.thr x h1;exact⟨b1,b2,ZJ,b4⟩
 ·exact⟨key.1,ZJ,ZJ,ZJ⟩
theorem Qr{c:bB}{s:dw}{n:Nat}(hn:n≤400)(H:BD c n s)(hi:∀x∈c.ts,FA x)(hl:∀x∈c.ts,x.ins.length<2^40)(hc:c.w.conds.length<2^40):Tl U9 c s where
 ins:=hi
 len:=hl
 u30:=Qp
 thr:=λx hx=>by obtain⟨b1,b2,b3,b4⟩:=H.thr x hx;exact⟨b1,Qo b2 ZJ,ZJ⟩
 sm:=⟨hc,by have:=H.lk;omega,by have:=H.dn;omega,by have:=H.th;omega,λl h=>by have:=H.rd l h;omega⟩
 nt:=by have:=H.nt;omega
 nc:=by have:=H.nc;omega
 nf:=by have:=H.nf;omega
end
section
set_option maxRecDepth 100000
set_option maxHeartbeats 4000000
set_option linter.unusedSimpArgs false
set_option linter.unusedSectionVars false
def fg(c:bB)(l:List dq)(p:List aY×dw):List aY×dw:=l.foldl (Jf c) p
theorem HC(c:bB):∀(l:List dq) (p:List aY×dw),400≤p.1.length→fg c l p=p
 |[],p,_=>rfl
 | ch::l,p,h=>by
  show fg c l (Jf c p ch)=p;have e:Jf c p ch=p:=by unfold Jf;rw[if_pos h]
  rw[e];exact HC c l p h
theorem Ob(c:bB)(l:List dq)(k:Nat)(p:List aY×dw):fg c l p=fg c (l.drop k) (fg c (l.take k) p):=by unfold fg;rw[←List.foldl_append,List.take_append_drop]
theorem Oc(c:bB)(l:List dq)(k:Nat)(hk:k<l.length)(p:List aY×dw):fg c (l.take (k+1)) p=Jf c (fg c (l.take k) p) l[k]:=by unfold fg;rw[Yd hk,List.foldl_append];rfl
structure HD(c:bB):Prop where
 ins:∀x∈c.ts,FA x
 len:∀x∈c.ts,x.ins.length<2^40
 con:c.w.conds.length<2^40
theorem Qs{c:bB}(hc:HD c){p:List aY×dw}{ch:dq}(h:BD c p.1.length p.2)(hn:p.1.length≤400):BD c (Jf c p ch).1.length (Jf c p ch).2∧(Jf c p ch).1.length≤400:=by
 unfold Jf;split
 ·exact⟨h,hn⟩
 ·rename_i hlt;split
  ·exact⟨h,hn⟩
  ·rename_i n e hs;have:=Qq ZJ h hc.ins hs;exact⟨by simpa using this,by simp;omega⟩
theorem Nh{c:bB}(hc:HD c)(l:List dq){p:List aY×dw}(h:BD c p.1.length p.2)(hn:p.1.length≤400):BD c (fg c l p).1.length (fg c l p).2∧(fg c l p).1.length≤400:=by
 induction l generalizing p with
 |nil=>exact⟨h,hn⟩
 |cons ch l ih=>obtain⟨a,b⟩:=Qs (ch:=ch) hc h hn;exact ih a b
def Qt(p:List aY×dw):AV:=.tup [.lst (p.1.map aY.enc),.agg p.2.enc]
theorem Qu(c:bB)(hc:HD c)(l:List dq)(hl:l.length<2^62)(s0:dw)(h0:BD c 0 s0)(b2 b9:Nat)(Q:R)(hq:∀v L,Fz L v (Qt (fg c l ([],s0)))→Q v L):
  W.loop (lX (ir Q)) [.pptr [c.enc] 0 0,.ptr b2 0 0,.ptr b9 0 0,.nils,.lst (l.map dq.enc),.ZO l.length,.ZO (0:Nat)] [(b9,⟨7,[s0.enc]⟩),(b2,⟨7,[bT]⟩)]:=by
 refine bW l.length (λk (o:Option Nat)=>([.pptr [c.enc] 0 0,.ptr b2 0 0,.ptr b9 0 0,ao o (fg c (l.take k) ([],s0)).1.length,.lst (l.map dq.enc),.ZO l.length,.ZO k],(b9,⟨7,[(fg c (l.take k) ([],s0)).2.enc]⟩)::(b2,⟨7,[bT]⟩)::ae o 7 ((fg c (l.take k) ([],s0)).1.map aY.enc))) (λk o=>o=none→(fg c (l.take k) ([],s0)).1=[]) none (λ_=>rfl) (aG.drop (K:=[]) (.refl _) rfl (iV.at_ (.cons (.refl _) (.cons (.refl _) (.cons (.refl _) (.cons .nile (.cons (.refl _) (.cons (.refl _) (.cons (.refl _) .nil)))))))).2) ?_;intro k o hk ho;dsimp only;have hiv:=Nh hc (l.take k) (p:=([],s0)) h0 (Nat.zero_le _);have hsplit:=Ob c l k ([],s0);have hsucc:=λ(h:k<l.length)=>Oc c l k h ([],s0);generalize hp:fg c (l.take k) ([],s0)=p at *;obtain⟨ev,sx⟩:=p;dsimp only at *;have fin:fg c l ([],s0)=(ev,sx)→∀L,(∀q∈ae o 7 (ev.map aY.enc),q∈L)→Q (.tup [ao o ev.length,.agg sx.enc]) L:=λhe L hm=>by
  refine hq _ _ ?_;rw[he];refine Fz.tups (.cons ?_ (.cons (.refl _) .nil));cases o with
  |none=>rw[ho rfl];exact .emp
  |some b=>exact Fz.sls (hm _ (.head _)) rfl ZN rfl
 unfold lX;obtain⟨J,hJ⟩:∃J,J=ir Q:=⟨_,rfl⟩;have jn:fg c l ([],s0)=(ev,sx)→J [.ptr b2 0 0,.ptr b9 0 0,ao o ev.length] ((b9,⟨7,[sx.enc]⟩)::(b2,⟨7,[bT]⟩)::ae o 7 (ev.map aY.enc)):=λhe=>by
  have fin:=fin he;rw[hJ];unfold ir bT dw.enc at *;cases o
  all_goals
   dsimp only[ao,ae]at *
   repeat' (first|refine st ?_|refine sb λnb_ hnb_=>?_|refine s2 (λh=>?_) λh=>?_|fail)
   exact fin _ ZM
 rw[←hJ];clear fin hJ;rcases X9 k l.length with g1|g1
 ·have hd:=bE g1;have hx:=ay (f:=dq.enc) g1;have hsucc:=hsucc g1;generalize hch:l[k]=ch at *;obtain⟨ct,cw⟩:=ch;unfold dq.enc at hx;dsimp only at hx;by_cases hfull:400≤ev.length
  ·have jn:=jn (by rw[hsplit];exact HC c _ _ hfull);have d4:decide ((ev.length:Int)≥400)=true:=decide_eq_true ZJ;clear hq hsplit hsucc hp;cases o with
   |none=>rw[ho rfl]at hfull;simp at hfull
   |some bo=>
    dsimp only[ao,ae]at *
    repeat' (first|exact jn|refine st ?_|refine sb λnb_ hnb_=>?_|refine s2 (λh=>?_) λh=>?_|fail)
  ·have d4:decide ((ev.length:Int)≥400)=false:=decide_eq_false ZJ;have hst:=Sh U9 c sx ct cw (Qr hiv.2 hiv.1 hc.ins hc.len hc.con);have hgo:Jf c (ev,sx) ⟨ct,cw⟩=match oX c sx ct cw with
    |none=>(ev,sx)
    |some (n,e)=>(ev++[e],n):=by unfold Jf;rw[if_neg hfull];rfl
   clear hq hsplit jn;cases hs:oX c sx ct cw with
   |none=>
    rw[hs]at hst hgo;dsimp only at hgo;unfold IL at hst;have hz:dw.zero.enc=[.lst [],.ZO 0,.lst [],.lst [],.lst [],.lst [],.lst []]:=rfl;rw[hz,show aY.zero.enc=[.ZO 0,.ZO 0,.ZO 0,.ZO 0,.ZO 0,.lst [],.lst []]from rfl]at hst;have fin2:∀L,L=(b9,(⟨7,[sx.enc]⟩:Blk))::(b2,⟨7,[bT]⟩)::ae o 7 (ev.map aY.enc)→∃(j:Nat) (o':Option Nat),k<j∧j≤l.length∧(o'=none→(fg c (l.take j) ([],s0)).1=[])∧aG [.pptr [c.enc] 0 0,.ptr b2 0 0,.ptr b9 0 0,ao o ev.length,.lst (l.map dq.enc),.ZO l.length,.ZO (IntKind.i64.wrap ((k:Int)+1))] L
      [.pptr [c.enc] 0 0,.ptr b2 0 0,.ptr b9 0 0,ao o' (fg c (l.take j) ([],s0)).1.length,.lst (l.map dq.enc),.ZO l.length,.ZO j] ((b9,⟨7,[(fg c (l.take j) ([],s0)).2.enc]⟩)::(b2,⟨7,[bT]⟩)::ae o' 7 ((fg c (l.take j) ([],s0)).1.map aY.enc)):=by
     rintro L rfl;refine⟨k+1,o,ZJ,ZJ,?_,?_⟩
     ·rw[hsucc,hgo];exact ho
     ·rw[hsucc,hgo,aA g1 hl];exact .refl _ _
    cases o
    all_goals
     dsimp only[ao,ae]at *
     repeat' (first|refine st ?_|(refine pf 25 ?_;refine pm (hst) ?_)|refine sb λnb_ hnb_=>?_|refine s2 (λh=>?_) λh=>?_|fail)
     exact fin2 _ rfl
   |some r=>
    obtain⟨n,e⟩:=r;rw[hs]at hst hgo;dsimp only at hgo;unfold IL at hst;have hn:n.enc=[.lst (n.sync.locks.map LockD.enc),.ZO n.sync.tx,.lst (n.sync.done.map bj),.lst (n.sync.threads.map ThrD.enc),.lst (n.cells.map aj),.lst (n.futures.map aj),.lst (n.threads.map aH.enc)]:=rfl;have he:e.enc=[.ZO e.thread,.ZO e.kind,.ZO e.obj,.ZO e.value,.ZO e.site,.lst (e.deps.map aj),.lst (e.frm.map aj)]:=rfl;dsimp only at hst;have fin3:∀(nb:Nat) (L:SH),gJ L ((b9,(⟨7,[n.enc]⟩:Blk))::(b2,⟨7,[bT]⟩)::ae (some nb) 7 (ev.map aY.enc++[e.enc]))→∃(j:Nat) (o':Option Nat),k<j∧j≤l.length∧(o'=none→(fg c (l.take j) ([],s0)).1=[])∧aG [.pptr [c.enc] 0 0,.ptr b2 0 0,.ptr b9 0 0,.sl nb 0 (ev.length+1),.lst (l.map dq.enc),.ZO l.length,.ZO (IntKind.i64.wrap ((k:Int)+1))] L
      [.pptr [c.enc] 0 0,.ptr b2 0 0,.ptr b9 0 0,ao o' (fg c (l.take j) ([],s0)).1.length,.lst (l.map dq.enc),.ZO l.length,.ZO j] ((b9,⟨7,[(fg c (l.take j) ([],s0)).2.enc]⟩)::(b2,⟨7,[bT]⟩)::ae o' 7 ((fg c (l.take j) ([],s0)).1.map aY.enc)):=by
     intro nb L hL;refine⟨k+1,some nb,ZJ,ZJ,nofun,?_⟩;rw[hsucc,hgo,aA g1 hl];exact aG.pickE hL (by simp[ao]) ZM
    rw[hn,he]at *;have hev400:ev.length<2^30:=by omega
    repeat' (first|refine st ?_|(refine pf 25 ?_;refine pm (hst) ?_)|refine cx rp rp ZM (λe=>by first|simp[ho e]) ZL ZM (by simp;omega) (by simp;omega) ZL (λnb_ hnb_=>?_)|refine Nd ?_ (λe=>by rw[ho e];rfl)|refine sb λnb_ hnb_=>?_|refine s2 (λh=>?_) λh=>?_|fail)
    exact fin3 _ _ rp
 ·have hd:=bI g1;have hk0:k=l.length:=by omega
  subst hk0;have jn:=jn (by rw[hsplit,List.drop_of_length_le (X7 _)];rfl);clear hq hsplit hsucc hp
  repeat' (first|exact jn|refine st ?_|refine sb λnb_ hnb_=>?_|refine s2 (λh=>?_) λh=>?_|fail)
end
section
open Go.RowKit
theorem LX(xs:List bA)(hl:xs.length≤1000):az Tryz.prog 41 [.lst (xs.map bA.enc)] (.lst (xs.map bA.enc)):=by
 refine af.fz ((fZ (λA n c xs w hf h1 hn hA=>cloneWc_any A n c xs w hf h1 hn hA) ⟨_,_,Tryz.func41,rfl⟩ (xs.map bA.enc) (by rw[Yo];intro r hr;obtain⟨x,_,rfl⟩:=YH.1 hr;rfl) (λr hr=>by obtain⟨x,_,rfl⟩:=YH.1 hr;rfl) (by simp;omega)).mono ?_);rintro v L ⟨o,rfl,rfl,h⟩;refine⟨_,[],aG.all ?_,rfl,rfl⟩;cases o with
 |none=>rw[h rfl];exact .refl _
 |some b=>exact Fz.sls (.head _) rfl ZN ZM
theorem LY(xs:List cq)(hl:xs.length≤1000):az Tryz.prog 42 [.lst (xs.map cq.enc)] (.lst (xs.map cq.enc)):=by
 refine af.fz ((fZ (λA n c xs w hf h1 hn hA=>cloneWl_any A n c xs w hf h1 hn hA) ⟨_,_,Tryz.func42,rfl⟩ (xs.map cq.enc) (by rw[Yo];intro r hr;obtain⟨x,_,rfl⟩:=YH.1 hr;rfl) (λr hr=>by obtain⟨x,_,rfl⟩:=YH.1 hr;rfl) (by simp;omega)).mono ?_);rintro v L ⟨o,rfl,rfl,h⟩;refine⟨_,[],aG.all ?_,rfl,rfl⟩;cases o with
 |none=>rw[h rfl];exact .refl _
 |some b=>exact Fz.sls (.head _) rfl ZN ZM
theorem LZ(xs:List db)(hl:xs.length≤1000):az Tryz.prog 43 [.lst (xs.map db.enc)] (.lst (xs.map db.enc)):=by
 refine af.fz ((fZ (λA n c xs w hf h1 hn hA=>cloneWd_any A n c xs w hf h1 hn hA) ⟨_,_,Tryz.func43,rfl⟩ (xs.map db.enc) (by rw[Yo];intro r hr;obtain⟨x,_,rfl⟩:=YH.1 hr;rfl) (λr hr=>by obtain⟨x,_,rfl⟩:=YH.1 hr;rfl) (by simp;omega)).mono ?_);rintro v L ⟨o,rfl,rfl,h⟩;refine⟨_,[],aG.all ?_,rfl,rfl⟩;cases o with
 |none=>rw[h rfl];exact .refl _
 |some b=>exact Fz.sls (.head _) rfl ZN ZM
theorem L4(xs:List cQ)(hl:xs.length≤1000):az Tryz.prog 45 [.lst (xs.map cQ.enc)] (.lst (xs.map cQ.enc)):=by
 refine af.fz ((fZ (λA n c xs w hf h1 hn hA=>cloneWs_any A n c xs w hf h1 hn hA) ⟨_,_,Tryz.func45,rfl⟩ (xs.map cQ.enc) (by rw[Yo];intro r hr;obtain⟨x,_,rfl⟩:=YH.1 hr;rfl) (λr hr=>by obtain⟨x,_,rfl⟩:=YH.1 hr;rfl) (by simp;omega)).mono ?_);rintro v L ⟨o,rfl,rfl,h⟩;refine⟨_,[],aG.all ?_,rfl,rfl⟩;cases o with
 |none=>rw[h rfl];exact .refl _
 |some b=>exact Fz.sls (.head _) rfl ZN ZM
theorem FF(xs:List bC)(hl:xs.length≤1000):az Tryz.prog 44 [.lst (xs.map av)] (.lst (xs.map av)):=by
 refine af.fz ((fZ (λA n c xs w hf h1 hn hA=>cloneWt_any A n c xs w hf h1 hn hA) ⟨_,_,Tryz.func44,rfl⟩ (xs.map av) (by rw[Yo];intro r hr;obtain⟨x,_,rfl⟩:=YH.1 hr;rfl) (λr hr=>by obtain⟨x,_,rfl⟩:=YH.1 hr;rfl) (by simp;omega)).mono ?_);rintro v L ⟨o,rfl,rfl,h⟩;refine⟨_,[],aG.all ?_,rfl,rfl⟩;cases o with
 |none=>rw[h rfl];exact .refl _
 |some b=>exact Fz.sls (.head _) rfl ZN ZM
end
end Go.Proofs.YtdnpdghlggbklaaGreatDoor.Am
