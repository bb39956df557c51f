/- A part of the proof; the statement is proved in the last part. -/
import Derived.Test.YtdnpdghlggbklaaGreatDoorQeo
set_option linter.unusedSimpArgs false
set_option linter.unusedVariables false
namespace Go.Proofs.YtdnpdghlggbklaaGreatDoor.Am
section
set_option maxRecDepth 100000
set_option maxHeartbeats 4000000
set_option linter.unusedSimpArgs false
set_option linter.unusedSectionVars false
section
variable (c:bM) (s:el) (t wake:Int) (h1:inB t s.threads.length=true) (hc:inB t c.ts.length=true) (th:aV) (i:bj) (sy:SyncD) (sv:Int) (e:cC) (b132 b24 b8 b6 bt tb:Nat) (o oc of:Option Nat) (hn1:b24≠b6) (ho:o=none→th.regs=[]) (hoc:oc=none→s.cells=[]) (hof:of=none→s.futures=[])
 (htn:th.taint.length=th.regs.length) (hse:az Tryz.prog 52 [.agg (aB c t).enc,.agg (dU i e s th sv).thread.enc] (Do (bW (aB c t) (dU i e s th sv).thread))) (Q:R) (hq:∀v L,Fz L v (G4 (Al c s t sy e (dU i e s th sv)))→Q v L)
def jH(c:bM)(s:el)(t wake:Int)(th:aV)(i:bj)(sy:SyncD)(sv:Int)(e:cC)(b132 b24 b8 b6 bt tb:Nat)(o oc of:Option Nat)(Q:R):Prop:=
 iC Q ((b132,⟨7,[gF s sy bt oc of]⟩)::jG s t th e b24 b8 b6 bt tb o (il s th tb o oc of)) (.ptr b132 0 0) (.ptr b24 0 0) (.ptr bt t.toNat 0) (.pptr [i.enc] 0 0) (.Xm th.ev) (.pptr [c.enc] 0 0) (.pptr [[.Xm t,.Xm wake]] 0 0) (.ptr b6 0 0) (.ptr b8 0 0) (.Xm (IntKind.i64.wrap (th.pc+1))) (.Xm sv)
include h1 hc hn1 ho hoc hof htn hse hq
theorem Vp(hk:e.kind=3)(ra:0≤i.a∧i.a<th.regs.length)(hob:inB e.obj s.cells.length=true):jH c s t wake th i sy sv e b132 b24 b8 b6 bt tb o oc of Q:=by
 have hact:dU i e s th sv=⟨j8 s.cells e.obj,s.cells,s.futures,⟨IntKind.i64.wrap (th.pc+1),th.regs.set i.a.toNat (j8 s.cells e.obj),th.taint.set i.a.toNat [th.ev],IntKind.i64.wrap (th.ev+1)⟩⟩:=by simp[dU,hk]
 rw[hact]at hse hq;obtain⟨e1,ek,eo,v0,es,d,f⟩:=e;obtain⟨op,ia,ib,ic,m,site⟩:=i;dsimp only at *;subst hk;have hob1:=ax.1 hob;have hi1:=ax.1 h1;cases o with
 |none=>rw[ho rfl]at ra;simp at ra;omega
 |some bo=>
  cases oc with
  |none=>rw[hoc rfl]at hob1;simp at hob1;omega
  |some boc=>
   unfold jH iC jG il gF cK;obtain⟨J,hJ⟩:∃J,J=bH Q:=⟨_,rfl⟩;rw[←hJ];have s0:=dV (cK th tb (some bo)) (l:=s.threads.map aV.enc) (n:=t.toNat) (by simp;omega);unfold cK at s0;dsimp only[aO,ae,List.cons_append,List.nil_append]at *;have y1:=pW (s:=th) ra.1 ra.2;have y2:=tJ (s:=th) ra.1 Xh;have y3:(s.cells.map aj)[eo.toNat]? =some [.Xm (j8 s.cells eo)]:=m6 hob;have z1:ia.toNat<th.regs.length:=by omega
   have z2:ia.toNat<th.taint.length:=by omega
   have z3:eo.toNat<s.cells.length:=by omega
   repeat' (first|refine cI ra.1 z1 rp rfl ?_|refine cI ra.1 z2 rp rfl ?_|refine cI hob1.1 z3 rp rfl ?_|refine FH (cI hob1.1 z3 rp rfl ?_)|refine st ?_|refine sb λnb_ hnb_=>?_|refine s2 (λh=>?_) λh=>?_|fail)
   rw[hJ];refine D7 c s t wake h1 hc sy ⟨e1,3,eo,v0,es,d,f⟩ ⟨j8 s.cells eo,s.cells,s.futures,⟨IntKind.i64.wrap (th.pc+1),th.regs.set ia.toNat (j8 s.cells eo),th.taint.set ia.toNat [th.ev],IntKind.i64.wrap (th.ev+1)⟩⟩ b132 b24 b8 b6 bt (some boc) of [(nb_,⟨1,[[.Xm th.ev]]⟩),(bo,⟨1,(th.regs.map aj).set ia.toNat [.Xm (j8 s.cells eo)]⟩),(tb,⟨1,(th.taint.map cp).set ia.toNat [.sl nb_ 0 1]⟩)]
    ((boc,⟨1,s.cells.map aj⟩)::ae of 1 (s.futures.map aj)) ((bo,⟨1,(th.regs.map aj).set ia.toNat [.Xm (j8 s.cells eo)]⟩)::(tb,⟨1,(th.taint.map cp).set ia.toNat [.sl nb_ 0 1]⟩)::(boc,⟨1,s.cells.map aj⟩)::ae of 1 (s.futures.map aj)) [(nb_,⟨1,[[.Xm th.ev]]⟩)] (.inr ⟨_,rfl⟩) (by dsimp only;omega) (.refl _) (.sl bo 0 th.regs.length) (.sl tb 0 th.taint.length) ?_ ?_ hn1 nofun hof ?_ ?_ hse th.pc th.ev rfl Q hq
   ·exact λL hL=>Fz.sls (hL _ (.tail _ (.head _))) (by simp[Wx,aj]) Xl Xk
   ·exact λL hL=>J2 Xl rfl z2 (hL _ (.tail _ (.tail _ (.head _)))) (.cons (Fz.sls (l:=[th.ev]) (f:=aj) (hL _ (.head _)) rfl Xl rfl) .nil)
   ·exact λb hb=>by cases hb;exact⟨_,rfl,.head _⟩
   ·exact λb hb=>by subst hb;exact⟨_,rfl,.tail _ (.head _)⟩
theorem Uw(hk:e.kind=23)(ra:0≤i.a∧i.a<th.regs.length)(hob:inB e.obj s.futures.length=true):jH c s t wake th i sy sv e b132 b24 b8 b6 bt tb o oc of Q:=by
 have hact:dU i e s th sv=⟨j8 s.futures e.obj,s.cells,s.futures,⟨IntKind.i64.wrap (th.pc+1),th.regs.set i.a.toNat (j8 s.futures e.obj),th.taint.set i.a.toNat [th.ev],IntKind.i64.wrap (th.ev+1)⟩⟩:=by simp[dU,hk]
 rw[hact]at hse hq;obtain⟨e1,ek,eo,v0,es,d,f⟩:=e;obtain⟨op,ia,ib,ic,m,site⟩:=i;dsimp only at *;subst hk;have hob1:=ax.1 hob;have hi1:=ax.1 h1;cases o with
 |none=>rw[ho rfl]at ra;simp at ra;omega
 |some bo=>
  cases of with
  |none=>rw[hof rfl]at hob1;simp at hob1;omega
  |some bof=>
   unfold jH iC jG il gF cK;obtain⟨J,hJ⟩:∃J,J=bH Q:=⟨_,rfl⟩;rw[←hJ];have s0:=dV (cK th tb (some bo)) (l:=s.threads.map aV.enc) (n:=t.toNat) (by simp;omega);unfold cK at s0;have y1:=pW (s:=th) ra.1 ra.2;have y2:=tJ (s:=th) ra.1 Xh;have y3:(s.futures.map aj)[eo.toNat]? =some [.Xm (j8 s.futures eo)]:=m6 hob;have z1:ia.toNat<th.regs.length:=by omega
   have z2:ia.toNat<th.taint.length:=by omega
   have z3:eo.toNat<s.futures.length:=by omega
   have goal:∀(nb_:Nat) (A:SH),A=[(bof,⟨1,s.futures.map aj⟩)]→J [.pptr [c.enc] 0 0,.pptr [[.Xm t,.Xm wake]] 0 0,.ptr b6 0 0,.ptr b8 0 0,.ptr b24 0 0,.ptr b132 0 0,.ptr bt t.toNat 0,.Xm (IntKind.i64.wrap (th.pc+1))]
     ((nb_,⟨1,[[.Xm th.ev]]⟩)::(b132,⟨7,[gF s sy bt oc (some bof)]⟩)::(b24,⟨7,[(cC.mk e1 23 eo (j8 s.futures eo) es d f).enc]⟩)::(b8,⟨7,[ea]⟩)::(b6,⟨7,[bK]⟩)::(bt,⟨4,(s.threads.map aV.enc).set t.toNat (cK th tb (some bo))⟩)::(bo,⟨1,(th.regs.map aj).set ia.toNat [.Xm (j8 s.futures eo)]⟩)::(tb,⟨1,(th.taint.map cp).set ia.toNat [.sl nb_ 0 1]⟩)::(ae oc 1 (s.cells.map aj)++A)):=by
    rintro nb_ A rfl;rw[hJ];refine D7 c s t wake h1 hc sy ⟨e1,23,eo,v0,es,d,f⟩ ⟨j8 s.futures eo,s.cells,s.futures,⟨IntKind.i64.wrap (th.pc+1),th.regs.set ia.toNat (j8 s.futures eo),th.taint.set ia.toNat [th.ev],IntKind.i64.wrap (th.ev+1)⟩⟩ b132 b24 b8 b6 bt oc (some bof) [(nb_,⟨1,[[.Xm th.ev]]⟩),(bo,⟨1,(th.regs.map aj).set ia.toNat [.Xm (j8 s.futures eo)]⟩),(tb,⟨1,(th.taint.map cp).set ia.toNat [.sl nb_ 0 1]⟩)]
     (ae oc 1 (s.cells.map aj)++[(bof,⟨1,s.futures.map aj⟩)]) ((bo,⟨1,(th.regs.map aj).set ia.toNat [.Xm (j8 s.futures eo)]⟩)::(tb,⟨1,(th.taint.map cp).set ia.toNat [.sl nb_ 0 1]⟩)::(ae oc 1 (s.cells.map aj)++[(bof,⟨1,s.futures.map aj⟩)])) [(nb_,⟨1,[[.Xm th.ev]]⟩)] (.inr ⟨_,rfl⟩) (by dsimp only;omega) (.refl _) (.sl bo 0 th.regs.length) (.sl tb 0 th.taint.length) ?_ ?_ hn1 hoc nofun ?_ ?_ hse th.pc th.ev rfl Q hq
    ·exact λL hL=>Fz.sls (hL _ (.tail _ (.head _))) (by simp[Wx,aj]) Xl Xk
    ·exact λL hL=>J2 Xl rfl z2 (hL _ (.tail _ (.tail _ (.head _)))) (.cons (Fz.sls (l:=[th.ev]) (f:=aj) (hL _ (.head _)) rfl Xl rfl) .nil)
    ·exact λb hb=>by subst hb;exact⟨_,rfl,.head _⟩
    ·exact λb hb=>by cases hb;exact⟨_,rfl,Xk⟩
   cases oc
   all_goals
    dsimp only[aO,ae,List.cons_append,List.nil_append]at *
    repeat' (first|refine cI ra.1 z1 rp rfl ?_|refine cI ra.1 z2 rp rfl ?_|refine cI hob1.1 z3 rp rfl ?_|refine FH (cI hob1.1 z3 rp rfl ?_)|refine st ?_|refine sb λnb_ hnb_=>?_|refine s2 (λh=>?_) λh=>?_|fail)
    exact goal nb_ _ rfl
end
end
section
set_option maxRecDepth 100000
set_option maxHeartbeats 4000000
set_option linter.unusedSimpArgs false
set_option linter.unusedSectionVars false
section
variable (c:bM) (s:el) (t wake:Int) (h1:inB t s.threads.length=true) (hc:inB t c.ts.length=true) (th:aV) (i:bj) (sy:SyncD) (sv:Int) (e:cC) (b132 b24 b8 b6 bt tb:Nat) (o oc of:Option Nat) (hn1:b24≠b6) (ho:o=none→th.regs=[]) (hoc:oc=none→s.cells=[]) (hof:of=none→s.futures=[])
 (htn:th.taint.length=th.regs.length) (hse:az Tryz.prog 52 [.agg (aB c t).enc,.agg (dU i e s th sv).thread.enc] (Do (bW (aB c t) (dU i e s th sv).thread))) (Q:R) (hq:∀v L,Fz L v (G4 (Al c s t sy e (dU i e s th sv)))→Q v L)
include h1 hc hn1 ho hoc hof htn hse hq
theorem Vq(hk:e.kind=4)(ra:0≤i.b∧i.b<th.regs.length)(hob:inB e.obj s.cells.length=true):jH c s t wake th i sy sv e b132 b24 b8 b6 bt tb o oc of Q:=by
 have hact:dU i e s th sv=⟨th.reg i.b,s.cells.set e.obj.toNat (th.reg i.b),s.futures,⟨IntKind.i64.wrap (th.pc+1),th.regs,th.taint,IntKind.i64.wrap (th.ev+1)⟩⟩:=by simp[dU,hk]
 rw[hact]at hse hq;obtain⟨e1,ek,eo,v0,es,d,f⟩:=e;obtain⟨op,ia,ib,ic,m,site⟩:=i;dsimp only at *;subst hk;have hob1:=ax.1 hob;have hi1:=ax.1 h1;cases o with
 |none=>rw[ho rfl]at ra;simp at ra;omega
 |some bo=>
  cases oc with
  |none=>rw[hoc rfl]at hob1;simp at hob1;omega
  |some boc=>
   unfold jH iC jG il gF cK;obtain⟨J,hJ⟩:∃J,J=bH Q:=⟨_,rfl⟩;rw[←hJ];have s0:=dV (cK th tb (some bo)) (l:=s.threads.map aV.enc) (n:=t.toNat) (by simp;omega);unfold cK at s0;have y1:=pW (s:=th) ra.1 ra.2;have y3:(s.cells.map aj)[eo.toNat]? =some [.Xm (j8 s.cells eo)]:=m6 hob;have z1:ib.toNat<th.regs.length:=by omega
   have z3:eo.toNat<s.cells.length:=by omega
   have goal:∀(A:SH),A=[]→J [.pptr [c.enc] 0 0,.pptr [[.Xm t,.Xm wake]] 0 0,.ptr b6 0 0,.ptr b8 0 0,.ptr b24 0 0,.ptr b132 0 0,.ptr bt t.toNat 0,.Xm (IntKind.i64.wrap (th.pc+1))]
     ((b132,⟨7,[gF s sy bt (some boc) of]⟩)::(b24,⟨7,[(cC.mk e1 4 eo (th.reg ib) es d f).enc]⟩)::(b8,⟨7,[ea]⟩)::(b6,⟨7,[bK]⟩)::(bt,⟨4,(s.threads.map aV.enc).set t.toNat (cK th tb (some bo))⟩)::(bo,⟨1,th.regs.map aj⟩)::(tb,⟨1,th.taint.map cp⟩)::((boc,⟨1,(s.cells.map aj).set eo.toNat [.Xm (th.reg ib)]⟩)::(ae of 1 (s.futures.map aj)++A))):=by
    rintro A rfl;rw[hJ];have:=D7 c s t wake h1 hc sy ⟨e1,4,eo,v0,es,d,f⟩ ⟨th.reg ib,s.cells.set eo.toNat (th.reg ib),s.futures,⟨IntKind.i64.wrap (th.pc+1),th.regs,th.taint,IntKind.i64.wrap (th.ev+1)⟩⟩ b132 b24 b8 b6 bt (some boc) of [(bo,⟨1,th.regs.map aj⟩),(tb,⟨1,th.taint.map cp⟩)]
     ((boc,⟨1,(s.cells.map aj).set eo.toNat [.Xm (th.reg ib)]⟩)::(ae of 1 (s.futures.map aj)++[])) ((bo,⟨1,th.regs.map aj⟩)::(tb,⟨1,th.taint.map cp⟩)::((boc,⟨1,(s.cells.map aj).set eo.toNat [.Xm (th.reg ib)]⟩)::(ae of 1 (s.futures.map aj)++[]))) [] (.inl rfl) (λ_=>rfl) (.refl _) (.sl bo 0 th.regs.length) (.sl tb 0 th.taint.length) ?_ ?_ hn1 nofun hof ?_ ?_ hse th.pc th.ev rfl Q hq
    ·simp only[List.length_set]at this;exact this
    ·exact λL hL=>Fz.sls (hL _ (.head _)) rfl Xl rfl
    ·exact λL hL=>Fz.sls (hL _ (.tail _ (.head _))) rfl Xl rfl
    ·exact λb hb=>by cases hb;exact⟨_,by simp[Wx,aj],.head _⟩
    ·exact λb hb=>by subst hb;exact⟨_,rfl,.tail _ (.head _)⟩
   cases of
   all_goals
    dsimp only[aO,ae,List.cons_append,List.nil_append]at *
    repeat' (first|refine cI ra.1 z1 rp rfl ?_|refine cI hob1.1 z3 rp rfl ?_|refine FH (cI hob1.1 z3 rp rfl ?_)|refine st ?_|refine sb λnb_ hnb_=>?_|refine s2 (λh=>?_) λh=>?_|fail)
    exact goal _ rfl
theorem Ux(hk:e.kind=22)(ra:0≤i.b∧i.b<th.regs.length)(hob:inB e.obj s.futures.length=true):jH c s t wake th i sy sv e b132 b24 b8 b6 bt tb o oc of Q:=by
 have hact:dU i e s th sv=⟨th.reg i.b,s.cells,s.futures.set e.obj.toNat (th.reg i.b),⟨IntKind.i64.wrap (th.pc+1),th.regs,th.taint,IntKind.i64.wrap (th.ev+1)⟩⟩:=by simp[dU,hk]
 rw[hact]at hse hq;obtain⟨e1,ek,eo,v0,es,d,f⟩:=e;obtain⟨op,ia,ib,ic,m,site⟩:=i;dsimp only at *;subst hk;have hob1:=ax.1 hob;have hi1:=ax.1 h1;cases o with
 |none=>rw[ho rfl]at ra;simp at ra;omega
 |some bo=>
  cases of with
  |none=>rw[hof rfl]at hob1;simp at hob1;omega
  |some bof=>
   unfold jH iC jG il gF cK;obtain⟨J,hJ⟩:∃J,J=bH Q:=⟨_,rfl⟩;rw[←hJ];have s0:=dV (cK th tb (some bo)) (l:=s.threads.map aV.enc) (n:=t.toNat) (by simp;omega);unfold cK at s0;have y1:=pW (s:=th) ra.1 ra.2;have y3:(s.futures.map aj)[eo.toNat]? =some [.Xm (j8 s.futures eo)]:=m6 hob;have z1:ib.toNat<th.regs.length:=by omega
   have z3:eo.toNat<s.futures.length:=by omega
   have goal:∀(A:SH),A=[(bof,⟨1,(s.futures.map aj).set eo.toNat [.Xm (th.reg ib)]⟩)]→J [.pptr [c.enc] 0 0,.pptr [[.Xm t,.Xm wake]] 0 0,.ptr b6 0 0,.ptr b8 0 0,.ptr b24 0 0,.ptr b132 0 0,.ptr bt t.toNat 0,.Xm (IntKind.i64.wrap (th.pc+1))]
     ((b132,⟨7,[gF s sy bt oc (some bof)]⟩)::(b24,⟨7,[(cC.mk e1 22 eo (th.reg ib) es d f).enc]⟩)::(b8,⟨7,[ea]⟩)::(b6,⟨7,[bK]⟩)::(bt,⟨4,(s.threads.map aV.enc).set t.toNat (cK th tb (some bo))⟩)::(bo,⟨1,th.regs.map aj⟩)::(tb,⟨1,th.taint.map cp⟩)::(ae oc 1 (s.cells.map aj)++A)):=by
    rintro A rfl;rw[hJ];have:=D7 c s t wake h1 hc sy ⟨e1,22,eo,v0,es,d,f⟩ ⟨th.reg ib,s.cells,s.futures.set eo.toNat (th.reg ib),⟨IntKind.i64.wrap (th.pc+1),th.regs,th.taint,IntKind.i64.wrap (th.ev+1)⟩⟩ b132 b24 b8 b6 bt oc (some bof) [(bo,⟨1,th.regs.map aj⟩),(tb,⟨1,th.taint.map cp⟩)]
     (ae oc 1 (s.cells.map aj)++[(bof,⟨1,(s.futures.map aj).set eo.toNat [.Xm (th.reg ib)]⟩)]) ((bo,⟨1,th.regs.map aj⟩)::(tb,⟨1,th.taint.map cp⟩)::(ae oc 1 (s.cells.map aj)++[(bof,⟨1,(s.futures.map aj).set eo.toNat [.Xm (th.reg ib)]⟩)])) [] (.inl rfl) (λ_=>rfl) (.refl _) (.sl bo 0 th.regs.length) (.sl tb 0 th.taint.length) ?_ ?_ hn1 hoc nofun ?_ ?_ hse th.pc th.ev rfl Q hq
    ·simp only[List.length_set]at this;exact this
    ·exact λL hL=>Fz.sls (hL _ (.head _)) rfl Xl rfl
    ·exact λL hL=>Fz.sls (hL _ (.tail _ (.head _))) rfl Xl rfl
    ·exact λb hb=>by subst hb;exact⟨_,rfl,.head _⟩
    ·exact λb hb=>by cases hb;exact⟨(s.futures.map aj).set eo.toNat [.Xm (th.reg ib)],by simp[Wx,aj],Xk⟩
   cases oc
   all_goals
    dsimp only[aO,ae,List.cons_append,List.nil_append]at *
    repeat' (first|refine cI ra.1 z1 rp rfl ?_|refine cI hob1.1 z3 rp rfl ?_|refine FH (cI hob1.1 z3 rp rfl ?_)|refine st ?_|refine sb λnb_ hnb_=>?_|refine s2 (λh=>?_) λh=>?_|fail)
    exact goal _ rfl
end
end
section
set_option maxRecDepth 100000
set_option maxHeartbeats 4000000
set_option linter.unusedSimpArgs false
set_option linter.unusedSectionVars false
section
variable (c:bM) (s:el) (t wake:Int) (h1:inB t s.threads.length=true) (hc:inB t c.ts.length=true) (th:aV) (i:bj) (sy:SyncD) (sv:Int) (e:cC) (b132 b24 b8 b6 bt tb:Nat) (o oc of:Option Nat) (hn1:b24≠b6) (ho:o=none→th.regs=[]) (hoc:oc=none→s.cells=[]) (hof:of=none→s.futures=[])
 (htn:th.taint.length=th.regs.length) (hse:az Tryz.prog 52 [.agg (aB c t).enc,.agg (dU i e s th sv).thread.enc] (Do (bW (aB c t) (dU i e s th sv).thread))) (Q:R) (hq:∀v L,Fz L v (G4 (Al c s t sy e (dU i e s th sv)))→Q v L)
include h1 hc hn1 ho hoc hof htn hse hq
theorem Li(v p:Int)(ha:dU i e s th sv=⟨v,s.cells,s.futures,⟨p,th.regs,th.taint,IntKind.i64.wrap (th.ev+1)⟩⟩)(ev2:cC)(he2:ev2={e with value:=v}):
  bH Q [.pptr [c.enc] 0 0,.pptr [[.Xm t,.Xm wake]] 0 0,.ptr b6 0 0,.ptr b8 0 0,.ptr b24 0 0,.ptr b132 0 0,.ptr bt t.toNat 0,.Xm p]
   ((b132,⟨7,[gF s sy bt oc of]⟩)::(b24,⟨7,[ev2.enc]⟩)::(b8,⟨7,[ea]⟩)::(b6,⟨7,[bK]⟩)::(bt,⟨4,(s.threads.map aV.enc).set t.toNat (cK th tb o)⟩)::il s th tb o oc of):=by
 subst he2;rw[ha]at hse hq;refine D7 c s t wake h1 hc sy e ⟨v,s.cells,s.futures,⟨p,th.regs,th.taint,IntKind.i64.wrap (th.ev+1)⟩⟩ b132 b24 b8 b6 bt oc of (ae o 1 (th.regs.map aj)++[(tb,⟨1,th.taint.map cp⟩)]) (ae oc 1 (s.cells.map aj)++ae of 1 (s.futures.map aj)) (il s th tb o oc of) [] (.inl rfl) (λ_=>rfl) (by unfold il;simp) (aO o th.regs.length) (.sl tb 0 th.taint.length) ?_ ?_ hn1 hoc hof ?_ ?_ hse th.pc th.ev rfl Q hq
 ·exact λL hL=>lV rfl ho λb hb=>hL _ (by subst hb;simp[ae])
 ·exact λL hL=>Fz.sls (hL _ (V1 _ (.head _))) rfl Xl rfl
 ·exact λb hb=>by subst hb;exact⟨_,rfl,by simp[ae]⟩
 ·exact λb hb=>by subst hb;exact⟨_,rfl,by simp[ae]⟩
theorem Vr(hk:e.kind=5)(ra:0≤i.a∧i.a<th.regs.length):jH c s t wake th i sy sv e b132 b24 b8 b6 bt tb o oc of Q:=by
 have js:=Li c s t wake h1 hc th i sy sv e b132 b24 b8 b6 bt tb o oc of hn1 ho hoc hof htn hse Q hq;by_cases hb:th.reg i.a≠0
 ·replace js:=js 1 (IntKind.i64.wrap (th.pc+1)) (by simp[dU,hk,hb]) _ rfl;have d1:decide (th.reg i.a≠0)=true:=decide_eq_true hb;clear hse hq;obtain⟨e1,ek,eo,v0,es,d,f⟩:=e;obtain⟨op,ia,ib,ic,m,site⟩:=i;dsimp only at *;subst hk;have hi1:=ax.1 h1;cases o with
  |none=>rw[ho rfl]at ra;simp at ra;omega
  |some bo=>
   unfold jH iC jG il gF cK;unfold il gF cK at js;obtain⟨J,hJ⟩:∃J,J=bH Q:=⟨_,rfl⟩;rw[←hJ]at js ⊢;have s0:=dV (cK th tb (some bo)) (l:=s.threads.map aV.enc) (n:=t.toNat) (by simp;omega);unfold cK at s0;have y1:=pW (s:=th) ra.1 ra.2;have z1:ia.toNat<th.regs.length:=by omega
   generalize ae oc 1 (s.cells.map aj)++ae of 1 (s.futures.map aj)=T at *;dsimp only[aO,ae,List.cons_append,List.nil_append]at *
   repeat' (first|refine cI ra.1 z1 rp rfl ?_|refine st ?_|refine sb λnb_ hnb_=>?_|refine s2 (λh=>?_) λh=>?_|fail)
   exact js
 ·replace js:=js e.value i.b (by simp[dU,hk,hb]) _ rfl;have d1:decide (th.reg i.a≠0)=false:=decide_eq_false hb;clear hse hq;obtain⟨e1,ek,eo,v0,es,d,f⟩:=e;obtain⟨op,ia,ib,ic,m,site⟩:=i;dsimp only at *;subst hk;have hi1:=ax.1 h1;cases o with
  |none=>rw[ho rfl]at ra;simp at ra;omega
  |some bo=>
   unfold jH iC jG il gF cK;unfold il gF cK at js;obtain⟨J,hJ⟩:∃J,J=bH Q:=⟨_,rfl⟩;rw[←hJ]at js ⊢;have s0:=dV (cK th tb (some bo)) (l:=s.threads.map aV.enc) (n:=t.toNat) (by simp;omega);unfold cK at s0;have y1:=pW (s:=th) ra.1 ra.2;have z1:ia.toNat<th.regs.length:=by omega
   generalize ae oc 1 (s.cells.map aj)++ae of 1 (s.futures.map aj)=T at *;dsimp only[aO,ae,List.cons_append,List.nil_append]at *
   repeat' (first|refine cI ra.1 z1 rp rfl ?_|refine st ?_|refine sb λnb_ hnb_=>?_|refine s2 (λh=>?_) λh=>?_|fail)
   exact js
theorem Vt(hk:e.kind≠3∧e.kind≠23∧e.kind≠4∧e.kind≠22∧e.kind≠5):jH c s t wake th i sy sv e b132 b24 b8 b6 bt tb o oc of Q:=by
 obtain⟨k3,k23,k4,k22,k5⟩:=hk;have js:=Li c s t wake h1 hc th i sy sv e b132 b24 b8 b6 bt tb o oc of hn1 ho hoc hof htn hse Q hq;have d3:decide (e.kind=3)=false:=decide_eq_false k3;have d23:decide (e.kind=23)=false:=decide_eq_false k23;have d4:decide (e.kind=4)=false:=decide_eq_false k4;have d22:decide (e.kind=22)=false:=decide_eq_false k22;have d5:decide (e.kind=5)=false:=decide_eq_false k5;have hi1:=ax.1 h1;have s0:=dV (cK th tb o) (l:=s.threads.map aV.enc) (n:=t.toNat) (by simp;omega);have en:e.enc=[.Xm e.thread,.Xm e.kind,.Xm e.obj,.Xm e.value,.Xm e.site,.lst (e.deps.map aj),.lst (e.frm.map aj)]:=rfl;by_cases p1:e.kind=18∨e.kind=19
 ·replace js:=js sv (IntKind.i64.wrap (th.pc+1)) (by unfold dU;rw[if_neg k3,if_neg k23,if_neg k4,if_neg k22,if_neg k5,if_pos p1]) _ rfl;unfold jH iC jG;unfold gF cK at *;obtain⟨J,hJ⟩:∃J,J=bH Q:=⟨_,rfl⟩;rw[←hJ]at js ⊢;generalize il s th tb o oc of=T at *;rw[en];rcases p1 with p1|p1
  ·have d18:decide (e.kind=18)=true:=decide_eq_true p1
   repeat' (first|refine st ?_|refine sb λnb_ hnb_=>?_|refine s2 (λh=>?_) λh=>?_|fail)
   exact js
  ·have d18:decide (e.kind=18)=false:=decide_eq_false Xh;have d19:decide (e.kind=19)=true:=decide_eq_true p1
   repeat' (first|refine st ?_|refine sb λnb_ hnb_=>?_|refine s2 (λh=>?_) λh=>?_|fail)
   exact js
 ·have d18:decide (e.kind=18)=false:=decide_eq_false Xh;have d19:decide (e.kind=19)=false:=decide_eq_false Xh;by_cases p2:e.kind=1∨e.kind=16∨e.kind=2
  ·replace js:=js e.value th.pc (by unfold dU;rw[if_neg k3,if_neg k23,if_neg k4,if_neg k22,if_neg k5,if_neg p1,if_pos p2]) _ rfl;unfold jH iC jG;unfold gF cK at *;obtain⟨J,hJ⟩:∃J,J=bH Q:=⟨_,rfl⟩;rw[←hJ]at js ⊢;generalize il s th tb o oc of=T at *;rw[en]
   repeat' (first|refine st ?_|refine sb λnb_ hnb_=>?_|refine s2 (λh=>?_) λh=>?_|fail)
   all_goals first
    |exact js
    |(exfalso;simp_all<;>omega)
  ·replace js:=js e.value (IntKind.i64.wrap (th.pc+1)) (by unfold dU;rw[if_neg k3,if_neg k23,if_neg k4,if_neg k22,if_neg k5,if_neg p1,if_neg p2]) _ rfl;unfold jH iC jG;unfold gF cK at *;obtain⟨J,hJ⟩:∃J,J=bH Q:=⟨_,rfl⟩;rw[←hJ]at js ⊢;generalize il s th tb o oc of=T at *;rw[en]
   repeat' (first|refine st ?_|refine sb λnb_ hnb_=>?_|refine s2 (λh=>?_) λh=>?_|fail)
   all_goals first
    |exact js
    |(exfalso;simp_all<;>omega)
end
end
section
set_option maxRecDepth 100000
set_option maxHeartbeats 4000000
set_option linter.unusedSimpArgs false
set_option linter.unusedSectionVars false
theorem Og(q:Nat)(o:Option Nat)(tb:Nat)(l:List aV)(hq:q<l.length):iN q o tb l=(l.map aV.enc).set q (cK (l.getD q aV.zero) tb o):=by
 apply WI;intro j;rw[Wu];rcases VG j l.length with hj|hj
 ·rw[xR _ _ _ _ _ hj];by_cases e:q=j
  ·subst e;rw[if_pos rfl,if_pos (by simpa using hj)];simp[Fj,cK,hj]
  ·rw[if_neg e];simp[Fj,show¬j=q from λh=>e h.symm,hj]
 ·rw[VH (by rw[cY];exact hj),if_neg Xh,VH (by simpa using hj)]
theorem L8(i:bj)(s:aV)(t:Int):(kD i s t).kind=pU i.op:=by
 unfold kD;dsimp only
 repeat' split
 all_goals rfl
theorem Oh{i:bj}{n:Int}(h1:1≤i.op)(h2:i.op≤28)(hr:∀r∈bT i,0≤r∧r<n):((pU i.op=3∨pU i.op=23∨pU i.op=5)→0≤i.a∧i.a<n)∧((pU i.op=4∨pU i.op=22)→0≤i.b∧i.b<n):=by obtain⟨op,ia,ib,ic,m,site⟩:=i;dsimp only at *;rcases ops op h1 h2 with rfl|rfl|rfl|rfl|rfl|rfl|rfl|rfl|rfl|rfl|rfl|rfl|rfl|rfl|rfl|rfl|rfl|rfl|rfl|rfl|rfl|rfl|rfl|rfl|rfl|rfl|rfl|rfl<;>simp_all[pU,kR,bT]
structure Uy(c:bM)(s:el)(t:Int)(e:cC):Prop where
 ready:jF c s t=true
 ra:(e.kind=3∨e.kind=23∨e.kind=5)→0≤(dm (aB c t) (bN s t).pc).a∧(dm (aB c t) (bN s t).pc).a<(bN s t).regs.length
 rb:(e.kind=4∨e.kind=22)→0≤(dm (aB c t) (bN s t).pc).b∧(dm (aB c t) (bN s t).pc).b<(bN s t).regs.length
theorem kF{c:bM}{s:el}{t:Int}(h:jF c s t=true):inB t c.ts.length=true∧inB t s.threads.length=true∧inB t s.sync.threads.length=true∧inB (bN s t).pc (aB c t).ins.length=true∧((bN s t).regs.length:Int)=(aB c t).regs∧((bN s t).taint.length:Int)=(aB c t).regs:=by unfold jF at h;simp only[VW,decide_eq_true_eq]at h;obtain⟨⟨⟨⟨⟨a,b⟩,c⟩,d⟩,e⟩,f⟩:=h;exact⟨a,b,c,d,e,f⟩
theorem D8{c:bM}{s:el}{t:Int}{e:cC}(hi:∀x∈c.ts,D5 x)(h:gh c s t=some e):Uy c s t e:=by
 unfold gh at h;by_cases hr:jF c s t=true
 ·rw[if_pos hr]at h;obtain⟨a1,a2,a3,a4,a5,a6⟩:=kF hr;obtain⟨o1,o2,o3⟩:=hi _ (i9 (d:=⟨0,[]⟩) a1) _ (i9 (d:=default) a4);rw[show(c.ts.getD t.toNat ⟨0,[]⟩).ins.getD (bN s t).pc.toNat default=dm (aB c t) (bN s t).pc from rfl]at o1 o2 o3;have hk:=Oh (n:=(bN s t).regs.length) o1 o2 (λr hr=>by have:=o3 r hr;rw[show(c.ts.getD t.toNat ⟨0,[]⟩).regs=(aB c t).regs from rfl]at this;omega);have key:e.kind=1∨e.kind=17∨e.kind=pU (dm (aB c t) (bN s t).pc).op:=by
   dsimp only at h;split at h
   ·cases h;exact .inl rfl
   ·split at h
    ·cases h;exact .inr (.inl rfl)
    ·split at h
     ·split at h
      ·cases h;exact .inr (.inr (L8 _ _ _))
      ·cases h
     ·cases h
  refine⟨hr,λhx=>hk.1 ?_,λhx=>hk.2 ?_⟩
  ·rcases key with k|k|k
   ·omega
   ·omega
   ·rw[←k];exact hx
  ·rcases key with k|k|k
   ·omega
   ·omega
   ·rw[←k];exact hx
 ·rw[if_neg hr]at h;cases h
theorem Lj(c:bM)(s:el)(t wake:Int):A8 c s t wake=match gh c s t with
  |none=>none
  | some e=>if s.cells.length=c.w.cells.length∧s.futures.length=c.w.futures.length then
    (if(fZ c.w s.sync t e.kind e.obj wake).2.2 then Al c s t (fZ c.w s.sync t e.kind e.obj wake).1 e (dU (dm (aB c t) (bN s t).pc) e s (bN s t) (fZ c.w s.sync t e.kind e.obj wake).2.1)else none)else none:=by
 unfold A8 Al;rfl
theorem IX{w:aH}{s:SyncD}{t k o wake:Int}(h:(fZ w s t k o wake).2.2=true):allowedS w k o=true:=by
 unfold fZ at h;split at h
 ·rename_i he;unfold bC at he;simp only[VW]at he;exact he.1.2
 ·cases h
structure QX(U:List Int)(c:bM)(s:el):Prop where
 ins:∀x∈c.ts,D5 x
 len:∀x∈c.ts,x.ins.length<2^40
 u30:U.length≤2^30
 thr:∀x∈s.threads,jq U x∧x.ev∈U∧x.regs.length≤2^30
 sm:NO c.w s.sync
 nt:s.threads.length≤2^30
 nc:s.cells.length<2^40
 nf:s.futures.length<2^40
theorem IY{U:List Int}{i:bj}{e:cC}{s:el}{th:aV}{sv:Int}(h:jq U th)(hev:th.ev∈U):jq U (dU i e s th sv).thread:=by
 obtain⟨l1,l2,l3,l4⟩:=h;have set1:jq U ⟨th.pc,th.regs,th.taint.set i.a.toNat [th.ev],th.ev⟩:=by
  refine⟨by simpa using l1,l2,λl hl=>?_,λl hl x hx=>?_⟩
  ·rcases WU hl with h|rfl
   ·exact l3 l h
   ·simp
  ·rcases WU hl with h|rfl
   ·exact l4 l h x hx
   ·rw[VI.1 hx];exact hev
 unfold dU;dsimp only
 repeat' split
 all_goals first
  |exact⟨l1,l2,l3,l4⟩
  |exact⟨by simpa using l1,by simpa using l2,set1.short,set1.sub⟩
theorem PU(U:List Int)(c:bM)(s:el)(t wake:Int)(H:QX U c s):az Tryz.prog 25 [.agg c.enc,.agg s.enc,.agg [.Xm t,.Xm wake]] (G4 (A8 c s t wake)):=by
 obtain⟨hi,hl,hu,hth,hsm,hnt,hnc,hnf⟩:=H;have hp:=PR c s t hi (λx hx r=>by
  have:=(hth x hx).1.short;unfold aV.tnt;rcases VG r.toNat x.taint.length with h|h
  ·have:=this _ (VV h);simp[h];omega
  ·simp[List.getD,VH h])
 rw[Lj];refine af.fz (IU _ _ _ _ _ ?_);unfold D4;generalize hQ:(λ(v:AV) (L:SH)=>∃v2 L2,aJ [v] L [v2] L2∧v2=_∧L2=[])=Q;have hq:∀v L,Fz L v (G4 (match gh c s t with
  |none=>none
  | some e=>if s.cells.length=c.w.cells.length∧s.futures.length=c.w.futures.length then
    (if(fZ c.w s.sync t e.kind e.obj wake).2.2 then Al c s t (fZ c.w s.sync t e.kind e.obj wake).1 e (dU (dm (aB c t) (bN s t).pc) e s (bN s t) (fZ c.w s.sync t e.kind e.obj wake).2.1)else none)else none))→Q v L:=λv L h=>by subst hQ;exact⟨_,[],aJ.all h,rfl,rfl⟩
 clear hQ;have hce:c.enc=[.lst (c.w.cells.map aY.enc),.lst (c.w.locks.map ca.enc),.lst (c.w.conds.map cP.enc),.lst (c.w.futures.map au),.lst (c.w.threads.map au),.lst (c.w.sites.map cM.enc),.lst (c.ts.map iH.enc)]:=rfl;have hse:s.enc=[.lst (s.sync.locks.map LockD.enc),.Xm s.sync.tx,.lst (s.sync.done.map aT),.lst (s.sync.threads.map ThrD.enc),.lst (s.cells.map aj),.lst (s.futures.map aj),.lst (s.threads.map aV.enc)]:=rfl;cases hpe:gh c s t with
 |none=>
  rw[hpe]at hp hq;unfold Lh at hp;have hz:=λv L (h:v=_)=>hq v L (by rw[h];exact xT L)
  unfold bK ea cC.zero cC.enc at *;dsimp only[List.map]at hp;rw[hce,hse]at *
  repeat' (first|refine st ?_|(refine pf 26 ?_;refine pm (hp) ?_)|refine sb λnb_ hnb_=>?_|refine s2 (λh=>?_) λh=>?_|fail)
  exact hz _ _ rfl
 |some e=>
  rw[hpe]at hp hq;unfold Lh at hp;dsimp only at hp hq;have hpp:=D8 hi hpe;have ha:=NQ c.w s.sync t e.kind e.obj wake hsm;have hcp:=PT s t.toNat hnt hnc hnf (λx hx=>⟨(hth x hx).1.small,by have:=(hth x hx).1.len;have:=(hth x hx).2.2;omega,(hth x hx).1.short⟩);have een:e.enc=[.Xm e.thread,.Xm e.kind,.Xm e.obj,.Xm e.value,.Xm e.site,.lst (e.deps.map aj),.lst (e.frm.map aj)]:=rfl;generalize hres:fZ c.w s.sync t e.kind e.obj wake=r at *;obtain⟨sy,sv,ok⟩:=r;unfold R6 at ha;dsimp only at ha hq;by_cases hln:s.cells.length=c.w.cells.length∧s.futures.length=c.w.futures.length
  ·rw[if_pos hln]at hq;have d1:decide ((s.cells.length:Int)≠c.w.cells.length)=false:=decide_eq_false Xh;have d2:decide ((s.futures.length:Int)≠c.w.futures.length)=false:=decide_eq_false Xh;cases ok with
   |false=>
    have hz:=λv L (h:v=_)=>hq v L (by rw[h];exact xT L)
    unfold bK ea at hz;rw[hce,hse,een]at *
    repeat' (first|refine st ?_|(refine pf 26 ?_;refine pm (hp) ?_)|(refine pf 50 ?_;refine pm (ha) ?_)|refine sb λnb_ hnb_=>?_|refine s2 (λh=>?_) λh=>?_|fail)
    exact hz _ _ rfl
   |true=>
    rw[if_pos rfl]at hq;obtain⟨a1,a2,a3,a4,a5,a6⟩:=kF hpp.ready;have al:=IX (w:=c.w) (s:=s.sync) (t:=t) (k:=e.kind) (o:=e.obj) (wake:=wake) (by rw[hres]);have hmem:bN s t∈s.threads:=i9 (d:=aV.zero) a2;have hT:=hth _ hmem;have hobc:e.kind=3∨e.kind=4→inB e.obj s.cells.length=true:=λhk=>by unfold allowedS at al;rw[if_neg Xh,if_pos hk]at al;rw[hln.1];exact al
    have hobf:e.kind=22∨e.kind=23→inB e.obj s.futures.length=true:=λhk=>by unfold allowedS at al;rw[if_neg Xh,if_neg Xh,if_neg Xh,if_neg Xh,if_neg Xh,if_neg Xh,if_pos hk]at al;rw[hln.2];exact al
    have tame:=IY (i:=dm (aB c t) (bN s t).pc) (e:=e) (s:=s) (sv:=sv) hT.1 hT.2.1;have hset:=LU (aB c t) _ U hu tame.small (by rw[tame.len];exact tame.small) tame.short tame.sub (hl _ (show aB c t∈c.ts from i9 a1));have fin:∀(v:AV) (K:SH) (b24 b8 b6:Nat),b24≠b6→So s t.toNat v K→kE Q (.pptr [sy.enc] 0 0) (.pptr [[.Xm t,.Xm wake]] 0 0) (.pptr [c.enc] 0 0) (.ptr b24 0 0) (.ptr b6 0 0) (.ptr b8 0 0) (.Xm sv) v ((b24,⟨7,[e.enc]⟩)::(b8,⟨7,[ea]⟩)::(b6,⟨7,[bK]⟩)::K):=by
     rintro v K b24 b8 b6 hn ⟨oc,of,bt,o,tb,rfl,rfl,hoc,hof,ho⟩;have hlt:t.toNat<s.threads.length:=by have:=ax.1 a2;omega
     have e1:(b24,(⟨7,[e.enc]⟩:Blk))::(b8,⟨7,[ea]⟩)::(b6,⟨7,[bK]⟩)::((bt,⟨4,iN t.toNat o tb s.threads⟩)::(pZ t.toNat o tb s.threads s.threads.length++(ae oc 1 (s.cells.map aj)++ae of 1 (s.futures.map aj))))=jG s t (bN s t) e b24 b8 b6 bt tb o (il s (bN s t) tb o oc of):=by rw[Og _ _ _ _ hlt,pZ,if_pos hlt];unfold jG il;rw[Wh];rfl
     rw[e1];refine Sr c s t wake a2 a1 _ rfl _ rfl a4 sy sv e b24 b8 b6 bt tb o oc of Q _ λb132=>?_
     have ho':o=none→(bN s t).regs=[]:=λh=>ho h hlt
     have htn:(bN s t).taint.length=(bN s t).regs.length:=by omega
     by_cases k3:e.kind=3
     ·exact Vp c s t wake a2 a1 _ _ sy sv e b132 b24 b8 b6 bt tb o oc of hn ho' hoc hof htn hset Q hq k3 (hpp.ra Xh) (hobc Xh)
     by_cases k23:e.kind=23
     ·exact Uw c s t wake a2 a1 _ _ sy sv e b132 b24 b8 b6 bt tb o oc of hn ho' hoc hof htn hset Q hq k23 (hpp.ra Xh) (hobf Xh)
     by_cases k4:e.kind=4
     ·exact Vq c s t wake a2 a1 _ _ sy sv e b132 b24 b8 b6 bt tb o oc of hn ho' hoc hof htn hset Q hq k4 (hpp.rb Xh) (hobc Xh)
     by_cases k22:e.kind=22
     ·exact Ux c s t wake a2 a1 _ _ sy sv e b132 b24 b8 b6 bt tb o oc of hn ho' hoc hof htn hset Q hq k22 (hpp.rb Xh) (hobf Xh)
     by_cases k5:e.kind=5
     ·exact Vr c s t wake a2 a1 _ _ sy sv e b132 b24 b8 b6 bt tb o oc of hn ho' hoc hof htn hset Q hq k5 (hpp.ra Xh)
     exact Vt c s t wake a2 a1 _ _ sy sv e b132 b24 b8 b6 bt tb o oc of hn ho' hoc hof htn hset Q hq ⟨k3,k23,k4,k22,k5⟩
    unfold bK ea at fin;clear hq hset tame hobc hobf al hpp hT hmem;rw[hce,hse,een]at *
    repeat' (first|refine st ?_|(refine pf 26 ?_;refine pm (hp) ?_)|(refine pf 50 ?_;refine pm (ha) ?_)|((with_reducible refine aX 51 ?_);(refine pd hcp ?_;intro v K hK;exact fin _ _ _ _ _ (λh_=>by subst h_;simp[SH.names]at hnb_) hK))|refine sb λnb_ hnb_=>?_|refine s2 (λh=>?_) λh=>?_|fail)
  ·rw[if_neg hln]at hq;have hz:=λv L (h:v=_)=>hq v L (by rw[h];exact xT L)
   unfold bK ea at hz;rw[hce,hse,een]at *;by_cases hl1:s.cells.length=c.w.cells.length
   ·have d1:decide ((s.cells.length:Int)≠c.w.cells.length)=false:=decide_eq_false Xh;have d2:decide ((s.futures.length:Int)≠c.w.futures.length)=true:=decide_eq_true Xh
    repeat' (first|refine st ?_|(refine pf 26 ?_;refine pm (hp) ?_)|refine sb λnb_ hnb_=>?_|refine s2 (λh=>?_) λh=>?_|fail)
    exact hz _ _ rfl
   ·have d1:decide ((s.cells.length:Int)≠c.w.cells.length)=true:=decide_eq_true Xh
    repeat' (first|refine st ?_|(refine pf 26 ?_;refine pm (hp) ?_)|refine sb λnb_ hnb_=>?_|refine s2 (λh=>?_) λh=>?_|fail)
    exact hz _ _ rfl
end
section
set_option maxRecDepth 100000
set_option maxHeartbeats 4000000
set_option linter.unusedSimpArgs false
set_option linter.unusedSectionVars false
def J3(t:iH):aV:=⟨0,List.replicate t.regs.toNat 0,List.replicate t.regs.toNat [],0⟩
theorem Ss(l:List iH)(h1:l.length≤1000)(hr:∀t∈l,0≤t.regs∧t.regs≤1000)(sy:SyncD)(x y:AV)(hx:∃b n,x=.sl b 0 n)(hy:∃b n,y=.sl b 0 n)(b2 b37 bt:Nat)(RR L0:SH)(Q:R)(hL0:L0.Perm ((bt,⟨4,[]⟩)::(b37,⟨7,[[.lst (sy.locks.map LockD.enc),.Xm sy.tx,.lst (sy.done.map aT),.lst (sy.threads.map ThrD.enc),x,y,.sl bt 0 0]]⟩)::(b2,⟨7,[bK]⟩)::RR))
  (hq:∀(bt:Nat) (L:SH),(bt,(⟨4,(l.map J3).map aV.enc⟩:Blk))∈L→(∀q∈RR,q∈L)→Q (.agg [.lst (sy.locks.map LockD.enc),.Xm sy.tx,.lst (sy.done.map aT),.lst (sy.threads.map ThrD.enc),x,y,.sl bt 0 l.length]) L) :
  W.loop (iZ Q) [.ptr b2 0 0,.ptr b37 0 0,.lst (l.map iH.enc),.Xm l.length,.Xm (0:Nat)] L0:=by
 refine cg l.length (λk (b':Nat)=>([.ptr b2 0 0,.ptr b37 0 0,.lst (l.map iH.enc),.Xm l.length,.Xm k],(b',⟨4,((l.take k).map J3).map aV.enc⟩)::(b37,⟨7,[[.lst (sy.locks.map LockD.enc),.Xm sy.tx,.lst (sy.done.map aT),.lst (sy.threads.map ThrD.enc),x,y,.sl b' 0 k]]⟩)::(b2,⟨7,[bK]⟩)::RR)) (λ_ _=>True) bt trivial (aJ.forget (K:=[]) hL0) ?_;intro k b' hk _;dsimp only;unfold iZ;obtain⟨bx,nx,rfl⟩:=hx;obtain⟨by_,ny,rfl⟩:=hy;rcases Nat.lt_or_ge k l.length with g1|g1
 ·have hd:=bF g1;have hxx:=aw (f:=iH.enc) g1;obtain⟨r1,r2⟩:=hr _ (VV g1);have htk:l.take (k+1)=l.take k++[l[k]]:=VJ g1;generalize hT:l[k]=tk at *;obtain⟨m,hm⟩:∃m:Nat,tk.regs=(m:Int):=⟨tk.regs.toNat,Xh⟩;have hke:tk.enc=[.Xm (m:Int),.lst (tk.ins.map bj.enc)]:=by rw[←hm];rfl
  rw[hke]at hxx
  repeat' (first|refine st ?_|refine fW (i:=m) (j:=m) Xh Xh Xh (λnb_ hnb_=>?_)|refine pY rp rp (by simp;omega) rfl (by simp;omega) (by simp;omega) rfl (λnb_ hnb_=>?_)|refine sb λnb_ hnb_=>?_|fail)
  rename_i kr _ kt _ ka _;refine⟨k+1,nb_,Xh,Xh,trivial,?_⟩;rw[aE g1 Xh,htk,VF,VF];have e:J3 tk=⟨0,List.replicate m 0,List.replicate m [],0⟩:=by unfold J3;rw[hm];rfl
  refine aJ.row (K:=[(ka,_),(kt,_),(kr,_)]) (R:=(b37,_)::(b2,_)::RR) (WX (l₁:=[_,_,_])).symm Xk ?_;intro j r r' q1 q2;rcases VG j (((l.take k).map J3).map aV.enc).length with hj|hj
  ·rw[VS hj]at q1 q2;rw[q1]at q2;cases q2;exact ji.refl _ _
  ·rw[VK hj]at q1 q2;rcases hmm:j-(((l.take k).map J3).map aV.enc).length with _|mm
   ·rw[hmm]at q1 q2;cases q1;cases q2;rw[e];refine .cons (.refl _) (.cons ?_ (.cons ?_ (.cons (.refl _) .nil)))
    ·exact Fz.sls (l:=List.replicate m 0) (f:=aj) (.tail _ (.tail _ (.head _))) (by simp[aj]) Xl Xk
    ·refine Fz.slm (l:=List.replicate m []) (f:=λ_=>[.nils]) (g:=cp) (.tail _ (.head _)) Xk Xl Xk (λy _=>rfl) (λy hy q a a2 q1 q2=>?_);obtain rfl:=(List.mem_replicate.1 hy).2
     match q with
     |0=>cases q1;cases q2;exact .nils
   ·rw[hmm]at q1;simp at q1
 ·have hd:=bI g1;have hk0:k=l.length:=by omega
  subst hk0;rw[Wo (VC _)];unfold bK
  repeat' (first|refine st ?_|refine sb λnb_ hnb_=>?_|refine s2 (λh=>?_) λh=>?_|fail)
  exact hq b' _ (.head _) (λq h=>by simp[h])
theorem St(c:bM)(h1:c.w.cells.length≤1000)(w1 w2 w3 w4 y z:AV)(b2 b37 bc:Nat)(RR L0:SH)(Q:R)(hL0:L0.Perm ((bc,⟨1,[]⟩)::(b37,⟨7,[[w1,w2,w3,w4,.sl bc 0 0,y,z]]⟩)::RR))
  (hq:∀bc:Nat,W.loop (iZ Q) [.ptr b2 0 0,.ptr b37 0 0,.lst (c.ts.map iH.enc),.Xm c.ts.length,.Xm (0:Nat)] ((bc,⟨1,(c.w.cells.map aY.init).map aj⟩)::(b37,⟨7,[[w1,w2,w3,w4,.sl bc 0 c.w.cells.length,y,z]]⟩)::RR)) :
  W.loop (i8 Q) [.pptr [c.enc] 0 0,.ptr b2 0 0,.ptr b37 0 0,.lst (c.w.cells.map aY.enc),.Xm c.w.cells.length,.Xm (0:Nat)] L0:=by
 refine cg c.w.cells.length (λk (b':Nat)=>([.pptr [c.enc] 0 0,.ptr b2 0 0,.ptr b37 0 0,.lst (c.w.cells.map aY.enc),.Xm c.w.cells.length,.Xm k],(b',⟨1,((c.w.cells.take k).map aY.init).map aj⟩)::(b37,⟨7,[[w1,w2,w3,w4,.sl b' 0 k,y,z]]⟩)::RR)) (λ_ _=>True) bc trivial (aJ.forget (K:=[]) hL0) ?_;intro k b' hk _;dsimp only;unfold i8;rcases Nat.lt_or_ge k c.w.cells.length with g1|g1
 ·have hd:=bF g1;have hxx:=aw (f:=aY.enc) g1;have htk:c.w.cells.take (k+1)=c.w.cells.take k++[c.w.cells[k]]:=VJ g1;generalize hT:c.w.cells[k]=ck at *;have hce:ck.enc=[.str ck.name,.Xm ck.index,.Xm ck.size,.bool ck.vol,.Xm ck.init]:=rfl;rw[hce]at hxx
  repeat' (first|refine st ?_|refine pY rp rp (by simp;omega) rfl (by simp;omega) (by simp;omega) rfl (λnb_ hnb_=>?_)|refine sb λnb_ hnb_=>?_|fail)
  refine⟨k+1,nb_,Xh,Xh,trivial,?_⟩;rw[aE g1 Xh,htk,VF,VF];exact aJ.forget (K:=[(_,_)]) (List.Perm.swap _ _ _)
 ·have hk0:k=c.w.cells.length:=by omega
  subst hk0;rw[Wo (VC _)];have:=hq b';have hd:=bI g1;rw[show c.enc=[.lst (c.w.cells.map aY.enc),.lst (c.w.locks.map ca.enc),.lst (c.w.conds.map cP.enc),.lst (c.w.futures.map au),.lst (c.w.threads.map au),.lst (c.w.sites.map cM.enc),.lst (c.ts.map iH.enc)]from rfl]
  repeat' (first|exact this|refine st ?_|refine sb λnb_ hnb_=>?_|refine s2 (λh=>?_) λh=>?_|fail)
theorem L9(c:bM)(h1:c.w.cells.length≤100)(h2:c.w.locks.length≤100)(h3:c.w.futures.length≤100)(h4:c.w.threads.length≤100)(h5:c.ts.length≤1000)(hr:∀t∈c.ts,0≤t.regs∧t.regs≤1000):az Tryz.prog 40 [.agg c.enc] (.agg (db c).enc):=by
 have hst:=NZ c.w h2 h3 h4;refine af.fz (GX _ _ _ ?_);unfold A9;generalize hQ:(λ(v:AV) (L:SH)=>∃v2 L2,aJ [v] L [v2] L2∧v2=AV.agg (db c).enc∧L2=[])=Q;have hq:∀v L,Fz L v (.agg (db c).enc)→Q v L:=λv L h=>by subst hQ;exact⟨_,[],aJ.all h,rfl,rfl⟩
 clear hQ;have hwe:c.w.enc=[.lst (c.w.cells.map aY.enc),.lst (c.w.locks.map ca.enc),.lst (c.w.conds.map cP.enc),.lst (c.w.futures.map au),.lst (c.w.threads.map au),.lst (c.w.sites.map cM.enc)]:=rfl;have hce:c.enc=[.lst (c.w.cells.map aY.enc),.lst (c.w.locks.map ca.enc),.lst (c.w.conds.map cP.enc),.lst (c.w.futures.map au),.lst (c.w.threads.map au),.lst (c.w.sites.map cM.enc),.lst (c.ts.map iH.enc)]:=rfl;rw[hwe]at hst;have hsy:(cX c.w).enc=[.lst ((cX c.w).locks.map LockD.enc),.Xm (cX c.w).tx,.lst ((cX c.w).done.map aT),.lst ((cX c.w).threads.map ThrD.enc)]:=rfl;rw[hsy]at hst;rw[hce];generalize hsg:cX c.w=sy at *;have lp:∀(b2 b37 bc bf bt:Nat) (L:SH),L=(b37,⟨7,[[.lst (sy.locks.map LockD.enc),.Xm sy.tx,.lst (sy.done.map aT),.lst (sy.threads.map ThrD.enc),.sl bc 0 0,.sl bf 0 c.w.futures.length,.sl bt 0 0]]⟩)::(bt,⟨4,[]⟩)::(bf,⟨1,List.replicate c.w.futures.length [.Xm 0]⟩)::(bc,⟨1,[]⟩)::[(b2,⟨7,[bK]⟩)]→
   W.loop (i8 Q) [.pptr [c.enc] 0 0,.ptr b2 0 0,.ptr b37 0 0,.lst (c.w.cells.map aY.enc),.Xm c.w.cells.length,.Xm (0:Nat)] L:=by
  rintro b2 b37 bc bf bt L rfl;refine St c Xh (.lst (sy.locks.map LockD.enc)) (.Xm sy.tx) (.lst (sy.done.map aT)) (.lst (sy.threads.map ThrD.enc)) (.sl bf 0 c.w.futures.length) (.sl bt 0 0) b2 b37 bc ((bt,⟨4,[]⟩)::(bf,⟨1,List.replicate c.w.futures.length [.Xm 0]⟩)::[(b2,⟨7,[bK]⟩)]) _ Q ?_ λbc=>?_
  ·exact WX (l₁:=[_,_,_]) (l₂:=[_])
  refine Ss c.ts h5 hr sy (.sl bc 0 c.w.cells.length) (.sl bf 0 c.w.futures.length) ⟨bc,_,rfl⟩ ⟨bf,_,rfl⟩ b2 b37 bt [(bc,⟨1,(c.w.cells.map aY.init).map aj⟩),(bf,⟨1,List.replicate c.w.futures.length [.Xm 0]⟩)] _ Q ?_ λbt L hm hL=>?_
  ·exact(WX (l₁:=[_,_])).trans (((List.Perm.swap _ _ _).trans ((WX (l₁:=[_,_])).cons _)).cons _)
  refine hq _ _ ?_;have he:(db c).enc=[.lst (sy.locks.map LockD.enc),.Xm sy.tx,.lst (sy.done.map aT),.lst (sy.threads.map ThrD.enc),.lst ((c.w.cells.map aY.init).map aj),.lst ((List.replicate c.w.futures.length (0:Int)).map aj),.lst ((c.ts.map J3).map aV.enc)]:=by unfold db el.enc;rw[hsg];rfl
  rw[he];refine Fz.aggs (.cons (.refl _) (.cons (.refl _) (.cons (.refl _) (.cons (.refl _) (.cons ?_ (.cons ?_ (.cons ?_ .nil)))))))
  ·exact Fz.sls (hL _ (.head _)) rfl Xl Xk
  ·exact Fz.sls (hL _ (.tail _ (.head _))) (by simp[aj]) Xl Xk
  ·exact Fz.sls hm rfl Xl Xk
 repeat' (first|exact lp _ _ _ _ _ _ rfl|refine st ?_|(refine pf 71 ?_;refine pm (hst) ?_)|refine fW (i:=0) (j:=c.w.cells.length) Xh Xh Xh (λnb_ hnb_=>?_)|refine fW (i:=c.w.futures.length) (j:=c.w.futures.length) Xh Xh Xh (λnb_ hnb_=>?_)|refine fW (i:=0) (j:=c.ts.length) Xh Xh Xh (λnb_ hnb_=>?_)|refine sb λnb_ hnb_=>?_|refine s2 (λh=>?_) λh=>?_|fail)
end
section
set_option linter.unusedSimpArgs false
def U9:List Int:=(List.range 401).map λk:Nat=>(k:Int)
theorem Oi{n:Int}(h0:0≤n)(h1:n≤400):n∈U9:=Wd.2 ⟨n.toNat,Wy.2 Xh,Xh⟩
theorem Oj:U9.length≤2^30:=by simp[U9]
structure An(c:bM)(n:Nat)(s:el):Prop where
 thr:∀x∈s.threads,jq U9 x∧0≤x.ev∧x.ev≤n∧x.regs.length≤1000
 nt:s.threads.length≤1000
 lk:s.sync.locks.length≤1000
 rd:∀l∈s.sync.locks,l.readers.length≤n
 dn:s.sync.done.length≤1000
 th:s.sync.threads.length≤1000
 nc:s.cells.length≤1000
 nf:s.futures.length≤1000
structure Su(s s':SyncD)(n:Nat):Prop where
 lk:s'.locks.length=s.locks.length
 dn:s'.done.length=s.done.length
 th:s'.threads.length=s.threads.length
 rd:∀l∈s'.locks,l.readers.length≤n+1
theorem Ma(l:List Int)(t:Int):(sB l t).length≤l.length+1:=by unfold sB;have:=pe (zA (l++[t]));rw[qw]at this;simpa using this
theorem Mb{s:SyncD}{n:Nat}(h:∀l∈s.locks,l.readers.length≤n)(o:Int):(aD s o).readers.length≤n:=by
 unfold aD;rcases VG o.toNat s.locks.length with h1|h1
 ·simpa[List.getD,h1]using h _ (VV h1)
 ·simp[List.getD,VH h1];exact We _
theorem Mc{w:aH}{s:SyncD}{t k o wake:Int}{n:Nat}(h:∀l∈s.locks,l.readers.length≤n):Su s (bG w s t k o wake).1 n:=by
  have same:∀l∈s.locks,l.readers.length≤n+1:=λl hl=>WJ (h l hl)
  have lk:∀(i:Int) (f:LockD→LockD),(∀x,x.readers.length≤n→(f x).readers.length≤n+1)→∀l∈aG s i f,l.readers.length≤n+1:=λi f hf l hl=>by
    unfold aG at hl;rcases WU hl with h1|rfl
    · exact same l h1
    · exact hf _ (Mb h i)
  have own:∀(i v:Int),∀l∈aG s i (λx=>{x with owner:=v}),l.readers.length≤n+1:=λi v=>lk i _ λx hx=>WJ hx
  have ll:∀(i:Int) (f:LockD→LockD),(aG s i f).length=s.locks.length:=λi f=>by simp[aG]
  have tl:∀(i:Int) (f:ThrD→ThrD),(bJ s i f).length=s.threads.length:=λi f=>by simp[bJ]
  unfold bG
  repeat' refine iteInduction (motive:=λx:SyncD×Int=>Su s x.1 n) (λ_=>?_) (λ_=>?_)
  all_goals refine⟨by simp[aG],Xk,by simp[bJ,FS,eF,NJ],?_⟩
  all_goals first
    |exact same
    | (intro l hl; dsimp only at hl
       refine lk _ _ (λx hx=>?_) l hl;dsimp only
       first
         |exact WJ hx
         |exact VT (Ma _ _) (Nat.succ_le_succ hx)
         |exact VT (W8 _ _) (WJ hx))
theorem PV{i:bj}{e:cC}{s:el}{th:aV}{sv:Int}:(dU i e s th sv).thread.ev=IntKind.i64.wrap (th.ev+1)∧(dU i e s th sv).thread.regs.length=th.regs.length∧(dU i e s th sv).cells.length=s.cells.length∧(dU i e s th sv).futures.length=s.futures.length:=by
 unfold dU;dsimp only
 repeat' split
 all_goals exact⟨rfl,Xk,Xk,Xk⟩
theorem PW{i:bj}{s s2:aV}(h:bR i s=some s2):s2.ev=s.ev:=by
 unfold bR at h
 repeat' split at h
 all_goals first
  |(cases h;rfl)
  |cases h
theorem Sv{ins:List bj}:∀(k:Nat) {s y:aV},ig ins k s=(y,true)→y.ev=s.ev∧y.regs.length=s.regs.length:=by
 intro k
 induction k with
 |zero=>
  intro s y h;unfold ig at h
  repeat' split at h
  all_goals first
   |(cases h;exact⟨rfl,rfl⟩)
   |cases h
 |succ k ih=>
  intro s y h;unfold ig at h;split at h
  ·split at h
   ·cases h;exact⟨rfl,rfl⟩
   ·split at h
    ·cases h
    ·rename_i s2 he;obtain⟨a,b⟩:=ih h;rw[a,b,PW he,(FW he).1];exact⟨rfl,rfl⟩
  ·cases h
theorem Md{c:iH}{s y:aV}(h:bW c s=(y,true)):y.ev=s.ev∧y.regs.length=s.regs.length:=by
 unfold bW at h;split at h
 ·exact Sv _ h
 ·cases h
structure Uz(c:bM)(s:el)(t wake:Int)(s':el)(e':cC):Prop where
 ex:∃(e:cC) (th':aV),gh c s t=some e∧(fZ c.w s.sync t e.kind e.obj wake).2.2=true∧s.cells.length=c.w.cells.length∧s.futures.length=c.w.futures.length∧
  (th'=(dU (dm (aB c t) (bN s t).pc) e s (bN s t) (fZ c.w s.sync t e.kind e.obj wake).2.1).thread∨bW (aB c t) (dU (dm (aB c t) (bN s t).pc) e s (bN s t) (fZ c.w s.sync t e.kind e.obj wake).2.1).thread=(th',true))∧
  s'=⟨(fZ c.w s.sync t e.kind e.obj wake).1,(dU (dm (aB c t) (bN s t).pc) e s (bN s t) (fZ c.w s.sync t e.kind e.obj wake).2.1).cells,(dU (dm (aB c t) (bN s t).pc) e s (bN s t) (fZ c.w s.sync t e.kind e.obj wake).2.1).futures,s.threads.set t.toNat th'⟩∧
  e'={e with value:=(dU (dm (aB c t) (bN s t).pc) e s (bN s t) (fZ c.w s.sync t e.kind e.obj wake).2.1).value}
theorem tK{c:bM}{s s':el}{t wake:Int}{e':cC}(h:A8 c s t wake=some (s',e')):Uz c s t wake s' e':=by
 rw[Lj]at h;cases hp:gh c s t with
 |none=>rw[hp]at h;cases h
 |some e=>
  rw[hp]at h;dsimp only at h;split at h
  ·rename_i hl;split at h
   ·rename_i hr;unfold Al at h;split at h
    ·split at h
     ·rename_i hz;cases h;exact⟨e,_,hp,hr,hl.1,hl.2,.inr (Prod.ext rfl hz),rfl,rfl⟩
     ·cases h
    ·cases h;exact⟨e,_,hp,hr,hl.1,hl.2,.inl rfl,rfl,rfl⟩
   ·cases h
  ·cases h
theorem Ol{c:bM}{s s':el}{t wake:Int}{e':cC}{n:Nat}(hn:n<400)(H:An c n s)(hi:∀x∈c.ts,D5 x)(h:A8 c s t wake=some (s',e')):An c (n+1) s':=by
 obtain⟨e,th',hp,hr,hl1,hl2,hth,rfl,rfl⟩:=tK h;have a2:=(kF (D8 hi hp).ready).2.1;have hmem:bN s t∈s.threads:=i9 (d:=aV.zero) a2;obtain⟨t1,t2,t3,t4⟩:=H.thr _ hmem;have at_:=IY (U:=U9) (i:=dm (aB c t) (bN s t).pc) (e:=e) (s:=s) (sv:=(fZ c.w s.sync t e.kind e.obj wake).2.1) t1 (Oi t2 Xh);obtain⟨q1,q2,q3,q4⟩:=PV (i:=dm (aB c t) (bN s t).pc) (e:=e) (s:=s) (th:=bN s t) (sv:=(fZ c.w s.sync t e.kind e.obj wake).2.1);rw[Wr _ Xh]at q1;have hL:Su s.sync (fZ c.w s.sync t e.kind e.obj wake).1 n:=by
  unfold fZ at hr ⊢;split
  ·exact Mc H.rd
  ·rename_i he;rw[if_neg he]at hr;cases hr
 have key:jq U9 th'∧th'.ev=(bN s t).ev+1∧th'.regs.length=(bN s t).regs.length:=by
  rcases hth with rfl|hz
  ·exact⟨at_,q1,q2⟩
  ·have:=Iw (c:=aB c t) Oj at_;rw[hz]at this;obtain⟨a,b⟩:=Md hz;exact⟨this,Xh,Xh⟩
 refine⟨λx hx=>?_,by simpa using H.nt,by rw[hL.lk];exact H.lk,hL.rd,by rw[hL.dn];exact H.dn,by rw[hL.th];exact H.th,by rw[q3];exact H.nc,by rw[q4];exact H.nf⟩;rcases WU hx with h1|rfl
 ·obtain⟨b1,b2,b3,b4⟩:=H.thr x h1;exact⟨b1,b2,Xh,b4⟩
 ·exact⟨key.1,Xh,Xh,Xh⟩
theorem Om{c:bM}{s:el}{n:Nat}(hn:n≤400)(H:An c n s)(hi:∀x∈c.ts,D5 x)(hl:∀x∈c.ts,x.ins.length<2^40)(hc:c.w.conds.length<2^40):QX U9 c s where
 ins:=hi
 len:=hl
 u30:=Oj
 thr:=λx hx=>by obtain⟨b1,b2,b3,b4⟩:=H.thr x hx;exact⟨b1,Oi b2 Xh,Xh⟩
 sm:=⟨hc,by have:=H.lk;omega,by have:=H.dn;omega,by have:=H.th;omega,λl h=>by have:=H.rd l h;omega⟩
 nt:=by have:=H.nt;omega
 nc:=by have:=H.nc;omega
 nf:=by have:=H.nf;omega
end
section
set_option maxRecDepth 100000
set_option maxHeartbeats 4000000
set_option linter.unusedSimpArgs false
set_option linter.unusedSectionVars false
def fH(c:bM)(l:List dF)(p:List cC×el):List cC×el:=l.foldl (Jk c) p
theorem F0(c:bM):∀(l:List dF) (p:List cC×el),400≤p.1.length→fH c l p=p
 |[],p,_=>rfl
 | ch::l,p,h=>by
  show fH c l (Jk c p ch)=p;have e:Jk c p ch=p:=by unfold Jk;rw[if_pos h]
  rw[e];exact F0 c l p h
theorem Me(c:bM)(l:List dF)(k:Nat)(p:List cC×el):fH c l p=fH c (l.drop k) (fH c (l.take k) p):=by unfold fH;rw[←List.foldl_append,List.take_append_drop]
theorem Mf(c:bM)(l:List dF)(k:Nat)(hk:k<l.length)(p:List cC×el):fH c (l.take (k+1)) p=Jk c (fH c (l.take k) p) l[k]:=by unfold fH;rw[VJ hk,List.foldl_append];rfl
structure F1(c:bM):Prop where
 ins:∀x∈c.ts,D5 x
 len:∀x∈c.ts,x.ins.length<2^40
 con:c.w.conds.length<2^40
theorem On{c:bM}(hc:F1 c){p:List cC×el}{ch:dF}(h:An c p.1.length p.2)(hn:p.1.length≤400):An c (Jk c p ch).1.length (Jk c p ch).2∧(Jk c p ch).1.length≤400:=by
 unfold Jk;split
 ·exact⟨h,hn⟩
 ·rename_i hlt;split
  ·exact⟨h,hn⟩
  ·rename_i n e hs;have:=Ol Xh h hc.ins hs;exact⟨by simpa using this,by simp;omega⟩
theorem Lk{c:bM}(hc:F1 c)(l:List dF){p:List cC×el}(h:An c p.1.length p.2)(hn:p.1.length≤400):An c (fH c l p).1.length (fH c l p).2∧(fH c l p).1.length≤400:=by
 induction l generalizing p with
 |nil=>exact⟨h,hn⟩
 |cons ch l ih=>obtain⟨a,b⟩:=On (ch:=ch) hc h hn;exact ih a b
def Oo(p:List cC×el):AV:=.tup [.lst (p.1.map cC.enc),.agg p.2.enc]
theorem Oq(c:bM)(hc:F1 c)(l:List dF)(hl:l.length<2^62)(s0:el)(h0:An c 0 s0)(b2 b9:Nat)(Q:R)(hq:∀v L,Fz L v (Oo (fH c l ([],s0)))→Q v L):
  W.loop (lz (hD Q)) [.pptr [c.enc] 0 0,.ptr b2 0 0,.ptr b9 0 0,.nils,.lst (l.map dF.enc),.Xm l.length,.Xm (0:Nat)] [(b9,⟨7,[s0.enc]⟩),(b2,⟨7,[bK]⟩)]:=by
 refine cg l.length (λk (o:Option Nat)=>([.pptr [c.enc] 0 0,.ptr b2 0 0,.ptr b9 0 0,am o (fH c (l.take k) ([],s0)).1.length,.lst (l.map dF.enc),.Xm l.length,.Xm k],(b9,⟨7,[(fH c (l.take k) ([],s0)).2.enc]⟩)::(b2,⟨7,[bK]⟩)::ae o 7 ((fH c (l.take k) ([],s0)).1.map cC.enc))) (λk o=>o=none→(fH c (l.take k) ([],s0)).1=[]) none (λ_=>rfl) (aJ.drop (K:=[]) (.refl _) rfl (ji.at_ (.cons (.refl _) (.cons (.refl _) (.cons (.refl _) (.cons .nile (.cons (.refl _) (.cons (.refl _) (.cons (.refl _) .nil)))))))).2) ?_;intro k o hk ho;dsimp only;have hiv:=Lk hc (l.take k) (p:=([],s0)) h0 (Nat.zero_le _);have hsplit:=Me c l k ([],s0);have hsucc:=λ(h:k<l.length)=>Mf c l k h ([],s0);generalize hp:fH c (l.take k) ([],s0)=p at *;obtain⟨ev,sx⟩:=p;dsimp only at *;have fin:fH c l ([],s0)=(ev,sx)→∀L,(∀q∈ae o 7 (ev.map cC.enc),q∈L)→Q (.tup [am o ev.length,.agg sx.enc]) L:=λhe L hm=>by
  refine hq _ _ ?_;rw[he];refine Fz.tups (.cons ?_ (.cons (.refl _) .nil));cases o with
  |none=>rw[ho rfl];exact .emp
  |some b=>exact Fz.sls (hm _ (.head _)) rfl Xl rfl
 unfold lz;obtain⟨J,hJ⟩:∃J,J=hD Q:=⟨_,rfl⟩;have jn:fH c l ([],s0)=(ev,sx)→J [.ptr b2 0 0,.ptr b9 0 0,am o ev.length] ((b9,⟨7,[sx.enc]⟩)::(b2,⟨7,[bK]⟩)::ae o 7 (ev.map cC.enc)):=λhe=>by
  have fin:=fin he;rw[hJ];unfold hD bK el.enc at *;cases o
  all_goals
   dsimp only[am,ae]at *
   repeat' (first|refine st ?_|refine sb λnb_ hnb_=>?_|refine s2 (λh=>?_) λh=>?_|fail)
   exact fin _ Xk
 rw[←hJ];clear fin hJ;rcases VG k l.length with g1|g1
 ·have hd:=bF g1;have hx:=aw (f:=dF.enc) g1;have hsucc:=hsucc g1;generalize hch:l[k]=ch at *;obtain⟨ct,cw⟩:=ch;unfold dF.enc at hx;dsimp only at hx;by_cases hfull:400≤ev.length
  ·have jn:=jn (by rw[hsplit];exact F0 c _ _ hfull);have d4:decide ((ev.length:Int)≥400)=true:=decide_eq_true Xh;clear hq hsplit hsucc hp;cases o with
   |none=>rw[ho rfl]at hfull;simp at hfull
   |some bo=>
    dsimp only[am,ae]at *
    repeat' (first|exact jn|refine st ?_|refine sb λnb_ hnb_=>?_|refine s2 (λh=>?_) λh=>?_|fail)
  ·have d4:decide ((ev.length:Int)≥400)=false:=decide_eq_false Xh;have hst:=PU U9 c sx ct cw (Om hiv.2 hiv.1 hc.ins hc.len hc.con);have hgo:Jk c (ev,sx) ⟨ct,cw⟩=match A8 c sx ct cw with
    |none=>(ev,sx)
    |some (n,e)=>(ev++[e],n):=by unfold Jk;rw[if_neg hfull];rfl
   clear hq hsplit jn;cases hs:A8 c sx ct cw with
   |none=>
    rw[hs]at hst hgo;dsimp only at hgo;unfold G4 at hst;have hz:el.zero.enc=[.lst [],.Xm 0,.lst [],.lst [],.lst [],.lst [],.lst []]:=rfl;rw[hz,show cC.zero.enc=[.Xm 0,.Xm 0,.Xm 0,.Xm 0,.Xm 0,.lst [],.lst []]from rfl]at hst;have fin2:∀L,L=(b9,(⟨7,[sx.enc]⟩:Blk))::(b2,⟨7,[bK]⟩)::ae o 7 (ev.map cC.enc)→∃(j:Nat) (o':Option Nat),k<j∧j≤l.length∧(o'=none→(fH c (l.take j) ([],s0)).1=[])∧aJ [.pptr [c.enc] 0 0,.ptr b2 0 0,.ptr b9 0 0,am o ev.length,.lst (l.map dF.enc),.Xm l.length,.Xm (IntKind.i64.wrap ((k:Int)+1))] L
      [.pptr [c.enc] 0 0,.ptr b2 0 0,.ptr b9 0 0,am o' (fH c (l.take j) ([],s0)).1.length,.lst (l.map dF.enc),.Xm l.length,.Xm j] ((b9,⟨7,[(fH c (l.take j) ([],s0)).2.enc]⟩)::(b2,⟨7,[bK]⟩)::ae o' 7 ((fH c (l.take j) ([],s0)).1.map cC.enc)):=by
     rintro L rfl;refine⟨k+1,o,Xh,Xh,?_,?_⟩
     ·rw[hsucc,hgo];exact ho
     ·rw[hsucc,hgo,aE g1 hl];exact .refl _ _
    cases o
    all_goals
     dsimp only[am,ae]at *
     repeat' (first|refine st ?_|(refine pf 25 ?_;refine pm (hst) ?_)|refine sb λnb_ hnb_=>?_|refine s2 (λh=>?_) λh=>?_|fail)
     exact fin2 _ rfl
   |some r=>
    obtain⟨n,e⟩:=r;rw[hs]at hst hgo;dsimp only at hgo;unfold G4 at hst;have hn:n.enc=[.lst (n.sync.locks.map LockD.enc),.Xm n.sync.tx,.lst (n.sync.done.map aT),.lst (n.sync.threads.map ThrD.enc),.lst (n.cells.map aj),.lst (n.futures.map aj),.lst (n.threads.map aV.enc)]:=rfl;have he:e.enc=[.Xm e.thread,.Xm e.kind,.Xm e.obj,.Xm e.value,.Xm e.site,.lst (e.deps.map aj),.lst (e.frm.map aj)]:=rfl;dsimp only at hst;have fin3:∀(nb:Nat) (L:SH),gN L ((b9,(⟨7,[n.enc]⟩:Blk))::(b2,⟨7,[bK]⟩)::ae (some nb) 7 (ev.map cC.enc++[e.enc]))→∃(j:Nat) (o':Option Nat),k<j∧j≤l.length∧(o'=none→(fH c (l.take j) ([],s0)).1=[])∧aJ [.pptr [c.enc] 0 0,.ptr b2 0 0,.ptr b9 0 0,.sl nb 0 (ev.length+1),.lst (l.map dF.enc),.Xm l.length,.Xm (IntKind.i64.wrap ((k:Int)+1))] L
      [.pptr [c.enc] 0 0,.ptr b2 0 0,.ptr b9 0 0,am o' (fH c (l.take j) ([],s0)).1.length,.lst (l.map dF.enc),.Xm l.length,.Xm j] ((b9,⟨7,[(fH c (l.take j) ([],s0)).2.enc]⟩)::(b2,⟨7,[bK]⟩)::ae o' 7 ((fH c (l.take j) ([],s0)).1.map cC.enc)):=by
     intro nb L hL;refine⟨k+1,some nb,Xh,Xh,nofun,?_⟩;rw[hsucc,hgo,aE g1 hl];exact aJ.pickE hL (by simp[am]) Xk
    rw[hn,he]at *;have hev400:ev.length<2^30:=by omega
    repeat' (first|refine st ?_|(refine pf 25 ?_;refine pm (hst) ?_)|refine cz rp rp Xk (λe=>by first|simp[ho e]) Xj Xk (by simp;omega) (by simp;omega) Xj (λnb_ hnb_=>?_)|refine Lg ?_ (λe=>by rw[ho e];rfl)|refine sb λnb_ hnb_=>?_|refine s2 (λh=>?_) λh=>?_|fail)
    exact fin3 _ _ rp
 ·have hd:=bI g1;have hk0:k=l.length:=by omega
  subst hk0;have jn:=jn (by rw[hsplit,List.drop_of_length_le (VC _)];rfl);clear hq hsplit hsucc hp
  repeat' (first|exact jn|refine st ?_|refine sb λnb_ hnb_=>?_|refine s2 (λh=>?_) λh=>?_|fail)
end
section
open Go.RowKit
theorem J4(xs:List aY)(hl:xs.length≤1000):az Tryz.prog 41 [.lst (xs.map aY.enc)] (.lst (xs.map aY.enc)):=by
 refine af.fz ((fL (λA n c xs w hf h1 hn hA=>cloneWc_any A n c xs w hf h1 hn hA) ⟨_,_,Tryz.func41,rfl⟩ (xs.map aY.enc) (by rw[VR];intro r hr;obtain⟨x,_,rfl⟩:=Wd.1 hr;rfl) (λr hr=>by obtain⟨x,_,rfl⟩:=Wd.1 hr;rfl) (by simp;omega)).mono ?_);rintro v L ⟨o,rfl,rfl,h⟩;refine⟨_,[],aJ.all ?_,rfl,rfl⟩;cases o with
 |none=>rw[h rfl];exact .refl _
 |some b=>exact Fz.sls (.head _) rfl Xl Xk
theorem J5(xs:List ca)(hl:xs.length≤1000):az Tryz.prog 42 [.lst (xs.map ca.enc)] (.lst (xs.map ca.enc)):=by
 refine af.fz ((fL (λA n c xs w hf h1 hn hA=>cloneWl_any A n c xs w hf h1 hn hA) ⟨_,_,Tryz.func42,rfl⟩ (xs.map ca.enc) (by rw[VR];intro r hr;obtain⟨x,_,rfl⟩:=Wd.1 hr;rfl) (λr hr=>by obtain⟨x,_,rfl⟩:=Wd.1 hr;rfl) (by simp;omega)).mono ?_);rintro v L ⟨o,rfl,rfl,h⟩;refine⟨_,[],aJ.all ?_,rfl,rfl⟩;cases o with
 |none=>rw[h rfl];exact .refl _
 |some b=>exact Fz.sls (.head _) rfl Xl Xk
theorem J6(xs:List cP)(hl:xs.length≤1000):az Tryz.prog 43 [.lst (xs.map cP.enc)] (.lst (xs.map cP.enc)):=by
 refine af.fz ((fL (λA n c xs w hf h1 hn hA=>cloneWd_any A n c xs w hf h1 hn hA) ⟨_,_,Tryz.func43,rfl⟩ (xs.map cP.enc) (by rw[VR];intro r hr;obtain⟨x,_,rfl⟩:=Wd.1 hr;rfl) (λr hr=>by obtain⟨x,_,rfl⟩:=Wd.1 hr;rfl) (by simp;omega)).mono ?_);rintro v L ⟨o,rfl,rfl,h⟩;refine⟨_,[],aJ.all ?_,rfl,rfl⟩;cases o with
 |none=>rw[h rfl];exact .refl _
 |some b=>exact Fz.sls (.head _) rfl Xl Xk
theorem J7(xs:List cM)(hl:xs.length≤1000):az Tryz.prog 45 [.lst (xs.map cM.enc)] (.lst (xs.map cM.enc)):=by
 refine af.fz ((fL (λA n c xs w hf h1 hn hA=>cloneWs_any A n c xs w hf h1 hn hA) ⟨_,_,Tryz.func45,rfl⟩ (xs.map cM.enc) (by rw[VR];intro r hr;obtain⟨x,_,rfl⟩:=Wd.1 hr;rfl) (λr hr=>by obtain⟨x,_,rfl⟩:=Wd.1 hr;rfl) (by simp;omega)).mono ?_);rintro v L ⟨o,rfl,rfl,h⟩;refine⟨_,[],aJ.all ?_,rfl,rfl⟩;cases o with
 |none=>rw[h rfl];exact .refl _
 |some b=>exact Fz.sls (.head _) rfl Xl Xk
theorem D9(xs:List aZ)(hl:xs.length≤1000):az Tryz.prog 44 [.lst (xs.map au)] (.lst (xs.map au)):=by
 refine af.fz ((fL (λA n c xs w hf h1 hn hA=>cloneWt_any A n c xs w hf h1 hn hA) ⟨_,_,Tryz.func44,rfl⟩ (xs.map au) (by rw[VR];intro r hr;obtain⟨x,_,rfl⟩:=Wd.1 hr;rfl) (λr hr=>by obtain⟨x,_,rfl⟩:=Wd.1 hr;rfl) (by simp;omega)).mono ?_);rintro v L ⟨o,rfl,rfl,h⟩;refine⟨_,[],aJ.all ?_,rfl,rfl⟩;cases o with
 |none=>rw[h rfl];exact .refl _
 |some b=>exact Fz.sls (.head _) rfl Xl Xk
end
section
set_option maxRecDepth 100000
set_option maxHeartbeats 4000000
set_option linter.unusedSimpArgs false
theorem Mg(w:aH)(h1:w.cells.length≤1000)(h2:w.locks.length≤1000)(h3:w.conds.length≤1000)(h4:w.futures.length≤1000)(h5:w.threads.length≤1000)(h6:w.sites.length≤1000):az Tryz.prog 23 [.agg w.enc] (.agg w.enc):=by
 have k1:=J4 w.cells h1;have k2:=J5 w.locks h2;have k3:=J6 w.conds h3;have k4:=D9 w.futures h4;have k5:=D9 w.threads h5;have k6:=J7 w.sites h6;refine af.fz (Ak _ _ _ ?_);unfold nO;generalize hQ:(λ(v:AV) (L:SH)=>∃v2 L2,aJ [v] L [v2] L2∧v2=AV.agg w.enc∧L2=[])=Q;have hq:∀L,Q (.agg w.enc) L:=λL=>by subst hQ;exact⟨_,[],aJ.all (.refl _),rfl,rfl⟩
 clear hQ;unfold aH.enc at *
 repeat' (first|refine st ?_|(refine pf 41 ?_;refine pm (k1) ?_)|(refine pf 42 ?_;refine pm (k2) ?_)|(refine pf 43 ?_;refine pm (k3) ?_)|(refine pf 44 ?_;refine pm (k4) ?_)|(refine pf 44 ?_;refine pm (k5) ?_)|(refine pf 45 ?_;refine pm (k6) ?_)|refine sb λnb_ hnb_=>?_|refine s2 (λh=>?_) λh=>?_|fail)
 exact hq _
theorem Mh(c:bM)(hc:F1 c)(l:List dF)(hl:l.length<2^62)(hst:az Tryz.prog 40 [.agg c.enc] (.agg (db c).enc))(h0:An c 0 (db c)):az Tryz.prog 22 [.agg c.enc,.lst (l.map dF.enc)] (Oo (iY c l)):=by
 refine af.fz (Fh _ _ _ _ ?_);unfold xO;generalize hQ:(λ(v:AV) (L:SH)=>∃v2 L2,aJ [v] L [v2] L2∧v2=Oo (iY c l)∧L2=[])=Q;have hq:∀v L,Fz L v (Oo (fH c l ([],db c)))→Q v L:=λv L h=>by subst hQ;exact⟨_,[],aJ.all h,rfl,rfl⟩
 clear hQ;have lp:=λb2 b9=>Oq c hc l hl (db c) h0 b2 b9 Q hq
 have hce:c.enc=[.lst (c.w.cells.map aY.enc),.lst (c.w.locks.map ca.enc),.lst (c.w.conds.map cP.enc),.lst (c.w.futures.map au),.lst (c.w.threads.map au),.lst (c.w.sites.map cM.enc),.lst (c.ts.map iH.enc)]:=rfl;generalize db c=s0 at *;have hse:s0.enc=[.lst (s0.sync.locks.map LockD.enc),.Xm s0.sync.tx,.lst (s0.sync.done.map aT),.lst (s0.sync.threads.map ThrD.enc),.lst (s0.cells.map aj),.lst (s0.futures.map aj),.lst (s0.threads.map aV.enc)]:=rfl;unfold bK at lp;rw[hce,hse]at *
 repeat' (first|exact lp _ _|refine st ?_|(refine pf 40 ?_;refine pm (hst) ?_)|refine sb λnb_ hnb_=>?_|refine s2 (λh=>?_) λh=>?_|fail)
theorem Ea{c:bM}(h:DR c)(hl:∀t∈c.ts,t.ins.length<2^40):F1 c where
 ins:=λx hx i hi=>by obtain⟨k,hk,rfl⟩:=List.mem_iff_getElem.1 hx;obtain⟨j,hj,rfl⟩:=List.mem_iff_getElem.1 hi;have:=(h.thr k hk).ins j hj;exact⟨this.lo,this.hi,this.regs⟩
 len:=hl
 con:=by have:=h.world.d2;omega
theorem IZ{c:bM}(h:DR c):∀t∈c.ts,0≤t.regs∧t.regs≤1000:=λt ht=>by obtain⟨k,hk,rfl⟩:=List.mem_iff_getElem.1 ht;have:=h.thr k hk;have h0:=this.r0;have h32:=this.r32;exact⟨h0,Xh⟩
theorem G6{c:bM}(h:DR c):An c 0 (db c):=by
 have hw:=h.world;refine⟨λx hx=>?_,?_,?_,λl hl=>?_,?_,?_,?_,?_⟩
 ·obtain⟨t,ht,rfl⟩:=Wd.1 hx;have:=IZ h t ht;exact⟨⟨Xk,by simp;omega,λl hl=>by rw[(List.mem_replicate.1 hl).2];simp,λl hl x hx=>by rw[(List.mem_replicate.1 hl).2]at hx;simp at hx⟩,Int.le_refl _,Int.le_refl _,by simp;omega⟩
 ·have:=h.len;have:=hw.t4;simp[db];omega
 ·have:=hw.l4;simp[db,cX];omega
 ·have:=(List.mem_replicate.1 hl).2;rw[this];simp
 ·have:=hw.f2;simp[db,cX];omega
 ·have:=hw.t4;simp[db,cX];omega
 ·have:=hw.c12;simp[db];omega
 ·have:=hw.f2;simp[db];omega
structure Eb where
 w:aH
 ev:List cC
def Eb.enc(t:Eb):List AV:=[.lst (t.w.cells.map aY.enc),.lst (t.w.locks.map ca.enc),.lst (t.w.conds.map cP.enc),.lst (t.w.futures.map au),.lst (t.w.threads.map au),.lst (t.w.sites.map cM.enc),.lst (t.ev.map cC.enc)]
noncomputable def q7 (c:bM) (l:List dF):Eb×el:=if mZ (DR c)then(⟨c.w,(iY c l).1⟩,(iY c l).2)else(⟨⟨[],[],[],[],[],[]⟩,[]⟩,el.zero)
theorem PX(c:bM)(hl:∀t∈c.ts,t.ins.length<2^40)(l:List dF)(hll:l.length<2^62):az Tryz.prog 8 [.agg c.enc,.lst (l.map dF.enc)] (.tup [.agg (q7 c l).1.enc,.agg (q7 c l).2.enc]):=by
 have hv:=Od c λt ht=>by have:=hl t ht;omega
 refine af.fz (J1 _ _ _ _ ?_);unfold FZ;generalize hQ:(λ(v:AV) (L:SH)=>∃v2 L2,aJ [v] L [v2] L2∧v2=AV.tup [.agg (q7 c l).1.enc,.agg (q7 c l).2.enc]∧L2=[])=Q;have hq:∀a b L,ji L a (q7 c l).1.enc→ji L b (q7 c l).2.enc→Q (.tup [.agg a,.agg b]) L:=λa b L h1 h2=>by subst hQ;exact⟨_,[],aJ.all (Fz.tups (.cons (Fz.aggs h1) (.cons (Fz.aggs h2) .nil))),rfl,rfl⟩
 clear hQ;have hce:c.enc=[.lst (c.w.cells.map aY.enc),.lst (c.w.locks.map ca.enc),.lst (c.w.conds.map cP.enc),.lst (c.w.futures.map au),.lst (c.w.threads.map au),.lst (c.w.sites.map cM.enc),.lst (c.ts.map iH.enc)]:=rfl;cases hd:mZ (DR c)with
 |false=>
  rw[hd]at hv;have hr:q7 c l=(⟨⟨[],[],[],[],[],[]⟩,[]⟩,el.zero):=by unfold q7;rw[hd];rfl
  rw[hr]at hq;have hz:∀L,Q (.tup [.agg [.nils,.nils,.nils,.nils,.nils,.nils,.nils],.agg [.nils,.Xm 0,.nils,.nils,.nils,.nils,.nils]]) L:=λL=>hq _ _ L (by unfold Eb.enc;exact fl) (by unfold el.zero el.enc K8;exact fl)
  rw[hce]at *
  repeat' (first|refine st ?_|(refine pf 21 ?_;refine pm (hv) ?_)|refine sb λnb_ hnb_=>?_|refine s2 (λh=>?_) λh=>?_|fail)
  exact hz _
 |true=>
  rw[hd]at hv;have hP:=ky.1 hd;have hw:=hP.world;have hr:q7 c l=(⟨c.w,(iY c l).1⟩,(iY c l).2):=by unfold q7;rw[hd];rfl
  rw[hr]at hq;have hst:=L9 c (by have:=hw.c12;omega) (by have:=hw.l4;omega) (by have:=hw.f2;omega) (by have:=hw.t4;omega) (by have:=hP.len;have:=hw.t4;omega) (IZ hP);have hf:=Mh c (Ea hP hl) l hll hst (G6 hP);have hcw:=Mg c.w (by have:=hw.c12;omega) (by have:=hw.l4;omega) (by have:=hw.d2;omega) (by have:=hw.f2;omega) (by have:=hw.t4;omega) (by have:=hw.s60;omega);generalize iY c l=p at *;obtain⟨ev,s⟩:=p;unfold Oo at hf;have hwe:c.w.enc=[.lst (c.w.cells.map aY.enc),.lst (c.w.locks.map ca.enc),.lst (c.w.conds.map cP.enc),.lst (c.w.futures.map au),.lst (c.w.threads.map au),.lst (c.w.sites.map cM.enc)]:=rfl;have hse:s.enc=[.lst (s.sync.locks.map LockD.enc),.Xm s.sync.tx,.lst (s.sync.done.map aT),.lst (s.sync.threads.map ThrD.enc),.lst (s.cells.map aj),.lst (s.futures.map aj),.lst (s.threads.map aV.enc)]:=rfl;dsimp only at *;rw[hce]at *;rw[hwe]at hcw;rw[hse]at *;have hz:∀L,Q (.tup [.agg [.lst (c.w.cells.map aY.enc),.lst (c.w.locks.map ca.enc),.lst (c.w.conds.map cP.enc),.lst (c.w.futures.map au),.lst (c.w.threads.map au),.lst (c.w.sites.map cM.enc),.lst (ev.map cC.enc)],.agg [.lst (s.sync.locks.map LockD.enc),.Xm s.sync.tx,.lst (s.sync.done.map aT),.lst (s.sync.threads.map ThrD.enc),.lst (s.cells.map aj),.lst (s.futures.map aj),.lst (s.threads.map aV.enc)]]) L:=λL=>hq _ _ L (ji.refl _ _) (ji.refl _ _)
  repeat' (first|refine st ?_|(refine pf 21 ?_;refine pm (hv) ?_)|(refine pf 22 ?_;refine pm (hf) ?_)|(refine pf 23 ?_;refine pm (hcw) ?_)|refine sb λnb_ hnb_=>?_|refine s2 (λh=>?_) λh=>?_|fail)
  exact hz _
end
section
set_option linter.unusedSimpArgs false
def PY(e:cC):Prop:=e.deps.length≤2^30∧e.frm.length≤2^30
theorem J8{i:bj}{s:aV}{t:Int}(h:∀r,(s.tnt r).length≤2^30):PY (kD i s t):=by
 unfold kD PY;dsimp only
 repeat' split
 all_goals first
  |exact⟨We _,We _⟩
  |exact⟨h _,We _⟩
  |exact⟨We _,h _⟩
  |exact⟨h _,h _⟩
theorem Mi{U:List Int}{s:aV}(h:jq U s)(r:Int):(s.tnt r).length≤2^30:=by
 unfold aV.tnt;rcases VG r.toNat s.taint.length with h1|h1
 ·simpa[h1]using h.short _ (VV h1)
 ·simp[List.getD,VH h1]
theorem J9{c:bM}{s:el}{t:Int}{e:cC}{n:Nat}(H:An c n s)(h:gh c s t=some e):PY e:=by
 unfold gh at h;split at h
 ·rename_i hr;have hm:bN s t∈s.threads:=i9 (d:=aV.zero) (kF hr).2.1;have ht:=λr=>Mi (H.thr _ hm).1 r
  dsimp only at h;split at h
  ·cases h;exact⟨We _,We _⟩
  ·split at h
   ·cases h;exact⟨We _,We _⟩
   ·split at h
    ·split at h
     ·cases h;exact J8 ht
     ·cases h
    ·cases h
 ·cases h
theorem Ot{c:bM}{p:List cC×el}{ch:dF}(H:An c p.1.length p.2)(h:∀e∈p.1,PY e):∀e∈(Jk c p ch).1,PY e:=by
 unfold Jk;split
 ·exact h
 ·split
  ·exact h
  ·rename_i n e hs;intro x hx;rcases VP.1 hx with hx|hx
   ·exact h x hx
   ·rw[VI.1 hx];obtain⟨e0,th',hp,_,_,_,_,_,rfl⟩:=tK hs;have hs:=J9 H hp;exact hs
theorem Mj{c:bM}(hc:F1 c)(l:List dF){p:List cC×el}(H:An c p.1.length p.2)(hn:p.1.length≤400)(h:∀e∈p.1,PY e):∀e∈(fH c l p).1,PY e:=by
 induction l generalizing p with
 |nil=>exact h
 |cons ch l ih=>obtain⟨a,b⟩:=On (ch:=ch) hc H hn;exact ih a b (Ot H h)
theorem G7{c:bM}(h:DR c)(hl:∀t∈c.ts,t.ins.length<2^40)(l:List dF):(∀e∈(iY c l).1,PY e)∧(iY c l).1.length≤400:=
 ⟨Mj (Ea h hl) l (G6 h) (We _) nofun,(Lk (Ea h hl) l (p:=([],db c)) (G6 h) (We _)).2⟩
theorem Mk(c:bM)(hl:∀t∈c.ts,t.ins.length<2^40)(l:List dF):(∀e∈(q7 c l).1.ev,PY e)∧(q7 c l).1.ev.length≤400:=by
 unfold q7;cases hd:mZ (DR c)with
 |true=>exact G7 (ky.1 hd) hl l
 |false=>exact⟨nofun,We _⟩
end
section
set_option linter.unusedSimpArgs false
def dK(w:aH)(l:Nat)(o:Int):Bool:=inB o w.conds.length&&decide (jo w o=l)
def dq(w:aH)(l:Nat)(k o:Int):Bool:=if l=w.locks.length then decide (k=12)else(decide (o=l)&&(decide (k=6)||decide (k=10)))||(dK w l o&&decide (k=17))
def dt(w:aH)(l:Nat)(k o:Int):Bool:=if l=w.locks.length then decide (k=13)else(decide (o=l)&&(decide (k=7)||decide (k=11)))||(dK w l o&&decide (k=16))
def eJ(w:aH)(l:Nat)(k o:Int):Bool:=if l=w.locks.length then false else decide (o=l)&&decide (k=8)
def kG(w:aH)(l:Nat)(a t k o:Int):Int:=if dt w l k o then -1 else if dq w l k o then t else a
def tL(w:aH)(l:Nat)(ev:List cC):Int:=ev.foldl (λa e=>kG w l a e.thread e.kind e.obj) (-1)
theorem F2(w:aH)(l:Nat)(ev:List cC)(e:cC):tL w l (ev++[e])=kG w l (tL w l ev) e.thread e.kind e.obj:=by simp[tL]
def I0(w:aH)(l:Nat)(s:SyncD):Int:=if l=w.locks.length then s.tx else(aD s l).owner
theorem P0{s:SyncD}{i:Int}{f:LockD→LockD}{l:Nat}(hi:inB i s.locks.length=true):(aD {s with locks:=aG s i f} l).owner=if i=l then(f (aD s i)).owner else(aD s l).owner:=by
 obtain⟨h0,h1⟩:=ax.1 hi;unfold aD aG;dsimp only;rw[Int.toNat_natCast];by_cases e:i=l
 ·subst e;have:l<s.locks.length:=by omega
  simp[this,aD]
 ·rw[if_neg e];have:i.toNat≠l:=by omega
  simp[List.getD,Wu,this]
structure P1(w:aH)(l:Nat)(a b t k o:Int):Prop where
 next:b=kG w l a t k o
 take:dq w l k o=true→a=-1
 give:dt w l k o=true→a=t
 read:eJ w l k o=true→a=-1
theorem Ou{w:aH}{s s2:SyncD}{l:Nat}{t k o:Int}(h:s2.locks=s.locks)(ht:dq w l k o=false)(hg:dt w l k o=false)(hr:eJ w l k o=false):P1 w l (aD s l).owner (aD s2 l).owner t k o:=
 ⟨by simp[kG,ht,hg,aD,h],by simp[ht],by simp[hg],by simp[hr]⟩
theorem im{w:aH}{s s2:SyncD}{l:Nat}{t k o i:Int}{f:LockD→LockD}(hi:inB i s.locks.length=true)(h:s2.locks=aG s i f)
  (hs:i=l→P1 w l (aD s i).owner (f (aD s i)).owner t k o) (hd:i≠l→dq w l k o=false∧dt w l k o=false∧eJ w l k o=false):P1 w l (aD s l).owner (aD s2 l).owner t k o:=by
 have h2:=P0 (f:=f) (l:=l) hi;have h3:(aD s2 l).owner=(aD {s with locks:=aG s i f} l).owner:=by unfold aD;rw[h]
 rw[h3,h2];by_cases e:i=l
 ·have:=hs e;rw[if_pos e];rw[e]at this ⊢;exact this
 ·rw[if_neg e];obtain⟨a,b,c⟩:=hd e;exact⟨by simp[kG,a,b],by simp[a],by simp[b],by simp[c]⟩
theorem Ov{w:aH}{s:SyncD}{t k o wake:Int}(he:bC w s t k o=true)(l:Nat)(hl:l≤w.locks.length):P1 w l (I0 w l s) (I0 w l (bG w s t k o wake).1) t k o:=by
 unfold bC at he;simp only[VW]at he;obtain⟨⟨⟨hf,ht⟩,ha⟩,hr⟩:=he;have hF:=qx.1 hf;by_cases e:l=w.locks.length
 ·subst e;rcases kinds k with h|h
  ·rw[pp h]at ha;cases ha
  rcases h with rfl|rfl|rfl|rfl|rfl|rfl|rfl|rfl|rfl|rfl|rfl|rfl|rfl|rfl|rfl|rfl|rfl|rfl|rfl|rfl|rfl|rfl|rfl
  all_goals
   simp[cy]at hr;refine⟨by simp[I0,kG,dt,dq,bG],λh=>?_,λh=>?_,λh=>?_⟩
   all_goals simp[dq,dt,eJ]at h
  ·simpa[I0]using hr.2
  ·simpa[I0]using hr.2
 ·have hne:∀s2:SyncD,I0 w l s2=(aD s2 l).owner:=λs2=>if_neg e
  rw[hne,hne];rcases kinds k with h|h
  ·rw[pp h]at ha;cases ha
  by_cases g:(6≤k∧k≤11)∨k=16∨k=17
  ·rcases g with g|rfl|rfl
   ·have hi:inB o s.locks.length=true:=by
     rw[hF.locks];unfold allowedS at ha;rw[if_neg Xh,if_neg Xh]at ha;by_cases g2:k=6∨k=7
     ·rw[if_pos g2]at ha;simp only[VW]at ha;exact ha.1
     ·rw[if_neg g2,if_pos Xh]at ha;simp only[VW]at ha;exact ha.1
    have g3:k=6∨k=7∨k=8∨k=9∨k=10∨k=11:=by omega
    clear h g ha hf ht;rcases g3 with rfl|rfl|rfl|rfl|rfl|rfl
    all_goals simp[cy]at hr
    ·refine im (f:=λx=>{x with owner:=t}) hi (by simp[bG]) (λh1=>?_) (λh1=>?_)
     ·refine⟨?_,λh=>?_,λh=>?_,λh=>?_⟩<;>simp_all[kG,dq,dt,eJ]
     ·refine⟨?_,?_,?_⟩<;>simp[dq,dt,eJ,e,h1,dK]
    ·refine im (f:=λx=>{x with owner:=-1}) hi (by simp[bG]) (λh1=>?_) (λh1=>?_)
     ·refine⟨?_,λh=>?_,λh=>?_,λh=>?_⟩<;>simp_all[kG,dq,dt,eJ]
     ·refine⟨?_,?_,?_⟩<;>simp[dq,dt,eJ,e,h1,dK]
    ·refine im (f:=λx=>{x with readers:=sB x.readers t}) hi (by simp[bG]) (λh1=>?_) (λh1=>?_)
     ·refine⟨?_,λh=>?_,λh=>?_,λh=>?_⟩<;>simp_all[kG,dq,dt,eJ]
     ·refine⟨?_,?_,?_⟩<;>simp[dq,dt,eJ,e,h1,dK]
    ·refine im (f:=λx=>{x with readers:=x.readers.filter λy=>!decide (y=t)}) hi (by simp[bG]) (λh1=>?_) (λh1=>?_)
     ·refine⟨?_,λh=>?_,λh=>?_,λh=>?_⟩<;>simp_all[kG,dq,dt,eJ]
     ·refine⟨?_,?_,?_⟩<;>simp[dq,dt,eJ,e,h1,dK]
    ·refine im (f:=λx=>{x with owner:=t}) hi (by simp[bG]) (λh1=>?_) (λh1=>?_)
     ·refine⟨?_,λh=>?_,λh=>?_,λh=>?_⟩<;>simp_all[kG,dq,dt,eJ]
     ·refine⟨?_,?_,?_⟩<;>simp[dq,dt,eJ,e,h1,dK]
    ·refine im (f:=λx=>{x with owner:=-1}) hi (by simp[bG]) (λh1=>?_) (λh1=>?_)
     ·refine⟨?_,λh=>?_,λh=>?_,λh=>?_⟩<;>simp_all[kG,dq,dt,eJ]
     ·refine⟨?_,?_,?_⟩<;>simp[dq,dt,eJ,e,h1,dK]
   ·have hi:=FM hF (o:=o) (by simpa[allowedS]using ha);have hc:inB o w.conds.length=true:=by simpa[allowedS]using ha
    simp[cy]at hr;refine im (f:=λx=>{x with owner:=-1}) hi (by simp[bG]) (λh1=>?_) (λh1=>?_)
    ·refine⟨?_,λh=>?_,λh=>?_,λh=>?_⟩<;>simp_all[kG,dq,dt,eJ,dK]
    ·refine⟨?_,?_,?_⟩<;>simp[dq,dt,eJ,dK,e,h1]
   ·have hi:=FM hF (o:=o) (by simpa[allowedS]using ha);have hc:inB o w.conds.length=true:=by simpa[allowedS]using ha
    simp[cy]at hr;refine im (f:=λx=>{x with owner:=t}) hi (by simp[bG]) (λh1=>?_) (λh1=>?_)
    ·refine⟨?_,λh=>?_,λh=>?_,λh=>?_⟩<;>simp_all[kG,dq,dt,eJ,dK]
    ·refine⟨?_,?_,?_⟩<;>simp[dq,dt,eJ,dK,e,h1]
  ·rcases h with rfl|rfl|rfl|rfl|rfl|rfl|rfl|rfl|rfl|rfl|rfl|rfl|rfl|rfl|rfl|rfl|rfl|rfl|rfl|rfl|rfl|rfl|rfl
   all_goals first
    |(exfalso;omega)
    |(refine Ou ?_ ?_ ?_ ?_<;>simp[bG,dq,dt,eJ,e];done)
theorem I1{c:bM}{s:el}{t:Int}{e:cC}(h:gh c s t=some e):e.thread=t:=by
 unfold gh at h;split at h
 ·dsimp only at h;split at h
  ·cases h;rfl
  ·split at h
   ·cases h;rfl
   ·split at h
    ·split at h
     ·cases h;unfold kD;dsimp only
      repeat' split
      all_goals rfl
     ·cases h
    ·cases h
 ·cases h
def UA(w:aH)(pre:List cC)(e:cC):Prop:=∀l:Nat,l≤w.locks.length→(dq w l e.kind e.obj=true→tL w l pre=-1)∧(dt w l e.kind e.obj=true→tL w l pre=e.thread)∧(eJ w l e.kind e.obj=true→tL w l pre=-1)
structure UB(w:aH)(p:List cC×el):Prop where
 own:∀l:Nat,l≤w.locks.length→tL w l p.1=I0 w l p.2.sync
 evs:∀(pre suf:List cC) (e:cC),p.1=pre++e::suf→UA w pre e
theorem Ka{α:Type}{l pre suf:List α}{x e:α}(h:l++[x]=pre++e::suf):(∃s2,l=pre++e::s2)∨(pre=l∧e=x):=by
 rcases List.eq_nil_or_concat suf with rfl|⟨ys,y,rfl⟩
 ·have:=List.append_inj' h rfl;right;exact⟨this.1.symm,by have:=this.2;simp at this;exact this.symm⟩
 ·left;have h2:l++[x]=(pre++e::ys)++[y]:=by simpa using h
  exact⟨ys,(List.append_inj' h2 rfl).1⟩
theorem UC{c:bM}{p:List cC×el}{ch:dF}(h:UB c.w p):UB c.w (Jk c p ch):=by
 unfold Jk;split
 ·exact h
 ·split
  ·exact h
  ·rename_i n e hs;obtain⟨e0,th',hp,hr,hl1,hl2,hth,rfl,rfl⟩:=tK hs;have hth2:=I1 hp;have hen:bC c.w p.2.sync ch.thread e0.kind e0.obj=true:=by
    unfold fZ at hr;split at hr
    ·assumption
    ·cases hr
   have hap:(fZ c.w p.2.sync ch.thread e0.kind e0.obj ch.wake).1=(bG c.w p.2.sync ch.thread e0.kind e0.obj ch.wake).1:=by unfold fZ;rw[if_pos hen]
   have hst:=λl hl=>Ov (wake:=ch.wake) hen l hl
   rw[←hth2]at hst hap;refine⟨λl hl=>?_,λpre suf e he=>?_⟩
   ·dsimp only;rw[F2,h.own l hl,←hth2,hap];exact(hst l hl).next.symm
   ·rcases Ka he with⟨s2,h2⟩|⟨rfl,rfl⟩
    ·exact h.evs pre s2 e h2
    ·intro l hl;rw[h.own l hl];exact⟨(hst l hl).take,(hst l hl).give,(hst l hl).read⟩
theorem Sw{c:bM}(l:List dF){p:List cC×el}(h:UB c.w p):UB c.w (fH c l p):=by
 induction l generalizing p with
 |nil=>exact h
 |cons ch l ih=>exact ih (UC h)
theorem Ow(c:bM):UB c.w ([],db c) where
 own:=λl hl=>by
  unfold I0 tL db cX;split
  ·rfl
  ·have:l<c.w.locks.length:=by omega
   simp[aD,this]
 evs:=λpre suf e he=>by simp at he
theorem Sx(c:bM)(l:List dF):∀(pre suf:List cC) (e:cC),(q7 c l).1.ev=pre++e::suf→UA c.w pre e:=by
 unfold q7;cases hd:mZ (DR c)with
 |true=>exact(Sw l (Ow c)).evs
 |false=>exact λpre suf e he=>by simp at he
end
section
set_option maxRecDepth 100000
def xU(b c:AV)(L:SH)(Q:R):Prop:=W.len b λd=>wb .gtr 3 d (.Xm 200) λa=>bB a false c L λe f=>wg a false (W.len e) f λg h=>wg a false (wb .gtr 3 g (.Xm 100)) h λi j=>W.pick a (.bool true) i λk=>Q k j
theorem Fk(t0 t1:AV)(L:SH)(Q:R)(h:xU t0 t1 L Q):af Tryz.prog 6 [t0,t1] L Q:=
 fs [] [] [] [] Tryz.func6 h
def p7(b:Kn)(a:SH)(g h c d e f:AV):Prop:=aA 0 g a λi=>wk h (wb .add 3 c (.Xm 1) λj=>b [d,e,f,(.Xm (-1)),j] a) (wb .add 3 c (.Xm 1) λk=>b [d,e,f,i,k] a)
def p8(a:Kn)(b:SH)(g c d e f h:AV):Prop:=wk g (wb .add 3 c (.Xm 1) λi=>a [d,e,f,(.Xm (-1)),i] b) (wb .add 3 c (.Xm 1) λj=>a [d,e,f,h,j] b)
def cJ(Q:R)(g:Kn)(n:Vs)(o:SH):Prop:=LL 4 5 6 8 9 10 11 12 13 n λF h i j d k l b e=>bB b true d o λp q=>wg b true (wb .geq 3 p (.Xm 0)) q λr s=>W.pick b r (.bool false) λc=>bB c false e s λt u=>bB c false t u λa v=>bB a true d v λw x=>wg a true (W.faddr 0 l) x λy m=>wg a true (wl y m) m λz A=>wg a true (wb .neq 3 w z) A λB C=>wg c false (W.pick a B (.bool false)) C λD f=>W.pick c (.bool true) D λE=>wk E (Q (.bool false) f) (wk b ((p7 g f l e k h i j)) ((p8 g f e k h i j d)))
def p9(c:Kn)(d:Vs)(a:SH)(b e f g h i:AV):Prop:=(true=true)∧(aM 1 b [] 1 a λj k=>wb .eql 3 j (.Xm 12) λl=>aM 1 b [rm 1 k] 4 a λm o=>wb .eql 3 m (.Xm 13) λn=>c [(av [5,6,8,9,10] d 4),e,f,g,h,i,b,l,n] a)
def qa(Q:R)(a:Vs)(b:SH):Prop:=LL 4 5 6 8 9 10 11 12 13 a λc d e f g h i j k=>Q c b
def qb(Q:R)(I:Kn)(J:Vs)(m:SH)(b e f n p q:AV):Prop:=aA 2 b m λM=>wb .eql 3 M e λa=>aA 2 b m λN=>wb .geq 3 N (.Xm 0) λd=>wg d true (W.faddr 2 b) m λO r=>wg d true (wl O r) r λP S=>wg d true (W.faddr 0 f) S λT U=>wg d true (W.faddr 2 T) U λV s=>wg d true (wl V s) s λX Y=>wg d true (W.len X) Y λZ a0=>wg d true (wb .lss 3 P Z) a0 λa1 a2=>W.pick d a1 (.bool false) λc=>wg c true (W.faddr 0 f) a2 λa3 a4=>wg c true (W.faddr 2 a3) a4 λa5 t=>wg c true (wl a5 t) t λa6 a7=>wg c true (W.faddr 2 b) a7 λa8 u=>wg c true (wl a8 u) u λa9 v=>wg c true (W.idx 2 a6 a9 v) v λb0 b1=>wg c true (W.faddr 1 b0) b1 λb2 w=>wg c true (wl b2 w) w λb3 b4=>bB c true e b4 λb5 b6=>wg c true (wb .eql 3 b3 b5) b6 λb7 b8=>W.pick c b7 (.bool false) λx=>wg a true (W.faddr 1 b) b8 λb9 y=>wg a true (wl b9 y) y λc0 c1=>wg a true (wb .eql 3 c0 (.Xm 6)) c1 λc2 c3=>bB a true c2 c3 λg c4=>wg g false (W.faddr 1 b) c4 λc5 z=>wg g false (wl c5 z) z λc6 c7=>wg g false (wb .eql 3 c6 (.Xm 10)) c7 λc8 c9=>wg a true (W.pick g (.bool true) c8) c9 λd0 d1=>W.pick a d0 (.bool false) λh=>bB h false x d1 λd2 d3=>bB h false d2 d3 λi d4=>wg i true (W.faddr 1 b) d4 λd5 A=>wg i true (wl d5 A) A λd6 d7=>wg i true (wb .eql 3 d6 (.Xm 17)) d7 λd8 d9=>wg h false (W.pick i d8 (.bool false)) d9 λe0 e1=>W.pick h (.bool true) e0 λB=>wg a true (W.faddr 1 b) e1 λe2 C=>wg a true (wl e2 C) C λe3 e4=>wg a true (wb .eql 3 e3 (.Xm 7)) e4 λe5 e6=>bB a true e5 e6 λj e7=>wg j false (W.faddr 1 b) e7 λe8 D=>wg j false (wl e8 D) D λe9 f0=>wg j false (wb .eql 3 e9 (.Xm 11)) f0 λf1 f2=>wg a true (W.pick j (.bool true) f1) f2 λf3 f4=>W.pick a f3 (.bool false) λk=>bB k false x f4 λf5 f6=>bB k false f5 f6 λl f7=>wg l true (W.faddr 1 b) f7 λf8 E=>wg l true (wl f8 E) E λf9 g0=>wg l true (wb .eql 3 f9 (.Xm 16)) g0 λg1 g2=>wg k false (W.pick l g1 (.bool false)) g2 λg3 g4=>W.pick k (.bool true) g3 λF=>wg a true (W.faddr 1 b) g4 λg5 G=>wg a true (wl g5 G) G λg6 g7=>wg a true (wb .eql 3 g6 (.Xm 8)) g7 λg8 g9=>W.pick a g8 (.bool false) λo=>bB o true n g9 λh0 h1=>wg o true (wb .geq 3 h0 (.Xm 0)) h1 λh2 H=>W.pick o h2 (.bool false) λh3=>wk h3 (W.join (qa Q) λh4=>h4 [(.bool false),f,p,e,n,q,b,B,F] H) (I [(av [5,6,8,9,10] J 4),f,p,e,n,q,b,B,F] H)
def eK(Q:R)(k:Kn)(g:Vs)(a:SH)(b c d e h:AV):Prop:=aA 6 b a λl=>lD 7 l c a λm=>qv [(.Xm 0),(.Xm 0),(.Xm 0),(.Xm 0),(.Xm 0),.nils,.nils] 7 m a λi f=>W.join (cJ Q k) λj=>W.faddr 0 d λn=>aA 1 n f λo=>W.len o λp=>wb .eql 3 e p λq=>wk q ((p9 j g f i d b e h c)) ((qb Q j g f i e d h b c))
def eM(Q:R)(g:Kn)(c:Vs)(a:SH)(h:Kn):Prop:=GC 5 6 8 9 10 c λd b e i f=>aA 6 b a λj=>W.len j λk=>wb .lss 3 f k λl=>wk l ((eK Q h c a b f d e i)) (wb .add 3 e (.Xm 1) λm=>g [d,b,m] a)
def eN(Q:R)(d:Vs)(a:SH)(e:Kn):Prop:=vY 5 6 8 d λb f c=>W.faddr 0 b λg=>aA 1 g a λh=>W.len h λi=>wb .leq 3 c i λj=>wk j (W.loop (eM Q e) [b,f,c,(.Xm (-1)),(.Xm 0)] a) (wc (.fn 10 []) [] a λk l=>Q k l)
def qc(Q:R)(g:SH)(h:AV)(c d:Fp)(e:AV)(i:SH)(j:Ns):Prop:=wn [] j [] g.names λf=>W.ext 0 e λk=>W.ext 1 e λl=>W.calm [rc 3 f,rc 2 c,rm 0 d] ⟨7,[],[],[],false,[]⟩ (W.alloc [.nils,.nils,.nils,.nils,.nils,.nils,.nils] i λa m=>wn [] [] (aa a) [] λn=>W.calm [rm 7 n,rc 3 f,rc 2 c,rm 0 d] ⟨8,[],[],[],false,[]⟩ (W.alloc [.nils,(.Xm 0),.nils,.nils,.nils,.nils,.nils] m λb o=>wn [] [] (aa b) [] λu=>ds [] 9 7 a k o λp v=>ds [] 10 7 b l p λq w=>W.frz1 a q λr s=>W.frz1 b s λx t=>W.loop (eN Q) [h,r,(.Xm 0)] t))
def qd(Q:R)(b:SH)(c d:AV)(e:Fp)(f:AV)(a:SH)(g:Ns):Prop:=wn [] g [] b.names λh=>wd [] 3 (.fn 8 []) [c,f] a (qc Q a d h e)
def qe(Q:R)(d e:AV)(f:SH):Prop:=qv [.nils,.nils,.nils,.nils,.nils,.nils,.nils] 7 e f λb a=>(true=true)∧(dr [] 0 7 b a λg c=>wd [rm 0 c] 2 (.fn 9 []) [d] a (qd Q a g b c))
def qf(Q:R)(b c d:AV)(a:SH):Prop:=wk d (Q (.bool true) a) (wc (.fn 7 []) [b] a (qe Q c))
def iO(a b:AV)(L:SH)(Q:R):Prop:=wc (.fn 6 []) [a,b] L (qf Q a b)
theorem qg(t0 t1:AV)(L:SH)(Q:R)(h:iO t0 t1 L Q):af Tryz.prog 3 [t0,t1] L Q:=
 fs [(21,[4,5,6,8,9,10,11,12,13])] [(10,[5,6,8,9,10]),(6,[5,6,8])] [(3,[5]),(4,[6,7]),(12,[11])] [(4,[0,0,2,7,15,31,31,0,0,447,1023]),(15,[0,1,3,0,8,24,7,127])] Tryz.func3 h
def Cg(i:Kn)(a:SH)(d e b:AV):Prop:=(true=true)∧(di [] 3 1 d e a λj f=>dl [] 4 j a λk g=>W.conv .i64 k λl=>wb .rem 3 l (.Xm 4) λm=>di [rm 4 g,rm 3 f] 9 1 d e a λn x=>dl [rm 4 g,rm 3 f] 10 n a λo y=>W.conv .i64 o λp=>wb .quo 3 p (.Xm 4) λq=>wb .rem 3 q (.Xm 5) λr=>wb .sub 3 r (.Xm 1) λs=>W.build [(.Xm 0),(.Xm 0)] [(0,1,m),(1,1,s)] λt=>W.calm [] ⟨16,[],[],[],false,[]⟩ (W.bslice 2 [(.Xm 0),(.Xm 0)] 1 [(0,t)] a λc u=>wn [] [] (aa c) [] λz=>W.calm [] ⟨17,(aa b++aa c),(aa b),[],false,[]⟩ (W.append 2 16 b c u λh v=>wn (aa b++aa c) (aa b) (aa h) [] λA=>wb .add 3 e (.Xm 1) λw=>i [d,h,w] v)))
def nP(Q:R)(e:Vs)(a:SH)(f:Kn):Prop:=vY 0 3 4 e λb c d=>W.len b λg=>wb .lss 3 d g λh=>wk h ((Cg f a b d c)) (Q c a)
def qh(a:AV)(L:SH)(Q:R):Prop:=W.loop (nP Q) [a,.nils,(.Xm 0)] L
theorem Ch(t0:AV)(L:SH)(Q:R)(h:qh t0 L Q):af Tryz.prog 9 [t0] L Q:=
 fs [] [(3,[0,3,4])] [] [(5,[0,0,0,6,14,30,62,0,0,384,896,1920,3968,8064,16256,32766,65534,131071,262143])] Tryz.func9 h
end
section
set_option maxRecDepth 100000
theorem af.pure{P:Program}{f:FuncId}{args:List AV}{Q:AV→SH→Prop}(h:af P f args [] Q)(ha:∀a∈args,aW a)(hv:∀u K,Q u K→aW u):∃v K,Q v K∧az P f args v:=by
 obtain⟨v,H',L',h1,h2,h3⟩:=h.2 ac.empty (λb _=>cS b) ⟨WG,nofun⟩;have hV:KD P f args v:=λw σ vs hW hvs=>(h1 w σ vs hW hvs).mono λe w' ⟨v',σ',he,k1,k2,k3,k4⟩=>⟨v',σ',H',he,k1,k3⟩
 exact⟨v,L',h3,h.1,λH hb hs=>⟨v,H,[],Tg (hv _ _ h3) (λi a hi=>ha a (Wf hi)) hV H,.refl hb hs,rfl,rfl⟩⟩
theorem aW.lsts{rows:List (List AV)}(h:∀r∈rows,∀a∈r,aW a):aW (.lst rows):=.lst rows λi r j a h1 h2=>h r (Wf h1) a (Wf h2)
theorem aW.lmap{α:Type}{f:α→List AV}{l:List α}(h:∀x∈l,∀a∈f x,aW a):aW (.lst (l.map f)):=.lsts λr hr=>by obtain⟨x,hx,rfl⟩:=Wd.1 hr;exact h x hx
theorem aW.aggs{cs:List AV}(h:∀a∈cs,aW a):aW (.agg cs):=.agg cs λi a hi=>h a (Wf hi)
theorem aW.tups{cs:List AV}(h:∀a∈cs,aW a):aW (.tup cs):=.tup cs λi a hi=>h a (Wf hi)
theorem ma(s:aZ):∀a∈au s,aW a:=λa h=>by rw[VI.1 h];exact .str _
mutual
theorem ao.pure:∀x:ao,∀a∈x.enc,aW a
 | .mk op n name l=>by have:=ao.pures l;simp only[ao.enc,Wg,V9,false_implies,implies_true,and_true];exact⟨.int _ _,.int _ _,.str _,.lsts this⟩
theorem ao.pures:∀l:List ao,∀r∈ao.encs l,∀a∈r,aW a
 |[]=>nofun
 | x::l=>by simp only[ao.encs,Wg];exact⟨ao.pure x,ao.pures l⟩
end
mutual
theorem ab.pure:∀x:ab,∀a∈x.enc,aW a
 | .mk op line name arg index e body els=>by
  have h1:=ab.pures body;have h2:=ab.pures els
  simp only[ab.enc,Wg,V9,false_implies,implies_true,and_true];exact⟨.int _ _,.int _ _,.str _,.str _,.lmap λx _=>x.pure,.int _ _,.int _ _,.str _,.lmap λx _=>x.pure,.lsts h1,.lsts h2⟩
theorem ab.pures:∀l:List ab,∀r∈ab.encs l,∀a∈r,aW a
 |[]=>nofun
 | x::l=>by simp only[ab.encs,Wg];exact⟨ab.pure x,ab.pures l⟩
end
theorem aI.pure(d:aI):∀a∈d.enc,aW a:=by simp only[aI.enc,Wg,V9,false_implies,implies_true,and_true];exact⟨.int _ _,.int _ _,.str _,.int _ _,.int _ _,.str _⟩
theorem ah.pure(d:ah):∀a∈d.enc,aW a:=by simp only[ah.enc,Wg,V9,false_implies,implies_true,and_true];exact⟨.str _,.int _ _,.lmap λx _=>ma x,.lmap λx _=>x.pure⟩
theorem bP.pure(p:bP):aW (.agg p.enc):=.aggs (by
 simp only[bP.enc,Wg,V9,false_implies,implies_true,and_true];exact⟨.lmap λx _=>x.pure,.lmap λx _=>x.pure⟩)
theorem Ox(e ln:Int):aW (.tup [.Xm e,.Xm ln]):=.tups (by
 simp only[Wg,V9,false_implies,implies_true,and_true];exact⟨.int _ _,.int _ _⟩)
theorem aI.wt_pos(d:aI):1≤d.wt:=by unfold aI.wt;omega
theorem ah.wt_pos(d:ah):1≤d.wt:=by unfold ah.wt;omega
theorem ah.local_len(t:ah){i:Nat}(h:i<t.locals.length):t.locals[i].length<t.wt:=by have:=Cx (f:=List.length) t.locals i h;unfold ah.wt;omega
theorem bP.decl_wt(p:bP){i:Nat}(h:i<p.decls.length):p.decls[i].wt≤p.wt:=by have:=Cx (f:=aI.wt) p.decls i h;unfold bP.wt;omega
theorem bP.thread_wt(p:bP){i:Nat}(h:i<p.threads.length):p.threads[i].wt≤p.wt:=by have:=Cx (f:=ah.wt) p.threads i h;unfold bP.wt;omega
theorem bP.decls_len(p:bP):p.decls.length≤p.wt:=by have:=GD aI.wt_pos p.decls;unfold bP.wt;omega
theorem bP.threads_len(p:bP):p.threads.length≤p.wt:=by have:=GD ah.wt_pos p.threads;unfold bP.wt;omega
theorem tM{α:Type}{p:α→Bool}:∀(l:List α) (j:Nat),(mL p l j=-1∧l.find? p=none)∨∃(k:Nat) (h:k<l.length),mL p l j=(j+k:Nat)∧l.find? p=some l[k]
 |[],_=>.inl ⟨rfl,rfl⟩
 | x::l,j=>by
  by_cases h:p x=true
  ·exact .inr ⟨0,Xk,by simp[mL,h],by simp[h]⟩
  ·rcases tM (p:=p) l (j+1)with⟨h1,h2⟩|⟨k,h1,h2,h3⟩
   ·exact .inl ⟨by simp[mL,h,h1],by simp[h,h2]⟩
   ·refine .inr ⟨k+1,by simpa using h1,?_,by simpa[h]using h3⟩;simp only[mL,h,V4,if_false,h2];congr 1;omega
theorem gj{α:Type}{f:α→List AV}{l:List α}{n i:Nat}{k:IntKind}{L:SH}{K:AV→Prop}(h:K (.lst ((l.take i).map f)))(hi:i≤l.length:=by omega)(hn:∀x,(f x).length=n:=by intro x;rfl):W.slice n (.lst (l.map f)) none (some (.int k (i:Int))) none L K:=by
 refine LI (l:=0) (h:=i) rfl ?_ (We _) (by simpa using hi) (λr hr=>?_) ?_
 ·simp[cF,np]
 ·cases l with
  |nil=>cases hr
  |cons x l=>simp at hr;rw[←hr];exact hn x
 ·simpa[List.map_take]using h
theorem Kb{k:IntKind}{a b:Int}{K:AV→Prop}(h:K (.int k (if b > a then b else a))):W.mnx true (.int k a) (.int k b) K:=by rw[Qz];exact h
theorem Oy{k:IntKind}{s:Int}{K:AV→Prop}(h:K (.int k (((max s 1).toNat:Nat):Int))):W.mnx true (.int k s) (.int k 1) K:=by
 rw[Qz];have:(if(1:Int) > s then(1:Int)else s)=(((max s 1).toNat:Nat):Int):=by split<;>omega
 rw[this];exact h
structure m7 where
 t:Nat
 o1:Option Nat
 ar:List ab
 k:Nat
 o2:Option Nat
 sp:List aZ
 o3:Option Nat
 se:List aZ
def m7.row(p:bP)(s:m7):List AV:=[.lst (p.decls.map aI.enc),.lst (p.threads.map ah.enc),.Xm s.t,am s.o1 s.k,am s.o2 s.sp.length,am s.o3 s.se.length]
def m7.L(p:bP)(bw:Nat)(s:m7):SH:=(bw,⟨6,[s.row p]⟩)::(ae s.o1 11 (s.ar.map ab.enc)++(ae s.o2 1 (s.sp.map au)++ae s.o3 1 (s.se.map au)))
structure m7.Ok(s:m7)(m:Nat):Prop where
 a0:s.o1=none→s.ar=[]
 ak:s.k≤s.ar.length
 k6:s.k≤6
 p0:s.o2=none→s.sp=[]
 e0:s.o3=none→s.se=[]
 pm:s.sp.length≤m
 em:s.se.length≤m
theorem af.permR{P:Program}{f:FuncId}{args:List AV}{L:SH}{Q:AV→SH→Prop}(h:af P f args L λv L'=>∃L'',L'.Perm L''∧Q v L''):af P f args L Q:=⟨h.1,λH hb hs=>by
 obtain⟨v,H',L',h1,h2,L'',hp,h3⟩:=h.2 H hb hs;exact⟨v,H',L'',h1,h2.permS hp,h3⟩⟩
theorem af.within{P:Program}{f:FuncId}{args:List AV}{K L R:SH}{α:Type}{F:α→AV}(h:af P f args K λu K'=>∃r,u=F r∧K'=K)(hp:L.Perm (K++R)):af P f args L λu K'=>∃r,u=F r∧K'=L:=
 af.permR (h.frame hp λv K' ⟨r,h1,h2⟩=>⟨L,by rw[h2];exact hp.symm,r,h1,rfl⟩)
theorem ab.wts_succ{l:List ab}{i:Nat}(h:i<l.length):ab.wts (l.take (i+1))=ab.wts (l.take i)+l[i].wt:=by
 rw[VJ h];generalize l.take i=m
 induction m with
 |nil=>simp[ab.wts]
 |cons y m ih=>simp only[WO,ab.wts,ih];omega
theorem ab.wts_take(l:List ab)(i:Nat):ab.wts (l.take i)≤ab.wts l:=by
 induction l generalizing i with
 |nil=>simp
 | cons x l ih=>cases i with
  |zero=>simp[ab.wts]
  |succ i=>have:=ih i;simp only[List.take_succ_cons,ab.wts];omega
theorem Cy{o:Option Nat}{k:Nat}{K:AV→Prop}(h:K (.Xm (k:Int)))(h0:o=none→k=0):W.len (am o k) K:=by
 cases o with
 |none=>rw[h0 rfl]at h;exact Gv h
 |some b=>exact Gs h
theorem I2{KL:R}{L L':SH}{o:Option Nat}{i n by_ bX:Nat}{rows m:List (List AV)}{r:List AV}(hX:(bX,(⟨n,m⟩:Blk))∈L)(hm:m=[r])(hd:dP o n rows L L')(hr:i≤rows.length)(h0:o=none→rows=[])(hb:i≤1000)(hby:by_≤1000)(h4:r.all AV.one=true)
  (h:∀b,b∉L.names→KL (.sl b 0 (i+1)) ((b,⟨n,rows.take i++[r]⟩)::L')):W.append n by_ (am o i) (.sl bX 0 1) L KL:=by
 subst hm;have e1:2*(i+(0+1))*by_≤2*(1000+1)*1000:=Nat.mul_le_mul Xh hby
 have e2:2*(0+1)*by_≤2*(0+1)*1000:=Nat.mul_le_mul Xh hby
 cases o with
 |none=>
  have hr0:=h0 rfl;subst hr0;obtain rfl:i=0:=by simpa using hr
  have hl:=hd.none';subst hl;exact Gu (KL:=KL) (by_:=by_) (mJ hX rfl rfl) (by show 2*(0+1)*by_≤2^48;omega) Xk (by simpa using h4) Xk (λb hb=>by simpa using h b hb)
 |some b=>
  refine qu (y:=⟨n,rows⟩) (l:=rows.take i) hd.some'.mem' rfl (by simpa using hr) Xk (mJ hX rfl rfl) ?_ ?_ (by simpa using h4) hd.some' (λb' hb=>?_)
  ·rw[V5,Wq hr];simp only[VZ,V7];omega
  ·rw[V5,Wq hr];simp only[VZ,V7];omega
  ·rw[V5,Wq hr];exact h b' hb
theorem Sy{α:Type}(a t b:α)(R:List α):(a::t::b::R).Perm ((b::([a]++R))++[t]):=by have h:(a::t::b::R).Perm ([t]++(b::([a]++R))):=(List.Perm.swap t a _).trans ((List.Perm.swap b a R).cons t);exact h.trans V6
theorem Ao{n b k m:Nat}{kd:IntKind}{y:Blk}{L:SH}{K:AV→Prop}(h:K (.sl b 0 k))(hh:k≤m)(hm:(b,y)∈L)(hs:y.size=n):W.slice n (.sl b 0 m) none (some (.int kd (k:Int))) none L K:=by refine zm (l:=0) (h:=k) rfl (by simp[cF,np]) (We _) hh hm hs ?_;simpa using h
def G8:List AV:=[.Xm 0,.Xm 0,.str [],.str [],.nils,.Xm 0,.Xm 0,.str [],.nils,.nils,.nils]
theorem Fm{α:Type}{f:α→Nat}{l:List α}{i:Nat}(h:i<l.length):((l.take (i+1)).map f).sum=((l.take i).map f).sum+f l[i]:=by rw[VJ h,VF,List.sum_append];simp
def gG{α:Type}(f:α→Nat)(l:List α):Nat:=(l.map f).sum
theorem Kd{α:Type}{f:α→Nat}{l:List α}{i:Nat}(h:i<l.length):gG f (l.take (i+1))=gG f (l.take i)+f l[i]:=Fm h
theorem Ec{α:Type}(f:α→Nat)(l:List α)(i:Nat):gG f (l.take i)≤gG f l:=by
 unfold gG
 induction l generalizing i with
 |nil=>simp
 | cons x l ih=>cases i with
  |zero=>simp
  |succ i=>have:=ih i;simp only[List.take_succ_cons,VD,Wz];omega
theorem I3{α:Type}{f g:α→Nat}(h:∀x,f x≤g x)(l:List α):gG f l≤gG g l:=by
 unfold gG
 induction l with
 |nil=>simp
 |cons x l ih=>have:=h x;simp only[VD,Wz];omega
theorem xV{P:Program}{g:FuncId}{args:List AV}{K M L:SH}{R1:AV→SH→Prop}{KL:R}(h:af P g args K R1)(hL:L.Perm (K++M))(hq:∀v K',R1 v K'→∃L'',(K'++M).Perm L''∧KL v L''):W.callM P g args L KL:=⟨af.permR (h.frame hL hq)⟩
theorem Cz{n:Nat}{rows:List (List AV)}:ae none n rows=[]:=rfl
theorem CA{b n:Nat}{rows:List (List AV)}:ae (some b) n rows=[(b,⟨n,rows⟩)]:=rfl
theorem m8{P:Program}{g:FuncId}{args:List AV}{i:Nat}{L:SH}{KN:AV→SH→List Nat→Prop}(h:W.callM P g args L (λv K=>∀ks,KN v K ks)):W.dcallM P [] i g args L KN:=
 ⟨L,[],Xk,nofun,h.1.mono λv K' hr=>by simpa using hr _⟩
mutual
def ab.cnt:ab→Nat
 |.mk _ _ _ _ _ _ body els=>ab.cnts body+ab.cnts els
def ab.cnts:List ab→Nat
 |[]=>0
 |x::l=>1+x.cnt+ab.cnts l
end
theorem ab.cnt_eq(x:ab):x.cnt=ab.cnts x.body+ab.cnts x.els:=by cases x;rfl
mutual
theorem ab.cnt_wt:∀x:ab,x.cnt<x.wt
 |.mk a b c d e f body els=>by have:=ab.cnts_wt body;have:=ab.cnts_wt els;simp only[ab.cnt,ab.wt];omega
theorem ab.cnts_wt:∀l:List ab,ab.cnts l≤ab.wts l
 |[]=>VC _
 |x::l=>by have:=ab.cnt_wt x;have:=ab.cnts_wt l;simp only[ab.cnts,ab.wts];omega
end
def fx(b:UInt8):List AV:=[.int .u8 (b.toNat:Int)]
end
end Go.Proofs.YtdnpdghlggbklaaGreatDoor.Am
