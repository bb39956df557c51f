/- A part of the proof; the statement is proved in the last part. -/
import Derived.Test.YtenbpcngcicamaaGreatDoorQco
set_option linter.unusedSimpArgs false
set_option linter.unusedVariables false
namespace Go.Proofs.YtenbpcngcicamaaGreatDoor.Am
section
set_option maxRecDepth 100000
set_option maxHeartbeats 4000000
set_option linter.unusedSimpArgs false
set_option linter.unusedSectionVars false
section
variable (c:bP) (s:el) (t wake:Int) (h1:inB t s.threads.length=true) (hc:inB t c.ts.length=true) (th:aW) (i:bn) (sy:SyncD) (sv:Int) (e:cI) (b132 b24 b8 b6 bt tb:Nat) (o oc of:Option Nat) (hn1:b24≠b6) (ho:o=none→th.regs=[]) (hoc:oc=none→s.cells=[]) (hof:of=none→s.futures=[])
 (htn:th.taint.length=th.regs.length) (hse:aB Tryz.prog 58 [.agg (aD c t).enc,.agg (cL i e s th sv).thread.enc] (Di (bY (aD c t) (cL i e s th sv).thread))) (Q:R) (hq:∀v L,Fz L v (GV (Ad c s t sy e (cL i e s th sv)))→Q v L)
def jB(c:bP)(s:el)(t wake:Int)(th:aW)(i:bn)(sy:SyncD)(sv:Int)(e:cI)(b132 b24 b8 b6 bt tb:Nat)(o oc of:Option Nat)(Q:R):Prop:=
 iy Q ((b132,⟨7,[gB s sy bt oc of]⟩)::jA s t th e b24 b8 b6 bt tb o (ig s th tb o oc of)) (.ptr b132 0 0) (.ptr b24 0 0) (.ptr bt t.toNat 0) (.pptr [i.enc] 0 0) (.W9 th.ev) (.pptr [c.enc] 0 0) (.pptr [[.W9 t,.W9 wake]] 0 0) (.ptr b6 0 0) (.ptr b8 0 0) (.W9 (IntKind.i64.wrap (th.pc+1))) (.W9 sv)
include h1 hc hn1 ho hoc hof htn hse hq
theorem Vc(hk:e.kind=3)(ra:0≤i.a∧i.a<th.regs.length)(hob:inB e.obj s.cells.length=true):jB c s t wake th i sy sv e b132 b24 b8 b6 bt tb o oc of Q:=by
 have hact:cL i e s th sv=⟨iw s.cells e.obj,s.cells,s.futures,⟨IntKind.i64.wrap (th.pc+1),th.regs.set i.a.toNat (iw s.cells e.obj),th.taint.set i.a.toNat [th.ev],IntKind.i64.wrap (th.ev+1)⟩⟩:=by simp[cL,hk]
 rw[hact]at hse hq;obtain⟨e1,ek,eo,v0,es,d,f⟩:=e;obtain⟨op,ia,ib,ic,m,site⟩:=i;dsimp only at *;subst hk;have hob1:=ay.1 hob;have hi1:=ay.1 h1;cases o with
 |none=>rw[ho rfl]at ra;simp at ra;omega
 |some bo=>
  cases oc with
  |none=>rw[hoc rfl]at hob1;simp at hob1;omega
  |some boc=>
   unfold jB iy jA ig gB cJ;obtain⟨J,hJ⟩:∃J,J=bI Q:=⟨_,rfl⟩;rw[←hJ];have s0:=dV (cJ th tb (some bo)) (l:=s.threads.map aW.enc) (n:=t.toNat) (by simp;omega);unfold cJ at s0;dsimp only[aQ,ah,List.cons_append,List.nil_append]at *;have y1:=pZ (s:=th) ra.1 ra.2;have y2:=tz (s:=th) ra.1 W4;have y3:(s.cells.map ao)[eo.toNat]? =some [.W9 (iw s.cells eo)]:=m9 hob;have z1:ia.toNat<th.regs.length:=by omega
   have z2:ia.toNat<th.taint.length:=by omega
   have z3:eo.toNat<s.cells.length:=by omega
   repeat' (first|refine cH ra.1 z1 rp rfl ?_|refine cH ra.1 z2 rp rfl ?_|refine cH hob1.1 z3 rp rfl ?_|refine FB (cH hob1.1 z3 rp rfl ?_)|refine st ?_|refine sb λnb_ hnb_=>?_|refine s2 (λh=>?_) λh=>?_|fail)
   rw[hJ];refine D1 c s t wake h1 hc sy ⟨e1,3,eo,v0,es,d,f⟩ ⟨iw s.cells eo,s.cells,s.futures,⟨IntKind.i64.wrap (th.pc+1),th.regs.set ia.toNat (iw s.cells eo),th.taint.set ia.toNat [th.ev],IntKind.i64.wrap (th.ev+1)⟩⟩ b132 b24 b8 b6 bt (some boc) of [(nb_,⟨1,[[.W9 th.ev]]⟩),(bo,⟨1,(th.regs.map ao).set ia.toNat [.W9 (iw s.cells eo)]⟩),(tb,⟨1,(th.taint.map cp).set ia.toNat [.sl nb_ 0 1]⟩)]
    ((boc,⟨1,s.cells.map ao⟩)::ah of 1 (s.futures.map ao)) ((bo,⟨1,(th.regs.map ao).set ia.toNat [.W9 (iw s.cells eo)]⟩)::(tb,⟨1,(th.taint.map cp).set ia.toNat [.sl nb_ 0 1]⟩)::(boc,⟨1,s.cells.map ao⟩)::ah of 1 (s.futures.map ao)) [(nb_,⟨1,[[.W9 th.ev]]⟩)] (.inr ⟨_,rfl⟩) (by dsimp only;omega) (.refl _) (.sl bo 0 th.regs.length) (.sl tb 0 th.taint.length) ?_ ?_ hn1 nofun hof ?_ ?_ hse th.pc th.ev rfl Q hq
   ·exact λL hL=>Fz.sls (hL _ (.tail _ (.head _))) (by simp[Wk,ao]) W8 W7
   ·exact λL hL=>JV W8 rfl z2 (hL _ (.tail _ (.tail _ (.head _)))) (.cons (Fz.sls (l:=[th.ev]) (f:=ao) (hL _ (.head _)) rfl W8 rfl) .nil)
   ·exact λb hb=>by cases hb;exact⟨_,rfl,.head _⟩
   ·exact λb hb=>by subst hb;exact⟨_,rfl,.tail _ (.head _)⟩
theorem Ul(hk:e.kind=23)(ra:0≤i.a∧i.a<th.regs.length)(hob:inB e.obj s.futures.length=true):jB c s t wake th i sy sv e b132 b24 b8 b6 bt tb o oc of Q:=by
 have hact:cL i e s th sv=⟨iw s.futures e.obj,s.cells,s.futures,⟨IntKind.i64.wrap (th.pc+1),th.regs.set i.a.toNat (iw s.futures e.obj),th.taint.set i.a.toNat [th.ev],IntKind.i64.wrap (th.ev+1)⟩⟩:=by simp[cL,hk]
 rw[hact]at hse hq;obtain⟨e1,ek,eo,v0,es,d,f⟩:=e;obtain⟨op,ia,ib,ic,m,site⟩:=i;dsimp only at *;subst hk;have hob1:=ay.1 hob;have hi1:=ay.1 h1;cases o with
 |none=>rw[ho rfl]at ra;simp at ra;omega
 |some bo=>
  cases of with
  |none=>rw[hof rfl]at hob1;simp at hob1;omega
  |some bof=>
   unfold jB iy jA ig gB cJ;obtain⟨J,hJ⟩:∃J,J=bI Q:=⟨_,rfl⟩;rw[←hJ];have s0:=dV (cJ th tb (some bo)) (l:=s.threads.map aW.enc) (n:=t.toNat) (by simp;omega);unfold cJ at s0;have y1:=pZ (s:=th) ra.1 ra.2;have y2:=tz (s:=th) ra.1 W4;have y3:(s.futures.map ao)[eo.toNat]? =some [.W9 (iw s.futures eo)]:=m9 hob;have z1:ia.toNat<th.regs.length:=by omega
   have z2:ia.toNat<th.taint.length:=by omega
   have z3:eo.toNat<s.futures.length:=by omega
   have goal:∀(nb_:Nat) (A:SH),A=[(bof,⟨1,s.futures.map ao⟩)]→J [.pptr [c.enc] 0 0,.pptr [[.W9 t,.W9 wake]] 0 0,.ptr b6 0 0,.ptr b8 0 0,.ptr b24 0 0,.ptr b132 0 0,.ptr bt t.toNat 0,.W9 (IntKind.i64.wrap (th.pc+1))]
     ((nb_,⟨1,[[.W9 th.ev]]⟩)::(b132,⟨7,[gB s sy bt oc (some bof)]⟩)::(b24,⟨7,[(cI.mk e1 23 eo (iw s.futures eo) es d f).enc]⟩)::(b8,⟨7,[ea]⟩)::(b6,⟨7,[bK]⟩)::(bt,⟨4,(s.threads.map aW.enc).set t.toNat (cJ th tb (some bo))⟩)::(bo,⟨1,(th.regs.map ao).set ia.toNat [.W9 (iw s.futures eo)]⟩)::(tb,⟨1,(th.taint.map cp).set ia.toNat [.sl nb_ 0 1]⟩)::(ah oc 1 (s.cells.map ao)++A)):=by
    rintro nb_ A rfl;rw[hJ];refine D1 c s t wake h1 hc sy ⟨e1,23,eo,v0,es,d,f⟩ ⟨iw s.futures eo,s.cells,s.futures,⟨IntKind.i64.wrap (th.pc+1),th.regs.set ia.toNat (iw s.futures eo),th.taint.set ia.toNat [th.ev],IntKind.i64.wrap (th.ev+1)⟩⟩ b132 b24 b8 b6 bt oc (some bof) [(nb_,⟨1,[[.W9 th.ev]]⟩),(bo,⟨1,(th.regs.map ao).set ia.toNat [.W9 (iw s.futures eo)]⟩),(tb,⟨1,(th.taint.map cp).set ia.toNat [.sl nb_ 0 1]⟩)]
     (ah oc 1 (s.cells.map ao)++[(bof,⟨1,s.futures.map ao⟩)]) ((bo,⟨1,(th.regs.map ao).set ia.toNat [.W9 (iw s.futures eo)]⟩)::(tb,⟨1,(th.taint.map cp).set ia.toNat [.sl nb_ 0 1]⟩)::(ah oc 1 (s.cells.map ao)++[(bof,⟨1,s.futures.map ao⟩)])) [(nb_,⟨1,[[.W9 th.ev]]⟩)] (.inr ⟨_,rfl⟩) (by dsimp only;omega) (.refl _) (.sl bo 0 th.regs.length) (.sl tb 0 th.taint.length) ?_ ?_ hn1 hoc nofun ?_ ?_ hse th.pc th.ev rfl Q hq
    ·exact λL hL=>Fz.sls (hL _ (.tail _ (.head _))) (by simp[Wk,ao]) W8 W7
    ·exact λL hL=>JV W8 rfl z2 (hL _ (.tail _ (.tail _ (.head _)))) (.cons (Fz.sls (l:=[th.ev]) (f:=ao) (hL _ (.head _)) rfl W8 rfl) .nil)
    ·exact λb hb=>by subst hb;exact⟨_,rfl,.head _⟩
    ·exact λb hb=>by cases hb;exact⟨_,rfl,W7⟩
   cases oc
   all_goals
    dsimp only[aQ,ah,List.cons_append,List.nil_append]at *
    repeat' (first|refine cH ra.1 z1 rp rfl ?_|refine cH ra.1 z2 rp rfl ?_|refine cH hob1.1 z3 rp rfl ?_|refine FB (cH hob1.1 z3 rp rfl ?_)|refine st ?_|refine sb λnb_ hnb_=>?_|refine s2 (λh=>?_) λh=>?_|fail)
    exact goal nb_ _ rfl
end
end
section
set_option maxRecDepth 100000
set_option maxHeartbeats 4000000
set_option linter.unusedSimpArgs false
set_option linter.unusedSectionVars false
section
variable (c:bP) (s:el) (t wake:Int) (h1:inB t s.threads.length=true) (hc:inB t c.ts.length=true) (th:aW) (i:bn) (sy:SyncD) (sv:Int) (e:cI) (b132 b24 b8 b6 bt tb:Nat) (o oc of:Option Nat) (hn1:b24≠b6) (ho:o=none→th.regs=[]) (hoc:oc=none→s.cells=[]) (hof:of=none→s.futures=[])
 (htn:th.taint.length=th.regs.length) (hse:aB Tryz.prog 58 [.agg (aD c t).enc,.agg (cL i e s th sv).thread.enc] (Di (bY (aD c t) (cL i e s th sv).thread))) (Q:R) (hq:∀v L,Fz L v (GV (Ad c s t sy e (cL i e s th sv)))→Q v L)
include h1 hc hn1 ho hoc hof htn hse hq
theorem Vd(hk:e.kind=4)(ra:0≤i.b∧i.b<th.regs.length)(hob:inB e.obj s.cells.length=true):jB c s t wake th i sy sv e b132 b24 b8 b6 bt tb o oc of Q:=by
 have hact:cL i e s th sv=⟨th.reg i.b,s.cells.set e.obj.toNat (th.reg i.b),s.futures,⟨IntKind.i64.wrap (th.pc+1),th.regs,th.taint,IntKind.i64.wrap (th.ev+1)⟩⟩:=by simp[cL,hk]
 rw[hact]at hse hq;obtain⟨e1,ek,eo,v0,es,d,f⟩:=e;obtain⟨op,ia,ib,ic,m,site⟩:=i;dsimp only at *;subst hk;have hob1:=ay.1 hob;have hi1:=ay.1 h1;cases o with
 |none=>rw[ho rfl]at ra;simp at ra;omega
 |some bo=>
  cases oc with
  |none=>rw[hoc rfl]at hob1;simp at hob1;omega
  |some boc=>
   unfold jB iy jA ig gB cJ;obtain⟨J,hJ⟩:∃J,J=bI Q:=⟨_,rfl⟩;rw[←hJ];have s0:=dV (cJ th tb (some bo)) (l:=s.threads.map aW.enc) (n:=t.toNat) (by simp;omega);unfold cJ at s0;have y1:=pZ (s:=th) ra.1 ra.2;have y3:(s.cells.map ao)[eo.toNat]? =some [.W9 (iw s.cells eo)]:=m9 hob;have z1:ib.toNat<th.regs.length:=by omega
   have z3:eo.toNat<s.cells.length:=by omega
   have goal:∀(A:SH),A=[]→J [.pptr [c.enc] 0 0,.pptr [[.W9 t,.W9 wake]] 0 0,.ptr b6 0 0,.ptr b8 0 0,.ptr b24 0 0,.ptr b132 0 0,.ptr bt t.toNat 0,.W9 (IntKind.i64.wrap (th.pc+1))]
     ((b132,⟨7,[gB s sy bt (some boc) of]⟩)::(b24,⟨7,[(cI.mk e1 4 eo (th.reg ib) es d f).enc]⟩)::(b8,⟨7,[ea]⟩)::(b6,⟨7,[bK]⟩)::(bt,⟨4,(s.threads.map aW.enc).set t.toNat (cJ th tb (some bo))⟩)::(bo,⟨1,th.regs.map ao⟩)::(tb,⟨1,th.taint.map cp⟩)::((boc,⟨1,(s.cells.map ao).set eo.toNat [.W9 (th.reg ib)]⟩)::(ah of 1 (s.futures.map ao)++A))):=by
    rintro A rfl;rw[hJ];have:=D1 c s t wake h1 hc sy ⟨e1,4,eo,v0,es,d,f⟩ ⟨th.reg ib,s.cells.set eo.toNat (th.reg ib),s.futures,⟨IntKind.i64.wrap (th.pc+1),th.regs,th.taint,IntKind.i64.wrap (th.ev+1)⟩⟩ b132 b24 b8 b6 bt (some boc) of [(bo,⟨1,th.regs.map ao⟩),(tb,⟨1,th.taint.map cp⟩)]
     ((boc,⟨1,(s.cells.map ao).set eo.toNat [.W9 (th.reg ib)]⟩)::(ah of 1 (s.futures.map ao)++[])) ((bo,⟨1,th.regs.map ao⟩)::(tb,⟨1,th.taint.map cp⟩)::((boc,⟨1,(s.cells.map ao).set eo.toNat [.W9 (th.reg ib)]⟩)::(ah of 1 (s.futures.map ao)++[]))) [] (.inl rfl) (λ_=>rfl) (.refl _) (.sl bo 0 th.regs.length) (.sl tb 0 th.taint.length) ?_ ?_ hn1 nofun hof ?_ ?_ hse th.pc th.ev rfl Q hq
    ·simp only[List.length_set]at this;exact this
    ·exact λL hL=>Fz.sls (hL _ (.head _)) rfl W8 rfl
    ·exact λL hL=>Fz.sls (hL _ (.tail _ (.head _))) rfl W8 rfl
    ·exact λb hb=>by cases hb;exact⟨_,by simp[Wk,ao],.head _⟩
    ·exact λb hb=>by subst hb;exact⟨_,rfl,.tail _ (.head _)⟩
   cases of
   all_goals
    dsimp only[aQ,ah,List.cons_append,List.nil_append]at *
    repeat' (first|refine cH ra.1 z1 rp rfl ?_|refine cH hob1.1 z3 rp rfl ?_|refine FB (cH hob1.1 z3 rp rfl ?_)|refine st ?_|refine sb λnb_ hnb_=>?_|refine s2 (λh=>?_) λh=>?_|fail)
    exact goal _ rfl
theorem Um(hk:e.kind=22)(ra:0≤i.b∧i.b<th.regs.length)(hob:inB e.obj s.futures.length=true):jB c s t wake th i sy sv e b132 b24 b8 b6 bt tb o oc of Q:=by
 have hact:cL i e s th sv=⟨th.reg i.b,s.cells,s.futures.set e.obj.toNat (th.reg i.b),⟨IntKind.i64.wrap (th.pc+1),th.regs,th.taint,IntKind.i64.wrap (th.ev+1)⟩⟩:=by simp[cL,hk]
 rw[hact]at hse hq;obtain⟨e1,ek,eo,v0,es,d,f⟩:=e;obtain⟨op,ia,ib,ic,m,site⟩:=i;dsimp only at *;subst hk;have hob1:=ay.1 hob;have hi1:=ay.1 h1;cases o with
 |none=>rw[ho rfl]at ra;simp at ra;omega
 |some bo=>
  cases of with
  |none=>rw[hof rfl]at hob1;simp at hob1;omega
  |some bof=>
   unfold jB iy jA ig gB cJ;obtain⟨J,hJ⟩:∃J,J=bI Q:=⟨_,rfl⟩;rw[←hJ];have s0:=dV (cJ th tb (some bo)) (l:=s.threads.map aW.enc) (n:=t.toNat) (by simp;omega);unfold cJ at s0;have y1:=pZ (s:=th) ra.1 ra.2;have y3:(s.futures.map ao)[eo.toNat]? =some [.W9 (iw s.futures eo)]:=m9 hob;have z1:ib.toNat<th.regs.length:=by omega
   have z3:eo.toNat<s.futures.length:=by omega
   have goal:∀(A:SH),A=[(bof,⟨1,(s.futures.map ao).set eo.toNat [.W9 (th.reg ib)]⟩)]→J [.pptr [c.enc] 0 0,.pptr [[.W9 t,.W9 wake]] 0 0,.ptr b6 0 0,.ptr b8 0 0,.ptr b24 0 0,.ptr b132 0 0,.ptr bt t.toNat 0,.W9 (IntKind.i64.wrap (th.pc+1))]
     ((b132,⟨7,[gB s sy bt oc (some bof)]⟩)::(b24,⟨7,[(cI.mk e1 22 eo (th.reg ib) es d f).enc]⟩)::(b8,⟨7,[ea]⟩)::(b6,⟨7,[bK]⟩)::(bt,⟨4,(s.threads.map aW.enc).set t.toNat (cJ th tb (some bo))⟩)::(bo,⟨1,th.regs.map ao⟩)::(tb,⟨1,th.taint.map cp⟩)::(ah oc 1 (s.cells.map ao)++A)):=by
    rintro A rfl;rw[hJ];have:=D1 c s t wake h1 hc sy ⟨e1,22,eo,v0,es,d,f⟩ ⟨th.reg ib,s.cells,s.futures.set eo.toNat (th.reg ib),⟨IntKind.i64.wrap (th.pc+1),th.regs,th.taint,IntKind.i64.wrap (th.ev+1)⟩⟩ b132 b24 b8 b6 bt oc (some bof) [(bo,⟨1,th.regs.map ao⟩),(tb,⟨1,th.taint.map cp⟩)]
     (ah oc 1 (s.cells.map ao)++[(bof,⟨1,(s.futures.map ao).set eo.toNat [.W9 (th.reg ib)]⟩)]) ((bo,⟨1,th.regs.map ao⟩)::(tb,⟨1,th.taint.map cp⟩)::(ah oc 1 (s.cells.map ao)++[(bof,⟨1,(s.futures.map ao).set eo.toNat [.W9 (th.reg ib)]⟩)])) [] (.inl rfl) (λ_=>rfl) (.refl _) (.sl bo 0 th.regs.length) (.sl tb 0 th.taint.length) ?_ ?_ hn1 hoc nofun ?_ ?_ hse th.pc th.ev rfl Q hq
    ·simp only[List.length_set]at this;exact this
    ·exact λL hL=>Fz.sls (hL _ (.head _)) rfl W8 rfl
    ·exact λL hL=>Fz.sls (hL _ (.tail _ (.head _))) rfl W8 rfl
    ·exact λb hb=>by subst hb;exact⟨_,rfl,.head _⟩
    ·exact λb hb=>by cases hb;exact⟨(s.futures.map ao).set eo.toNat [.W9 (th.reg ib)],by simp[Wk,ao],W7⟩
   cases oc
   all_goals
    dsimp only[aQ,ah,List.cons_append,List.nil_append]at *
    repeat' (first|refine cH ra.1 z1 rp rfl ?_|refine cH hob1.1 z3 rp rfl ?_|refine FB (cH hob1.1 z3 rp rfl ?_)|refine st ?_|refine sb λnb_ hnb_=>?_|refine s2 (λh=>?_) λh=>?_|fail)
    exact goal _ rfl
end
end
section
set_option maxRecDepth 100000
set_option maxHeartbeats 4000000
set_option linter.unusedSimpArgs false
set_option linter.unusedSectionVars false
section
variable (c:bP) (s:el) (t wake:Int) (h1:inB t s.threads.length=true) (hc:inB t c.ts.length=true) (th:aW) (i:bn) (sy:SyncD) (sv:Int) (e:cI) (b132 b24 b8 b6 bt tb:Nat) (o oc of:Option Nat) (hn1:b24≠b6) (ho:o=none→th.regs=[]) (hoc:oc=none→s.cells=[]) (hof:of=none→s.futures=[])
 (htn:th.taint.length=th.regs.length) (hse:aB Tryz.prog 58 [.agg (aD c t).enc,.agg (cL i e s th sv).thread.enc] (Di (bY (aD c t) (cL i e s th sv).thread))) (Q:R) (hq:∀v L,Fz L v (GV (Ad c s t sy e (cL i e s th sv)))→Q v L)
include h1 hc hn1 ho hoc hof htn hse hq
theorem Lc(v p:Int)(ha:cL i e s th sv=⟨v,s.cells,s.futures,⟨p,th.regs,th.taint,IntKind.i64.wrap (th.ev+1)⟩⟩)(ev2:cI)(he2:ev2={e with value:=v}):
  bI Q [.pptr [c.enc] 0 0,.pptr [[.W9 t,.W9 wake]] 0 0,.ptr b6 0 0,.ptr b8 0 0,.ptr b24 0 0,.ptr b132 0 0,.ptr bt t.toNat 0,.W9 p]
   ((b132,⟨7,[gB s sy bt oc of]⟩)::(b24,⟨7,[ev2.enc]⟩)::(b8,⟨7,[ea]⟩)::(b6,⟨7,[bK]⟩)::(bt,⟨4,(s.threads.map aW.enc).set t.toNat (cJ th tb o)⟩)::ig s th tb o oc of):=by
 subst he2;rw[ha]at hse hq;refine D1 c s t wake h1 hc sy e ⟨v,s.cells,s.futures,⟨p,th.regs,th.taint,IntKind.i64.wrap (th.ev+1)⟩⟩ b132 b24 b8 b6 bt oc of (ah o 1 (th.regs.map ao)++[(tb,⟨1,th.taint.map cp⟩)]) (ah oc 1 (s.cells.map ao)++ah of 1 (s.futures.map ao)) (ig s th tb o oc of) [] (.inl rfl) (λ_=>rfl) (by unfold ig;simp) (aQ o th.regs.length) (.sl tb 0 th.taint.length) ?_ ?_ hn1 hoc hof ?_ ?_ hse th.pc th.ev rfl Q hq
 ·exact λL hL=>lX rfl ho λb hb=>hL _ (by subst hb;simp[ah])
 ·exact λL hL=>Fz.sls (hL _ (VN _ (.head _))) rfl W8 rfl
 ·exact λb hb=>by subst hb;exact⟨_,rfl,by simp[ah]⟩
 ·exact λb hb=>by subst hb;exact⟨_,rfl,by simp[ah]⟩
theorem Ve(hk:e.kind=5)(ra:0≤i.a∧i.a<th.regs.length):jB c s t wake th i sy sv e b132 b24 b8 b6 bt tb o oc of Q:=by
 have js:=Lc c s t wake h1 hc th i sy sv e b132 b24 b8 b6 bt tb o oc of hn1 ho hoc hof htn hse Q hq;by_cases hb:th.reg i.a≠0
 ·replace js:=js 1 (IntKind.i64.wrap (th.pc+1)) (by simp[cL,hk,hb]) _ rfl;have d1:decide (th.reg i.a≠0)=true:=decide_eq_true hb;clear hse hq;obtain⟨e1,ek,eo,v0,es,d,f⟩:=e;obtain⟨op,ia,ib,ic,m,site⟩:=i;dsimp only at *;subst hk;have hi1:=ay.1 h1;cases o with
  |none=>rw[ho rfl]at ra;simp at ra;omega
  |some bo=>
   unfold jB iy jA ig gB cJ;unfold ig gB cJ at js;obtain⟨J,hJ⟩:∃J,J=bI Q:=⟨_,rfl⟩;rw[←hJ]at js ⊢;have s0:=dV (cJ th tb (some bo)) (l:=s.threads.map aW.enc) (n:=t.toNat) (by simp;omega);unfold cJ at s0;have y1:=pZ (s:=th) ra.1 ra.2;have z1:ia.toNat<th.regs.length:=by omega
   generalize ah oc 1 (s.cells.map ao)++ah of 1 (s.futures.map ao)=T at *;dsimp only[aQ,ah,List.cons_append,List.nil_append]at *
   repeat' (first|refine cH ra.1 z1 rp rfl ?_|refine st ?_|refine sb λnb_ hnb_=>?_|refine s2 (λh=>?_) λh=>?_|fail)
   exact js
 ·replace js:=js e.value i.b (by simp[cL,hk,hb]) _ rfl;have d1:decide (th.reg i.a≠0)=false:=decide_eq_false hb;clear hse hq;obtain⟨e1,ek,eo,v0,es,d,f⟩:=e;obtain⟨op,ia,ib,ic,m,site⟩:=i;dsimp only at *;subst hk;have hi1:=ay.1 h1;cases o with
  |none=>rw[ho rfl]at ra;simp at ra;omega
  |some bo=>
   unfold jB iy jA ig gB cJ;unfold ig gB cJ at js;obtain⟨J,hJ⟩:∃J,J=bI Q:=⟨_,rfl⟩;rw[←hJ]at js ⊢;have s0:=dV (cJ th tb (some bo)) (l:=s.threads.map aW.enc) (n:=t.toNat) (by simp;omega);unfold cJ at s0;have y1:=pZ (s:=th) ra.1 ra.2;have z1:ia.toNat<th.regs.length:=by omega
   generalize ah oc 1 (s.cells.map ao)++ah of 1 (s.futures.map ao)=T at *;dsimp only[aQ,ah,List.cons_append,List.nil_append]at *
   repeat' (first|refine cH ra.1 z1 rp rfl ?_|refine st ?_|refine sb λnb_ hnb_=>?_|refine s2 (λh=>?_) λh=>?_|fail)
   exact js
theorem Vf(hk:e.kind≠3∧e.kind≠23∧e.kind≠4∧e.kind≠22∧e.kind≠5):jB c s t wake th i sy sv e b132 b24 b8 b6 bt tb o oc of Q:=by
 obtain⟨k3,k23,k4,k22,k5⟩:=hk;have js:=Lc c s t wake h1 hc th i sy sv e b132 b24 b8 b6 bt tb o oc of hn1 ho hoc hof htn hse Q hq;have d3:decide (e.kind=3)=false:=decide_eq_false k3;have d23:decide (e.kind=23)=false:=decide_eq_false k23;have d4:decide (e.kind=4)=false:=decide_eq_false k4;have d22:decide (e.kind=22)=false:=decide_eq_false k22;have d5:decide (e.kind=5)=false:=decide_eq_false k5;have hi1:=ay.1 h1;have s0:=dV (cJ th tb o) (l:=s.threads.map aW.enc) (n:=t.toNat) (by simp;omega);have en:e.enc=[.W9 e.thread,.W9 e.kind,.W9 e.obj,.W9 e.value,.W9 e.site,.lst (e.deps.map ao),.lst (e.frm.map ao)]:=rfl;by_cases p1:e.kind=18∨e.kind=19
 ·replace js:=js sv (IntKind.i64.wrap (th.pc+1)) (by unfold cL;rw[if_neg k3,if_neg k23,if_neg k4,if_neg k22,if_neg k5,if_pos p1]) _ rfl;unfold jB iy jA;unfold gB cJ at *;obtain⟨J,hJ⟩:∃J,J=bI Q:=⟨_,rfl⟩;rw[←hJ]at js ⊢;generalize ig s th tb o oc of=T at *;rw[en];rcases p1 with p1|p1
  ·have d18:decide (e.kind=18)=true:=decide_eq_true p1
   repeat' (first|refine st ?_|refine sb λnb_ hnb_=>?_|refine s2 (λh=>?_) λh=>?_|fail)
   exact js
  ·have d18:decide (e.kind=18)=false:=decide_eq_false W4;have d19:decide (e.kind=19)=true:=decide_eq_true p1
   repeat' (first|refine st ?_|refine sb λnb_ hnb_=>?_|refine s2 (λh=>?_) λh=>?_|fail)
   exact js
 ·have d18:decide (e.kind=18)=false:=decide_eq_false W4;have d19:decide (e.kind=19)=false:=decide_eq_false W4;by_cases p2:e.kind=1∨e.kind=16∨e.kind=2
  ·replace js:=js e.value th.pc (by unfold cL;rw[if_neg k3,if_neg k23,if_neg k4,if_neg k22,if_neg k5,if_neg p1,if_pos p2]) _ rfl;unfold jB iy jA;unfold gB cJ at *;obtain⟨J,hJ⟩:∃J,J=bI Q:=⟨_,rfl⟩;rw[←hJ]at js ⊢;generalize ig s th tb o oc of=T at *;rw[en]
   repeat' (first|refine st ?_|refine sb λnb_ hnb_=>?_|refine s2 (λh=>?_) λh=>?_|fail)
   all_goals first
    |exact js
    |(exfalso;simp_all<;>omega)
  ·replace js:=js e.value (IntKind.i64.wrap (th.pc+1)) (by unfold cL;rw[if_neg k3,if_neg k23,if_neg k4,if_neg k22,if_neg k5,if_neg p1,if_neg p2]) _ rfl;unfold jB iy jA;unfold gB cJ at *;obtain⟨J,hJ⟩:∃J,J=bI Q:=⟨_,rfl⟩;rw[←hJ]at js ⊢;generalize ig s th tb o oc of=T at *;rw[en]
   repeat' (first|refine st ?_|refine sb λnb_ hnb_=>?_|refine s2 (λh=>?_) λh=>?_|fail)
   all_goals first
    |exact js
    |(exfalso;simp_all<;>omega)
end
end
section
set_option maxRecDepth 100000
set_option maxHeartbeats 4000000
set_option linter.unusedSimpArgs false
set_option linter.unusedSectionVars false
theorem Oa(q:Nat)(o:Option Nat)(tb:Nat)(l:List aW)(hq:q<l.length):iJ q o tb l=(l.map aW.enc).set q (cJ (l.getD q aW.zero) tb o):=by
 apply Wt;intro j;rw[Wf];rcases Vt j l.length with hj|hj
 ·rw[xI _ _ _ _ _ hj];by_cases e:q=j
  ·subst e;rw[if_pos rfl,if_pos (by simpa using hj)];simp[Fd,cJ,hj]
  ·rw[if_neg e];simp[Fd,show¬j=q from λh=>e h.symm,hj]
 ·rw[Vu (by rw[df];exact hj),if_neg W4,Vu (by simpa using hj)]
theorem LX(i:bn)(s:aW)(t:Int):(l9 i s t).kind=pX i.op:=by
 unfold l9;dsimp only
 repeat' split
 all_goals rfl
theorem Ob{i:bn}{n:Int}(h1:1≤i.op)(h2:i.op≤28)(hr:∀r∈bU i,0≤r∧r<n):((pX i.op=3∨pX i.op=23∨pX i.op=5)→0≤i.a∧i.a<n)∧((pX i.op=4∨pX i.op=22)→0≤i.b∧i.b<n):=by obtain⟨op,ia,ib,ic,m,site⟩:=i;dsimp only at *;rcases ops op h1 h2 with rfl|rfl|rfl|rfl|rfl|rfl|rfl|rfl|rfl|rfl|rfl|rfl|rfl|rfl|rfl|rfl|rfl|rfl|rfl|rfl|rfl|rfl|rfl|rfl|rfl|rfl|rfl|rfl<;>simp_all[pX,kS,bU]
structure Un(c:bP)(s:el)(t:Int)(e:cI):Prop where
 ready:jz c s t=true
 ra:(e.kind=3∨e.kind=23∨e.kind=5)→0≤(de (aD c t) (bG s t).pc).a∧(de (aD c t) (bG s t).pc).a<(bG s t).regs.length
 rb:(e.kind=4∨e.kind=22)→0≤(de (aD c t) (bG s t).pc).b∧(de (aD c t) (bG s t).pc).b<(bG s t).regs.length
theorem kH{c:bP}{s:el}{t:Int}(h:jz c s t=true):inB t c.ts.length=true∧inB t s.threads.length=true∧inB t s.sync.threads.length=true∧inB (bG s t).pc (aD c t).ins.length=true∧((bG s t).regs.length:Int)=(aD c t).regs∧((bG s t).taint.length:Int)=(aD c t).regs:=by unfold jz at h;simp only[VS,decide_eq_true_eq]at h;obtain⟨⟨⟨⟨⟨a,b⟩,c⟩,d⟩,e⟩,f⟩:=h;exact⟨a,b,c,d,e,f⟩
theorem D2{c:bP}{s:el}{t:Int}{e:cI}(hi:∀x∈c.ts,DZ x)(h:ie c s t=some e):Un c s t e:=by
 unfold ie at h;by_cases hr:jz c s t=true
 ·rw[if_pos hr]at h;obtain⟨a1,a2,a3,a4,a5,a6⟩:=kH hr;obtain⟨o1,o2,o3⟩:=hi _ (iW (d:=⟨0,[]⟩) a1) _ (iW (d:=default) a4);rw[show(c.ts.getD t.toNat ⟨0,[]⟩).ins.getD (bG s t).pc.toNat default=de (aD c t) (bG s t).pc from rfl]at o1 o2 o3;have hk:=Ob (n:=(bG s t).regs.length) o1 o2 (λr hr=>by have:=o3 r hr;rw[show(c.ts.getD t.toNat ⟨0,[]⟩).regs=(aD c t).regs from rfl]at this;omega);have key:e.kind=1∨e.kind=17∨e.kind=pX (de (aD c t) (bG s t).pc).op:=by
   dsimp only at h;split at h
   ·cases h;exact .inl rfl
   ·split at h
    ·cases h;exact .inr (.inl rfl)
    ·split at h
     ·split at h
      ·cases h;exact .inr (.inr (LX _ _ _))
      ·cases h
     ·cases h
  refine⟨hr,λhx=>hk.1 ?_,λhx=>hk.2 ?_⟩
  ·rcases key with k|k|k
   ·omega
   ·omega
   ·rw[←k];exact hx
  ·rcases key with k|k|k
   ·omega
   ·omega
   ·rw[←k];exact hx
 ·rw[if_neg hr]at h;cases h
theorem Ld(c:bP)(s:el)(t wake:Int):AZ c s t wake=match ie c s t with
  |none=>none
  | some e=>if s.cells.length=c.w.cells.length∧s.futures.length=c.w.futures.length then
    (if(gt c.w s.sync t e.kind e.obj wake).2.2 then Ad c s t (gt c.w s.sync t e.kind e.obj wake).1 e (cL (de (aD c t) (bG s t).pc) e s (bG s t) (gt c.w s.sync t e.kind e.obj wake).2.1)else none)else none:=by
 unfold AZ Ad;rfl
theorem A4{w:aN}{s:SyncD}{t k o wake:Int}(h:(gt w s t k o wake).2.2=true):allowedS w k o=true:=by
 unfold gt at h;split at h
 ·rename_i he;unfold bQ at he;simp only[VS]at he;exact he.1.2
 ·cases h
structure QP(U:List Int)(c:bP)(s:el):Prop where
 ins:∀x∈c.ts,DZ x
 len:∀x∈c.ts,x.ins.length<2^40
 u30:U.length≤2^30
 thr:∀x∈s.threads,jj U x∧x.ev∈U∧x.regs.length≤2^30
 sm:NI c.w s.sync
 nt:s.threads.length≤2^30
 nc:s.cells.length<2^40
 nf:s.futures.length<2^40
theorem IR{U:List Int}{i:bn}{e:cI}{s:el}{th:aW}{sv:Int}(h:jj U th)(hev:th.ev∈U):jj U (cL i e s th sv).thread:=by
 obtain⟨l1,l2,l3,l4⟩:=h;have set1:jj U ⟨th.pc,th.regs,th.taint.set i.a.toNat [th.ev],th.ev⟩:=by
  refine⟨by simpa using l1,l2,λl hl=>?_,λl hl x hx=>?_⟩
  ·rcases WE hl with h|rfl
   ·exact l3 l h
   ·simp
  ·rcases WE hl with h|rfl
   ·exact l4 l h x hx
   ·rw[Vv.1 hx];exact hev
 unfold cL;dsimp only
 repeat' split
 all_goals first
  |exact⟨l1,l2,l3,l4⟩
  |exact⟨by simpa using l1,by simpa using l2,set1.short,set1.sub⟩
theorem PR(U:List Int)(c:bP)(s:el)(t wake:Int)(H:QP U c s):aB Tryz.prog 30 [.agg c.enc,.agg s.enc,.agg [.W9 t,.W9 wake]] (GV (AZ c s t wake)):=by
 obtain⟨hi,hl,hu,hth,hsm,hnt,hnc,hnf⟩:=H;have hp:=PO c s t hi (λx hx r=>by
  have:=(hth x hx).1.short;unfold aW.tnt;rcases Vt r.toNat x.taint.length with h|h
  ·have:=this _ (VI h);simp[h];omega
  ·simp[List.getD,Vu h])
 rw[Ld];refine ai.fz (IN _ _ _ _ _ ?_);unfold DY;generalize hQ:(λ(v:AV) (L:SH)=>∃v2 L2,aI [v] L [v2] L2∧v2=_∧L2=[])=Q;have hq:∀v L,Fz L v (GV (match ie c s t with
  |none=>none
  | some e=>if s.cells.length=c.w.cells.length∧s.futures.length=c.w.futures.length then
    (if(gt c.w s.sync t e.kind e.obj wake).2.2 then Ad c s t (gt c.w s.sync t e.kind e.obj wake).1 e (cL (de (aD c t) (bG s t).pc) e s (bG s t) (gt c.w s.sync t e.kind e.obj wake).2.1)else none)else none))→Q v L:=λv L h=>by subst hQ;exact⟨_,[],aI.all h,rfl,rfl⟩
 clear hQ;have hce:c.enc=[.lst (c.w.cells.map bb.enc),.lst (c.w.locks.map cb.enc),.lst (c.w.conds.map cX.enc),.lst (c.w.futures.map aw),.lst (c.w.threads.map aw),.lst (c.w.sites.map cM.enc),.lst (c.ts.map iD.enc)]:=rfl;have hse:s.enc=[.lst (s.sync.locks.map LockD.enc),.W9 s.sync.tx,.lst (s.sync.done.map aV),.lst (s.sync.threads.map ThrD.enc),.lst (s.cells.map ao),.lst (s.futures.map ao),.lst (s.threads.map aW.enc)]:=rfl;cases hpe:ie c s t with
 |none=>
  rw[hpe]at hp hq;unfold Lb at hp;have hz:=λv L (h:v=_)=>hq v L (by rw[h];exact xK L)
  unfold bK ea cI.zero cI.enc at *;dsimp only[List.map]at hp;rw[hce,hse]at *
  repeat' (first|refine st ?_|(refine pf 55 ?_;refine pm (hp) ?_)|refine sb λnb_ hnb_=>?_|refine s2 (λh=>?_) λh=>?_|fail)
  exact hz _ _ rfl
 |some e=>
  rw[hpe]at hp hq;unfold Lb at hp;dsimp only at hp hq;have hpp:=D2 hi hpe;have ha:=NK c.w s.sync t e.kind e.obj wake hsm;have hcp:=PQ s t.toNat hnt hnc hnf (λx hx=>⟨(hth x hx).1.small,by have:=(hth x hx).1.len;have:=(hth x hx).2.2;omega,(hth x hx).1.short⟩);have een:e.enc=[.W9 e.thread,.W9 e.kind,.W9 e.obj,.W9 e.value,.W9 e.site,.lst (e.deps.map ao),.lst (e.frm.map ao)]:=rfl;generalize hres:gt c.w s.sync t e.kind e.obj wake=r at *;obtain⟨sy,sv,ok⟩:=r;unfold RW at ha;dsimp only at ha hq;by_cases hln:s.cells.length=c.w.cells.length∧s.futures.length=c.w.futures.length
  ·rw[if_pos hln]at hq;have d1:decide ((s.cells.length:Int)≠c.w.cells.length)=false:=decide_eq_false W4;have d2:decide ((s.futures.length:Int)≠c.w.futures.length)=false:=decide_eq_false W4;cases ok with
   |false=>
    have hz:=λv L (h:v=_)=>hq v L (by rw[h];exact xK L)
    unfold bK ea at hz;rw[hce,hse,een]at *
    repeat' (first|refine st ?_|(refine pf 55 ?_;refine pm (hp) ?_)|(refine pf 56 ?_;refine pm (ha) ?_)|refine sb λnb_ hnb_=>?_|refine s2 (λh=>?_) λh=>?_|fail)
    exact hz _ _ rfl
   |true=>
    rw[if_pos rfl]at hq;obtain⟨a1,a2,a3,a4,a5,a6⟩:=kH hpp.ready;have al:=A4 (w:=c.w) (s:=s.sync) (t:=t) (k:=e.kind) (o:=e.obj) (wake:=wake) (by rw[hres]);have hmem:bG s t∈s.threads:=iW (d:=aW.zero) a2;have hT:=hth _ hmem;have hobc:e.kind=3∨e.kind=4→inB e.obj s.cells.length=true:=λhk=>by unfold allowedS at al;rw[if_neg W4,if_pos hk]at al;rw[hln.1];exact al
    have hobf:e.kind=22∨e.kind=23→inB e.obj s.futures.length=true:=λhk=>by unfold allowedS at al;rw[if_neg W4,if_neg W4,if_neg W4,if_neg W4,if_neg W4,if_neg W4,if_pos hk]at al;rw[hln.2];exact al
    have tame:=IR (i:=de (aD c t) (bG s t).pc) (e:=e) (s:=s) (sv:=sv) hT.1 hT.2.1;have hset:=LN (aD c t) _ U hu tame.small (by rw[tame.len];exact tame.small) tame.short tame.sub (hl _ (show aD c t∈c.ts from iW a1));have fin:∀(v:AV) (K:SH) (b24 b8 b6:Nat),b24≠b6→Sg s t.toNat v K→kG Q (.pptr [sy.enc] 0 0) (.pptr [[.W9 t,.W9 wake]] 0 0) (.pptr [c.enc] 0 0) (.ptr b24 0 0) (.ptr b6 0 0) (.ptr b8 0 0) (.W9 sv) v ((b24,⟨7,[e.enc]⟩)::(b8,⟨7,[ea]⟩)::(b6,⟨7,[bK]⟩)::K):=by
     rintro v K b24 b8 b6 hn ⟨oc,of,bt,o,tb,rfl,rfl,hoc,hof,ho⟩;have hlt:t.toNat<s.threads.length:=by have:=ay.1 a2;omega
     have e1:(b24,(⟨7,[e.enc]⟩:Blk))::(b8,⟨7,[ea]⟩)::(b6,⟨7,[bK]⟩)::((bt,⟨4,iJ t.toNat o tb s.threads⟩)::(p9 t.toNat o tb s.threads s.threads.length++(ah oc 1 (s.cells.map ao)++ah of 1 (s.futures.map ao))))=jA s t (bG s t) e b24 b8 b6 bt tb o (ig s (bG s t) tb o oc of):=by rw[Oa _ _ _ _ hlt,p9,if_pos hlt];unfold jA ig;rw[V4];rfl
     rw[e1];refine Sj c s t wake a2 a1 _ rfl _ rfl a4 sy sv e b24 b8 b6 bt tb o oc of Q _ λb132=>?_
     have ho':o=none→(bG s t).regs=[]:=λh=>ho h hlt
     have htn:(bG s t).taint.length=(bG s t).regs.length:=by omega
     by_cases k3:e.kind=3
     ·exact Vc c s t wake a2 a1 _ _ sy sv e b132 b24 b8 b6 bt tb o oc of hn ho' hoc hof htn hset Q hq k3 (hpp.ra W4) (hobc W4)
     by_cases k23:e.kind=23
     ·exact Ul c s t wake a2 a1 _ _ sy sv e b132 b24 b8 b6 bt tb o oc of hn ho' hoc hof htn hset Q hq k23 (hpp.ra W4) (hobf W4)
     by_cases k4:e.kind=4
     ·exact Vd c s t wake a2 a1 _ _ sy sv e b132 b24 b8 b6 bt tb o oc of hn ho' hoc hof htn hset Q hq k4 (hpp.rb W4) (hobc W4)
     by_cases k22:e.kind=22
     ·exact Um c s t wake a2 a1 _ _ sy sv e b132 b24 b8 b6 bt tb o oc of hn ho' hoc hof htn hset Q hq k22 (hpp.rb W4) (hobf W4)
     by_cases k5:e.kind=5
     ·exact Ve c s t wake a2 a1 _ _ sy sv e b132 b24 b8 b6 bt tb o oc of hn ho' hoc hof htn hset Q hq k5 (hpp.ra W4)
     exact Vf c s t wake a2 a1 _ _ sy sv e b132 b24 b8 b6 bt tb o oc of hn ho' hoc hof htn hset Q hq ⟨k3,k23,k4,k22,k5⟩
    unfold bK ea at fin;clear hq hset tame hobc hobf al hpp hT hmem;rw[hce,hse,een]at *
    repeat' (first|refine st ?_|(refine pf 55 ?_;refine pm (hp) ?_)|(refine pf 56 ?_;refine pm (ha) ?_)|((with_reducible refine aZ 57 ?_);(refine pi hcp ?_;intro v K hK;exact fin _ _ _ _ _ (λh_=>by subst h_;simp[SH.names]at hnb_) hK))|refine sb λnb_ hnb_=>?_|refine s2 (λh=>?_) λh=>?_|fail)
  ·rw[if_neg hln]at hq;have hz:=λv L (h:v=_)=>hq v L (by rw[h];exact xK L)
   unfold bK ea at hz;rw[hce,hse,een]at *;by_cases hl1:s.cells.length=c.w.cells.length
   ·have d1:decide ((s.cells.length:Int)≠c.w.cells.length)=false:=decide_eq_false W4;have d2:decide ((s.futures.length:Int)≠c.w.futures.length)=true:=decide_eq_true W4
    repeat' (first|refine st ?_|(refine pf 55 ?_;refine pm (hp) ?_)|refine sb λnb_ hnb_=>?_|refine s2 (λh=>?_) λh=>?_|fail)
    exact hz _ _ rfl
   ·have d1:decide ((s.cells.length:Int)≠c.w.cells.length)=true:=decide_eq_true W4
    repeat' (first|refine st ?_|(refine pf 55 ?_;refine pm (hp) ?_)|refine sb λnb_ hnb_=>?_|refine s2 (λh=>?_) λh=>?_|fail)
    exact hz _ _ rfl
end
section
set_option maxRecDepth 100000
set_option maxHeartbeats 4000000
set_option linter.unusedSimpArgs false
set_option linter.unusedSectionVars false
def JW(t:iD):aW:=⟨0,List.replicate t.regs.toNat 0,List.replicate t.regs.toNat [],0⟩
theorem Sk(l:List iD)(h1:l.length≤1000)(hr:∀t∈l,0≤t.regs∧t.regs≤1000)(sy:SyncD)(x y:AV)(hx:∃b n,x=.sl b 0 n)(hy:∃b n,y=.sl b 0 n)(b2 b37 bt:Nat)(RR L0:SH)(Q:R)(hL0:L0.Perm ((bt,⟨4,[]⟩)::(b37,⟨7,[[.lst (sy.locks.map LockD.enc),.W9 sy.tx,.lst (sy.done.map aV),.lst (sy.threads.map ThrD.enc),x,y,.sl bt 0 0]]⟩)::(b2,⟨7,[bK]⟩)::RR))
  (hq:∀(bt:Nat) (L:SH),(bt,(⟨4,(l.map JW).map aW.enc⟩:Blk))∈L→(∀q∈RR,q∈L)→Q (.agg [.lst (sy.locks.map LockD.enc),.W9 sy.tx,.lst (sy.done.map aV),.lst (sy.threads.map ThrD.enc),x,y,.sl bt 0 l.length]) L) :
  W.loop (iU Q) [.ptr b2 0 0,.ptr b37 0 0,.lst (l.map iD.enc),.W9 l.length,.W9 (0:Nat)] L0:=by
 refine cg l.length (λk (b':Nat)=>([.ptr b2 0 0,.ptr b37 0 0,.lst (l.map iD.enc),.W9 l.length,.W9 k],(b',⟨4,((l.take k).map JW).map aW.enc⟩)::(b37,⟨7,[[.lst (sy.locks.map LockD.enc),.W9 sy.tx,.lst (sy.done.map aV),.lst (sy.threads.map ThrD.enc),x,y,.sl b' 0 k]]⟩)::(b2,⟨7,[bK]⟩)::RR)) (λ_ _=>True) bt trivial (aI.forget (K:=[]) hL0) ?_;intro k b' hk _;dsimp only;unfold iU;obtain⟨bx,nx,rfl⟩:=hx;obtain⟨by_,ny,rfl⟩:=hy;rcases Nat.lt_or_ge k l.length with g1|g1
 ·have hd:=bF g1;have hxx:=az (f:=iD.enc) g1;obtain⟨r1,r2⟩:=hr _ (VI g1);have htk:l.take (k+1)=l.take k++[l[k]]:=Vw g1;generalize hT:l[k]=tk at *;obtain⟨m,hm⟩:∃m:Nat,tk.regs=(m:Int):=⟨tk.regs.toNat,W4⟩;have hke:tk.enc=[.W9 (m:Int),.lst (tk.ins.map bn.enc)]:=by rw[←hm];rfl
  rw[hke]at hxx
  repeat' (first|refine st ?_|refine fT (i:=m) (j:=m) W4 W4 W4 (λnb_ hnb_=>?_)|refine p8 rp rp (by simp;omega) rfl (by simp;omega) (by simp;omega) rfl (λnb_ hnb_=>?_)|refine sb λnb_ hnb_=>?_|fail)
  rename_i kr _ kt _ ka _;refine⟨k+1,nb_,W4,W4,trivial,?_⟩;rw[aE g1 W4,htk,Vr,Vr];have e:JW tk=⟨0,List.replicate m 0,List.replicate m [],0⟩:=by unfold JW;rw[hm];rfl
  refine aI.row (K:=[(ka,_),(kt,_),(kr,_)]) (R:=(b37,_)::(b2,_)::RR) (WG (l₁:=[_,_,_])).symm W7 ?_;intro j r r' q1 q2;rcases Vt j (((l.take k).map JW).map aW.enc).length with hj|hj
  ·rw[VF hj]at q1 q2;rw[q1]at q2;cases q2;exact jd.refl _ _
  ·rw[Vx hj]at q1 q2;rcases hmm:j-(((l.take k).map JW).map aW.enc).length with _|mm
   ·rw[hmm]at q1 q2;cases q1;cases q2;rw[e];refine .cons (.refl _) (.cons ?_ (.cons ?_ (.cons (.refl _) .nil)))
    ·exact Fz.sls (l:=List.replicate m 0) (f:=ao) (.tail _ (.tail _ (.head _))) (by simp[ao]) W8 W7
    ·refine Fz.slm (l:=List.replicate m []) (f:=λ_=>[.nils]) (g:=cp) (.tail _ (.head _)) W7 W8 W7 (λy _=>rfl) (λy hy q a a2 q1 q2=>?_);obtain rfl:=(List.mem_replicate.1 hy).2
     match q with
     |0=>cases q1;cases q2;exact .nils
   ·rw[hmm]at q1;simp at q1
 ·have hd:=bM g1;have hk0:k=l.length:=by omega
  subst hk0;rw[Wb (Vo _)];unfold bK
  repeat' (first|refine st ?_|refine sb λnb_ hnb_=>?_|refine s2 (λh=>?_) λh=>?_|fail)
  exact hq b' _ (.head _) (λq h=>by simp[h])
theorem Sm(c:bP)(h1:c.w.cells.length≤1000)(w1 w2 w3 w4 y z:AV)(b2 b37 bc:Nat)(RR L0:SH)(Q:R)(hL0:L0.Perm ((bc,⟨1,[]⟩)::(b37,⟨7,[[w1,w2,w3,w4,.sl bc 0 0,y,z]]⟩)::RR))
  (hq:∀bc:Nat,W.loop (iU Q) [.ptr b2 0 0,.ptr b37 0 0,.lst (c.ts.map iD.enc),.W9 c.ts.length,.W9 (0:Nat)] ((bc,⟨1,(c.w.cells.map bb.init).map ao⟩)::(b37,⟨7,[[w1,w2,w3,w4,.sl bc 0 c.w.cells.length,y,z]]⟩)::RR)) :
  W.loop (iV Q) [.pptr [c.enc] 0 0,.ptr b2 0 0,.ptr b37 0 0,.lst (c.w.cells.map bb.enc),.W9 c.w.cells.length,.W9 (0:Nat)] L0:=by
 refine cg c.w.cells.length (λk (b':Nat)=>([.pptr [c.enc] 0 0,.ptr b2 0 0,.ptr b37 0 0,.lst (c.w.cells.map bb.enc),.W9 c.w.cells.length,.W9 k],(b',⟨1,((c.w.cells.take k).map bb.init).map ao⟩)::(b37,⟨7,[[w1,w2,w3,w4,.sl b' 0 k,y,z]]⟩)::RR)) (λ_ _=>True) bc trivial (aI.forget (K:=[]) hL0) ?_;intro k b' hk _;dsimp only;unfold iV;rcases Nat.lt_or_ge k c.w.cells.length with g1|g1
 ·have hd:=bF g1;have hxx:=az (f:=bb.enc) g1;have htk:c.w.cells.take (k+1)=c.w.cells.take k++[c.w.cells[k]]:=Vw g1;generalize hT:c.w.cells[k]=ck at *;have hce:ck.enc=[.str ck.name,.W9 ck.index,.W9 ck.size,.bool ck.vol,.W9 ck.init]:=rfl;rw[hce]at hxx
  repeat' (first|refine st ?_|refine p8 rp rp (by simp;omega) rfl (by simp;omega) (by simp;omega) rfl (λnb_ hnb_=>?_)|refine sb λnb_ hnb_=>?_|fail)
  refine⟨k+1,nb_,W4,W4,trivial,?_⟩;rw[aE g1 W4,htk,Vr,Vr];exact aI.forget (K:=[(_,_)]) (List.Perm.swap _ _ _)
 ·have hk0:k=c.w.cells.length:=by omega
  subst hk0;rw[Wb (Vo _)];have:=hq b';have hd:=bM g1;rw[show c.enc=[.lst (c.w.cells.map bb.enc),.lst (c.w.locks.map cb.enc),.lst (c.w.conds.map cX.enc),.lst (c.w.futures.map aw),.lst (c.w.threads.map aw),.lst (c.w.sites.map cM.enc),.lst (c.ts.map iD.enc)]from rfl]
  repeat' (first|exact this|refine st ?_|refine sb λnb_ hnb_=>?_|refine s2 (λh=>?_) λh=>?_|fail)
theorem LY(c:bP)(h1:c.w.cells.length≤100)(h2:c.w.locks.length≤100)(h3:c.w.futures.length≤100)(h4:c.w.threads.length≤100)(h5:c.ts.length≤1000)(hr:∀t∈c.ts,0≤t.regs∧t.regs≤1000):aB Tryz.prog 29 [.agg c.enc] (.agg (cR c).enc):=by
 have hst:=NT c.w h2 h3 h4;refine ai.fz (GO _ _ _ ?_);unfold A0;generalize hQ:(λ(v:AV) (L:SH)=>∃v2 L2,aI [v] L [v2] L2∧v2=AV.agg (cR c).enc∧L2=[])=Q;have hq:∀v L,Fz L v (.agg (cR c).enc)→Q v L:=λv L h=>by subst hQ;exact⟨_,[],aI.all h,rfl,rfl⟩
 clear hQ;have hwe:c.w.enc=[.lst (c.w.cells.map bb.enc),.lst (c.w.locks.map cb.enc),.lst (c.w.conds.map cX.enc),.lst (c.w.futures.map aw),.lst (c.w.threads.map aw),.lst (c.w.sites.map cM.enc)]:=rfl;have hce:c.enc=[.lst (c.w.cells.map bb.enc),.lst (c.w.locks.map cb.enc),.lst (c.w.conds.map cX.enc),.lst (c.w.futures.map aw),.lst (c.w.threads.map aw),.lst (c.w.sites.map cM.enc),.lst (c.ts.map iD.enc)]:=rfl;rw[hwe]at hst;have hsy:(dk c.w).enc=[.lst ((dk c.w).locks.map LockD.enc),.W9 (dk c.w).tx,.lst ((dk c.w).done.map aV),.lst ((dk c.w).threads.map ThrD.enc)]:=rfl;rw[hsy]at hst;rw[hce];generalize hsg:dk c.w=sy at *;have lp:∀(b2 b37 bc bf bt:Nat) (L:SH),L=(b37,⟨7,[[.lst (sy.locks.map LockD.enc),.W9 sy.tx,.lst (sy.done.map aV),.lst (sy.threads.map ThrD.enc),.sl bc 0 0,.sl bf 0 c.w.futures.length,.sl bt 0 0]]⟩)::(bt,⟨4,[]⟩)::(bf,⟨1,List.replicate c.w.futures.length [.W9 0]⟩)::(bc,⟨1,[]⟩)::[(b2,⟨7,[bK]⟩)]→
   W.loop (iV Q) [.pptr [c.enc] 0 0,.ptr b2 0 0,.ptr b37 0 0,.lst (c.w.cells.map bb.enc),.W9 c.w.cells.length,.W9 (0:Nat)] L:=by
  rintro b2 b37 bc bf bt L rfl;refine Sm c W4 (.lst (sy.locks.map LockD.enc)) (.W9 sy.tx) (.lst (sy.done.map aV)) (.lst (sy.threads.map ThrD.enc)) (.sl bf 0 c.w.futures.length) (.sl bt 0 0) b2 b37 bc ((bt,⟨4,[]⟩)::(bf,⟨1,List.replicate c.w.futures.length [.W9 0]⟩)::[(b2,⟨7,[bK]⟩)]) _ Q ?_ λbc=>?_
  ·exact WG (l₁:=[_,_,_]) (l₂:=[_])
  refine Sk c.ts h5 hr sy (.sl bc 0 c.w.cells.length) (.sl bf 0 c.w.futures.length) ⟨bc,_,rfl⟩ ⟨bf,_,rfl⟩ b2 b37 bt [(bc,⟨1,(c.w.cells.map bb.init).map ao⟩),(bf,⟨1,List.replicate c.w.futures.length [.W9 0]⟩)] _ Q ?_ λbt L hm hL=>?_
  ·exact(WG (l₁:=[_,_])).trans (((List.Perm.swap _ _ _).trans ((WG (l₁:=[_,_])).cons _)).cons _)
  refine hq _ _ ?_;have he:(cR c).enc=[.lst (sy.locks.map LockD.enc),.W9 sy.tx,.lst (sy.done.map aV),.lst (sy.threads.map ThrD.enc),.lst ((c.w.cells.map bb.init).map ao),.lst ((List.replicate c.w.futures.length (0:Int)).map ao),.lst ((c.ts.map JW).map aW.enc)]:=by unfold cR el.enc;rw[hsg];rfl
  rw[he];refine Fz.aggs (.cons (.refl _) (.cons (.refl _) (.cons (.refl _) (.cons (.refl _) (.cons ?_ (.cons ?_ (.cons ?_ .nil)))))))
  ·exact Fz.sls (hL _ (.head _)) rfl W8 W7
  ·exact Fz.sls (hL _ (.tail _ (.head _))) (by simp[ao]) W8 W7
  ·exact Fz.sls hm rfl W8 W7
 repeat' (first|exact lp _ _ _ _ _ _ rfl|refine st ?_|(refine pf 54 ?_;refine pm (hst) ?_)|refine fT (i:=0) (j:=c.w.cells.length) W4 W4 W4 (λnb_ hnb_=>?_)|refine fT (i:=c.w.futures.length) (j:=c.w.futures.length) W4 W4 W4 (λnb_ hnb_=>?_)|refine fT (i:=0) (j:=c.ts.length) W4 W4 W4 (λnb_ hnb_=>?_)|refine sb λnb_ hnb_=>?_|refine s2 (λh=>?_) λh=>?_|fail)
end
section
set_option linter.unusedSimpArgs false
def U9:List Int:=(List.range 401).map λk:Nat=>(k:Int)
theorem Oc{n:Int}(h0:0≤n)(h1:n≤400):n∈U9:=V0.2 ⟨n.toNat,Wl.2 W4,W4⟩
theorem Od:U9.length≤2^30:=by simp[U9]
structure Ae(c:bP)(n:Nat)(s:el):Prop where
 thr:∀x∈s.threads,jj U9 x∧0≤x.ev∧x.ev≤n∧x.regs.length≤1000
 nt:s.threads.length≤1000
 lk:s.sync.locks.length≤1000
 rd:∀l∈s.sync.locks,l.readers.length≤n
 dn:s.sync.done.length≤1000
 th:s.sync.threads.length≤1000
 nc:s.cells.length≤1000
 nf:s.futures.length≤1000
structure Sn(s s':SyncD)(n:Nat):Prop where
 lk:s'.locks.length=s.locks.length
 dn:s'.done.length=s.done.length
 th:s'.threads.length=s.threads.length
 rd:∀l∈s'.locks,l.readers.length≤n+1
theorem LZ(l:List Int)(t:Int):(w8 l t).length≤l.length+1:=by unfold w8;have:=pj (zp (l++[t]));rw[qo]at this;simpa using this
theorem L4{s:SyncD}{n:Nat}(h:∀l∈s.locks,l.readers.length≤n)(o:Int):(aM s o).readers.length≤n:=by
 unfold aM;rcases Vt o.toNat s.locks.length with h1|h1
 ·simpa[List.getD,h1]using h _ (VI h1)
 ·simp[List.getD,Vu h1];exact V1 _
theorem L5{w:aN}{s:SyncD}{t k o wake:Int}{n:Nat}(h:∀l∈s.locks,l.readers.length≤n):Sn s (cB w s t k o wake).1 n:=by
  have same:∀l∈s.locks,l.readers.length≤n+1:=λl hl=>Wu (h l hl)
  have lk:∀(i:Int) (f:LockD→LockD),(∀x,x.readers.length≤n→(f x).readers.length≤n+1)→∀l∈aK s i f,l.readers.length≤n+1:=λi f hf l hl=>by
    unfold aK at hl;rcases WE hl with h1|rfl
    · exact same l h1
    · exact hf _ (L4 h i)
  have own:∀(i v:Int),∀l∈aK s i (λx=>{x with owner:=v}),l.readers.length≤n+1:=λi v=>lk i _ λx hx=>Wu hx
  have ll:∀(i:Int) (f:LockD→LockD),(aK s i f).length=s.locks.length:=λi f=>by simp[aK]
  have tl:∀(i:Int) (f:ThrD→ThrD),(bJ s i f).length=s.threads.length:=λi f=>by simp[bJ]
  unfold cB
  repeat' refine iteInduction (motive:=λx:SyncD×Int=>Sn s x.1 n) (λ_=>?_) (λ_=>?_)
  all_goals refine⟨by simp[aK],W7,by simp[bJ,FL,eG,ND],?_⟩
  all_goals first
    |exact same
    | (intro l hl; dsimp only at hl
       refine lk _ _ (λx hx=>?_) l hl;dsimp only
       first
         |exact Wu hx
         |exact VG (LZ _ _) (Nat.succ_le_succ hx)
         |exact VG (WT _ _) (Wu hx))
theorem PS{i:bn}{e:cI}{s:el}{th:aW}{sv:Int}:(cL i e s th sv).thread.ev=IntKind.i64.wrap (th.ev+1)∧(cL i e s th sv).thread.regs.length=th.regs.length∧(cL i e s th sv).cells.length=s.cells.length∧(cL i e s th sv).futures.length=s.futures.length:=by
 unfold cL;dsimp only
 repeat' split
 all_goals exact⟨rfl,W7,W7,W7⟩
theorem PT{i:bn}{s s2:aW}(h:bS i s=some s2):s2.ev=s.ev:=by
 unfold bS at h
 repeat' split at h
 all_goals first
  |(cases h;rfl)
  |cases h
theorem So{ins:List bn}:∀(k:Nat) {s y:aW},hM ins k s=(y,true)→y.ev=s.ev∧y.regs.length=s.regs.length:=by
 intro k
 induction k with
 |zero=>
  intro s y h;unfold hM at h
  repeat' split at h
  all_goals first
   |(cases h;exact⟨rfl,rfl⟩)
   |cases h
 |succ k ih=>
  intro s y h;unfold hM at h;split at h
  ·split at h
   ·cases h;exact⟨rfl,rfl⟩
   ·split at h
    ·cases h
    ·rename_i s2 he;obtain⟨a,b⟩:=ih h;rw[a,b,PT he,(FP he).1];exact⟨rfl,rfl⟩
  ·cases h
theorem L6{c:iD}{s y:aW}(h:bY c s=(y,true)):y.ev=s.ev∧y.regs.length=s.regs.length:=by
 unfold bY at h;split at h
 ·exact So _ h
 ·cases h
structure Uo(c:bP)(s:el)(t wake:Int)(s':el)(e':cI):Prop where
 ex:∃(e:cI) (th':aW),ie c s t=some e∧(gt c.w s.sync t e.kind e.obj wake).2.2=true∧s.cells.length=c.w.cells.length∧s.futures.length=c.w.futures.length∧
  (th'=(cL (de (aD c t) (bG s t).pc) e s (bG s t) (gt c.w s.sync t e.kind e.obj wake).2.1).thread∨bY (aD c t) (cL (de (aD c t) (bG s t).pc) e s (bG s t) (gt c.w s.sync t e.kind e.obj wake).2.1).thread=(th',true))∧
  s'=⟨(gt c.w s.sync t e.kind e.obj wake).1,(cL (de (aD c t) (bG s t).pc) e s (bG s t) (gt c.w s.sync t e.kind e.obj wake).2.1).cells,(cL (de (aD c t) (bG s t).pc) e s (bG s t) (gt c.w s.sync t e.kind e.obj wake).2.1).futures,s.threads.set t.toNat th'⟩∧
  e'={e with value:=(cL (de (aD c t) (bG s t).pc) e s (bG s t) (gt c.w s.sync t e.kind e.obj wake).2.1).value}
theorem tB{c:bP}{s s':el}{t wake:Int}{e':cI}(h:AZ c s t wake=some (s',e')):Uo c s t wake s' e':=by
 rw[Ld]at h;cases hp:ie c s t with
 |none=>rw[hp]at h;cases h
 |some e=>
  rw[hp]at h;dsimp only at h;split at h
  ·rename_i hl;split at h
   ·rename_i hr;unfold Ad at h;split at h
    ·split at h
     ·rename_i hz;cases h;exact⟨e,_,hp,hr,hl.1,hl.2,.inr (Prod.ext rfl hz),rfl,rfl⟩
     ·cases h
    ·cases h;exact⟨e,_,hp,hr,hl.1,hl.2,.inl rfl,rfl,rfl⟩
   ·cases h
  ·cases h
theorem Oe{c:bP}{s s':el}{t wake:Int}{e':cI}{n:Nat}(hn:n<400)(H:Ae c n s)(hi:∀x∈c.ts,DZ x)(h:AZ c s t wake=some (s',e')):Ae c (n+1) s':=by
 obtain⟨e,th',hp,hr,hl1,hl2,hth,rfl,rfl⟩:=tB h;have a2:=(kH (D2 hi hp).ready).2.1;have hmem:bG s t∈s.threads:=iW (d:=aW.zero) a2;obtain⟨t1,t2,t3,t4⟩:=H.thr _ hmem;have at_:=IR (U:=U9) (i:=de (aD c t) (bG s t).pc) (e:=e) (s:=s) (sv:=(gt c.w s.sync t e.kind e.obj wake).2.1) t1 (Oc t2 W4);obtain⟨q1,q2,q3,q4⟩:=PS (i:=de (aD c t) (bG s t).pc) (e:=e) (s:=s) (th:=bG s t) (sv:=(gt c.w s.sync t e.kind e.obj wake).2.1);rw[We _ W4]at q1;have hL:Sn s.sync (gt c.w s.sync t e.kind e.obj wake).1 n:=by
  unfold gt at hr ⊢;split
  ·exact L5 H.rd
  ·rename_i he;rw[if_neg he]at hr;cases hr
 have key:jj U9 th'∧th'.ev=(bG s t).ev+1∧th'.regs.length=(bG s t).regs.length:=by
  rcases hth with rfl|hz
  ·exact⟨at_,q1,q2⟩
  ·have:=Iq (c:=aD c t) Od at_;rw[hz]at this;obtain⟨a,b⟩:=L6 hz;exact⟨this,W4,W4⟩
 refine⟨λx hx=>?_,by simpa using H.nt,by rw[hL.lk];exact H.lk,hL.rd,by rw[hL.dn];exact H.dn,by rw[hL.th];exact H.th,by rw[q3];exact H.nc,by rw[q4];exact H.nf⟩;rcases WE hx with h1|rfl
 ·obtain⟨b1,b2,b3,b4⟩:=H.thr x h1;exact⟨b1,b2,W4,b4⟩
 ·exact⟨key.1,W4,W4,W4⟩
theorem Of{c:bP}{s:el}{n:Nat}(hn:n≤400)(H:Ae c n s)(hi:∀x∈c.ts,DZ x)(hl:∀x∈c.ts,x.ins.length<2^40)(hc:c.w.conds.length<2^40):QP U9 c s where
 ins:=hi
 len:=hl
 u30:=Od
 thr:=λx hx=>by obtain⟨b1,b2,b3,b4⟩:=H.thr x hx;exact⟨b1,Oc b2 W4,W4⟩
 sm:=⟨hc,by have:=H.lk;omega,by have:=H.dn;omega,by have:=H.th;omega,λl h=>by have:=H.rd l h;omega⟩
 nt:=by have:=H.nt;omega
 nc:=by have:=H.nc;omega
 nf:=by have:=H.nf;omega
end
section
set_option maxRecDepth 100000
set_option maxHeartbeats 4000000
set_option linter.unusedSimpArgs false
set_option linter.unusedSectionVars false
def fE(c:bP)(l:List dH)(p:List cI×el):List cI×el:=l.foldl (Jc c) p
theorem FT(c:bP):∀(l:List dH) (p:List cI×el),400≤p.1.length→fE c l p=p
 |[],p,_=>rfl
 | ch::l,p,h=>by
  show fE c l (Jc c p ch)=p;have e:Jc c p ch=p:=by unfold Jc;rw[if_pos h]
  rw[e];exact FT c l p h
theorem L7(c:bP)(l:List dH)(k:Nat)(p:List cI×el):fE c l p=fE c (l.drop k) (fE c (l.take k) p):=by unfold fE;rw[←List.foldl_append,List.take_append_drop]
theorem L8(c:bP)(l:List dH)(k:Nat)(hk:k<l.length)(p:List cI×el):fE c (l.take (k+1)) p=Jc c (fE c (l.take k) p) l[k]:=by unfold fE;rw[Vw hk,List.foldl_append];rfl
structure FU(c:bP):Prop where
 ins:∀x∈c.ts,DZ x
 len:∀x∈c.ts,x.ins.length<2^40
 con:c.w.conds.length<2^40
theorem Og{c:bP}(hc:FU c){p:List cI×el}{ch:dH}(h:Ae c p.1.length p.2)(hn:p.1.length≤400):Ae c (Jc c p ch).1.length (Jc c p ch).2∧(Jc c p ch).1.length≤400:=by
 unfold Jc;split
 ·exact⟨h,hn⟩
 ·rename_i hlt;split
  ·exact⟨h,hn⟩
  ·rename_i n e hs;have:=Oe W4 h hc.ins hs;exact⟨by simpa using this,by simp;omega⟩
theorem Le{c:bP}(hc:FU c)(l:List dH){p:List cI×el}(h:Ae c p.1.length p.2)(hn:p.1.length≤400):Ae c (fE c l p).1.length (fE c l p).2∧(fE c l p).1.length≤400:=by
 induction l generalizing p with
 |nil=>exact⟨h,hn⟩
 |cons ch l ih=>obtain⟨a,b⟩:=Og (ch:=ch) hc h hn;exact ih a b
def Oh(p:List cI×el):AV:=.tup [.lst (p.1.map cI.enc),.agg p.2.enc]
theorem Oi(c:bP)(hc:FU c)(l:List dH)(hl:l.length<2^62)(s0:el)(h0:Ae c 0 s0)(b2 b9:Nat)(Q:R)(hq:∀v L,Fz L v (Oh (fE c l ([],s0)))→Q v L):
  W.loop (lB (gW Q)) [.pptr [c.enc] 0 0,.ptr b2 0 0,.ptr b9 0 0,.nils,.lst (l.map dH.enc),.W9 l.length,.W9 (0:Nat)] [(b9,⟨7,[s0.enc]⟩),(b2,⟨7,[bK]⟩)]:=by
 refine cg l.length (λk (o:Option Nat)=>([.pptr [c.enc] 0 0,.ptr b2 0 0,.ptr b9 0 0,aq o (fE c (l.take k) ([],s0)).1.length,.lst (l.map dH.enc),.W9 l.length,.W9 k],(b9,⟨7,[(fE c (l.take k) ([],s0)).2.enc]⟩)::(b2,⟨7,[bK]⟩)::ah o 7 ((fE c (l.take k) ([],s0)).1.map cI.enc))) (λk o=>o=none→(fE c (l.take k) ([],s0)).1=[]) none (λ_=>rfl) (aI.drop (K:=[]) (.refl _) rfl (jd.at_ (.cons (.refl _) (.cons (.refl _) (.cons (.refl _) (.cons .nile (.cons (.refl _) (.cons (.refl _) (.cons (.refl _) .nil)))))))).2) ?_;intro k o hk ho;dsimp only;have hiv:=Le hc (l.take k) (p:=([],s0)) h0 (Nat.zero_le _);have hsplit:=L7 c l k ([],s0);have hsucc:=λ(h:k<l.length)=>L8 c l k h ([],s0);generalize hp:fE c (l.take k) ([],s0)=p at *;obtain⟨ev,sx⟩:=p;dsimp only at *;have fin:fE c l ([],s0)=(ev,sx)→∀L,(∀q∈ah o 7 (ev.map cI.enc),q∈L)→Q (.tup [aq o ev.length,.agg sx.enc]) L:=λhe L hm=>by
  refine hq _ _ ?_;rw[he];refine Fz.tups (.cons ?_ (.cons (.refl _) .nil));cases o with
  |none=>rw[ho rfl];exact .emp
  |some b=>exact Fz.sls (hm _ (.head _)) rfl W8 rfl
 unfold lB;obtain⟨J,hJ⟩:∃J,J=gW Q:=⟨_,rfl⟩;have jn:fE c l ([],s0)=(ev,sx)→J [.ptr b2 0 0,.ptr b9 0 0,aq o ev.length] ((b9,⟨7,[sx.enc]⟩)::(b2,⟨7,[bK]⟩)::ah o 7 (ev.map cI.enc)):=λhe=>by
  have fin:=fin he;rw[hJ];unfold gW bK el.enc at *;cases o
  all_goals
   dsimp only[aq,ah]at *
   repeat' (first|refine st ?_|refine sb λnb_ hnb_=>?_|refine s2 (λh=>?_) λh=>?_|fail)
   exact fin _ W7
 rw[←hJ];clear fin hJ;rcases Vt k l.length with g1|g1
 ·have hd:=bF g1;have hx:=az (f:=dH.enc) g1;have hsucc:=hsucc g1;generalize hch:l[k]=ch at *;obtain⟨ct,cw⟩:=ch;unfold dH.enc at hx;dsimp only at hx;by_cases hfull:400≤ev.length
  ·have jn:=jn (by rw[hsplit];exact FT c _ _ hfull);have d4:decide ((ev.length:Int)≥400)=true:=decide_eq_true W4;clear hq hsplit hsucc hp;cases o with
   |none=>rw[ho rfl]at hfull;simp at hfull
   |some bo=>
    dsimp only[aq,ah]at *
    repeat' (first|exact jn|refine st ?_|refine sb λnb_ hnb_=>?_|refine s2 (λh=>?_) λh=>?_|fail)
  ·have d4:decide ((ev.length:Int)≥400)=false:=decide_eq_false W4;have hst:=PR U9 c sx ct cw (Of hiv.2 hiv.1 hc.ins hc.len hc.con);have hgo:Jc c (ev,sx) ⟨ct,cw⟩=match AZ c sx ct cw with
    |none=>(ev,sx)
    |some (n,e)=>(ev++[e],n):=by unfold Jc;rw[if_neg hfull];rfl
   clear hq hsplit jn;cases hs:AZ c sx ct cw with
   |none=>
    rw[hs]at hst hgo;dsimp only at hgo;unfold GV at hst;have hz:el.zero.enc=[.lst [],.W9 0,.lst [],.lst [],.lst [],.lst [],.lst []]:=rfl;rw[hz,show cI.zero.enc=[.W9 0,.W9 0,.W9 0,.W9 0,.W9 0,.lst [],.lst []]from rfl]at hst;have fin2:∀L,L=(b9,(⟨7,[sx.enc]⟩:Blk))::(b2,⟨7,[bK]⟩)::ah o 7 (ev.map cI.enc)→∃(j:Nat) (o':Option Nat),k<j∧j≤l.length∧(o'=none→(fE c (l.take j) ([],s0)).1=[])∧aI [.pptr [c.enc] 0 0,.ptr b2 0 0,.ptr b9 0 0,aq o ev.length,.lst (l.map dH.enc),.W9 l.length,.W9 (IntKind.i64.wrap ((k:Int)+1))] L
      [.pptr [c.enc] 0 0,.ptr b2 0 0,.ptr b9 0 0,aq o' (fE c (l.take j) ([],s0)).1.length,.lst (l.map dH.enc),.W9 l.length,.W9 j] ((b9,⟨7,[(fE c (l.take j) ([],s0)).2.enc]⟩)::(b2,⟨7,[bK]⟩)::ah o' 7 ((fE c (l.take j) ([],s0)).1.map cI.enc)):=by
     rintro L rfl;refine⟨k+1,o,W4,W4,?_,?_⟩
     ·rw[hsucc,hgo];exact ho
     ·rw[hsucc,hgo,aE g1 hl];exact .refl _ _
    cases o
    all_goals
     dsimp only[aq,ah]at *
     repeat' (first|refine st ?_|(refine pf 30 ?_;refine pm (hst) ?_)|refine sb λnb_ hnb_=>?_|refine s2 (λh=>?_) λh=>?_|fail)
     exact fin2 _ rfl
   |some r=>
    obtain⟨n,e⟩:=r;rw[hs]at hst hgo;dsimp only at hgo;unfold GV at hst;have hn:n.enc=[.lst (n.sync.locks.map LockD.enc),.W9 n.sync.tx,.lst (n.sync.done.map aV),.lst (n.sync.threads.map ThrD.enc),.lst (n.cells.map ao),.lst (n.futures.map ao),.lst (n.threads.map aW.enc)]:=rfl;have he:e.enc=[.W9 e.thread,.W9 e.kind,.W9 e.obj,.W9 e.value,.W9 e.site,.lst (e.deps.map ao),.lst (e.frm.map ao)]:=rfl;dsimp only at hst;have fin3:∀(nb:Nat) (L:SH),gI L ((b9,(⟨7,[n.enc]⟩:Blk))::(b2,⟨7,[bK]⟩)::ah (some nb) 7 (ev.map cI.enc++[e.enc]))→∃(j:Nat) (o':Option Nat),k<j∧j≤l.length∧(o'=none→(fE c (l.take j) ([],s0)).1=[])∧aI [.pptr [c.enc] 0 0,.ptr b2 0 0,.ptr b9 0 0,.sl nb 0 (ev.length+1),.lst (l.map dH.enc),.W9 l.length,.W9 (IntKind.i64.wrap ((k:Int)+1))] L
      [.pptr [c.enc] 0 0,.ptr b2 0 0,.ptr b9 0 0,aq o' (fE c (l.take j) ([],s0)).1.length,.lst (l.map dH.enc),.W9 l.length,.W9 j] ((b9,⟨7,[(fE c (l.take j) ([],s0)).2.enc]⟩)::(b2,⟨7,[bK]⟩)::ah o' 7 ((fE c (l.take j) ([],s0)).1.map cI.enc)):=by
     intro nb L hL;refine⟨k+1,some nb,W4,W4,nofun,?_⟩;rw[hsucc,hgo,aE g1 hl];exact aI.pickE hL (by simp[aq]) W7
    rw[hn,he]at *;have hev400:ev.length<2^30:=by omega
    repeat' (first|refine st ?_|(refine pf 30 ?_;refine pm (hst) ?_)|refine cy rp rp W7 (λe=>by first|simp[ho e]) W6 W7 (by simp;omega) (by simp;omega) W6 (λnb_ hnb_=>?_)|refine La ?_ (λe=>by rw[ho e];rfl)|refine sb λnb_ hnb_=>?_|refine s2 (λh=>?_) λh=>?_|fail)
    exact fin3 _ _ rp
 ·have hd:=bM g1;have hk0:k=l.length:=by omega
  subst hk0;have jn:=jn (by rw[hsplit,List.drop_of_length_le (Vo _)];rfl);clear hq hsplit hsucc hp
  repeat' (first|exact jn|refine st ?_|refine sb λnb_ hnb_=>?_|refine s2 (λh=>?_) λh=>?_|fail)
end
section
open Go.RowKit
theorem JX(xs:List bb)(hl:xs.length≤1000):aB Tryz.prog 31 [.lst (xs.map bb.enc)] (.lst (xs.map bb.enc)):=by
 refine ai.fz ((fI (λA n c xs w hf h1 hn hA=>cloneWc_any A n c xs w hf h1 hn hA) ⟨_,_,Tryz.func31,rfl⟩ (xs.map bb.enc) (by rw[VE];intro r hr;obtain⟨x,_,rfl⟩:=V0.1 hr;rfl) (λr hr=>by obtain⟨x,_,rfl⟩:=V0.1 hr;rfl) (by simp;omega)).mono ?_);rintro v L ⟨o,rfl,rfl,h⟩;refine⟨_,[],aI.all ?_,rfl,rfl⟩;cases o with
 |none=>rw[h rfl];exact .refl _
 |some b=>exact Fz.sls (.head _) rfl W8 W7
theorem JY(xs:List cb)(hl:xs.length≤1000):aB Tryz.prog 32 [.lst (xs.map cb.enc)] (.lst (xs.map cb.enc)):=by
 refine ai.fz ((fI (λA n c xs w hf h1 hn hA=>cloneWl_any A n c xs w hf h1 hn hA) ⟨_,_,Tryz.func32,rfl⟩ (xs.map cb.enc) (by rw[VE];intro r hr;obtain⟨x,_,rfl⟩:=V0.1 hr;rfl) (λr hr=>by obtain⟨x,_,rfl⟩:=V0.1 hr;rfl) (by simp;omega)).mono ?_);rintro v L ⟨o,rfl,rfl,h⟩;refine⟨_,[],aI.all ?_,rfl,rfl⟩;cases o with
 |none=>rw[h rfl];exact .refl _
 |some b=>exact Fz.sls (.head _) rfl W8 W7
theorem JZ(xs:List cX)(hl:xs.length≤1000):aB Tryz.prog 33 [.lst (xs.map cX.enc)] (.lst (xs.map cX.enc)):=by
 refine ai.fz ((fI (λA n c xs w hf h1 hn hA=>cloneWd_any A n c xs w hf h1 hn hA) ⟨_,_,Tryz.func33,rfl⟩ (xs.map cX.enc) (by rw[VE];intro r hr;obtain⟨x,_,rfl⟩:=V0.1 hr;rfl) (λr hr=>by obtain⟨x,_,rfl⟩:=V0.1 hr;rfl) (by simp;omega)).mono ?_);rintro v L ⟨o,rfl,rfl,h⟩;refine⟨_,[],aI.all ?_,rfl,rfl⟩;cases o with
 |none=>rw[h rfl];exact .refl _
 |some b=>exact Fz.sls (.head _) rfl W8 W7
theorem J0(xs:List cM)(hl:xs.length≤1000):aB Tryz.prog 35 [.lst (xs.map cM.enc)] (.lst (xs.map cM.enc)):=by
 refine ai.fz ((fI (λA n c xs w hf h1 hn hA=>cloneWs_any A n c xs w hf h1 hn hA) ⟨_,_,Tryz.func35,rfl⟩ (xs.map cM.enc) (by rw[VE];intro r hr;obtain⟨x,_,rfl⟩:=V0.1 hr;rfl) (λr hr=>by obtain⟨x,_,rfl⟩:=V0.1 hr;rfl) (by simp;omega)).mono ?_);rintro v L ⟨o,rfl,rfl,h⟩;refine⟨_,[],aI.all ?_,rfl,rfl⟩;cases o with
 |none=>rw[h rfl];exact .refl _
 |some b=>exact Fz.sls (.head _) rfl W8 W7
theorem D3(xs:List bj)(hl:xs.length≤1000):aB Tryz.prog 34 [.lst (xs.map aw)] (.lst (xs.map aw)):=by
 refine ai.fz ((fI (λA n c xs w hf h1 hn hA=>cloneWt_any A n c xs w hf h1 hn hA) ⟨_,_,Tryz.func34,rfl⟩ (xs.map aw) (by rw[VE];intro r hr;obtain⟨x,_,rfl⟩:=V0.1 hr;rfl) (λr hr=>by obtain⟨x,_,rfl⟩:=V0.1 hr;rfl) (by simp;omega)).mono ?_);rintro v L ⟨o,rfl,rfl,h⟩;refine⟨_,[],aI.all ?_,rfl,rfl⟩;cases o with
 |none=>rw[h rfl];exact .refl _
 |some b=>exact Fz.sls (.head _) rfl W8 W7
end
section
set_option maxRecDepth 100000
set_option maxHeartbeats 4000000
set_option linter.unusedSimpArgs false
theorem L9(w:aN)(h1:w.cells.length≤1000)(h2:w.locks.length≤1000)(h3:w.conds.length≤1000)(h4:w.futures.length≤1000)(h5:w.threads.length≤1000)(h6:w.sites.length≤1000):aB Tryz.prog 15 [.agg w.enc] (.agg w.enc):=by
 have k1:=JX w.cells h1;have k2:=JY w.locks h2;have k3:=JZ w.conds h3;have k4:=D3 w.futures h4;have k5:=D3 w.threads h5;have k6:=J0 w.sites h6;refine ai.fz (Ac _ _ _ ?_);unfold nR;generalize hQ:(λ(v:AV) (L:SH)=>∃v2 L2,aI [v] L [v2] L2∧v2=AV.agg w.enc∧L2=[])=Q;have hq:∀L,Q (.agg w.enc) L:=λL=>by subst hQ;exact⟨_,[],aI.all (.refl _),rfl,rfl⟩
 clear hQ;unfold aN.enc at *
 repeat' (first|refine st ?_|(refine pf 31 ?_;refine pm (k1) ?_)|(refine pf 32 ?_;refine pm (k2) ?_)|(refine pf 33 ?_;refine pm (k3) ?_)|(refine pf 34 ?_;refine pm (k4) ?_)|(refine pf 34 ?_;refine pm (k5) ?_)|(refine pf 35 ?_;refine pm (k6) ?_)|refine sb λnb_ hnb_=>?_|refine s2 (λh=>?_) λh=>?_|fail)
 exact hq _
theorem Ma(c:bP)(hc:FU c)(l:List dH)(hl:l.length<2^62)(hst:aB Tryz.prog 29 [.agg c.enc] (.agg (cR c).enc))(h0:Ae c 0 (cR c)):aB Tryz.prog 14 [.agg c.enc,.lst (l.map dH.enc)] (Oh (iT c l)):=by
 refine ai.fz (Fb _ _ _ _ ?_);unfold xF;generalize hQ:(λ(v:AV) (L:SH)=>∃v2 L2,aI [v] L [v2] L2∧v2=Oh (iT c l)∧L2=[])=Q;have hq:∀v L,Fz L v (Oh (fE c l ([],cR c)))→Q v L:=λv L h=>by subst hQ;exact⟨_,[],aI.all h,rfl,rfl⟩
 clear hQ;have lp:=λb2 b9=>Oi c hc l hl (cR c) h0 b2 b9 Q hq
 have hce:c.enc=[.lst (c.w.cells.map bb.enc),.lst (c.w.locks.map cb.enc),.lst (c.w.conds.map cX.enc),.lst (c.w.futures.map aw),.lst (c.w.threads.map aw),.lst (c.w.sites.map cM.enc),.lst (c.ts.map iD.enc)]:=rfl;generalize cR c=s0 at *;have hse:s0.enc=[.lst (s0.sync.locks.map LockD.enc),.W9 s0.sync.tx,.lst (s0.sync.done.map aV),.lst (s0.sync.threads.map ThrD.enc),.lst (s0.cells.map ao),.lst (s0.futures.map ao),.lst (s0.threads.map aW.enc)]:=rfl;unfold bK at lp;rw[hce,hse]at *
 repeat' (first|exact lp _ _|refine st ?_|(refine pf 29 ?_;refine pm (hst) ?_)|refine sb λnb_ hnb_=>?_|refine s2 (λh=>?_) λh=>?_|fail)
theorem D4{c:bP}(h:DL c)(hl:∀t∈c.ts,t.ins.length<2^40):FU c where
 ins:=λx hx i hi=>by obtain⟨k,hk,rfl⟩:=List.mem_iff_getElem.1 hx;obtain⟨j,hj,rfl⟩:=List.mem_iff_getElem.1 hi;have:=(h.thr k hk).ins j hj;exact⟨this.lo,this.hi,this.regs⟩
 len:=hl
 con:=by have:=h.world.d2;omega
theorem IS{c:bP}(h:DL c):∀t∈c.ts,0≤t.regs∧t.regs≤1000:=λt ht=>by obtain⟨k,hk,rfl⟩:=List.mem_iff_getElem.1 ht;have:=h.thr k hk;have h0:=this.r0;have h32:=this.r32;exact⟨h0,W4⟩
theorem GX{c:bP}(h:DL c):Ae c 0 (cR c):=by
 have hw:=h.world;refine⟨λx hx=>?_,?_,?_,λl hl=>?_,?_,?_,?_,?_⟩
 ·obtain⟨t,ht,rfl⟩:=V0.1 hx;have:=IS h t ht;exact⟨⟨W7,by simp;omega,λl hl=>by rw[(List.mem_replicate.1 hl).2];simp,λl hl x hx=>by rw[(List.mem_replicate.1 hl).2]at hx;simp at hx⟩,Int.le_refl _,Int.le_refl _,by simp;omega⟩
 ·have:=h.len;have:=hw.t4;simp[cR];omega
 ·have:=hw.l4;simp[cR,dk];omega
 ·have:=(List.mem_replicate.1 hl).2;rw[this];simp
 ·have:=hw.f2;simp[cR,dk];omega
 ·have:=hw.t4;simp[cR,dk];omega
 ·have:=hw.c12;simp[cR];omega
 ·have:=hw.f2;simp[cR];omega
structure D5 where
 w:aN
 ev:List cI
def D5.enc(t:D5):List AV:=[.lst (t.w.cells.map bb.enc),.lst (t.w.locks.map cb.enc),.lst (t.w.conds.map cX.enc),.lst (t.w.futures.map aw),.lst (t.w.threads.map aw),.lst (t.w.sites.map cM.enc),.lst (t.ev.map cI.enc)]
noncomputable def qT (c:bP) (l:List dH):D5×el:=if m4 (DL c)then(⟨c.w,(iT c l).1⟩,(iT c l).2)else(⟨⟨[],[],[],[],[],[]⟩,[]⟩,el.zero)
theorem PU(c:bP)(hl:∀t∈c.ts,t.ins.length<2^40)(l:List dH)(hll:l.length<2^62):aB Tryz.prog 8 [.agg c.enc,.lst (l.map dH.enc)] (.tup [.agg (qT c l).1.enc,.agg (qT c l).2.enc]):=by
 have hv:=N7 c λt ht=>by have:=hl t ht;omega
 refine ai.fz (JU _ _ _ _ ?_);unfold FS;generalize hQ:(λ(v:AV) (L:SH)=>∃v2 L2,aI [v] L [v2] L2∧v2=AV.tup [.agg (qT c l).1.enc,.agg (qT c l).2.enc]∧L2=[])=Q;have hq:∀a b L,jd L a (qT c l).1.enc→jd L b (qT c l).2.enc→Q (.tup [.agg a,.agg b]) L:=λa b L h1 h2=>by subst hQ;exact⟨_,[],aI.all (Fz.tups (.cons (Fz.aggs h1) (.cons (Fz.aggs h2) .nil))),rfl,rfl⟩
 clear hQ;have hce:c.enc=[.lst (c.w.cells.map bb.enc),.lst (c.w.locks.map cb.enc),.lst (c.w.conds.map cX.enc),.lst (c.w.futures.map aw),.lst (c.w.threads.map aw),.lst (c.w.sites.map cM.enc),.lst (c.ts.map iD.enc)]:=rfl;cases hd:m4 (DL c)with
 |false=>
  rw[hd]at hv;have hr:qT c l=(⟨⟨[],[],[],[],[],[]⟩,[]⟩,el.zero):=by unfold qT;rw[hd];rfl
  rw[hr]at hq;have hz:∀L,Q (.tup [.agg [.nils,.nils,.nils,.nils,.nils,.nils,.nils],.agg [.nils,.W9 0,.nils,.nils,.nils,.nils,.nils]]) L:=λL=>hq _ _ L (by unfold D5.enc;exact fl) (by unfold el.zero el.enc K0;exact fl)
  rw[hce]at *
  repeat' (first|refine st ?_|(refine pf 13 ?_;refine pm (hv) ?_)|refine sb λnb_ hnb_=>?_|refine s2 (λh=>?_) λh=>?_|fail)
  exact hz _
 |true=>
  rw[hd]at hv;have hP:=kC.1 hd;have hw:=hP.world;have hr:qT c l=(⟨c.w,(iT c l).1⟩,(iT c l).2):=by unfold qT;rw[hd];rfl
  rw[hr]at hq;have hst:=LY c (by have:=hw.c12;omega) (by have:=hw.l4;omega) (by have:=hw.f2;omega) (by have:=hw.t4;omega) (by have:=hP.len;have:=hw.t4;omega) (IS hP);have hf:=Ma c (D4 hP hl) l hll hst (GX hP);have hcw:=L9 c.w (by have:=hw.c12;omega) (by have:=hw.l4;omega) (by have:=hw.d2;omega) (by have:=hw.f2;omega) (by have:=hw.t4;omega) (by have:=hw.s60;omega);generalize iT c l=p at *;obtain⟨ev,s⟩:=p;unfold Oh at hf;have hwe:c.w.enc=[.lst (c.w.cells.map bb.enc),.lst (c.w.locks.map cb.enc),.lst (c.w.conds.map cX.enc),.lst (c.w.futures.map aw),.lst (c.w.threads.map aw),.lst (c.w.sites.map cM.enc)]:=rfl;have hse:s.enc=[.lst (s.sync.locks.map LockD.enc),.W9 s.sync.tx,.lst (s.sync.done.map aV),.lst (s.sync.threads.map ThrD.enc),.lst (s.cells.map ao),.lst (s.futures.map ao),.lst (s.threads.map aW.enc)]:=rfl;dsimp only at *;rw[hce]at *;rw[hwe]at hcw;rw[hse]at *;have hz:∀L,Q (.tup [.agg [.lst (c.w.cells.map bb.enc),.lst (c.w.locks.map cb.enc),.lst (c.w.conds.map cX.enc),.lst (c.w.futures.map aw),.lst (c.w.threads.map aw),.lst (c.w.sites.map cM.enc),.lst (ev.map cI.enc)],.agg [.lst (s.sync.locks.map LockD.enc),.W9 s.sync.tx,.lst (s.sync.done.map aV),.lst (s.sync.threads.map ThrD.enc),.lst (s.cells.map ao),.lst (s.futures.map ao),.lst (s.threads.map aW.enc)]]) L:=λL=>hq _ _ L (jd.refl _ _) (jd.refl _ _)
  repeat' (first|refine st ?_|(refine pf 13 ?_;refine pm (hv) ?_)|(refine pf 14 ?_;refine pm (hf) ?_)|(refine pf 15 ?_;refine pm (hcw) ?_)|refine sb λnb_ hnb_=>?_|refine s2 (λh=>?_) λh=>?_|fail)
  exact hz _
end
section
set_option linter.unusedSimpArgs false
def PV(e:cI):Prop:=e.deps.length≤2^30∧e.frm.length≤2^30
theorem J1{i:bn}{s:aW}{t:Int}(h:∀r,(s.tnt r).length≤2^30):PV (l9 i s t):=by
 unfold l9 PV;dsimp only
 repeat' split
 all_goals first
  |exact⟨V1 _,V1 _⟩
  |exact⟨h _,V1 _⟩
  |exact⟨V1 _,h _⟩
  |exact⟨h _,h _⟩
theorem Mb{U:List Int}{s:aW}(h:jj U s)(r:Int):(s.tnt r).length≤2^30:=by
 unfold aW.tnt;rcases Vt r.toNat s.taint.length with h1|h1
 ·simpa[h1]using h.short _ (VI h1)
 ·simp[List.getD,Vu h1]
theorem J2{c:bP}{s:el}{t:Int}{e:cI}{n:Nat}(H:Ae c n s)(h:ie c s t=some e):PV e:=by
 unfold ie at h;split at h
 ·rename_i hr;have hm:bG s t∈s.threads:=iW (d:=aW.zero) (kH hr).2.1;have ht:=λr=>Mb (H.thr _ hm).1 r
  dsimp only at h;split at h
  ·cases h;exact⟨V1 _,V1 _⟩
  ·split at h
   ·cases h;exact⟨V1 _,V1 _⟩
   ·split at h
    ·split at h
     ·cases h;exact J1 ht
     ·cases h
    ·cases h
 ·cases h
theorem Oj{c:bP}{p:List cI×el}{ch:dH}(H:Ae c p.1.length p.2)(h:∀e∈p.1,PV e):∀e∈(Jc c p ch).1,PV e:=by
 unfold Jc;split
 ·exact h
 ·split
  ·exact h
  ·rename_i n e hs;intro x hx;rcases VC.1 hx with hx|hx
   ·exact h x hx
   ·rw[Vv.1 hx];obtain⟨e0,th',hp,_,_,_,_,_,rfl⟩:=tB hs;have hs:=J2 H hp;exact hs
theorem Mc{c:bP}(hc:FU c)(l:List dH){p:List cI×el}(H:Ae c p.1.length p.2)(hn:p.1.length≤400)(h:∀e∈p.1,PV e):∀e∈(fE c l p).1,PV e:=by
 induction l generalizing p with
 |nil=>exact h
 |cons ch l ih=>obtain⟨a,b⟩:=Og (ch:=ch) hc H hn;exact ih a b (Oj H h)
theorem GY{c:bP}(h:DL c)(hl:∀t∈c.ts,t.ins.length<2^40)(l:List dH):(∀e∈(iT c l).1,PV e)∧(iT c l).1.length≤400:=
 ⟨Mc (D4 h hl) l (GX h) (V1 _) nofun,(Le (D4 h hl) l (p:=([],cR c)) (GX h) (V1 _)).2⟩
theorem Md(c:bP)(hl:∀t∈c.ts,t.ins.length<2^40)(l:List dH):(∀e∈(qT c l).1.ev,PV e)∧(qT c l).1.ev.length≤400:=by
 unfold qT;cases hd:m4 (DL c)with
 |true=>exact GY (kC.1 hd) hl l
 |false=>exact⟨nofun,V1 _⟩
end
section
set_option linter.unusedSimpArgs false
def oL(l:List cI)(k o d:Int):Int:=l.foldl (λw e=>if e.kind=k∧e.obj=o then e.value else w) d
theorem Af(l:List cI)(e:cI)(k o d:Int):oL (l++[e]) k o d=if e.kind=k∧e.obj=o then e.value else oL l k o d:=by simp[oL]
def GZ(w:aN)(o:Int):Int:=if 0≤o∧o<w.cells.length then(w.cells.getD o.toNat default).init else 0
def UQ(w:aN)(pre:List cI)(e:cI):Prop:=(e.kind=3→e.value=oL pre 4 e.obj (GZ w e.obj))∧(e.kind=23→e.value=oL pre 22 e.obj 0)
structure IT(w:aN)(p:List cI×el):Prop where
 cel:∀o:Nat,o<p.2.cells.length→p.2.cells.getD o 0=oL p.1 4 o (GZ w o)
 fut:∀o:Nat,o<p.2.futures.length→p.2.futures.getD o 0=oL p.1 22 o 0
 evs:∀(pre suf:List cI) (e:cI),p.1=pre++e::suf→UQ w pre e
theorem PW{i:bn}{e:cI}{s:el}{th:aW}{sv:Int}:
  (cL i e s th sv).cells=(if e.kind=4 then s.cells.set e.obj.toNat (cL i e s th sv).value else s.cells)∧
  (cL i e s th sv).futures=(if e.kind=22 then s.futures.set e.obj.toNat (cL i e s th sv).value else s.futures)∧
  (e.kind=3→(cL i e s th sv).value=iw s.cells e.obj)∧(e.kind=23→(cL i e s th sv).value=iw s.futures e.obj):=by
 by_cases k3:e.kind=3
 ·simp[cL,k3]
 by_cases k23:e.kind=23
 ·simp[cL,k23]
 by_cases k4:e.kind=4
 ·simp[cL,k4]
 by_cases k22:e.kind=22
 ·simp[cL,k22]
 refine⟨?_,?_,λh=>absurd h k3,λh=>absurd h k23⟩
 ·rw[if_neg k4];unfold cL;rw[if_neg k3,if_neg k23,if_neg k4,if_neg k22];repeat' split
  all_goals rfl
 ·rw[if_neg k22];unfold cL;rw[if_neg k3,if_neg k23,if_neg k4,if_neg k22];repeat' split
  all_goals rfl
theorem J3{α:Type}{l pre suf:List α}{x e:α}(h:l++[x]=pre++e::suf):(∃s2,l=pre++e::s2)∨(pre=l∧e=x):=by
 rcases List.eq_nil_or_concat suf with rfl|⟨ys,y,rfl⟩
 ·have:=List.append_inj' h rfl;right;exact⟨this.1.symm,by have:=this.2;simp at this;exact this.symm⟩
 ·left;have h2:l++[x]=(pre++e::ys)++[y]:=by simpa using h
  exact⟨ys,(List.append_inj' h2 rfl).1⟩
theorem PX{c:bP}{p:List cI×el}{ch:dH}(h:IT c.w p):IT c.w (Jc c p ch):=by
 unfold Jc;split
 ·exact h
 ·split
  ·exact h
  ·rename_i n e hs;obtain⟨e0,th',hp,hr,hl1,hl2,hth,rfl,rfl⟩:=tB hs;obtain⟨ac,af,a3,a23⟩:=PW (i:=de (aD c ch.thread) (bG p.2 ch.thread).pc) (e:=e0) (s:=p.2) (th:=bG p.2 ch.thread) (sv:=(gt c.w p.2.sync ch.thread e0.kind e0.obj ch.wake).2.1);generalize cL (de (aD c ch.thread) (bG p.2 ch.thread).pc) e0 p.2 (bG p.2 ch.thread) (gt c.w p.2.sync ch.thread e0.kind e0.obj ch.wake).2.1=a at *;have al:=A4 hr;have hobc:e0.kind=3∨e0.kind=4→0≤e0.obj∧e0.obj<p.2.cells.length:=λhk=>by unfold allowedS at al;rw[if_neg W4,if_pos hk]at al;rw[hl1];exact ay.1 al
   have hobf:e0.kind=22∨e0.kind=23→0≤e0.obj∧e0.obj<p.2.futures.length:=λhk=>by unfold allowedS at al;rw[if_neg W4,if_neg W4,if_neg W4,if_neg W4,if_neg W4,if_neg W4,if_pos hk]at al;rw[hl2];exact ay.1 al
   have hval:∀l:List Int,iw l e0.obj=l.getD e0.obj.toNat 0:=λl=>rfl
   refine⟨λo ho=>?_,λo ho=>?_,λpre suf e he=>?_⟩
   ·dsimp only at ho ⊢;rw[ac]at ho ⊢;rw[Af];dsimp only;by_cases k4:e0.kind=4
    ·rw[if_pos k4]at ho ⊢;have ho2:o<p.2.cells.length:=by simpa using ho
     obtain⟨b0,b1⟩:=hobc (.inr k4);by_cases heq:e0.obj=o
     ·rw[if_pos ⟨k4,heq⟩];have:e0.obj.toNat=o:=by omega
      rw[this];simp[ho2]
     ·rw[if_neg (λhh=>heq hh.2),←h.cel o ho2];have:e0.obj.toNat≠o:=by omega
      simp[List.getD,Wf,this]
    ·rw[if_neg k4]at ho ⊢;rw[if_neg (λhh=>k4 hh.1)];exact h.cel o ho
   ·dsimp only at ho ⊢;rw[af]at ho ⊢;rw[Af];dsimp only;by_cases k4:e0.kind=22
    ·rw[if_pos k4]at ho ⊢;have ho2:o<p.2.futures.length:=by simpa using ho
     obtain⟨b0,b1⟩:=hobf (.inl k4);by_cases heq:e0.obj=o
     ·rw[if_pos ⟨k4,heq⟩];have:e0.obj.toNat=o:=by omega
      rw[this];simp[ho2]
     ·rw[if_neg (λhh=>heq hh.2),←h.fut o ho2];have:e0.obj.toNat≠o:=by omega
      simp[List.getD,Wf,this]
    ·rw[if_neg k4]at ho ⊢;rw[if_neg (λhh=>k4 hh.1)];exact h.fut o ho
   ·rcases J3 he with⟨s2,h2⟩|⟨rfl,rfl⟩
    ·exact h.evs pre s2 e h2
    ·refine⟨λk3=>?_,λk23=>?_⟩
     ·dsimp only at k3 ⊢;obtain⟨b0,b1⟩:=hobc (.inl k3);have h5:=h.cel e0.obj.toNat W4;rw[Int.toNat_of_nonneg b0]at h5;rw[a3 k3,hval,h5]
     ·dsimp only at k23 ⊢;obtain⟨b0,b1⟩:=hobf (.inr k23);have h5:=h.fut e0.obj.toNat W4;rw[Int.toNat_of_nonneg b0]at h5;rw[a23 k23,hval,h5]
theorem Ol{c:bP}(l:List dH){p:List cI×el}(h:IT c.w p):IT c.w (fE c l p):=by
 induction l generalizing p with
 |nil=>exact h
 |cons ch l ih=>exact ih (PX h)
theorem J4(c:bP):IT c.w ([],cR c) where
 cel:=λo ho=>by
  have h1:o<c.w.cells.length:=by simpa[cR]using ho
  simp[cR,oL,GZ,h1]
 fut:=λo ho=>by
  have h1:o<c.w.futures.length:=by simpa[cR]using ho
  simp[cR,oL,h1]
 evs:=λpre suf e he=>by simp at he
theorem Om(c:bP)(l:List dH):∀(pre suf:List cI) (e:cI),(qT c l).1.ev=pre++e::suf→UQ c.w pre e:=by
 unfold qT;cases hd:m4 (DL c)with
 |true=>exact(Ol l (J4 c)).evs
 |false=>exact λpre suf e he=>by simp at he
end
section
set_option maxRecDepth 100000
def xL(b c:AV)(L:SH)(Q:R):Prop:=W.len b λd=>wb .gtr 3 d (.W9 200) λa=>bH a false c L λe f=>wg a false (W.len e) f λg h=>wg a false (wb .gtr 3 g (.W9 100)) h λi j=>W.pick a (.bool true) i λk=>Q k j
theorem Fe(t0 t1:AV)(L:SH)(Q:R)(h:xL t0 t1 L Q):ai Tryz.prog 5 [t0,t1] L Q:=
 fs [] [] [] [] Tryz.func5 h
def jC(l:Kn)(b:SH)(c d f g m n s:AV):Prop:=(true=true)∧(aO 6 c [] 1 b λt b3=>di [] 3 7 t d b λu b4=>aO 1 u [] 5 b λv b5=>wb .eql 3 v f λa=>W.dgrd a true (λw=>W.faddr 6 c λx=>w x b rz) b λy h b6=>W.dgrd a true (λz=>dl [] 10 y h λA B=>z A h B) h λC o D=>W.dgrd a true (λE=>E d o rz) o λF i b7=>W.dgrd a true (λG=>di [] 12 7 C F i λH I=>G H i I) i λJ p M=>W.dgrd a true (λN=>W.faddr 2 J λO=>N O p rz) p λP j b8=>W.dgrd a true (λS=>dl [] 14 P j λT U=>S T j U) j λV q X=>W.dgrd a true (λY=>W.faddr 2 g λZ=>Y Z q rz) q λa0 k b9=>W.dgrd a true (λa1=>dl [rm 14 X,rm 12 M,rm 10 D] 16 a0 k λa2 a3=>a1 a2 k a3) k λa4 r c0=>W.dgrd a true (λa5=>wb .eql 3 V a4 λa6=>a5 a6 r rz) r λa7 e c1=>W.pick a a7 (.bool false) λa8=>wk a8 (aC 6 c e λa9=>eE 7 3 a9 d e λb0=>wb .add 3 d (.W9 1) λb1=>l [m,c,n,g,f,b0,b1] e) (wb .add 3 d (.W9 1) λb2=>l [m,c,n,g,f,s,b2] e))
def cY(Q:R)(h:Kn)(i:Vs)(a:SH)(j:Kn):Prop:=Mw 5 6 8 9 10 11 12 i λc d b e k f g=>wb .lss 3 g b λl=>wk l ((jC j a d g k e c b f)) (aC 3 e a λm=>wb .neq 2 m f λn=>wk n (Q (.bool false) a) (wb .add 3 b (.W9 1) λo=>h [c,d,o] a))
def cZ(Q:R)(a:Kn)(b:Vs)(c:SH):Prop:=Hf 5 6 8 9 10 11 b λd e f g h i=>W.loop (cY Q a) [d,e,f,g,h,i,(.W9 0)] c
def jD(d:Kn)(a:SH)(b c e f:AV):Prop:=W.faddr 0 b λg=>aC 0 g a λh=>aC 2 c a λi=>eE 5 4 h i a λj=>d [b,e,f,c,(.W9 4),j] a
def jE(d:Kn)(e:SH)(b c f g:AV):Prop:=aC 2 b e λk=>wb .geq 3 k (.W9 0) λa=>wg a true (W.faddr 2 b) e λl h=>wg a true (wl l h) h λm n=>wg a true (W.faddr 0 c) n λo p=>wg a true (W.faddr 0 o) p λq i=>wg a true (wl q i) i λr s=>wg a true (W.len r) s λt u=>wg a true (wb .lss 3 m t) u λv j=>W.pick a v (.bool false) λw=>wk w ((jD d j c b f g)) (d [c,f,g,b,(.W9 4),(.W9 0)] j)
def jF(Q:R)(g:Kn)(a:SH)(b c d e:AV):Prop:=W.join (cZ Q g) λf=>aC 1 b a λh=>wb .eql 3 h (.W9 23) λi=>wk i (f [c,d,e,b,(.W9 22),(.W9 0)] a) ((jE f a b c d e))
def jG(Q:R)(f:Kn)(b:SH)(c d g:AV):Prop:=aC 6 c b λk=>lE 7 k d b λl=>qn [(.W9 0),(.W9 0),(.W9 0),(.W9 0),(.W9 0),.nils,.nils] 7 l b λe h=>aC 1 e h λm=>wb .neq 3 m (.W9 3) λa=>wg a true (W.faddr 1 e) h λn i=>wg a true (wl n i) i λo p=>wg a true (wb .neq 3 o (.W9 23)) p λq j=>W.pick a q (.bool false) λr=>wk r (wb .add 3 d (.W9 1) λs=>f [g,c,s] j) ((jF Q f j e g c d))
def da(Q:R)(d:Vs)(a:SH)(e:Kn):Prop:=vO 5 6 8 d λf b c=>aC 6 b a λg=>W.len g λh=>wb .lss 3 c h λi=>wk i ((jG Q e a b c f)) (wc (.fn 10 []) [] a λj k=>Q j k)
def jH(Q:R)(g:SH)(h:AV)(c d:Fp)(e:AV)(i:SH)(j:Ns):Prop:=wn [] j [] g.names λf=>W.ext 0 e λk=>W.ext 1 e λl=>W.calm [rc 3 f,rc 2 c,rm 0 d] ⟨7,[],[],[],false,[]⟩ (W.alloc [.nils,.nils,.nils,.nils,.nils,.nils,.nils] i λa m=>wn [] [] (aa a) [] λn=>W.calm [rm 7 n,rc 3 f,rc 2 c,rm 0 d] ⟨8,[],[],[],false,[]⟩ (W.alloc [.nils,(.W9 0),.nils,.nils,.nils,.nils,.nils] m λb o=>wn [] [] (aa b) [] λu=>ds [] 9 7 a k o λp v=>ds [] 10 7 b l p λq w=>W.frz1 a q λr s=>W.frz1 b s λx t=>W.loop (da Q) [h,r,(.W9 0)] t))
def jI(Q:R)(b:SH)(c d:AV)(e:Fp)(f:AV)(a:SH)(g:Ns):Prop:=wn [] g [] b.names λh=>wd [] 3 (.fn 8 []) [c,f] a (jH Q a d h e)
def jJ(Q:R)(d e:AV)(f:SH):Prop:=qn [.nils,.nils,.nils,.nils,.nils,.nils,.nils] 7 e f λb a=>(true=true)∧(dr [] 0 7 b a λg c=>wd [rm 0 c] 2 (.fn 7 []) [d] a (jI Q a g b c))
def jK(Q:R)(b c d:AV)(a:SH):Prop:=wk d (Q (.bool true) a) (wc (.fn 6 []) [b] a (jJ Q c))
def eW(a b:AV)(L:SH)(Q:R):Prop:=wc (.fn 5 []) [a,b] L (jK Q a b)
theorem jL(t0 t1:AV)(L:SH)(Q:R)(h:eW t0 t1 L Q):ai Tryz.prog 4 [t0,t1] L Q:=
 fs [(15,[5,6,8,9,10,11])] [(17,[5,6,8,9,10,11,12]),(6,[5,6,8])] [(3,[5]),(4,[6,7]),(8,[9])] [(4,[0,0,2,7,15,31,31,0,0,447,1023]),(19,[0,1,0,7,15,31,0,127,255,511,1023,511,4095,8191,16383,511,33279,131071,262143])] Tryz.func4 h
def Ca(i:Kn)(a:SH)(d e b:AV):Prop:=(true=true)∧(di [] 3 1 d e a λj f=>dl [] 4 j a λk g=>W.conv .i64 k λl=>wb .rem 3 l (.W9 4) λm=>di [rm 4 g,rm 3 f] 9 1 d e a λn x=>dl [rm 4 g,rm 3 f] 10 n a λo y=>W.conv .i64 o λp=>wb .quo 3 p (.W9 4) λq=>wb .rem 3 q (.W9 5) λr=>wb .sub 3 r (.W9 1) λs=>W.build [(.W9 0),(.W9 0)] [(0,1,m),(1,1,s)] λt=>W.calm [] ⟨16,[],[],[],false,[]⟩ (W.bslice 2 [(.W9 0),(.W9 0)] 1 [(0,t)] a λc u=>wn [] [] (aa c) [] λz=>W.calm [] ⟨17,(aa b++aa c),(aa b),[],false,[]⟩ (W.append 2 16 b c u λh v=>wn (aa b++aa c) (aa b) (aa h) [] λA=>wb .add 3 e (.W9 1) λw=>i [d,h,w] v)))
def nS(Q:R)(e:Vs)(a:SH)(f:Kn):Prop:=vO 0 3 4 e λb c d=>W.len b λg=>wb .lss 3 d g λh=>wk h ((Ca f a b d c)) (Q c a)
def qa(a:AV)(L:SH)(Q:R):Prop:=W.loop (nS Q) [a,.nils,(.W9 0)] L
theorem Cb(t0:AV)(L:SH)(Q:R)(h:qa t0 L Q):ai Tryz.prog 7 [t0] L Q:=
 fs [] [(3,[0,3,4])] [] [(5,[0,0,0,6,14,30,62,0,0,384,896,1920,3968,8064,16256,32766,65534,131071,262143])] Tryz.func7 h
end
section
set_option maxRecDepth 100000
theorem ai.pure{P:Program}{f:FuncId}{args:List AV}{Q:AV→SH→Prop}(h:ai P f args [] Q)(ha:∀a∈args,aY a)(hv:∀u K,Q u K→aY u):∃v K,Q v K∧aB P f args v:=by
 obtain⟨v,H',L',h1,h2,h3⟩:=h.2 ae.empty (λb _=>cT b) ⟨Ws,nofun⟩;have hV:Kx P f args v:=λw σ vs hW hvs=>(h1 w σ vs hW hvs).mono λe w' ⟨v',σ',he,k1,k2,k3,k4⟩=>⟨v',σ',H',he,k1,k3⟩
 exact⟨v,L',h3,h.1,λH hb hs=>⟨v,H,[],S5 (hv _ _ h3) (λi a hi=>ha a (V2 hi)) hV H,.refl hb hs,rfl,rfl⟩⟩
theorem aY.lsts{rows:List (List AV)}(h:∀r∈rows,∀a∈r,aY a):aY (.lst rows):=.lst rows λi r j a h1 h2=>h r (V2 h1) a (V2 h2)
theorem aY.lmap{α:Type}{f:α→List AV}{l:List α}(h:∀x∈l,∀a∈f x,aY a):aY (.lst (l.map f)):=.lsts λr hr=>by obtain⟨x,hx,rfl⟩:=V0.1 hr;exact h x hx
theorem aY.aggs{cs:List AV}(h:∀a∈cs,aY a):aY (.agg cs):=.agg cs λi a hi=>h a (V2 hi)
theorem aY.tups{cs:List AV}(h:∀a∈cs,aY a):aY (.tup cs):=.tup cs λi a hi=>h a (V2 hi)
theorem md(s:bj):∀a∈aw s,aY a:=λa h=>by rw[Vv.1 h];exact .str _
mutual
theorem au.pure:∀x:au,∀a∈x.enc,aY a
 | .mk op n name l=>by have:=au.pures l;simp only[au.enc,V3,VY,false_implies,implies_true,and_true];exact⟨.int _ _,.int _ _,.str _,.lsts this⟩
theorem au.pures:∀l:List au,∀r∈au.encs l,∀a∈r,aY a
 |[]=>nofun
 | x::l=>by simp only[au.encs,V3];exact⟨au.pure x,au.pures l⟩
end
mutual
theorem ab.pure:∀x:ab,∀a∈x.enc,aY a
 | .mk op line name arg index e body els=>by
  have h1:=ab.pures body;have h2:=ab.pures els
  simp only[ab.enc,V3,VY,false_implies,implies_true,and_true];exact⟨.int _ _,.int _ _,.str _,.str _,.lmap λx _=>x.pure,.int _ _,.int _ _,.str _,.lmap λx _=>x.pure,.lsts h1,.lsts h2⟩
theorem ab.pures:∀l:List ab,∀r∈ab.encs l,∀a∈r,aY a
 |[]=>nofun
 | x::l=>by simp only[ab.encs,V3];exact⟨ab.pure x,ab.pures l⟩
end
theorem aH.pure(d:aH):∀a∈d.enc,aY a:=by simp only[aH.enc,V3,VY,false_implies,implies_true,and_true];exact⟨.int _ _,.int _ _,.str _,.int _ _,.int _ _,.str _⟩
theorem aj.pure(d:aj):∀a∈d.enc,aY a:=by simp only[aj.enc,V3,VY,false_implies,implies_true,and_true];exact⟨.str _,.int _ _,.lmap λx _=>md x,.lmap λx _=>x.pure⟩
theorem bO.pure(p:bO):aY (.agg p.enc):=.aggs (by
 simp only[bO.enc,V3,VY,false_implies,implies_true,and_true];exact⟨.lmap λx _=>x.pure,.lmap λx _=>x.pure⟩)
theorem On(e ln:Int):aY (.tup [.W9 e,.W9 ln]):=.tups (by
 simp only[V3,VY,false_implies,implies_true,and_true];exact⟨.int _ _,.int _ _⟩)
theorem aH.wt_pos(d:aH):1≤d.wt:=by unfold aH.wt;omega
theorem aj.wt_pos(d:aj):1≤d.wt:=by unfold aj.wt;omega
theorem aj.local_len(t:aj){i:Nat}(h:i<t.locals.length):t.locals[i].length<t.wt:=by have:=Cr (f:=List.length) t.locals i h;unfold aj.wt;omega
theorem bO.decl_wt(p:bO){i:Nat}(h:i<p.decls.length):p.decls[i].wt≤p.wt:=by have:=Cr (f:=aH.wt) p.decls i h;unfold bO.wt;omega
theorem bO.thread_wt(p:bO){i:Nat}(h:i<p.threads.length):p.threads[i].wt≤p.wt:=by have:=Cr (f:=aj.wt) p.threads i h;unfold bO.wt;omega
theorem bO.decls_len(p:bO):p.decls.length≤p.wt:=by have:=Gu aH.wt_pos p.decls;unfold bO.wt;omega
theorem bO.threads_len(p:bO):p.threads.length≤p.wt:=by have:=Gu aj.wt_pos p.threads;unfold bO.wt;omega
theorem tC{α:Type}{p:α→Bool}:∀(l:List α) (j:Nat),(mO p l j=-1∧l.find? p=none)∨∃(k:Nat) (h:k<l.length),mO p l j=(j+k:Nat)∧l.find? p=some l[k]
 |[],_=>.inl ⟨rfl,rfl⟩
 | x::l,j=>by
  by_cases h:p x=true
  ·exact .inr ⟨0,W7,by simp[mO,h],by simp[h]⟩
  ·rcases tC (p:=p) l (j+1)with⟨h1,h2⟩|⟨k,h1,h2,h3⟩
   ·exact .inl ⟨by simp[mO,h,h1],by simp[h,h2]⟩
   ·refine .inr ⟨k+1,by simpa using h1,?_,by simpa[h]using h3⟩;simp only[mO,h,VQ,if_false,h2];congr 1;omega
theorem ge{α:Type}{f:α→List AV}{l:List α}{n i:Nat}{k:IntKind}{L:SH}{K:AV→Prop}(h:K (.lst ((l.take i).map f)))(hi:i≤l.length:=by omega)(hn:∀x,(f x).length=n:=by intro x;rfl):W.slice n (.lst (l.map f)) none (some (.int k (i:Int))) none L K:=by
 refine LC (l:=0) (h:=i) rfl ?_ (V1 _) (by simpa using hi) (λr hr=>?_) ?_
 ·simp[cE,nu]
 ·cases l with
  |nil=>cases hr
  |cons x l=>simp at hr;rw[←hr];exact hn x
 ·simpa[List.map_take]using h
theorem J5{k:IntKind}{a b:Int}{K:AV→Prop}(h:K (.int k (if b > a then b else a))):W.mnx true (.int k a) (.int k b) K:=by rw[Qs];exact h
theorem Oo{k:IntKind}{s:Int}{K:AV→Prop}(h:K (.int k (((max s 1).toNat:Nat):Int))):W.mnx true (.int k s) (.int k 1) K:=by
 rw[Qs];have:(if(1:Int) > s then(1:Int)else s)=(((max s 1).toNat:Nat):Int):=by split<;>omega
 rw[this];exact h
structure na where
 t:Nat
 o1:Option Nat
 ar:List ab
 k:Nat
 o2:Option Nat
 sp:List bj
 o3:Option Nat
 se:List bj
def na.row(p:bO)(s:na):List AV:=[.lst (p.decls.map aH.enc),.lst (p.threads.map aj.enc),.W9 s.t,aq s.o1 s.k,aq s.o2 s.sp.length,aq s.o3 s.se.length]
def na.L(p:bO)(bw:Nat)(s:na):SH:=(bw,⟨6,[s.row p]⟩)::(ah s.o1 11 (s.ar.map ab.enc)++(ah s.o2 1 (s.sp.map aw)++ah s.o3 1 (s.se.map aw)))
structure na.Ok(s:na)(m:Nat):Prop where
 a0:s.o1=none→s.ar=[]
 ak:s.k≤s.ar.length
 k6:s.k≤6
 p0:s.o2=none→s.sp=[]
 e0:s.o3=none→s.se=[]
 pm:s.sp.length≤m
 em:s.se.length≤m
theorem ai.permR{P:Program}{f:FuncId}{args:List AV}{L:SH}{Q:AV→SH→Prop}(h:ai P f args L λv L'=>∃L'',L'.Perm L''∧Q v L''):ai P f args L Q:=⟨h.1,λH hb hs=>by
 obtain⟨v,H',L',h1,h2,L'',hp,h3⟩:=h.2 H hb hs;exact⟨v,H',L'',h1,h2.permS hp,h3⟩⟩
theorem ai.within{P:Program}{f:FuncId}{args:List AV}{K L R:SH}{α:Type}{F:α→AV}(h:ai P f args K λu K'=>∃r,u=F r∧K'=K)(hp:L.Perm (K++R)):ai P f args L λu K'=>∃r,u=F r∧K'=L:=
 ai.permR (h.frame hp λv K' ⟨r,h1,h2⟩=>⟨L,by rw[h2];exact hp.symm,r,h1,rfl⟩)
theorem ab.wts_succ{l:List ab}{i:Nat}(h:i<l.length):ab.wts (l.take (i+1))=ab.wts (l.take i)+l[i].wt:=by
 rw[Vw h];generalize l.take i=m
 induction m with
 |nil=>simp[ab.wts]
 |cons y m ih=>simp only[Wz,ab.wts,ih];omega
theorem ab.wts_take(l:List ab)(i:Nat):ab.wts (l.take i)≤ab.wts l:=by
 induction l generalizing i with
 |nil=>simp
 | cons x l ih=>cases i with
  |zero=>simp[ab.wts]
  |succ i=>have:=ih i;simp only[List.take_succ_cons,ab.wts];omega
theorem Cs{o:Option Nat}{k:Nat}{K:AV→Prop}(h:K (.W9 (k:Int)))(h0:o=none→k=0):W.len (aq o k) K:=by
 cases o with
 |none=>rw[h0 rfl]at h;exact Gm h
 |some b=>exact Gj h
theorem IU{KL:R}{L L':SH}{o:Option Nat}{i n by_ bX:Nat}{rows m:List (List AV)}{r:List AV}(hX:(bX,(⟨n,m⟩:Blk))∈L)(hm:m=[r])(hd:dQ o n rows L L')(hr:i≤rows.length)(h0:o=none→rows=[])(hb:i≤1000)(hby:by_≤1000)(h4:r.all AV.one=true)
  (h:∀b,b∉L.names→KL (.sl b 0 (i+1)) ((b,⟨n,rows.take i++[r]⟩)::L')):W.append n by_ (aq o i) (.sl bX 0 1) L KL:=by
 subst hm;have e1:2*(i+(0+1))*by_≤2*(1000+1)*1000:=Nat.mul_le_mul W4 hby
 have e2:2*(0+1)*by_≤2*(0+1)*1000:=Nat.mul_le_mul W4 hby
 cases o with
 |none=>
  have hr0:=h0 rfl;subst hr0;obtain rfl:i=0:=by simpa using hr
  have hl:=hd.none';subst hl;exact Gl (KL:=KL) (by_:=by_) (mM hX rfl rfl) (by show 2*(0+1)*by_≤2^48;omega) W7 (by simpa using h4) W7 (λb hb=>by simpa using h b hb)
 |some b=>
  refine qm (y:=⟨n,rows⟩) (l:=rows.take i) hd.some'.mem' rfl (by simpa using hr) W7 (mM hX rfl rfl) ?_ ?_ (by simpa using h4) hd.some' (λb' hb=>?_)
  ·rw[VR,Wd hr];simp only[VL,VU];omega
  ·rw[VR,Wd hr];simp only[VL,VU];omega
  ·rw[VR,Wd hr];exact h b' hb
theorem Sp{α:Type}(a t b:α)(R:List α):(a::t::b::R).Perm ((b::([a]++R))++[t]):=by have h:(a::t::b::R).Perm ([t]++(b::([a]++R))):=(List.Perm.swap t a _).trans ((List.Perm.swap b a R).cons t);exact h.trans VT
theorem Ag{n b k m:Nat}{kd:IntKind}{y:Blk}{L:SH}{K:AV→Prop}(h:K (.sl b 0 k))(hh:k≤m)(hm:(b,y)∈L)(hs:y.size=n):W.slice n (.sl b 0 m) none (some (.int kd (k:Int))) none L K:=by refine zb (l:=0) (h:=k) rfl (by simp[cE,nu]) (V1 _) hh hm hs ?_;simpa using h
def G0:List AV:=[.W9 0,.W9 0,.str [],.str [],.nils,.W9 0,.W9 0,.str [],.nils,.nils,.nils]
theorem Ff{α:Type}{f:α→Nat}{l:List α}{i:Nat}(h:i<l.length):((l.take (i+1)).map f).sum=((l.take i).map f).sum+f l[i]:=by rw[Vw h,Vr,List.sum_append];simp
def gC{α:Type}(f:α→Nat)(l:List α):Nat:=(l.map f).sum
theorem J6{α:Type}{f:α→Nat}{l:List α}{i:Nat}(h:i<l.length):gC f (l.take (i+1))=gC f (l.take i)+f l[i]:=Ff h
theorem D6{α:Type}(f:α→Nat)(l:List α)(i:Nat):gC f (l.take i)≤gC f l:=by
 unfold gC
 induction l generalizing i with
 |nil=>simp
 | cons x l ih=>cases i with
  |zero=>simp
  |succ i=>have:=ih i;simp only[List.take_succ_cons,Vp,Wm];omega
theorem IV{α:Type}{f g:α→Nat}(h:∀x,f x≤g x)(l:List α):gC f l≤gC g l:=by
 unfold gC
 induction l with
 |nil=>simp
 |cons x l ih=>have:=h x;simp only[Vp,Wm];omega
theorem xM{P:Program}{g:FuncId}{args:List AV}{K M L:SH}{R1:AV→SH→Prop}{KL:R}(h:ai P g args K R1)(hL:L.Perm (K++M))(hq:∀v K',R1 v K'→∃L'',(K'++M).Perm L''∧KL v L''):W.callM P g args L KL:=⟨ai.permR (h.frame hL hq)⟩
theorem Ct{n:Nat}{rows:List (List AV)}:ah none n rows=[]:=rfl
theorem Cu{b n:Nat}{rows:List (List AV)}:ah (some b) n rows=[(b,⟨n,rows⟩)]:=rfl
theorem ng{P:Program}{g:FuncId}{args:List AV}{i:Nat}{L:SH}{KN:AV→SH→List Nat→Prop}(h:W.callM P g args L (λv K=>∀ks,KN v K ks)):W.dcallM P [] i g args L KN:=
 ⟨L,[],W7,nofun,h.1.mono λv K' hr=>by simpa using hr _⟩
mutual
def ab.cnt:ab→Nat
 |.mk _ _ _ _ _ _ body els=>ab.cnts body+ab.cnts els
def ab.cnts:List ab→Nat
 |[]=>0
 |x::l=>1+x.cnt+ab.cnts l
end
theorem ab.cnt_eq(x:ab):x.cnt=ab.cnts x.body+ab.cnts x.els:=by cases x;rfl
mutual
theorem ab.cnt_wt:∀x:ab,x.cnt<x.wt
 |.mk a b c d e f body els=>by have:=ab.cnts_wt body;have:=ab.cnts_wt els;simp only[ab.cnt,ab.wt];omega
theorem ab.cnts_wt:∀l:List ab,ab.cnts l≤ab.wts l
 |[]=>Vo _
 |x::l=>by have:=ab.cnt_wt x;have:=ab.cnts_wt l;simp only[ab.cnts,ab.wts];omega
end
def fq(b:UInt8):List AV:=[.int .u8 (b.toNat:Int)]
end
end Go.Proofs.YtenbpcngcicamaaGreatDoor.Am
