/- A part of the proof; the statement is proved in the last part. -/
import Derived.Test.YtenbpcngcicamaaGreatDoorQbo
set_option linter.unusedSimpArgs false
set_option linter.unusedVariables false
namespace Go.Proofs.YtenbpcngcicamaaGreatDoor.Am
section
set_option maxRecDepth 100000
set_option maxHeartbeats 4000000
set_option linter.unusedSimpArgs false
set_option linter.unusedSectionVars false
section
variable (c:bN) (s:eh) (t wake:Int) (h1:inB t s.threads.length=true) (hc:inB t c.ts.length=true) (th:aV) (i:bj) (sy:SyncD) (sv:Int) (e:da) (b132 b24 b8 b6 bt tb:Nat) (o oc of:Option Nat) (hn1:b24≠b6) (ho:o=none→th.regs=[]) (hoc:oc=none→s.cells=[]) (hof:of=none→s.futures=[])
 (htn:th.taint.length=th.regs.length) (hse:az Tryz.prog 58 [.agg (aB c t).enc,.agg (dP i e s th sv).thread.enc] (Dk (bV (aB c t) (dP i e s th sv).thread))) (Q:R) (hq:∀v L,Fz L v (G1 (Af c s t sy e (dP i e s th sv)))→Q v L)
def jx(c:bN)(s:eh)(t wake:Int)(th:aV)(i:bj)(sy:SyncD)(sv:Int)(e:da)(b132 b24 b8 b6 bt tb:Nat)(o oc of:Option Nat)(Q:R):Prop:=
 iq Q ((b132,⟨7,[gv s sy bt oc of]⟩)::jw s t th e b24 b8 b6 bt tb o (hO s th tb o oc of)) (.ptr b132 0 0) (.ptr b24 0 0) (.ptr bt t.toNat 0) (.pptr [i.enc] 0 0) (.W6 th.ev) (.pptr [c.enc] 0 0) (.pptr [[.W6 t,.W6 wake]] 0 0) (.ptr b6 0 0) (.ptr b8 0 0) (.W6 (IntKind.i64.wrap (th.pc+1))) (.W6 sv)
include h1 hc hn1 ho hoc hof htn hse hq
theorem U8(hk:e.kind=3)(ra:0≤i.a∧i.a<th.regs.length)(hob:inB e.obj s.cells.length=true):jx c s t wake th i sy sv e b132 b24 b8 b6 bt tb o oc of Q:=by
 have hact:dP i e s th sv=⟨jW s.cells e.obj,s.cells,s.futures,⟨IntKind.i64.wrap (th.pc+1),th.regs.set i.a.toNat (jW s.cells e.obj),th.taint.set i.a.toNat [th.ev],IntKind.i64.wrap (th.ev+1)⟩⟩:=by simp[dP,hk]
 rw[hact]at hse hq;obtain⟨e1,ek,eo,v0,es,d,f⟩:=e;obtain⟨op,ia,ib,ic,m,site⟩:=i;dsimp only at *;subst hk;have hob1:=ax.1 hob;have hi1:=ax.1 h1;cases o with
 |none=>rw[ho rfl]at ra;simp at ra;omega
 |some bo=>
  cases oc with
  |none=>rw[hoc rfl]at hob1;simp at hob1;omega
  |some boc=>
   unfold jx iq jw hO gv cG;obtain⟨J,hJ⟩:∃J,J=bE Q:=⟨_,rfl⟩;rw[←hJ];have s0:=dQ (cG th tb (some bo)) (l:=s.threads.map aV.enc) (n:=t.toNat) (by simp;omega);unfold cG at s0;dsimp only[aO,ae,List.cons_append,List.nil_append]at *;have y1:=pR (s:=th) ra.1 ra.2;have y2:=tz (s:=th) ra.1 W1;have y3:(s.cells.map aj)[eo.toNat]? =some [.W6 (jW s.cells eo)]:=mZ hob;have z1:ia.toNat<th.regs.length:=by omega
   have z2:ia.toNat<th.taint.length:=by omega
   have z3:eo.toNat<s.cells.length:=by omega
   repeat' (first|refine cF ra.1 z1 rp rfl ?_|refine cF ra.1 z2 rp rfl ?_|refine cF hob1.1 z3 rp rfl ?_|refine FG (cF hob1.1 z3 rp rfl ?_)|refine st ?_|refine sb λnb_ hnb_=>?_|refine s2 (λh=>?_) λh=>?_|fail)
   rw[hJ];refine D3 c s t wake h1 hc sy ⟨e1,3,eo,v0,es,d,f⟩ ⟨jW s.cells eo,s.cells,s.futures,⟨IntKind.i64.wrap (th.pc+1),th.regs.set ia.toNat (jW s.cells eo),th.taint.set ia.toNat [th.ev],IntKind.i64.wrap (th.ev+1)⟩⟩ b132 b24 b8 b6 bt (some boc) of [(nb_,⟨1,[[.W6 th.ev]]⟩),(bo,⟨1,(th.regs.map aj).set ia.toNat [.W6 (jW s.cells eo)]⟩),(tb,⟨1,(th.taint.map cm).set ia.toNat [.sl nb_ 0 1]⟩)]
    ((boc,⟨1,s.cells.map aj⟩)::ae of 1 (s.futures.map aj)) ((bo,⟨1,(th.regs.map aj).set ia.toNat [.W6 (jW s.cells eo)]⟩)::(tb,⟨1,(th.taint.map cm).set ia.toNat [.sl nb_ 0 1]⟩)::(boc,⟨1,s.cells.map aj⟩)::ae of 1 (s.futures.map aj)) [(nb_,⟨1,[[.W6 th.ev]]⟩)] (.inr ⟨_,rfl⟩) (by dsimp only;omega) (.refl _) (.sl bo 0 th.regs.length) (.sl tb 0 th.taint.length) ?_ ?_ hn1 nofun hof ?_ ?_ hse th.pc th.ev rfl Q hq
   ·exact λL hL=>Fz.sls (hL _ (.tail _ (.head _))) (by simp[Wh,aj]) W5 W4
   ·exact λL hL=>J1 W5 rfl z2 (hL _ (.tail _ (.tail _ (.head _)))) (.cons (Fz.sls (l:=[th.ev]) (f:=aj) (hL _ (.head _)) rfl W5 rfl) .nil)
   ·exact λb hb=>by cases hb;exact⟨_,rfl,.head _⟩
   ·exact λb hb=>by subst hb;exact⟨_,rfl,.tail _ (.head _)⟩
theorem Uj(hk:e.kind=23)(ra:0≤i.a∧i.a<th.regs.length)(hob:inB e.obj s.futures.length=true):jx c s t wake th i sy sv e b132 b24 b8 b6 bt tb o oc of Q:=by
 have hact:dP i e s th sv=⟨jW s.futures e.obj,s.cells,s.futures,⟨IntKind.i64.wrap (th.pc+1),th.regs.set i.a.toNat (jW s.futures e.obj),th.taint.set i.a.toNat [th.ev],IntKind.i64.wrap (th.ev+1)⟩⟩:=by simp[dP,hk]
 rw[hact]at hse hq;obtain⟨e1,ek,eo,v0,es,d,f⟩:=e;obtain⟨op,ia,ib,ic,m,site⟩:=i;dsimp only at *;subst hk;have hob1:=ax.1 hob;have hi1:=ax.1 h1;cases o with
 |none=>rw[ho rfl]at ra;simp at ra;omega
 |some bo=>
  cases of with
  |none=>rw[hof rfl]at hob1;simp at hob1;omega
  |some bof=>
   unfold jx iq jw hO gv cG;obtain⟨J,hJ⟩:∃J,J=bE Q:=⟨_,rfl⟩;rw[←hJ];have s0:=dQ (cG th tb (some bo)) (l:=s.threads.map aV.enc) (n:=t.toNat) (by simp;omega);unfold cG at s0;have y1:=pR (s:=th) ra.1 ra.2;have y2:=tz (s:=th) ra.1 W1;have y3:(s.futures.map aj)[eo.toNat]? =some [.W6 (jW s.futures eo)]:=mZ hob;have z1:ia.toNat<th.regs.length:=by omega
   have z2:ia.toNat<th.taint.length:=by omega
   have z3:eo.toNat<s.futures.length:=by omega
   have goal:∀(nb_:Nat) (A:SH),A=[(bof,⟨1,s.futures.map aj⟩)]→J [.pptr [c.enc] 0 0,.pptr [[.W6 t,.W6 wake]] 0 0,.ptr b6 0 0,.ptr b8 0 0,.ptr b24 0 0,.ptr b132 0 0,.ptr bt t.toNat 0,.W6 (IntKind.i64.wrap (th.pc+1))]
     ((nb_,⟨1,[[.W6 th.ev]]⟩)::(b132,⟨7,[gv s sy bt oc (some bof)]⟩)::(b24,⟨7,[(da.mk e1 23 eo (jW s.futures eo) es d f).enc]⟩)::(b8,⟨7,[dV]⟩)::(b6,⟨7,[bG]⟩)::(bt,⟨4,(s.threads.map aV.enc).set t.toNat (cG th tb (some bo))⟩)::(bo,⟨1,(th.regs.map aj).set ia.toNat [.W6 (jW s.futures eo)]⟩)::(tb,⟨1,(th.taint.map cm).set ia.toNat [.sl nb_ 0 1]⟩)::(ae oc 1 (s.cells.map aj)++A)):=by
    rintro nb_ A rfl;rw[hJ];refine D3 c s t wake h1 hc sy ⟨e1,23,eo,v0,es,d,f⟩ ⟨jW s.futures eo,s.cells,s.futures,⟨IntKind.i64.wrap (th.pc+1),th.regs.set ia.toNat (jW s.futures eo),th.taint.set ia.toNat [th.ev],IntKind.i64.wrap (th.ev+1)⟩⟩ b132 b24 b8 b6 bt oc (some bof) [(nb_,⟨1,[[.W6 th.ev]]⟩),(bo,⟨1,(th.regs.map aj).set ia.toNat [.W6 (jW s.futures eo)]⟩),(tb,⟨1,(th.taint.map cm).set ia.toNat [.sl nb_ 0 1]⟩)]
     (ae oc 1 (s.cells.map aj)++[(bof,⟨1,s.futures.map aj⟩)]) ((bo,⟨1,(th.regs.map aj).set ia.toNat [.W6 (jW s.futures eo)]⟩)::(tb,⟨1,(th.taint.map cm).set ia.toNat [.sl nb_ 0 1]⟩)::(ae oc 1 (s.cells.map aj)++[(bof,⟨1,s.futures.map aj⟩)])) [(nb_,⟨1,[[.W6 th.ev]]⟩)] (.inr ⟨_,rfl⟩) (by dsimp only;omega) (.refl _) (.sl bo 0 th.regs.length) (.sl tb 0 th.taint.length) ?_ ?_ hn1 hoc nofun ?_ ?_ hse th.pc th.ev rfl Q hq
    ·exact λL hL=>Fz.sls (hL _ (.tail _ (.head _))) (by simp[Wh,aj]) W5 W4
    ·exact λL hL=>J1 W5 rfl z2 (hL _ (.tail _ (.tail _ (.head _)))) (.cons (Fz.sls (l:=[th.ev]) (f:=aj) (hL _ (.head _)) rfl W5 rfl) .nil)
    ·exact λb hb=>by subst hb;exact⟨_,rfl,.head _⟩
    ·exact λb hb=>by cases hb;exact⟨_,rfl,W4⟩
   cases oc
   all_goals
    dsimp only[aO,ae,List.cons_append,List.nil_append]at *
    repeat' (first|refine cF ra.1 z1 rp rfl ?_|refine cF ra.1 z2 rp rfl ?_|refine cF hob1.1 z3 rp rfl ?_|refine FG (cF hob1.1 z3 rp rfl ?_)|refine st ?_|refine sb λnb_ hnb_=>?_|refine s2 (λh=>?_) λh=>?_|fail)
    exact goal nb_ _ rfl
end
end
section
set_option maxRecDepth 100000
set_option maxHeartbeats 4000000
set_option linter.unusedSimpArgs false
set_option linter.unusedSectionVars false
section
variable (c:bN) (s:eh) (t wake:Int) (h1:inB t s.threads.length=true) (hc:inB t c.ts.length=true) (th:aV) (i:bj) (sy:SyncD) (sv:Int) (e:da) (b132 b24 b8 b6 bt tb:Nat) (o oc of:Option Nat) (hn1:b24≠b6) (ho:o=none→th.regs=[]) (hoc:oc=none→s.cells=[]) (hof:of=none→s.futures=[])
 (htn:th.taint.length=th.regs.length) (hse:az Tryz.prog 58 [.agg (aB c t).enc,.agg (dP i e s th sv).thread.enc] (Dk (bV (aB c t) (dP i e s th sv).thread))) (Q:R) (hq:∀v L,Fz L v (G1 (Af c s t sy e (dP i e s th sv)))→Q v L)
include h1 hc hn1 ho hoc hof htn hse hq
theorem Va(hk:e.kind=4)(ra:0≤i.b∧i.b<th.regs.length)(hob:inB e.obj s.cells.length=true):jx c s t wake th i sy sv e b132 b24 b8 b6 bt tb o oc of Q:=by
 have hact:dP i e s th sv=⟨th.reg i.b,s.cells.set e.obj.toNat (th.reg i.b),s.futures,⟨IntKind.i64.wrap (th.pc+1),th.regs,th.taint,IntKind.i64.wrap (th.ev+1)⟩⟩:=by simp[dP,hk]
 rw[hact]at hse hq;obtain⟨e1,ek,eo,v0,es,d,f⟩:=e;obtain⟨op,ia,ib,ic,m,site⟩:=i;dsimp only at *;subst hk;have hob1:=ax.1 hob;have hi1:=ax.1 h1;cases o with
 |none=>rw[ho rfl]at ra;simp at ra;omega
 |some bo=>
  cases oc with
  |none=>rw[hoc rfl]at hob1;simp at hob1;omega
  |some boc=>
   unfold jx iq jw hO gv cG;obtain⟨J,hJ⟩:∃J,J=bE Q:=⟨_,rfl⟩;rw[←hJ];have s0:=dQ (cG th tb (some bo)) (l:=s.threads.map aV.enc) (n:=t.toNat) (by simp;omega);unfold cG at s0;have y1:=pR (s:=th) ra.1 ra.2;have y3:(s.cells.map aj)[eo.toNat]? =some [.W6 (jW s.cells eo)]:=mZ hob;have z1:ib.toNat<th.regs.length:=by omega
   have z3:eo.toNat<s.cells.length:=by omega
   have goal:∀(A:SH),A=[]→J [.pptr [c.enc] 0 0,.pptr [[.W6 t,.W6 wake]] 0 0,.ptr b6 0 0,.ptr b8 0 0,.ptr b24 0 0,.ptr b132 0 0,.ptr bt t.toNat 0,.W6 (IntKind.i64.wrap (th.pc+1))]
     ((b132,⟨7,[gv s sy bt (some boc) of]⟩)::(b24,⟨7,[(da.mk e1 4 eo (th.reg ib) es d f).enc]⟩)::(b8,⟨7,[dV]⟩)::(b6,⟨7,[bG]⟩)::(bt,⟨4,(s.threads.map aV.enc).set t.toNat (cG th tb (some bo))⟩)::(bo,⟨1,th.regs.map aj⟩)::(tb,⟨1,th.taint.map cm⟩)::((boc,⟨1,(s.cells.map aj).set eo.toNat [.W6 (th.reg ib)]⟩)::(ae of 1 (s.futures.map aj)++A))):=by
    rintro A rfl;rw[hJ];have:=D3 c s t wake h1 hc sy ⟨e1,4,eo,v0,es,d,f⟩ ⟨th.reg ib,s.cells.set eo.toNat (th.reg ib),s.futures,⟨IntKind.i64.wrap (th.pc+1),th.regs,th.taint,IntKind.i64.wrap (th.ev+1)⟩⟩ b132 b24 b8 b6 bt (some boc) of [(bo,⟨1,th.regs.map aj⟩),(tb,⟨1,th.taint.map cm⟩)]
     ((boc,⟨1,(s.cells.map aj).set eo.toNat [.W6 (th.reg ib)]⟩)::(ae of 1 (s.futures.map aj)++[])) ((bo,⟨1,th.regs.map aj⟩)::(tb,⟨1,th.taint.map cm⟩)::((boc,⟨1,(s.cells.map aj).set eo.toNat [.W6 (th.reg ib)]⟩)::(ae of 1 (s.futures.map aj)++[]))) [] (.inl rfl) (λ_=>rfl) (.refl _) (.sl bo 0 th.regs.length) (.sl tb 0 th.taint.length) ?_ ?_ hn1 nofun hof ?_ ?_ hse th.pc th.ev rfl Q hq
    ·simp only[List.length_set]at this;exact this
    ·exact λL hL=>Fz.sls (hL _ (.head _)) rfl W5 rfl
    ·exact λL hL=>Fz.sls (hL _ (.tail _ (.head _))) rfl W5 rfl
    ·exact λb hb=>by cases hb;exact⟨_,by simp[Wh,aj],.head _⟩
    ·exact λb hb=>by subst hb;exact⟨_,rfl,.tail _ (.head _)⟩
   cases of
   all_goals
    dsimp only[aO,ae,List.cons_append,List.nil_append]at *
    repeat' (first|refine cF ra.1 z1 rp rfl ?_|refine cF hob1.1 z3 rp rfl ?_|refine FG (cF hob1.1 z3 rp rfl ?_)|refine st ?_|refine sb λnb_ hnb_=>?_|refine s2 (λh=>?_) λh=>?_|fail)
    exact goal _ rfl
theorem Uk(hk:e.kind=22)(ra:0≤i.b∧i.b<th.regs.length)(hob:inB e.obj s.futures.length=true):jx c s t wake th i sy sv e b132 b24 b8 b6 bt tb o oc of Q:=by
 have hact:dP i e s th sv=⟨th.reg i.b,s.cells,s.futures.set e.obj.toNat (th.reg i.b),⟨IntKind.i64.wrap (th.pc+1),th.regs,th.taint,IntKind.i64.wrap (th.ev+1)⟩⟩:=by simp[dP,hk]
 rw[hact]at hse hq;obtain⟨e1,ek,eo,v0,es,d,f⟩:=e;obtain⟨op,ia,ib,ic,m,site⟩:=i;dsimp only at *;subst hk;have hob1:=ax.1 hob;have hi1:=ax.1 h1;cases o with
 |none=>rw[ho rfl]at ra;simp at ra;omega
 |some bo=>
  cases of with
  |none=>rw[hof rfl]at hob1;simp at hob1;omega
  |some bof=>
   unfold jx iq jw hO gv cG;obtain⟨J,hJ⟩:∃J,J=bE Q:=⟨_,rfl⟩;rw[←hJ];have s0:=dQ (cG th tb (some bo)) (l:=s.threads.map aV.enc) (n:=t.toNat) (by simp;omega);unfold cG at s0;have y1:=pR (s:=th) ra.1 ra.2;have y3:(s.futures.map aj)[eo.toNat]? =some [.W6 (jW s.futures eo)]:=mZ hob;have z1:ib.toNat<th.regs.length:=by omega
   have z3:eo.toNat<s.futures.length:=by omega
   have goal:∀(A:SH),A=[(bof,⟨1,(s.futures.map aj).set eo.toNat [.W6 (th.reg ib)]⟩)]→J [.pptr [c.enc] 0 0,.pptr [[.W6 t,.W6 wake]] 0 0,.ptr b6 0 0,.ptr b8 0 0,.ptr b24 0 0,.ptr b132 0 0,.ptr bt t.toNat 0,.W6 (IntKind.i64.wrap (th.pc+1))]
     ((b132,⟨7,[gv s sy bt oc (some bof)]⟩)::(b24,⟨7,[(da.mk e1 22 eo (th.reg ib) es d f).enc]⟩)::(b8,⟨7,[dV]⟩)::(b6,⟨7,[bG]⟩)::(bt,⟨4,(s.threads.map aV.enc).set t.toNat (cG th tb (some bo))⟩)::(bo,⟨1,th.regs.map aj⟩)::(tb,⟨1,th.taint.map cm⟩)::(ae oc 1 (s.cells.map aj)++A)):=by
    rintro A rfl;rw[hJ];have:=D3 c s t wake h1 hc sy ⟨e1,22,eo,v0,es,d,f⟩ ⟨th.reg ib,s.cells,s.futures.set eo.toNat (th.reg ib),⟨IntKind.i64.wrap (th.pc+1),th.regs,th.taint,IntKind.i64.wrap (th.ev+1)⟩⟩ b132 b24 b8 b6 bt oc (some bof) [(bo,⟨1,th.regs.map aj⟩),(tb,⟨1,th.taint.map cm⟩)]
     (ae oc 1 (s.cells.map aj)++[(bof,⟨1,(s.futures.map aj).set eo.toNat [.W6 (th.reg ib)]⟩)]) ((bo,⟨1,th.regs.map aj⟩)::(tb,⟨1,th.taint.map cm⟩)::(ae oc 1 (s.cells.map aj)++[(bof,⟨1,(s.futures.map aj).set eo.toNat [.W6 (th.reg ib)]⟩)])) [] (.inl rfl) (λ_=>rfl) (.refl _) (.sl bo 0 th.regs.length) (.sl tb 0 th.taint.length) ?_ ?_ hn1 hoc nofun ?_ ?_ hse th.pc th.ev rfl Q hq
    ·simp only[List.length_set]at this;exact this
    ·exact λL hL=>Fz.sls (hL _ (.head _)) rfl W5 rfl
    ·exact λL hL=>Fz.sls (hL _ (.tail _ (.head _))) rfl W5 rfl
    ·exact λb hb=>by subst hb;exact⟨_,rfl,.head _⟩
    ·exact λb hb=>by cases hb;exact⟨(s.futures.map aj).set eo.toNat [.W6 (th.reg ib)],by simp[Wh,aj],W4⟩
   cases oc
   all_goals
    dsimp only[aO,ae,List.cons_append,List.nil_append]at *
    repeat' (first|refine cF ra.1 z1 rp rfl ?_|refine cF hob1.1 z3 rp rfl ?_|refine FG (cF hob1.1 z3 rp rfl ?_)|refine st ?_|refine sb λnb_ hnb_=>?_|refine s2 (λh=>?_) λh=>?_|fail)
    exact goal _ rfl
end
end
section
set_option maxRecDepth 100000
set_option maxHeartbeats 4000000
set_option linter.unusedSimpArgs false
set_option linter.unusedSectionVars false
section
variable (c:bN) (s:eh) (t wake:Int) (h1:inB t s.threads.length=true) (hc:inB t c.ts.length=true) (th:aV) (i:bj) (sy:SyncD) (sv:Int) (e:da) (b132 b24 b8 b6 bt tb:Nat) (o oc of:Option Nat) (hn1:b24≠b6) (ho:o=none→th.regs=[]) (hoc:oc=none→s.cells=[]) (hof:of=none→s.futures=[])
 (htn:th.taint.length=th.regs.length) (hse:az Tryz.prog 58 [.agg (aB c t).enc,.agg (dP i e s th sv).thread.enc] (Dk (bV (aB c t) (dP i e s th sv).thread))) (Q:R) (hq:∀v L,Fz L v (G1 (Af c s t sy e (dP i e s th sv)))→Q v L)
include h1 hc hn1 ho hoc hof htn hse hq
theorem Lm(v p:Int)(ha:dP i e s th sv=⟨v,s.cells,s.futures,⟨p,th.regs,th.taint,IntKind.i64.wrap (th.ev+1)⟩⟩)(ev2:da)(he2:ev2={e with value:=v}):
  bE Q [.pptr [c.enc] 0 0,.pptr [[.W6 t,.W6 wake]] 0 0,.ptr b6 0 0,.ptr b8 0 0,.ptr b24 0 0,.ptr b132 0 0,.ptr bt t.toNat 0,.W6 p]
   ((b132,⟨7,[gv s sy bt oc of]⟩)::(b24,⟨7,[ev2.enc]⟩)::(b8,⟨7,[dV]⟩)::(b6,⟨7,[bG]⟩)::(bt,⟨4,(s.threads.map aV.enc).set t.toNat (cG th tb o)⟩)::hO s th tb o oc of):=by
 subst he2;rw[ha]at hse hq;refine D3 c s t wake h1 hc sy e ⟨v,s.cells,s.futures,⟨p,th.regs,th.taint,IntKind.i64.wrap (th.ev+1)⟩⟩ b132 b24 b8 b6 bt oc of (ae o 1 (th.regs.map aj)++[(tb,⟨1,th.taint.map cm⟩)]) (ae oc 1 (s.cells.map aj)++ae of 1 (s.futures.map aj)) (hO s th tb o oc of) [] (.inl rfl) (λ_=>rfl) (by unfold hO;simp) (aO o th.regs.length) (.sl tb 0 th.taint.length) ?_ ?_ hn1 hoc hof ?_ ?_ hse th.pc th.ev rfl Q hq
 ·exact λL hL=>lP rfl ho λb hb=>hL _ (by subst hb;simp[ae])
 ·exact λL hL=>Fz.sls (hL _ (VK _ (.head _))) rfl W5 rfl
 ·exact λb hb=>by subst hb;exact⟨_,rfl,by simp[ae]⟩
 ·exact λb hb=>by subst hb;exact⟨_,rfl,by simp[ae]⟩
theorem Vb(hk:e.kind=5)(ra:0≤i.a∧i.a<th.regs.length):jx c s t wake th i sy sv e b132 b24 b8 b6 bt tb o oc of Q:=by
 have js:=Lm c s t wake h1 hc th i sy sv e b132 b24 b8 b6 bt tb o oc of hn1 ho hoc hof htn hse Q hq;by_cases hb:th.reg i.a≠0
 ·replace js:=js 1 (IntKind.i64.wrap (th.pc+1)) (by simp[dP,hk,hb]) _ rfl;have d1:decide (th.reg i.a≠0)=true:=decide_eq_true hb;clear hse hq;obtain⟨e1,ek,eo,v0,es,d,f⟩:=e;obtain⟨op,ia,ib,ic,m,site⟩:=i;dsimp only at *;subst hk;have hi1:=ax.1 h1;cases o with
  |none=>rw[ho rfl]at ra;simp at ra;omega
  |some bo=>
   unfold jx iq jw hO gv cG;unfold hO gv cG at js;obtain⟨J,hJ⟩:∃J,J=bE Q:=⟨_,rfl⟩;rw[←hJ]at js ⊢;have s0:=dQ (cG th tb (some bo)) (l:=s.threads.map aV.enc) (n:=t.toNat) (by simp;omega);unfold cG at s0;have y1:=pR (s:=th) ra.1 ra.2;have z1:ia.toNat<th.regs.length:=by omega
   generalize ae oc 1 (s.cells.map aj)++ae of 1 (s.futures.map aj)=T at *;dsimp only[aO,ae,List.cons_append,List.nil_append]at *
   repeat' (first|refine cF ra.1 z1 rp rfl ?_|refine st ?_|refine sb λnb_ hnb_=>?_|refine s2 (λh=>?_) λh=>?_|fail)
   exact js
 ·replace js:=js e.value i.b (by simp[dP,hk,hb]) _ rfl;have d1:decide (th.reg i.a≠0)=false:=decide_eq_false hb;clear hse hq;obtain⟨e1,ek,eo,v0,es,d,f⟩:=e;obtain⟨op,ia,ib,ic,m,site⟩:=i;dsimp only at *;subst hk;have hi1:=ax.1 h1;cases o with
  |none=>rw[ho rfl]at ra;simp at ra;omega
  |some bo=>
   unfold jx iq jw hO gv cG;unfold hO gv cG at js;obtain⟨J,hJ⟩:∃J,J=bE Q:=⟨_,rfl⟩;rw[←hJ]at js ⊢;have s0:=dQ (cG th tb (some bo)) (l:=s.threads.map aV.enc) (n:=t.toNat) (by simp;omega);unfold cG at s0;have y1:=pR (s:=th) ra.1 ra.2;have z1:ia.toNat<th.regs.length:=by omega
   generalize ae oc 1 (s.cells.map aj)++ae of 1 (s.futures.map aj)=T at *;dsimp only[aO,ae,List.cons_append,List.nil_append]at *
   repeat' (first|refine cF ra.1 z1 rp rfl ?_|refine st ?_|refine sb λnb_ hnb_=>?_|refine s2 (λh=>?_) λh=>?_|fail)
   exact js
theorem Vc(hk:e.kind≠3∧e.kind≠23∧e.kind≠4∧e.kind≠22∧e.kind≠5):jx c s t wake th i sy sv e b132 b24 b8 b6 bt tb o oc of Q:=by
 obtain⟨k3,k23,k4,k22,k5⟩:=hk;have js:=Lm c s t wake h1 hc th i sy sv e b132 b24 b8 b6 bt tb o oc of hn1 ho hoc hof htn hse Q hq;have d3:decide (e.kind=3)=false:=decide_eq_false k3;have d23:decide (e.kind=23)=false:=decide_eq_false k23;have d4:decide (e.kind=4)=false:=decide_eq_false k4;have d22:decide (e.kind=22)=false:=decide_eq_false k22;have d5:decide (e.kind=5)=false:=decide_eq_false k5;have hi1:=ax.1 h1;have s0:=dQ (cG th tb o) (l:=s.threads.map aV.enc) (n:=t.toNat) (by simp;omega);have en:e.enc=[.W6 e.thread,.W6 e.kind,.W6 e.obj,.W6 e.value,.W6 e.site,.lst (e.deps.map aj),.lst (e.frm.map aj)]:=rfl;by_cases p1:e.kind=18∨e.kind=19
 ·replace js:=js sv (IntKind.i64.wrap (th.pc+1)) (by unfold dP;rw[if_neg k3,if_neg k23,if_neg k4,if_neg k22,if_neg k5,if_pos p1]) _ rfl;unfold jx iq jw;unfold gv cG at *;obtain⟨J,hJ⟩:∃J,J=bE Q:=⟨_,rfl⟩;rw[←hJ]at js ⊢;generalize hO s th tb o oc of=T at *;rw[en];rcases p1 with p1|p1
  ·have d18:decide (e.kind=18)=true:=decide_eq_true p1
   repeat' (first|refine st ?_|refine sb λnb_ hnb_=>?_|refine s2 (λh=>?_) λh=>?_|fail)
   exact js
  ·have d18:decide (e.kind=18)=false:=decide_eq_false W1;have d19:decide (e.kind=19)=true:=decide_eq_true p1
   repeat' (first|refine st ?_|refine sb λnb_ hnb_=>?_|refine s2 (λh=>?_) λh=>?_|fail)
   exact js
 ·have d18:decide (e.kind=18)=false:=decide_eq_false W1;have d19:decide (e.kind=19)=false:=decide_eq_false W1;by_cases p2:e.kind=1∨e.kind=16∨e.kind=2
  ·replace js:=js e.value th.pc (by unfold dP;rw[if_neg k3,if_neg k23,if_neg k4,if_neg k22,if_neg k5,if_neg p1,if_pos p2]) _ rfl;unfold jx iq jw;unfold gv cG at *;obtain⟨J,hJ⟩:∃J,J=bE Q:=⟨_,rfl⟩;rw[←hJ]at js ⊢;generalize hO s th tb o oc of=T at *;rw[en]
   repeat' (first|refine st ?_|refine sb λnb_ hnb_=>?_|refine s2 (λh=>?_) λh=>?_|fail)
   all_goals first
    |exact js
    |(exfalso;simp_all<;>omega)
  ·replace js:=js e.value (IntKind.i64.wrap (th.pc+1)) (by unfold dP;rw[if_neg k3,if_neg k23,if_neg k4,if_neg k22,if_neg k5,if_neg p1,if_neg p2]) _ rfl;unfold jx iq jw;unfold gv cG at *;obtain⟨J,hJ⟩:∃J,J=bE Q:=⟨_,rfl⟩;rw[←hJ]at js ⊢;generalize hO s th tb o oc of=T at *;rw[en]
   repeat' (first|refine st ?_|refine sb λnb_ hnb_=>?_|refine s2 (λh=>?_) λh=>?_|fail)
   all_goals first
    |exact js
    |(exfalso;simp_all<;>omega)
end
end
section
set_option maxRecDepth 100000
set_option maxHeartbeats 4000000
set_option linter.unusedSimpArgs false
set_option linter.unusedSectionVars false
theorem Of(q:Nat)(o:Option Nat)(tb:Nat)(l:List aV)(hq:q<l.length):iE q o tb l=(l.map aV.enc).set q (cG (l.getD q aV.zero) tb o):=by
 apply Wr;intro j;rw[Wf];rcases Vp j l.length with hj|hj
 ·rw[xH _ _ _ _ _ hj];by_cases e:q=j
  ·subst e;rw[if_pos rfl,if_pos (by simpa using hj)];simp[Fh,cG,hj]
  ·rw[if_neg e];simp[Fh,show¬j=q from λh=>e h.symm,hj]
 ·rw[Vq (by rw[cW];exact hj),if_neg W1,Vq (by simpa using hj)]
theorem Mb(i:bj)(s:aV)(t:Int):(lW i s t).kind=pP i.op:=by
 unfold lW;dsimp only
 repeat' split
 all_goals rfl
theorem Og{i:bj}{n:Int}(h1:1≤i.op)(h2:i.op≤28)(hr:∀r∈bS i,0≤r∧r<n):((pP i.op=3∨pP i.op=23∨pP i.op=5)→0≤i.a∧i.a<n)∧((pP i.op=4∨pP i.op=22)→0≤i.b∧i.b<n):=by obtain⟨op,ia,ib,ic,m,site⟩:=i;dsimp only at *;rcases ops op h1 h2 with rfl|rfl|rfl|rfl|rfl|rfl|rfl|rfl|rfl|rfl|rfl|rfl|rfl|rfl|rfl|rfl|rfl|rfl|rfl|rfl|rfl|rfl|rfl|rfl|rfl|rfl|rfl|rfl<;>simp_all[pP,kJ,bS]
structure Ul(c:bN)(s:eh)(t:Int)(e:da):Prop where
 ready:jv c s t=true
 ra:(e.kind=3∨e.kind=23∨e.kind=5)→0≤(dk (aB c t) (bJ s t).pc).a∧(dk (aB c t) (bJ s t).pc).a<(bJ s t).regs.length
 rb:(e.kind=4∨e.kind=22)→0≤(dk (aB c t) (bJ s t).pc).b∧(dk (aB c t) (bJ s t).pc).b<(bJ s t).regs.length
theorem kq{c:bN}{s:eh}{t:Int}(h:jv c s t=true):inB t c.ts.length=true∧inB t s.threads.length=true∧inB t s.sync.threads.length=true∧inB (bJ s t).pc (aB c t).ins.length=true∧((bJ s t).regs.length:Int)=(aB c t).regs∧((bJ s t).taint.length:Int)=(aB c t).regs:=by unfold jv at h;simp only[VP,decide_eq_true_eq]at h;obtain⟨⟨⟨⟨⟨a,b⟩,c⟩,d⟩,e⟩,f⟩:=h;exact⟨a,b,c,d,e,f⟩
theorem D4{c:bN}{s:eh}{t:Int}{e:da}(hi:∀x∈c.ts,D1 x)(h:hM c s t=some e):Ul c s t e:=by
 unfold hM at h;by_cases hr:jv c s t=true
 ·rw[if_pos hr]at h;obtain⟨a1,a2,a3,a4,a5,a6⟩:=kq hr;obtain⟨o1,o2,o3⟩:=hi _ (iS (d:=⟨0,[]⟩) a1) _ (iS (d:=default) a4);rw[show(c.ts.getD t.toNat ⟨0,[]⟩).ins.getD (bJ s t).pc.toNat default=dk (aB c t) (bJ s t).pc from rfl]at o1 o2 o3;have hk:=Og (n:=(bJ s t).regs.length) o1 o2 (λr hr=>by have:=o3 r hr;rw[show(c.ts.getD t.toNat ⟨0,[]⟩).regs=(aB c t).regs from rfl]at this;omega);have key:e.kind=1∨e.kind=17∨e.kind=pP (dk (aB c t) (bJ s t).pc).op:=by
   dsimp only at h;split at h
   ·cases h;exact .inl rfl
   ·split at h
    ·cases h;exact .inr (.inl rfl)
    ·split at h
     ·split at h
      ·cases h;exact .inr (.inr (Mb _ _ _))
      ·cases h
     ·cases h
  refine⟨hr,λhx=>hk.1 ?_,λhx=>hk.2 ?_⟩
  ·rcases key with k|k|k
   ·omega
   ·omega
   ·rw[←k];exact hx
  ·rcases key with k|k|k
   ·omega
   ·omega
   ·rw[←k];exact hx
 ·rw[if_neg hr]at h;cases h
theorem Ln(c:bN)(s:eh)(t wake:Int):A3 c s t wake=match hM c s t with
  |none=>none
  | some e=>if s.cells.length=c.w.cells.length∧s.futures.length=c.w.futures.length then
    (if(gX c.w s.sync t e.kind e.obj wake).2.2 then Af c s t (gX c.w s.sync t e.kind e.obj wake).1 e (dP (dk (aB c t) (bJ s t).pc) e s (bJ s t) (gX c.w s.sync t e.kind e.obj wake).2.1)else none)else none:=by
 unfold A3 Af;rfl
theorem IX{w:aM}{s:SyncD}{t k o wake:Int}(h:(gX w s t k o wake).2.2=true):allowedS w k o=true:=by
 unfold gX at h;split at h
 ·rename_i he;unfold bM at he;simp only[VP]at he;exact he.1.2
 ·cases h
structure QN(U:List Int)(c:bN)(s:eh):Prop where
 ins:∀x∈c.ts,D1 x
 len:∀x∈c.ts,x.ins.length<2^40
 u30:U.length≤2^30
 thr:∀x∈s.threads,jf U x∧x.ev∈U∧x.regs.length≤2^30
 sm:NN c.w s.sync
 nt:s.threads.length≤2^30
 nc:s.cells.length<2^40
 nf:s.futures.length<2^40
theorem IY{U:List Int}{i:bj}{e:da}{s:eh}{th:aV}{sv:Int}(h:jf U th)(hev:th.ev∈U):jf U (dP i e s th sv).thread:=by
 obtain⟨l1,l2,l3,l4⟩:=h;have set1:jf U ⟨th.pc,th.regs,th.taint.set i.a.toNat [th.ev],th.ev⟩:=by
  refine⟨by simpa using l1,l2,λl hl=>?_,λl hl x hx=>?_⟩
  ·rcases WA hl with h|rfl
   ·exact l3 l h
   ·simp
  ·rcases WA hl with h|rfl
   ·exact l4 l h x hx
   ·rw[Vr.1 hx];exact hev
 unfold dP;dsimp only
 repeat' split
 all_goals first
  |exact⟨l1,l2,l3,l4⟩
  |exact⟨by simpa using l1,by simpa using l2,set1.short,set1.sub⟩
theorem PS(U:List Int)(c:bN)(s:eh)(t wake:Int)(H:QN U c s):az Tryz.prog 30 [.agg c.enc,.agg s.enc,.agg [.W6 t,.W6 wake]] (G1 (A3 c s t wake)):=by
 obtain⟨hi,hl,hu,hth,hsm,hnt,hnc,hnf⟩:=H;have hp:=PP c s t hi (λx hx r=>by
  have:=(hth x hx).1.short;unfold aV.tnt;rcases Vp r.toNat x.taint.length with h|h
  ·have:=this _ (VF h);simp[h];omega
  ·simp[List.getD,Vq h])
 rw[Ln];refine af.fz (IU _ _ _ _ _ ?_);unfold D0;generalize hQ:(λ(v:AV) (L:SH)=>∃v2 L2,aG [v] L [v2] L2∧v2=_∧L2=[])=Q;have hq:∀v L,Fz L v (G1 (match hM c s t with
  |none=>none
  | some e=>if s.cells.length=c.w.cells.length∧s.futures.length=c.w.futures.length then
    (if(gX c.w s.sync t e.kind e.obj wake).2.2 then Af c s t (gX c.w s.sync t e.kind e.obj wake).1 e (dP (dk (aB c t) (bJ s t).pc) e s (bJ s t) (gX c.w s.sync t e.kind e.obj wake).2.1)else none)else none))→Q v L:=λv L h=>by subst hQ;exact⟨_,[],aG.all h,rfl,rfl⟩
 clear hQ;have hce:c.enc=[.lst (c.w.cells.map aY.enc),.lst (c.w.locks.map bZ.enc),.lst (c.w.conds.map cS.enc),.lst (c.w.futures.map au),.lst (c.w.threads.map au),.lst (c.w.sites.map cI.enc),.lst (c.ts.map iy.enc)]:=rfl;have hse:s.enc=[.lst (s.sync.locks.map LockD.enc),.W6 s.sync.tx,.lst (s.sync.done.map aT),.lst (s.sync.threads.map ThrD.enc),.lst (s.cells.map aj),.lst (s.futures.map aj),.lst (s.threads.map aV.enc)]:=rfl;cases hpe:hM c s t with
 |none=>
  rw[hpe]at hp hq;unfold Ll at hp;have hz:=λv L (h:v=_)=>hq v L (by rw[h];exact xJ L)
  unfold bG dV da.zero da.enc at *;dsimp only[List.map]at hp;rw[hce,hse]at *
  repeat' (first|refine st ?_|(refine pf 55 ?_;refine pm (hp) ?_)|refine sb λnb_ hnb_=>?_|refine s2 (λh=>?_) λh=>?_|fail)
  exact hz _ _ rfl
 |some e=>
  rw[hpe]at hp hq;unfold Ll at hp;dsimp only at hp hq;have hpp:=D4 hi hpe;have ha:=NP c.w s.sync t e.kind e.obj wake hsm;have hcp:=PR s t.toNat hnt hnc hnf (λx hx=>⟨(hth x hx).1.small,by have:=(hth x hx).1.len;have:=(hth x hx).2.2;omega,(hth x hx).1.short⟩);have een:e.enc=[.W6 e.thread,.W6 e.kind,.W6 e.obj,.W6 e.value,.W6 e.site,.lst (e.deps.map aj),.lst (e.frm.map aj)]:=rfl;generalize hres:gX c.w s.sync t e.kind e.obj wake=r at *;obtain⟨sy,sv,ok⟩:=r;unfold RT at ha;dsimp only at ha hq;by_cases hln:s.cells.length=c.w.cells.length∧s.futures.length=c.w.futures.length
  ·rw[if_pos hln]at hq;have d1:decide ((s.cells.length:Int)≠c.w.cells.length)=false:=decide_eq_false W1;have d2:decide ((s.futures.length:Int)≠c.w.futures.length)=false:=decide_eq_false W1;cases ok with
   |false=>
    have hz:=λv L (h:v=_)=>hq v L (by rw[h];exact xJ L)
    unfold bG dV at hz;rw[hce,hse,een]at *
    repeat' (first|refine st ?_|(refine pf 55 ?_;refine pm (hp) ?_)|(refine pf 56 ?_;refine pm (ha) ?_)|refine sb λnb_ hnb_=>?_|refine s2 (λh=>?_) λh=>?_|fail)
    exact hz _ _ rfl
   |true=>
    rw[if_pos rfl]at hq;obtain⟨a1,a2,a3,a4,a5,a6⟩:=kq hpp.ready;have al:=IX (w:=c.w) (s:=s.sync) (t:=t) (k:=e.kind) (o:=e.obj) (wake:=wake) (by rw[hres]);have hmem:bJ s t∈s.threads:=iS (d:=aV.zero) a2;have hT:=hth _ hmem;have hobc:e.kind=3∨e.kind=4→inB e.obj s.cells.length=true:=λhk=>by unfold allowedS at al;rw[if_neg W1,if_pos hk]at al;rw[hln.1];exact al
    have hobf:e.kind=22∨e.kind=23→inB e.obj s.futures.length=true:=λhk=>by unfold allowedS at al;rw[if_neg W1,if_neg W1,if_neg W1,if_neg W1,if_neg W1,if_neg W1,if_pos hk]at al;rw[hln.2];exact al
    have tame:=IY (i:=dk (aB c t) (bJ s t).pc) (e:=e) (s:=s) (sv:=sv) hT.1 hT.2.1;have hset:=LY (aB c t) _ U hu tame.small (by rw[tame.len];exact tame.small) tame.short tame.sub (hl _ (show aB c t∈c.ts from iS a1));have fin:∀(v:AV) (K:SH) (b24 b8 b6:Nat),b24≠b6→Sd s t.toNat v K→kp Q (.pptr [sy.enc] 0 0) (.pptr [[.W6 t,.W6 wake]] 0 0) (.pptr [c.enc] 0 0) (.ptr b24 0 0) (.ptr b6 0 0) (.ptr b8 0 0) (.W6 sv) v ((b24,⟨7,[e.enc]⟩)::(b8,⟨7,[dV]⟩)::(b6,⟨7,[bG]⟩)::K):=by
     rintro v K b24 b8 b6 hn ⟨oc,of,bt,o,tb,rfl,rfl,hoc,hof,ho⟩;have hlt:t.toNat<s.threads.length:=by have:=ax.1 a2;omega
     have e1:(b24,(⟨7,[e.enc]⟩:Blk))::(b8,⟨7,[dV]⟩)::(b6,⟨7,[bG]⟩)::((bt,⟨4,iE t.toNat o tb s.threads⟩)::(pU t.toNat o tb s.threads s.threads.length++(ae oc 1 (s.cells.map aj)++ae of 1 (s.futures.map aj))))=jw s t (bJ s t) e b24 b8 b6 bt tb o (hO s (bJ s t) tb o oc of):=by rw[Of _ _ _ _ hlt,pU,if_pos hlt];unfold jw hO;rw[VZ];rfl
     rw[e1];refine Sg c s t wake a2 a1 _ rfl _ rfl a4 sy sv e b24 b8 b6 bt tb o oc of Q _ λb132=>?_
     have ho':o=none→(bJ s t).regs=[]:=λh=>ho h hlt
     have htn:(bJ s t).taint.length=(bJ s t).regs.length:=by omega
     by_cases k3:e.kind=3
     ·exact U8 c s t wake a2 a1 _ _ sy sv e b132 b24 b8 b6 bt tb o oc of hn ho' hoc hof htn hset Q hq k3 (hpp.ra W1) (hobc W1)
     by_cases k23:e.kind=23
     ·exact Uj c s t wake a2 a1 _ _ sy sv e b132 b24 b8 b6 bt tb o oc of hn ho' hoc hof htn hset Q hq k23 (hpp.ra W1) (hobf W1)
     by_cases k4:e.kind=4
     ·exact Va c s t wake a2 a1 _ _ sy sv e b132 b24 b8 b6 bt tb o oc of hn ho' hoc hof htn hset Q hq k4 (hpp.rb W1) (hobc W1)
     by_cases k22:e.kind=22
     ·exact Uk c s t wake a2 a1 _ _ sy sv e b132 b24 b8 b6 bt tb o oc of hn ho' hoc hof htn hset Q hq k22 (hpp.rb W1) (hobf W1)
     by_cases k5:e.kind=5
     ·exact Vb c s t wake a2 a1 _ _ sy sv e b132 b24 b8 b6 bt tb o oc of hn ho' hoc hof htn hset Q hq k5 (hpp.ra W1)
     exact Vc c s t wake a2 a1 _ _ sy sv e b132 b24 b8 b6 bt tb o oc of hn ho' hoc hof htn hset Q hq ⟨k3,k23,k4,k22,k5⟩
    unfold bG dV at fin;clear hq hset tame hobc hobf al hpp hT hmem;rw[hce,hse,een]at *
    repeat' (first|refine st ?_|(refine pf 55 ?_;refine pm (hp) ?_)|(refine pf 56 ?_;refine pm (ha) ?_)|((with_reducible refine aX 57 ?_);(refine o8 hcp ?_;intro v K hK;exact fin _ _ _ _ _ (λh_=>by subst h_;simp[SH.names]at hnb_) hK))|refine sb λnb_ hnb_=>?_|refine s2 (λh=>?_) λh=>?_|fail)
  ·rw[if_neg hln]at hq;have hz:=λv L (h:v=_)=>hq v L (by rw[h];exact xJ L)
   unfold bG dV at hz;rw[hce,hse,een]at *;by_cases hl1:s.cells.length=c.w.cells.length
   ·have d1:decide ((s.cells.length:Int)≠c.w.cells.length)=false:=decide_eq_false W1;have d2:decide ((s.futures.length:Int)≠c.w.futures.length)=true:=decide_eq_true W1
    repeat' (first|refine st ?_|(refine pf 55 ?_;refine pm (hp) ?_)|refine sb λnb_ hnb_=>?_|refine s2 (λh=>?_) λh=>?_|fail)
    exact hz _ _ rfl
   ·have d1:decide ((s.cells.length:Int)≠c.w.cells.length)=true:=decide_eq_true W1
    repeat' (first|refine st ?_|(refine pf 55 ?_;refine pm (hp) ?_)|refine sb λnb_ hnb_=>?_|refine s2 (λh=>?_) λh=>?_|fail)
    exact hz _ _ rfl
end
section
set_option maxRecDepth 100000
set_option maxHeartbeats 4000000
set_option linter.unusedSimpArgs false
set_option linter.unusedSectionVars false
def J2(t:iy):aV:=⟨0,List.replicate t.regs.toNat 0,List.replicate t.regs.toNat [],0⟩
theorem Sh(l:List iy)(h1:l.length≤1000)(hr:∀t∈l,0≤t.regs∧t.regs≤1000)(sy:SyncD)(x y:AV)(hx:∃b n,x=.sl b 0 n)(hy:∃b n,y=.sl b 0 n)(b2 b37 bt:Nat)(RR L0:SH)(Q:R)(hL0:L0.Perm ((bt,⟨4,[]⟩)::(b37,⟨7,[[.lst (sy.locks.map LockD.enc),.W6 sy.tx,.lst (sy.done.map aT),.lst (sy.threads.map ThrD.enc),x,y,.sl bt 0 0]]⟩)::(b2,⟨7,[bG]⟩)::RR))
  (hq:∀(bt:Nat) (L:SH),(bt,(⟨4,(l.map J2).map aV.enc⟩:Blk))∈L→(∀q∈RR,q∈L)→Q (.agg [.lst (sy.locks.map LockD.enc),.W6 sy.tx,.lst (sy.done.map aT),.lst (sy.threads.map ThrD.enc),x,y,.sl bt 0 l.length]) L) :
  W.loop (iQ Q) [.ptr b2 0 0,.ptr b37 0 0,.lst (l.map iy.enc),.W6 l.length,.W6 (0:Nat)] L0:=by
 refine cb l.length (λk (b':Nat)=>([.ptr b2 0 0,.ptr b37 0 0,.lst (l.map iy.enc),.W6 l.length,.W6 k],(b',⟨4,((l.take k).map J2).map aV.enc⟩)::(b37,⟨7,[[.lst (sy.locks.map LockD.enc),.W6 sy.tx,.lst (sy.done.map aT),.lst (sy.threads.map ThrD.enc),x,y,.sl b' 0 k]]⟩)::(b2,⟨7,[bG]⟩)::RR)) (λ_ _=>True) bt trivial (aG.forget (K:=[]) hL0) ?_;intro k b' hk _;dsimp only;unfold iQ;obtain⟨bx,nx,rfl⟩:=hx;obtain⟨by_,ny,rfl⟩:=hy;rcases Nat.lt_or_ge k l.length with g1|g1
 ·have hd:=bI g1;have hxx:=aw (f:=iy.enc) g1;obtain⟨r1,r2⟩:=hr _ (VF g1);have htk:l.take (k+1)=l.take k++[l[k]]:=Vw g1;generalize hT:l[k]=tk at *;obtain⟨m,hm⟩:∃m:Nat,tk.regs=(m:Int):=⟨tk.regs.toNat,W1⟩;have hke:tk.enc=[.W6 (m:Int),.lst (tk.ins.map bj.enc)]:=by rw[←hm];rfl
  rw[hke]at hxx
  repeat' (first|refine st ?_|refine fP (i:=m) (j:=m) W1 W1 W1 (λnb_ hnb_=>?_)|refine pT rp rp (by simp;omega) rfl (by simp;omega) (by simp;omega) rfl (λnb_ hnb_=>?_)|refine sb λnb_ hnb_=>?_|fail)
  rename_i kr _ kt _ ka _;refine⟨k+1,nb_,W1,W1,trivial,?_⟩;rw[aD g1 W1,htk,Vo,Vo];have e:J2 tk=⟨0,List.replicate m 0,List.replicate m [],0⟩:=by unfold J2;rw[hm];rfl
  refine aG.row (K:=[(ka,_),(kt,_),(kr,_)]) (R:=(b37,_)::(b2,_)::RR) (WC (l₁:=[_,_,_])).symm W4 ?_;intro j r r' q1 q2;rcases Vp j (((l.take k).map J2).map aV.enc).length with hj|hj
  ·rw[VC hj]at q1 q2;rw[q1]at q2;cases q2;exact i9.refl _ _
  ·rw[Vt hj]at q1 q2;rcases hmm:j-(((l.take k).map J2).map aV.enc).length with _|mm
   ·rw[hmm]at q1 q2;cases q1;cases q2;rw[e];refine .cons (.refl _) (.cons ?_ (.cons ?_ (.cons (.refl _) .nil)))
    ·exact Fz.sls (l:=List.replicate m 0) (f:=aj) (.tail _ (.tail _ (.head _))) (by simp[aj]) W5 W4
    ·refine Fz.slm (l:=List.replicate m []) (f:=λ_=>[.nils]) (g:=cm) (.tail _ (.head _)) W4 W5 W4 (λy _=>rfl) (λy hy q a a2 q1 q2=>?_);obtain rfl:=(List.mem_replicate.1 hy).2
     match q with
     |0=>cases q1;cases q2;exact .nils
   ·rw[hmm]at q1;simp at q1
 ·have hd:=bO g1;have hk0:k=l.length:=by omega
  subst hk0;rw[V8 (Vl _)];unfold bG
  repeat' (first|refine st ?_|refine sb λnb_ hnb_=>?_|refine s2 (λh=>?_) λh=>?_|fail)
  exact hq b' _ (.head _) (λq h=>by simp[h])
theorem Si(c:bN)(h1:c.w.cells.length≤1000)(w1 w2 w3 w4 y z:AV)(b2 b37 bc:Nat)(RR L0:SH)(Q:R)(hL0:L0.Perm ((bc,⟨1,[]⟩)::(b37,⟨7,[[w1,w2,w3,w4,.sl bc 0 0,y,z]]⟩)::RR))
  (hq:∀bc:Nat,W.loop (iQ Q) [.ptr b2 0 0,.ptr b37 0 0,.lst (c.ts.map iy.enc),.W6 c.ts.length,.W6 (0:Nat)] ((bc,⟨1,(c.w.cells.map aY.init).map aj⟩)::(b37,⟨7,[[w1,w2,w3,w4,.sl bc 0 c.w.cells.length,y,z]]⟩)::RR)) :
  W.loop (iR Q) [.pptr [c.enc] 0 0,.ptr b2 0 0,.ptr b37 0 0,.lst (c.w.cells.map aY.enc),.W6 c.w.cells.length,.W6 (0:Nat)] L0:=by
 refine cb c.w.cells.length (λk (b':Nat)=>([.pptr [c.enc] 0 0,.ptr b2 0 0,.ptr b37 0 0,.lst (c.w.cells.map aY.enc),.W6 c.w.cells.length,.W6 k],(b',⟨1,((c.w.cells.take k).map aY.init).map aj⟩)::(b37,⟨7,[[w1,w2,w3,w4,.sl b' 0 k,y,z]]⟩)::RR)) (λ_ _=>True) bc trivial (aG.forget (K:=[]) hL0) ?_;intro k b' hk _;dsimp only;unfold iR;rcases Nat.lt_or_ge k c.w.cells.length with g1|g1
 ·have hd:=bI g1;have hxx:=aw (f:=aY.enc) g1;have htk:c.w.cells.take (k+1)=c.w.cells.take k++[c.w.cells[k]]:=Vw g1;generalize hT:c.w.cells[k]=ck at *;have hce:ck.enc=[.str ck.name,.W6 ck.index,.W6 ck.size,.bool ck.vol,.W6 ck.init]:=rfl;rw[hce]at hxx
  repeat' (first|refine st ?_|refine pT rp rp (by simp;omega) rfl (by simp;omega) (by simp;omega) rfl (λnb_ hnb_=>?_)|refine sb λnb_ hnb_=>?_|fail)
  refine⟨k+1,nb_,W1,W1,trivial,?_⟩;rw[aD g1 W1,htk,Vo,Vo];exact aG.forget (K:=[(_,_)]) (List.Perm.swap _ _ _)
 ·have hk0:k=c.w.cells.length:=by omega
  subst hk0;rw[V8 (Vl _)];have:=hq b';have hd:=bO g1;rw[show c.enc=[.lst (c.w.cells.map aY.enc),.lst (c.w.locks.map bZ.enc),.lst (c.w.conds.map cS.enc),.lst (c.w.futures.map au),.lst (c.w.threads.map au),.lst (c.w.sites.map cI.enc),.lst (c.ts.map iy.enc)]from rfl]
  repeat' (first|exact this|refine st ?_|refine sb λnb_ hnb_=>?_|refine s2 (λh=>?_) λh=>?_|fail)
theorem Mc(c:bN)(h1:c.w.cells.length≤100)(h2:c.w.locks.length≤100)(h3:c.w.futures.length≤100)(h4:c.w.threads.length≤100)(h5:c.ts.length≤1000)(hr:∀t∈c.ts,0≤t.regs∧t.regs≤1000):az Tryz.prog 29 [.agg c.enc] (.agg (cV c).enc):=by
 have hst:=NY c.w h2 h3 h4;refine af.fz (GU _ _ _ ?_);unfold A4;generalize hQ:(λ(v:AV) (L:SH)=>∃v2 L2,aG [v] L [v2] L2∧v2=AV.agg (cV c).enc∧L2=[])=Q;have hq:∀v L,Fz L v (.agg (cV c).enc)→Q v L:=λv L h=>by subst hQ;exact⟨_,[],aG.all h,rfl,rfl⟩
 clear hQ;have hwe:c.w.enc=[.lst (c.w.cells.map aY.enc),.lst (c.w.locks.map bZ.enc),.lst (c.w.conds.map cS.enc),.lst (c.w.futures.map au),.lst (c.w.threads.map au),.lst (c.w.sites.map cI.enc)]:=rfl;have hce:c.enc=[.lst (c.w.cells.map aY.enc),.lst (c.w.locks.map bZ.enc),.lst (c.w.conds.map cS.enc),.lst (c.w.futures.map au),.lst (c.w.threads.map au),.lst (c.w.sites.map cI.enc),.lst (c.ts.map iy.enc)]:=rfl;rw[hwe]at hst;have hsy:(cZ c.w).enc=[.lst ((cZ c.w).locks.map LockD.enc),.W6 (cZ c.w).tx,.lst ((cZ c.w).done.map aT),.lst ((cZ c.w).threads.map ThrD.enc)]:=rfl;rw[hsy]at hst;rw[hce];generalize hsg:cZ c.w=sy at *;have lp:∀(b2 b37 bc bf bt:Nat) (L:SH),L=(b37,⟨7,[[.lst (sy.locks.map LockD.enc),.W6 sy.tx,.lst (sy.done.map aT),.lst (sy.threads.map ThrD.enc),.sl bc 0 0,.sl bf 0 c.w.futures.length,.sl bt 0 0]]⟩)::(bt,⟨4,[]⟩)::(bf,⟨1,List.replicate c.w.futures.length [.W6 0]⟩)::(bc,⟨1,[]⟩)::[(b2,⟨7,[bG]⟩)]→
   W.loop (iR Q) [.pptr [c.enc] 0 0,.ptr b2 0 0,.ptr b37 0 0,.lst (c.w.cells.map aY.enc),.W6 c.w.cells.length,.W6 (0:Nat)] L:=by
  rintro b2 b37 bc bf bt L rfl;refine Si c W1 (.lst (sy.locks.map LockD.enc)) (.W6 sy.tx) (.lst (sy.done.map aT)) (.lst (sy.threads.map ThrD.enc)) (.sl bf 0 c.w.futures.length) (.sl bt 0 0) b2 b37 bc ((bt,⟨4,[]⟩)::(bf,⟨1,List.replicate c.w.futures.length [.W6 0]⟩)::[(b2,⟨7,[bG]⟩)]) _ Q ?_ λbc=>?_
  ·exact WC (l₁:=[_,_,_]) (l₂:=[_])
  refine Sh c.ts h5 hr sy (.sl bc 0 c.w.cells.length) (.sl bf 0 c.w.futures.length) ⟨bc,_,rfl⟩ ⟨bf,_,rfl⟩ b2 b37 bt [(bc,⟨1,(c.w.cells.map aY.init).map aj⟩),(bf,⟨1,List.replicate c.w.futures.length [.W6 0]⟩)] _ Q ?_ λbt L hm hL=>?_
  ·exact(WC (l₁:=[_,_])).trans (((List.Perm.swap _ _ _).trans ((WC (l₁:=[_,_])).cons _)).cons _)
  refine hq _ _ ?_;have he:(cV c).enc=[.lst (sy.locks.map LockD.enc),.W6 sy.tx,.lst (sy.done.map aT),.lst (sy.threads.map ThrD.enc),.lst ((c.w.cells.map aY.init).map aj),.lst ((List.replicate c.w.futures.length (0:Int)).map aj),.lst ((c.ts.map J2).map aV.enc)]:=by unfold cV eh.enc;rw[hsg];rfl
  rw[he];refine Fz.aggs (.cons (.refl _) (.cons (.refl _) (.cons (.refl _) (.cons (.refl _) (.cons ?_ (.cons ?_ (.cons ?_ .nil)))))))
  ·exact Fz.sls (hL _ (.head _)) rfl W5 W4
  ·exact Fz.sls (hL _ (.tail _ (.head _))) (by simp[aj]) W5 W4
  ·exact Fz.sls hm rfl W5 W4
 repeat' (first|exact lp _ _ _ _ _ _ rfl|refine st ?_|(refine pf 54 ?_;refine pm (hst) ?_)|refine fP (i:=0) (j:=c.w.cells.length) W1 W1 W1 (λnb_ hnb_=>?_)|refine fP (i:=c.w.futures.length) (j:=c.w.futures.length) W1 W1 W1 (λnb_ hnb_=>?_)|refine fP (i:=0) (j:=c.ts.length) W1 W1 W1 (λnb_ hnb_=>?_)|refine sb λnb_ hnb_=>?_|refine s2 (λh=>?_) λh=>?_|fail)
end
section
set_option linter.unusedSimpArgs false
def U9:List Int:=(List.range 401).map λk:Nat=>(k:Int)
theorem Oh{n:Int}(h0:0≤n)(h1:n≤400):n∈U9:=VY.2 ⟨n.toNat,Wi.2 W1,W1⟩
theorem Oi:U9.length≤2^30:=by simp[U9]
structure Ag(c:bN)(n:Nat)(s:eh):Prop where
 thr:∀x∈s.threads,jf U9 x∧0≤x.ev∧x.ev≤n∧x.regs.length≤1000
 nt:s.threads.length≤1000
 lk:s.sync.locks.length≤1000
 rd:∀l∈s.sync.locks,l.readers.length≤n
 dn:s.sync.done.length≤1000
 th:s.sync.threads.length≤1000
 nc:s.cells.length≤1000
 nf:s.futures.length≤1000
structure Sj(s s':SyncD)(n:Nat):Prop where
 lk:s'.locks.length=s.locks.length
 dn:s'.done.length=s.done.length
 th:s'.threads.length=s.threads.length
 rd:∀l∈s'.locks,l.readers.length≤n+1
theorem Md(l:List Int)(t:Int):(w7 l t).length≤l.length+1:=by unfold w7;have:=o9 (zr (l++[t]));rw[ql]at this;simpa using this
theorem Me{s:SyncD}{n:Nat}(h:∀l∈s.locks,l.readers.length≤n)(o:Int):(aK s o).readers.length≤n:=by
 unfold aK;rcases Vp o.toNat s.locks.length with h1|h1
 ·simpa[List.getD,h1]using h _ (VF h1)
 ·simp[List.getD,Vq h1];exact VX _
theorem Mf{w:aM}{s:SyncD}{t k o wake:Int}{n:Nat}(h:∀l∈s.locks,l.readers.length≤n):Sj s (cz w s t k o wake).1 n:=by
  have same:∀l∈s.locks,l.readers.length≤n+1:=λl hl=>Ws (h l hl)
  have lk:∀(i:Int) (f:LockD→LockD),(∀x,x.readers.length≤n→(f x).readers.length≤n+1)→∀l∈aI s i f,l.readers.length≤n+1:=λi f hf l hl=>by
    unfold aI at hl;rcases WA hl with h1|rfl
    · exact same l h1
    · exact hf _ (Me h i)
  have own:∀(i v:Int),∀l∈aI s i (λx=>{x with owner:=v}),l.readers.length≤n+1:=λi v=>lk i _ λx hx=>Ws hx
  have ll:∀(i:Int) (f:LockD→LockD),(aI s i f).length=s.locks.length:=λi f=>by simp[aI]
  have tl:∀(i:Int) (f:ThrD→ThrD),(bF s i f).length=s.threads.length:=λi f=>by simp[bF]
  unfold cz
  repeat' refine iteInduction (motive:=λx:SyncD×Int=>Sj s x.1 n) (λ_=>?_) (λ_=>?_)
  all_goals refine⟨by simp[aI],W4,by simp[bF,FQ,eB,NI],?_⟩
  all_goals first
    |exact same
    | (intro l hl; dsimp only at hl
       refine lk _ _ (λx hx=>?_) l hl;dsimp only
       first
         |exact Ws hx
         |exact VD (Md _ _) (Nat.succ_le_succ hx)
         |exact VD (WO _ _) (Ws hx))
theorem PT{i:bj}{e:da}{s:eh}{th:aV}{sv:Int}:(dP i e s th sv).thread.ev=IntKind.i64.wrap (th.ev+1)∧(dP i e s th sv).thread.regs.length=th.regs.length∧(dP i e s th sv).cells.length=s.cells.length∧(dP i e s th sv).futures.length=s.futures.length:=by
 unfold dP;dsimp only
 repeat' split
 all_goals exact⟨rfl,W4,W4,W4⟩
theorem PU{i:bj}{s s2:aV}(h:bQ i s=some s2):s2.ev=s.ev:=by
 unfold bQ at h
 repeat' split at h
 all_goals first
  |(cases h;rfl)
  |cases h
theorem Sk{ins:List bj}:∀(k:Nat) {s y:aV},gY ins k s=(y,true)→y.ev=s.ev∧y.regs.length=s.regs.length:=by
 intro k
 induction k with
 |zero=>
  intro s y h;unfold gY at h
  repeat' split at h
  all_goals first
   |(cases h;exact⟨rfl,rfl⟩)
   |cases h
 |succ k ih=>
  intro s y h;unfold gY at h;split at h
  ·split at h
   ·cases h;exact⟨rfl,rfl⟩
   ·split at h
    ·cases h
    ·rename_i s2 he;obtain⟨a,b⟩:=ih h;rw[a,b,PU he,(FU he).1];exact⟨rfl,rfl⟩
  ·cases h
theorem Mg{c:iy}{s y:aV}(h:bV c s=(y,true)):y.ev=s.ev∧y.regs.length=s.regs.length:=by
 unfold bV at h;split at h
 ·exact Sk _ h
 ·cases h
structure Um(c:bN)(s:eh)(t wake:Int)(s':eh)(e':da):Prop where
 ex:∃(e:da) (th':aV),hM c s t=some e∧(gX c.w s.sync t e.kind e.obj wake).2.2=true∧s.cells.length=c.w.cells.length∧s.futures.length=c.w.futures.length∧
  (th'=(dP (dk (aB c t) (bJ s t).pc) e s (bJ s t) (gX c.w s.sync t e.kind e.obj wake).2.1).thread∨bV (aB c t) (dP (dk (aB c t) (bJ s t).pc) e s (bJ s t) (gX c.w s.sync t e.kind e.obj wake).2.1).thread=(th',true))∧
  s'=⟨(gX c.w s.sync t e.kind e.obj wake).1,(dP (dk (aB c t) (bJ s t).pc) e s (bJ s t) (gX c.w s.sync t e.kind e.obj wake).2.1).cells,(dP (dk (aB c t) (bJ s t).pc) e s (bJ s t) (gX c.w s.sync t e.kind e.obj wake).2.1).futures,s.threads.set t.toNat th'⟩∧
  e'={e with value:=(dP (dk (aB c t) (bJ s t).pc) e s (bJ s t) (gX c.w s.sync t e.kind e.obj wake).2.1).value}
theorem D5{c:bN}{s s':eh}{t wake:Int}{e':da}(h:A3 c s t wake=some (s',e')):Um c s t wake s' e':=by
 rw[Ln]at h;cases hp:hM c s t with
 |none=>rw[hp]at h;cases h
 |some e=>
  rw[hp]at h;dsimp only at h;split at h
  ·rename_i hl;split at h
   ·rename_i hr;unfold Af at h;split at h
    ·split at h
     ·rename_i hz;cases h;exact⟨e,_,hp,hr,hl.1,hl.2,.inr (Prod.ext rfl hz),rfl,rfl⟩
     ·cases h
    ·cases h;exact⟨e,_,hp,hr,hl.1,hl.2,.inl rfl,rfl,rfl⟩
   ·cases h
  ·cases h
theorem Oj{c:bN}{s s':eh}{t wake:Int}{e':da}{n:Nat}(hn:n<400)(H:Ag c n s)(hi:∀x∈c.ts,D1 x)(h:A3 c s t wake=some (s',e')):Ag c (n+1) s':=by
 obtain⟨e,th',hp,hr,hl1,hl2,hth,rfl,rfl⟩:=D5 h;have a2:=(kq (D4 hi hp).ready).2.1;have hmem:bJ s t∈s.threads:=iS (d:=aV.zero) a2;obtain⟨t1,t2,t3,t4⟩:=H.thr _ hmem;have at_:=IY (U:=U9) (i:=dk (aB c t) (bJ s t).pc) (e:=e) (s:=s) (sv:=(gX c.w s.sync t e.kind e.obj wake).2.1) t1 (Oh t2 W1);obtain⟨q1,q2,q3,q4⟩:=PT (i:=dk (aB c t) (bJ s t).pc) (e:=e) (s:=s) (th:=bJ s t) (sv:=(gX c.w s.sync t e.kind e.obj wake).2.1);rw[V9 _ W1]at q1;have hL:Sj s.sync (gX c.w s.sync t e.kind e.obj wake).1 n:=by
  unfold gX at hr ⊢;split
  ·exact Mf H.rd
  ·rename_i he;rw[if_neg he]at hr;cases hr
 have key:jf U9 th'∧th'.ev=(bJ s t).ev+1∧th'.regs.length=(bJ s t).regs.length:=by
  rcases hth with rfl|hz
  ·exact⟨at_,q1,q2⟩
  ·have:=Iw (c:=aB c t) Oi at_;rw[hz]at this;obtain⟨a,b⟩:=Mg hz;exact⟨this,W1,W1⟩
 refine⟨λx hx=>?_,by simpa using H.nt,by rw[hL.lk];exact H.lk,hL.rd,by rw[hL.dn];exact H.dn,by rw[hL.th];exact H.th,by rw[q3];exact H.nc,by rw[q4];exact H.nf⟩;rcases WA hx with h1|rfl
 ·obtain⟨b1,b2,b3,b4⟩:=H.thr x h1;exact⟨b1,b2,W1,b4⟩
 ·exact⟨key.1,W1,W1,W1⟩
theorem Ol{c:bN}{s:eh}{n:Nat}(hn:n≤400)(H:Ag c n s)(hi:∀x∈c.ts,D1 x)(hl:∀x∈c.ts,x.ins.length<2^40)(hc:c.w.conds.length<2^40):QN U9 c s where
 ins:=hi
 len:=hl
 u30:=Oi
 thr:=λx hx=>by obtain⟨b1,b2,b3,b4⟩:=H.thr x hx;exact⟨b1,Oh b2 W1,W1⟩
 sm:=⟨hc,by have:=H.lk;omega,by have:=H.dn;omega,by have:=H.th;omega,λl h=>by have:=H.rd l h;omega⟩
 nt:=by have:=H.nt;omega
 nc:=by have:=H.nc;omega
 nf:=by have:=H.nf;omega
end
section
set_option maxRecDepth 100000
set_option maxHeartbeats 4000000
set_option linter.unusedSimpArgs false
set_option linter.unusedSectionVars false
def eF(c:bN)(l:List cU)(p:List da×eh):List da×eh:=l.foldl (Hp c) p
theorem FY(c:bN):∀(l:List cU) (p:List da×eh),400≤p.1.length→eF c l p=p
 |[],p,_=>rfl
 | ch::l,p,h=>by
  show eF c l (Hp c p ch)=p;have e:Hp c p ch=p:=by unfold Hp;rw[if_pos h]
  rw[e];exact FY c l p h
theorem FZ(c:bN)(l:List cU)(k:Nat)(p:List da×eh):eF c l p=eF c (l.drop k) (eF c (l.take k) p):=by unfold eF;rw[←List.foldl_append,List.take_append_drop]
theorem Mh(c:bN)(l:List cU)(k:Nat)(hk:k<l.length)(p:List da×eh):eF c (l.take (k+1)) p=Hp c (eF c (l.take k) p) l[k]:=by unfold eF;rw[Vw hk,List.foldl_append];rfl
structure F0(c:bN):Prop where
 ins:∀x∈c.ts,D1 x
 len:∀x∈c.ts,x.ins.length<2^40
 con:c.w.conds.length<2^40
theorem Om{c:bN}(hc:F0 c){p:List da×eh}{ch:cU}(h:Ag c p.1.length p.2)(hn:p.1.length≤400):Ag c (Hp c p ch).1.length (Hp c p ch).2∧(Hp c p ch).1.length≤400:=by
 unfold Hp;split
 ·exact⟨h,hn⟩
 ·rename_i hlt;split
  ·exact⟨h,hn⟩
  ·rename_i n e hs;have:=Oj W1 h hc.ins hs;exact⟨by simpa using this,by simp;omega⟩
theorem Lo{c:bN}(hc:F0 c)(l:List cU){p:List da×eh}(h:Ag c p.1.length p.2)(hn:p.1.length≤400):Ag c (eF c l p).1.length (eF c l p).2∧(eF c l p).1.length≤400:=by
 induction l generalizing p with
 |nil=>exact⟨h,hn⟩
 |cons ch l ih=>obtain⟨a,b⟩:=Om (ch:=ch) hc h hn;exact ih a b
def On(p:List da×eh):AV:=.tup [.lst (p.1.map da.enc),.agg p.2.enc]
theorem Oo(c:bN)(hc:F0 c)(l:List cU)(hl:l.length<2^62)(s0:eh)(h0:Ag c 0 s0)(b2 b9:Nat)(Q:R)(hq:∀v L,Fz L v (On (eF c l ([],s0)))→Q v L):
  W.loop (lm (gR Q)) [.pptr [c.enc] 0 0,.ptr b2 0 0,.ptr b9 0 0,.nils,.lst (l.map cU.enc),.W6 l.length,.W6 (0:Nat)] [(b9,⟨7,[s0.enc]⟩),(b2,⟨7,[bG]⟩)]:=by
 refine cb l.length (λk (o:Option Nat)=>([.pptr [c.enc] 0 0,.ptr b2 0 0,.ptr b9 0 0,am o (eF c (l.take k) ([],s0)).1.length,.lst (l.map cU.enc),.W6 l.length,.W6 k],(b9,⟨7,[(eF c (l.take k) ([],s0)).2.enc]⟩)::(b2,⟨7,[bG]⟩)::ae o 7 ((eF c (l.take k) ([],s0)).1.map da.enc))) (λk o=>o=none→(eF c (l.take k) ([],s0)).1=[]) none (λ_=>rfl) (aG.drop (K:=[]) (.refl _) rfl (i9.at_ (.cons (.refl _) (.cons (.refl _) (.cons (.refl _) (.cons .nile (.cons (.refl _) (.cons (.refl _) (.cons (.refl _) .nil)))))))).2) ?_;intro k o hk ho;dsimp only;have hiv:=Lo hc (l.take k) (p:=([],s0)) h0 (Nat.zero_le _);have hsplit:=FZ c l k ([],s0);have hsucc:=λ(h:k<l.length)=>Mh c l k h ([],s0);generalize hp:eF c (l.take k) ([],s0)=p at *;obtain⟨ev,sx⟩:=p;dsimp only at *;have fin:eF c l ([],s0)=(ev,sx)→∀L,(∀q∈ae o 7 (ev.map da.enc),q∈L)→Q (.tup [am o ev.length,.agg sx.enc]) L:=λhe L hm=>by
  refine hq _ _ ?_;rw[he];refine Fz.tups (.cons ?_ (.cons (.refl _) .nil));cases o with
  |none=>rw[ho rfl];exact .emp
  |some b=>exact Fz.sls (hm _ (.head _)) rfl W5 rfl
 unfold lm;obtain⟨J,hJ⟩:∃J,J=gR Q:=⟨_,rfl⟩;have jn:eF c l ([],s0)=(ev,sx)→J [.ptr b2 0 0,.ptr b9 0 0,am o ev.length] ((b9,⟨7,[sx.enc]⟩)::(b2,⟨7,[bG]⟩)::ae o 7 (ev.map da.enc)):=λhe=>by
  have fin:=fin he;rw[hJ];unfold gR bG eh.enc at *;cases o
  all_goals
   dsimp only[am,ae]at *
   repeat' (first|refine st ?_|refine sb λnb_ hnb_=>?_|refine s2 (λh=>?_) λh=>?_|fail)
   exact fin _ W4
 rw[←hJ];clear fin hJ;rcases Vp k l.length with g1|g1
 ·have hd:=bI g1;have hx:=aw (f:=cU.enc) g1;have hsucc:=hsucc g1;generalize hch:l[k]=ch at *;obtain⟨ct,cw⟩:=ch;unfold cU.enc at hx;dsimp only at hx;by_cases hfull:400≤ev.length
  ·have jn:=jn (by rw[hsplit];exact FY c _ _ hfull);have d4:decide ((ev.length:Int)≥400)=true:=decide_eq_true W1;clear hq hsplit hsucc hp;cases o with
   |none=>rw[ho rfl]at hfull;simp at hfull
   |some bo=>
    dsimp only[am,ae]at *
    repeat' (first|exact jn|refine st ?_|refine sb λnb_ hnb_=>?_|refine s2 (λh=>?_) λh=>?_|fail)
  ·have d4:decide ((ev.length:Int)≥400)=false:=decide_eq_false W1;have hst:=PS U9 c sx ct cw (Ol hiv.2 hiv.1 hc.ins hc.len hc.con);have hgo:Hp c (ev,sx) ⟨ct,cw⟩=match A3 c sx ct cw with
    |none=>(ev,sx)
    |some (n,e)=>(ev++[e],n):=by unfold Hp;rw[if_neg hfull];rfl
   clear hq hsplit jn;cases hs:A3 c sx ct cw with
   |none=>
    rw[hs]at hst hgo;dsimp only at hgo;unfold G1 at hst;have hz:eh.zero.enc=[.lst [],.W6 0,.lst [],.lst [],.lst [],.lst [],.lst []]:=rfl;rw[hz,show da.zero.enc=[.W6 0,.W6 0,.W6 0,.W6 0,.W6 0,.lst [],.lst []]from rfl]at hst;have fin2:∀L,L=(b9,(⟨7,[sx.enc]⟩:Blk))::(b2,⟨7,[bG]⟩)::ae o 7 (ev.map da.enc)→∃(j:Nat) (o':Option Nat),k<j∧j≤l.length∧(o'=none→(eF c (l.take j) ([],s0)).1=[])∧aG [.pptr [c.enc] 0 0,.ptr b2 0 0,.ptr b9 0 0,am o ev.length,.lst (l.map cU.enc),.W6 l.length,.W6 (IntKind.i64.wrap ((k:Int)+1))] L
      [.pptr [c.enc] 0 0,.ptr b2 0 0,.ptr b9 0 0,am o' (eF c (l.take j) ([],s0)).1.length,.lst (l.map cU.enc),.W6 l.length,.W6 j] ((b9,⟨7,[(eF c (l.take j) ([],s0)).2.enc]⟩)::(b2,⟨7,[bG]⟩)::ae o' 7 ((eF c (l.take j) ([],s0)).1.map da.enc)):=by
     rintro L rfl;refine⟨k+1,o,W1,W1,?_,?_⟩
     ·rw[hsucc,hgo];exact ho
     ·rw[hsucc,hgo,aD g1 hl];exact .refl _ _
    cases o
    all_goals
     dsimp only[am,ae]at *
     repeat' (first|refine st ?_|(refine pf 30 ?_;refine pm (hst) ?_)|refine sb λnb_ hnb_=>?_|refine s2 (λh=>?_) λh=>?_|fail)
     exact fin2 _ rfl
   |some r=>
    obtain⟨n,e⟩:=r;rw[hs]at hst hgo;dsimp only at hgo;unfold G1 at hst;have hn:n.enc=[.lst (n.sync.locks.map LockD.enc),.W6 n.sync.tx,.lst (n.sync.done.map aT),.lst (n.sync.threads.map ThrD.enc),.lst (n.cells.map aj),.lst (n.futures.map aj),.lst (n.threads.map aV.enc)]:=rfl;have he:e.enc=[.W6 e.thread,.W6 e.kind,.W6 e.obj,.W6 e.value,.W6 e.site,.lst (e.deps.map aj),.lst (e.frm.map aj)]:=rfl;dsimp only at hst;have fin3:∀(nb:Nat) (L:SH),gD L ((b9,(⟨7,[n.enc]⟩:Blk))::(b2,⟨7,[bG]⟩)::ae (some nb) 7 (ev.map da.enc++[e.enc]))→∃(j:Nat) (o':Option Nat),k<j∧j≤l.length∧(o'=none→(eF c (l.take j) ([],s0)).1=[])∧aG [.pptr [c.enc] 0 0,.ptr b2 0 0,.ptr b9 0 0,.sl nb 0 (ev.length+1),.lst (l.map cU.enc),.W6 l.length,.W6 (IntKind.i64.wrap ((k:Int)+1))] L
      [.pptr [c.enc] 0 0,.ptr b2 0 0,.ptr b9 0 0,am o' (eF c (l.take j) ([],s0)).1.length,.lst (l.map cU.enc),.W6 l.length,.W6 j] ((b9,⟨7,[(eF c (l.take j) ([],s0)).2.enc]⟩)::(b2,⟨7,[bG]⟩)::ae o' 7 ((eF c (l.take j) ([],s0)).1.map da.enc)):=by
     intro nb L hL;refine⟨k+1,some nb,W1,W1,nofun,?_⟩;rw[hsucc,hgo,aD g1 hl];exact aG.pickE hL (by simp[am]) W4
    rw[hn,he]at *;have hev400:ev.length<2^30:=by omega
    repeat' (first|refine st ?_|(refine pf 30 ?_;refine pm (hst) ?_)|refine cx rp rp W4 (λe=>by first|simp[ho e]) W3 W4 (by simp;omega) (by simp;omega) W3 (λnb_ hnb_=>?_)|refine Lk ?_ (λe=>by rw[ho e];rfl)|refine sb λnb_ hnb_=>?_|refine s2 (λh=>?_) λh=>?_|fail)
    exact fin3 _ _ rp
 ·have hd:=bO g1;have hk0:k=l.length:=by omega
  subst hk0;have jn:=jn (by rw[hsplit,List.drop_of_length_le (Vl _)];rfl);clear hq hsplit hsucc hp
  repeat' (first|exact jn|refine st ?_|refine sb λnb_ hnb_=>?_|refine s2 (λh=>?_) λh=>?_|fail)
end
section
open Go.RowKit
theorem J3(xs:List aY)(hl:xs.length≤1000):az Tryz.prog 31 [.lst (xs.map aY.enc)] (.lst (xs.map aY.enc)):=by
 refine af.fz ((fE (λA n c xs w hf h1 hn hA=>cloneWc_any A n c xs w hf h1 hn hA) ⟨_,_,Tryz.func31,rfl⟩ (xs.map aY.enc) (by rw[VB];intro r hr;obtain⟨x,_,rfl⟩:=VY.1 hr;rfl) (λr hr=>by obtain⟨x,_,rfl⟩:=VY.1 hr;rfl) (by simp;omega)).mono ?_);rintro v L ⟨o,rfl,rfl,h⟩;refine⟨_,[],aG.all ?_,rfl,rfl⟩;cases o with
 |none=>rw[h rfl];exact .refl _
 |some b=>exact Fz.sls (.head _) rfl W5 W4
theorem J4(xs:List bZ)(hl:xs.length≤1000):az Tryz.prog 32 [.lst (xs.map bZ.enc)] (.lst (xs.map bZ.enc)):=by
 refine af.fz ((fE (λA n c xs w hf h1 hn hA=>cloneWl_any A n c xs w hf h1 hn hA) ⟨_,_,Tryz.func32,rfl⟩ (xs.map bZ.enc) (by rw[VB];intro r hr;obtain⟨x,_,rfl⟩:=VY.1 hr;rfl) (λr hr=>by obtain⟨x,_,rfl⟩:=VY.1 hr;rfl) (by simp;omega)).mono ?_);rintro v L ⟨o,rfl,rfl,h⟩;refine⟨_,[],aG.all ?_,rfl,rfl⟩;cases o with
 |none=>rw[h rfl];exact .refl _
 |some b=>exact Fz.sls (.head _) rfl W5 W4
theorem J5(xs:List cS)(hl:xs.length≤1000):az Tryz.prog 33 [.lst (xs.map cS.enc)] (.lst (xs.map cS.enc)):=by
 refine af.fz ((fE (λA n c xs w hf h1 hn hA=>cloneWd_any A n c xs w hf h1 hn hA) ⟨_,_,Tryz.func33,rfl⟩ (xs.map cS.enc) (by rw[VB];intro r hr;obtain⟨x,_,rfl⟩:=VY.1 hr;rfl) (λr hr=>by obtain⟨x,_,rfl⟩:=VY.1 hr;rfl) (by simp;omega)).mono ?_);rintro v L ⟨o,rfl,rfl,h⟩;refine⟨_,[],aG.all ?_,rfl,rfl⟩;cases o with
 |none=>rw[h rfl];exact .refl _
 |some b=>exact Fz.sls (.head _) rfl W5 W4
theorem J6(xs:List cI)(hl:xs.length≤1000):az Tryz.prog 35 [.lst (xs.map cI.enc)] (.lst (xs.map cI.enc)):=by
 refine af.fz ((fE (λA n c xs w hf h1 hn hA=>cloneWs_any A n c xs w hf h1 hn hA) ⟨_,_,Tryz.func35,rfl⟩ (xs.map cI.enc) (by rw[VB];intro r hr;obtain⟨x,_,rfl⟩:=VY.1 hr;rfl) (λr hr=>by obtain⟨x,_,rfl⟩:=VY.1 hr;rfl) (by simp;omega)).mono ?_);rintro v L ⟨o,rfl,rfl,h⟩;refine⟨_,[],aG.all ?_,rfl,rfl⟩;cases o with
 |none=>rw[h rfl];exact .refl _
 |some b=>exact Fz.sls (.head _) rfl W5 W4
theorem D6(xs:List aZ)(hl:xs.length≤1000):az Tryz.prog 34 [.lst (xs.map au)] (.lst (xs.map au)):=by
 refine af.fz ((fE (λA n c xs w hf h1 hn hA=>cloneWt_any A n c xs w hf h1 hn hA) ⟨_,_,Tryz.func34,rfl⟩ (xs.map au) (by rw[VB];intro r hr;obtain⟨x,_,rfl⟩:=VY.1 hr;rfl) (λr hr=>by obtain⟨x,_,rfl⟩:=VY.1 hr;rfl) (by simp;omega)).mono ?_);rintro v L ⟨o,rfl,rfl,h⟩;refine⟨_,[],aG.all ?_,rfl,rfl⟩;cases o with
 |none=>rw[h rfl];exact .refl _
 |some b=>exact Fz.sls (.head _) rfl W5 W4
end
section
set_option maxRecDepth 100000
set_option maxHeartbeats 4000000
set_option linter.unusedSimpArgs false
theorem Mi(w:aM)(h1:w.cells.length≤1000)(h2:w.locks.length≤1000)(h3:w.conds.length≤1000)(h4:w.futures.length≤1000)(h5:w.threads.length≤1000)(h6:w.sites.length≤1000):az Tryz.prog 15 [.agg w.enc] (.agg w.enc):=by
 have k1:=J3 w.cells h1;have k2:=J4 w.locks h2;have k3:=J5 w.conds h3;have k4:=D6 w.futures h4;have k5:=D6 w.threads h5;have k6:=J6 w.sites h6;refine af.fz (Ae _ _ _ ?_);unfold nK;generalize hQ:(λ(v:AV) (L:SH)=>∃v2 L2,aG [v] L [v2] L2∧v2=AV.agg w.enc∧L2=[])=Q;have hq:∀L,Q (.agg w.enc) L:=λL=>by subst hQ;exact⟨_,[],aG.all (.refl _),rfl,rfl⟩
 clear hQ;unfold aM.enc at *
 repeat' (first|refine st ?_|(refine pf 31 ?_;refine pm (k1) ?_)|(refine pf 32 ?_;refine pm (k2) ?_)|(refine pf 33 ?_;refine pm (k3) ?_)|(refine pf 34 ?_;refine pm (k4) ?_)|(refine pf 34 ?_;refine pm (k5) ?_)|(refine pf 35 ?_;refine pm (k6) ?_)|refine sb λnb_ hnb_=>?_|refine s2 (λh=>?_) λh=>?_|fail)
 exact hq _
theorem Mj(c:bN)(hc:F0 c)(l:List cU)(hl:l.length<2^62)(hst:az Tryz.prog 29 [.agg c.enc] (.agg (cV c).enc))(h0:Ag c 0 (cV c)):az Tryz.prog 14 [.agg c.enc,.lst (l.map cU.enc)] (On (fo c l)):=by
 refine af.fz (Ff _ _ _ _ ?_);unfold xE;generalize hQ:(λ(v:AV) (L:SH)=>∃v2 L2,aG [v] L [v2] L2∧v2=On (fo c l)∧L2=[])=Q;have hq:∀v L,Fz L v (On (eF c l ([],cV c)))→Q v L:=λv L h=>by subst hQ;exact⟨_,[],aG.all h,rfl,rfl⟩
 clear hQ;have lp:=λb2 b9=>Oo c hc l hl (cV c) h0 b2 b9 Q hq
 have hce:c.enc=[.lst (c.w.cells.map aY.enc),.lst (c.w.locks.map bZ.enc),.lst (c.w.conds.map cS.enc),.lst (c.w.futures.map au),.lst (c.w.threads.map au),.lst (c.w.sites.map cI.enc),.lst (c.ts.map iy.enc)]:=rfl;generalize cV c=s0 at *;have hse:s0.enc=[.lst (s0.sync.locks.map LockD.enc),.W6 s0.sync.tx,.lst (s0.sync.done.map aT),.lst (s0.sync.threads.map ThrD.enc),.lst (s0.cells.map aj),.lst (s0.futures.map aj),.lst (s0.threads.map aV.enc)]:=rfl;unfold bG at lp;rw[hce,hse]at *
 repeat' (first|exact lp _ _|refine st ?_|(refine pf 29 ?_;refine pm (hst) ?_)|refine sb λnb_ hnb_=>?_|refine s2 (λh=>?_) λh=>?_|fail)
theorem D7{c:bN}(h:DN c)(hl:∀t∈c.ts,t.ins.length<2^40):F0 c where
 ins:=λx hx i hi=>by obtain⟨k,hk,rfl⟩:=List.mem_iff_getElem.1 hx;obtain⟨j,hj,rfl⟩:=List.mem_iff_getElem.1 hi;have:=(h.thr k hk).ins j hj;exact⟨this.lo,this.hi,this.regs⟩
 len:=hl
 con:=by have:=h.world.d2;omega
theorem IZ{c:bN}(h:DN c):∀t∈c.ts,0≤t.regs∧t.regs≤1000:=λt ht=>by obtain⟨k,hk,rfl⟩:=List.mem_iff_getElem.1 ht;have:=h.thr k hk;have h0:=this.r0;have h32:=this.r32;exact⟨h0,W1⟩
theorem G3{c:bN}(h:DN c):Ag c 0 (cV c):=by
 have hw:=h.world;refine⟨λx hx=>?_,?_,?_,λl hl=>?_,?_,?_,?_,?_⟩
 ·obtain⟨t,ht,rfl⟩:=VY.1 hx;have:=IZ h t ht;exact⟨⟨W4,by simp;omega,λl hl=>by rw[(List.mem_replicate.1 hl).2];simp,λl hl x hx=>by rw[(List.mem_replicate.1 hl).2]at hx;simp at hx⟩,Int.le_refl _,Int.le_refl _,by simp;omega⟩
 ·have:=h.len;have:=hw.t4;simp[cV];omega
 ·have:=hw.l4;simp[cV,cZ];omega
 ·have:=(List.mem_replicate.1 hl).2;rw[this];simp
 ·have:=hw.f2;simp[cV,cZ];omega
 ·have:=hw.t4;simp[cV,cZ];omega
 ·have:=hw.c12;simp[cV];omega
 ·have:=hw.f2;simp[cV];omega
structure D8 where
 w:aM
 ev:List da
def D8.enc(t:D8):List AV:=[.lst (t.w.cells.map aY.enc),.lst (t.w.locks.map bZ.enc),.lst (t.w.conds.map cS.enc),.lst (t.w.futures.map au),.lst (t.w.threads.map au),.lst (t.w.sites.map cI.enc),.lst (t.ev.map da.enc)]
noncomputable def oE (c:bN) (l:List cU):D8×eh:=if mU (DN c)then(⟨c.w,(fo c l).1⟩,(fo c l).2)else(⟨⟨[],[],[],[],[],[]⟩,[]⟩,eh.zero)
theorem Lp(c:bN)(hl:∀t∈c.ts,t.ins.length<2^40)(l:List cU)(hll:l.length<2^62):az Tryz.prog 8 [.agg c.enc,.lst (l.map cU.enc)] (.tup [.agg (oE c l).1.enc,.agg (oE c l).2.enc]):=by
 have hv:=Oc c λt ht=>by have:=hl t ht;omega
 refine af.fz (J0 _ _ _ _ ?_);unfold FX;generalize hQ:(λ(v:AV) (L:SH)=>∃v2 L2,aG [v] L [v2] L2∧v2=AV.tup [.agg (oE c l).1.enc,.agg (oE c l).2.enc]∧L2=[])=Q;have hq:∀a b L,i9 L a (oE c l).1.enc→i9 L b (oE c l).2.enc→Q (.tup [.agg a,.agg b]) L:=λa b L h1 h2=>by subst hQ;exact⟨_,[],aG.all (Fz.tups (.cons (Fz.aggs h1) (.cons (Fz.aggs h2) .nil))),rfl,rfl⟩
 clear hQ;have hce:c.enc=[.lst (c.w.cells.map aY.enc),.lst (c.w.locks.map bZ.enc),.lst (c.w.conds.map cS.enc),.lst (c.w.futures.map au),.lst (c.w.threads.map au),.lst (c.w.sites.map cI.enc),.lst (c.ts.map iy.enc)]:=rfl;cases hd:mU (DN c)with
 |false=>
  rw[hd]at hv;have hr:oE c l=(⟨⟨[],[],[],[],[],[]⟩,[]⟩,eh.zero):=by unfold oE;rw[hd];rfl
  rw[hr]at hq;have hz:∀L,Q (.tup [.agg [.nils,.nils,.nils,.nils,.nils,.nils,.nils],.agg [.nils,.W6 0,.nils,.nils,.nils,.nils,.nils]]) L:=λL=>hq _ _ L (by unfold D8.enc;exact fl) (by unfold eh.zero eh.enc Lc;exact fl)
  rw[hce]at *
  repeat' (first|refine st ?_|(refine pf 13 ?_;refine pm (hv) ?_)|refine sb λnb_ hnb_=>?_|refine s2 (λh=>?_) λh=>?_|fail)
  exact hz _
 |true=>
  rw[hd]at hv;have hP:=ki.1 hd;have hw:=hP.world;have hr:oE c l=(⟨c.w,(fo c l).1⟩,(fo c l).2):=by unfold oE;rw[hd];rfl
  rw[hr]at hq;have hst:=Mc c (by have:=hw.c12;omega) (by have:=hw.l4;omega) (by have:=hw.f2;omega) (by have:=hw.t4;omega) (by have:=hP.len;have:=hw.t4;omega) (IZ hP);have hf:=Mj c (D7 hP hl) l hll hst (G3 hP);have hcw:=Mi c.w (by have:=hw.c12;omega) (by have:=hw.l4;omega) (by have:=hw.d2;omega) (by have:=hw.f2;omega) (by have:=hw.t4;omega) (by have:=hw.s60;omega);generalize fo c l=p at *;obtain⟨ev,s⟩:=p;unfold On at hf;have hwe:c.w.enc=[.lst (c.w.cells.map aY.enc),.lst (c.w.locks.map bZ.enc),.lst (c.w.conds.map cS.enc),.lst (c.w.futures.map au),.lst (c.w.threads.map au),.lst (c.w.sites.map cI.enc)]:=rfl;have hse:s.enc=[.lst (s.sync.locks.map LockD.enc),.W6 s.sync.tx,.lst (s.sync.done.map aT),.lst (s.sync.threads.map ThrD.enc),.lst (s.cells.map aj),.lst (s.futures.map aj),.lst (s.threads.map aV.enc)]:=rfl;dsimp only at *;rw[hce]at *;rw[hwe]at hcw;rw[hse]at *;have hz:∀L,Q (.tup [.agg [.lst (c.w.cells.map aY.enc),.lst (c.w.locks.map bZ.enc),.lst (c.w.conds.map cS.enc),.lst (c.w.futures.map au),.lst (c.w.threads.map au),.lst (c.w.sites.map cI.enc),.lst (ev.map da.enc)],.agg [.lst (s.sync.locks.map LockD.enc),.W6 s.sync.tx,.lst (s.sync.done.map aT),.lst (s.sync.threads.map ThrD.enc),.lst (s.cells.map aj),.lst (s.futures.map aj),.lst (s.threads.map aV.enc)]]) L:=λL=>hq _ _ L (i9.refl _ _) (i9.refl _ _)
  repeat' (first|refine st ?_|(refine pf 13 ?_;refine pm (hv) ?_)|(refine pf 14 ?_;refine pm (hf) ?_)|(refine pf 15 ?_;refine pm (hcw) ?_)|refine sb λnb_ hnb_=>?_|refine s2 (λh=>?_) λh=>?_|fail)
  exact hz _
end
section
set_option linter.unusedSimpArgs false
theorem Sm(c:bN)(p:List da×eh)(ch:cU):∃r,(Hp c p ch).1=p.1++r:=by
 unfold Hp;split
 ·exact⟨[],W4⟩
 ·split
  ·exact⟨[],W4⟩
  ·exact⟨_,rfl⟩
theorem PV(c:bN)(l:List cU)(p:List da×eh):∃r,(eF c l p).1=p.1++r:=by
 induction l generalizing p with
 |nil=>exact⟨[],by simp[eF]⟩
 |cons ch l ih=>obtain⟨a,ha⟩:=Sm c p ch;obtain⟨b,hb⟩:=ih (Hp c p ch);exact⟨a++b,by show(eF c l (Hp c p ch)).1=_;rw[hb,ha,VZ]⟩
theorem Fi(c:bN)(l:List cU)(k:Nat):∃r,(fo c l).1=(fo c (l.take k)).1++r:=by have:=FZ c l k ([],cV c);obtain⟨r,hr⟩:=PV c (l.drop k) (eF c (l.take k) ([],cV c));exact⟨r,by rw[show fo c l=eF c l ([],cV c)from rfl,this,hr];rfl⟩
def Oq(e:da):Prop:=e.deps.length≤2^30∧e.frm.length≤2^30
theorem J7{i:bj}{s:aV}{t:Int}(h:∀r,(s.tnt r).length≤2^30):Oq (lW i s t):=by
 unfold lW Oq;dsimp only
 repeat' split
 all_goals first
  |exact⟨VX _,VX _⟩
  |exact⟨h _,VX _⟩
  |exact⟨VX _,h _⟩
  |exact⟨h _,h _⟩
theorem Mk{U:List Int}{s:aV}(h:jf U s)(r:Int):(s.tnt r).length≤2^30:=by
 unfold aV.tnt;rcases Vp r.toNat s.taint.length with h1|h1
 ·simpa[h1]using h.short _ (VF h1)
 ·simp[List.getD,Vq h1]
theorem J8{c:bN}{s:eh}{t:Int}{e:da}{n:Nat}(H:Ag c n s)(h:hM c s t=some e):Oq e:=by
 unfold hM at h;split at h
 ·rename_i hr;have hm:bJ s t∈s.threads:=iS (d:=aV.zero) (kq hr).2.1;have ht:=λr=>Mk (H.thr _ hm).1 r
  dsimp only at h;split at h
  ·cases h;exact⟨VX _,VX _⟩
  ·split at h
   ·cases h;exact⟨VX _,VX _⟩
   ·split at h
    ·split at h
     ·cases h;exact J7 ht
     ·cases h
    ·cases h
 ·cases h
theorem Ot{c:bN}{p:List da×eh}{ch:cU}(H:Ag c p.1.length p.2)(h:∀e∈p.1,Oq e):∀e∈(Hp c p ch).1,Oq e:=by
 unfold Hp;split
 ·exact h
 ·split
  ·exact h
  ·rename_i n e hs;intro x hx;rcases Vz.1 hx with hx|hx
   ·exact h x hx
   ·rw[Vr.1 hx];obtain⟨e0,th',hp,_,_,_,_,_,rfl⟩:=D5 hs;have hs:=J8 H hp;exact hs
theorem Ml{c:bN}(hc:F0 c)(l:List cU){p:List da×eh}(H:Ag c p.1.length p.2)(hn:p.1.length≤400)(h:∀e∈p.1,Oq e):∀e∈(eF c l p).1,Oq e:=by
 induction l generalizing p with
 |nil=>exact h
 |cons ch l ih=>obtain⟨a,b⟩:=Om (ch:=ch) hc H hn;exact ih a b (Ot H h)
theorem G4{c:bN}(h:DN c)(hl:∀t∈c.ts,t.ins.length<2^40)(l:List cU):(∀e∈(fo c l).1,Oq e)∧(fo c l).1.length≤400:=
 ⟨Ml (D7 h hl) l (G3 h) (VX _) nofun,(Lo (D7 h hl) l (p:=([],cV c)) (G3 h) (VX _)).2⟩
theorem F1(c:bN)(hl:∀t∈c.ts,t.ins.length<2^40)(l:List cU):(∀e∈(oE c l).1.ev,Oq e)∧(oE c l).1.ev.length≤400:=by
 unfold oE;cases hd:mU (DN c)with
 |true=>exact G4 (ki.1 hd) hl l
 |false=>exact⟨nofun,VX _⟩
theorem J9(c:bN)(l:List cU)(k:Nat):∃r,(oE c l).1.ev=(oE c (l.take k)).1.ev++r:=by
 unfold oE;cases hd:mU (DN c)with
 |true=>exact Fi c l k
 |false=>exact⟨[],rfl⟩
end
section
set_option maxRecDepth 100000
def ku(x y:AV)(L:SH)(Q:R):Prop:=W.box x L λz A=>W.box y A λB C=>W.frz1 z C λa D=>W.frz1 B D λb i=>aA 0 a i λE=>aA 0 b i λF=>wb .eql 3 E F λc=>wg c true (W.faddr 1 a) i λG j=>wg c true (wl G j) j λH I=>wg c true (W.faddr 1 b) I λJ k=>wg c true (wl J k) k λM N=>wg c true (wb .eql 3 H M) N λO P=>W.pick c O (.bool false) λd=>wg d true (W.faddr 2 a) P λS l=>wg d true (wl S l) l λT U=>wg d true (W.faddr 2 b) U λV m=>wg d true (wl V m) m λX Y=>wg d true (wb .eql 3 T X) Y λZ a0=>W.pick d Z (.bool false) λe=>wg e true (W.faddr 3 a) a0 λa1 n=>wg e true (wl a1 n) n λa2 a3=>wg e true (W.faddr 3 b) a3 λa4 o=>wg e true (wl a4 o) o λa5 a6=>wg e true (wb .eql 2 a2 a5) a6 λa7 a8=>W.pick e a7 (.bool false) λf=>wg f true (W.faddr 4 a) a8 λa9 p=>wg f true (wl a9 p) p λb0 b1=>wg f true (W.faddr 4 b) b1 λb2 q=>wg f true (wl b2 q) q λb3 b4=>wg f true (wb .eql 3 b0 b3) b4 λb5 b6=>W.pick f b5 (.bool false) λg=>wg g true (W.faddr 5 a) b6 λb7 r=>wg g true (wl b7 r) r λb8 b9=>wg g true (W.faddr 5 b) b9 λc0 s=>wg g true (wl c0 s) s λc1 t=>W.grd g true (λc2=>wc (.fn 36 []) [b8,c1] t λc3 c4=>c2 c3 c4) t λc5 c6=>W.pick g c5 (.bool false) λh=>wg h true (W.faddr 6 a) c6 λc7 u=>wg h true (wl c7 u) u λc8 c9=>wg h true (W.faddr 6 b) c9 λd0 v=>wg h true (wl d0 v) v λd1 w=>W.grd h true (λd2=>wc (.fn 36 []) [c8,d1] w λd3 d4=>d2 d3 d4) w λd5 d6=>W.pick h d5 (.bool false) λd7=>Q d7 d6
theorem tB(t0 t1:AV)(L:SH)(Q:R)(h:ku t0 t1 L Q):af Tryz.prog 16 [t0,t1] L Q:=
 fs [] [] [(0,[2,3])] [] Tryz.func16 h
def qR(Q:R)(b:Kn)(c:SH)(d e f g:AV)(a:SH)(h:Ns):Prop:=wn [] h [] c.names λk=>W.un .not g λi=>wk i (Q (.bool false) a) (wb .add 3 d (.W6 1) λj=>b [e,f,j] a)
def qS(Q:R)(g:Kn)(a:SH)(c b d:AV):Prop:=(true=true)∧(di [] 2 7 c b a λh e=>dr [] 3 7 h a λi f=>di [rm 3 f,rm 2 e] 6 7 d b a λj l=>dr [rm 3 f,rm 2 e] 7 7 j a λk m=>wd [] 8 (.fn 16 []) [i,k] a (qR Q g a b c d))
def iF(Q:R)(d:Vs)(a:SH)(e:Kn):Prop:=sg 0 1 5 d λb f c=>W.len b λg=>wb .lss 3 c g λh=>wk h ((qS Q e a b c f)) (Q (.bool true) a)
def jy(a b:AV)(L:SH)(Q:R):Prop:=W.len a λc=>W.len b λd=>wb .neq 3 c d λe=>wk e (Q (.bool false) L) (W.loop (iF Q) [a,b,(.W6 0)] L)
theorem qT(t0 t1:AV)(L:SH)(Q:R)(h:jy t0 t1 L Q):af Tryz.prog 9 [t0,t1] L Q:=
 fs [] [(4,[0,1,5])] [] [(6,[0,0,3,7,0,0,48,112,255,511])] Tryz.func9 h
end
section
set_option maxRecDepth 100000
def xK(Q:R)(g:Kn)(a:SH)(c b d:AV):Prop:=(true=true)∧(di [] 2 1 c b a λh e=>dl [] 3 h a λi f=>di [rm 3 f,rm 2 e] 6 1 d b a λj n=>dl [rm 3 f,rm 2 e] 7 j a λk o=>wb .neq 3 i k λl=>wk l (Q (.bool false) a) (wb .add 3 b (.W6 1) λm=>g [c,d,m] a))
def kv(Q:R)(d:Vs)(a:SH)(e:Kn):Prop:=sg 0 1 5 d λb f c=>W.len b λg=>wb .lss 3 c g λh=>wk h ((xK Q e a b c f)) (Q (.bool true) a)
def l5(a b:AV)(L:SH)(Q:R):Prop:=W.len a λc=>W.len b λd=>wb .neq 3 c d λe=>wk e (Q (.bool false) L) (W.loop (kv Q) [a,b,(.W6 0)] L)
theorem xL(t0 t1:AV)(L:SH)(Q:R)(h:l5 t0 t1 L Q):af Tryz.prog 36 [t0,t1] L Q:=
 fs [] [(4,[0,1,5])] [] [(6,[0,0,3,7,0,0,48,112,255])] Tryz.func36 h
end
section
set_option maxRecDepth 100000
theorem I0(l:List Int)(hl:l.length<2^62):az Tryz.prog 36 [.lst (l.map aj),.lst (l.map aj)] (.bool true):=by
 refine xL _ _ _ _ ?_;unfold l5;generalize hQ:(λ(u:AV) (K:SH)=>u=AV.bool true∧K=[])=Q;have hq:Q (.bool true) []:=by subst hQ;exact⟨rfl,rfl⟩
 clear hQ;have d0:decide ((l.length:Int)≠(l.length:Int))=false:=by simp
 repeat' (first|refine st ?_|refine sb λnb_ hnb_=>?_|refine s2 (λh=>?_) λh=>?_|fail)
 refine np l.length (λ_=>True) (λi=>[.lst (l.map aj),.lst (l.map aj),.W6 i]) hl trivial rfl (λi h1 hd hi _ nx hn=>?_) (λi h1 hd _ nx=>?_)
 all_goals unfold kv
 ·have hx:=aw (f:=aj) h1;have d1:decide (l[i]≠l[i])=false:=by simp
  repeat' (first|refine st ?_|refine sb λnb_ hnb_=>?_|refine s2 (λh=>?_) λh=>?_|fail)
  exact hn trivial
 ·repeat' (first|refine st ?_|refine sb λnb_ hnb_=>?_|refine s2 (λh=>?_) λh=>?_|fail)
  exact hq
end
section
set_option maxRecDepth 100000
set_option maxHeartbeats 2000000
theorem Mm(e:da)(h:Oq e):az Tryz.prog 16 [.agg e.enc,.agg e.enc] (.bool true):=by
 have s1:=I0 e.deps (by have:=h.1;omega);have s2:=I0 e.frm (by have:=h.2;omega);refine af.fz (tB _ _ _ _ ?_);unfold ku;generalize hQ:(λ(v:AV) (L:SH)=>∃v2 L2,aG [v] L [v2] L2∧v2=AV.bool true∧L2=[])=Q;have hq:∀L,Q (.bool true) L:=λL=>by subst hQ;exact⟨_,[],aG.all (.refl _),rfl,rfl⟩
 clear hQ h;obtain⟨e1,e2,e3,e4,e5,d,f⟩:=e;unfold da.enc;dsimp only at *;have d1:decide (e1=e1)=true:=decide_eq_true rfl;have d2:decide (e2=e2)=true:=decide_eq_true rfl;have d3:decide (e3=e3)=true:=decide_eq_true rfl;have d4:decide (e4=e4)=true:=decide_eq_true rfl;have d5:decide (e5=e5)=true:=decide_eq_true rfl
 repeat' (first|refine st ?_|(refine pf 36 ?_;refine pm (s1) ?_)|(refine pf 36 ?_;refine pm (s2) ?_)|refine sb λnb_ hnb_=>?_|refine s2 (λh=>?_) λh=>?_|fail)
 exact hq _
theorem Ka(l:List da)(h:∀e∈l,Oq e)(hl:l.length<2^62):az Tryz.prog 9 [.lst (l.map da.enc),.lst (l.map da.enc)] (.bool true):=by
 refine qT _ _ _ _ ?_;unfold jy;have d0:decide ((l.length:Int)≠l.length)=false:=decide_eq_false W4
 repeat' (first|refine st ?_|refine sb λnb_ hnb_=>?_|refine s2 (λh=>?_) λh=>?_|fail)
 refine ez l (λ_=>false) (λi=>[.lst (l.map da.enc),.lst (l.map da.enc),.W6 i]) hl rfl (λi h1 hd hi hno nx hn=>?_) (λi h1 hd hno nx=>?_)
 all_goals unfold iF
 ·have hx:=aw (f:=da.enc) h1;have hs:=Mm _ (h _ (VF h1));have hn:=hn rfl;generalize l[i]=e at *;have he:e.enc=[.W6 e.thread,.W6 e.kind,.W6 e.obj,.W6 e.value,.W6 e.site,.lst (e.deps.map aj),.lst (e.frm.map aj)]:=rfl;rw[he]at *
  repeat' (first|refine st ?_|(refine pf 16 ?_;refine pm (hs) ?_)|refine sb λnb_ hnb_=>?_|refine s2 (λh=>?_) λh=>?_|fail)
  exact hn
 ·repeat' (first|refine st ?_|refine sb λnb_ hnb_=>?_|refine s2 (λh=>?_) λh=>?_|fail)
  exact⟨rfl,rfl⟩
end
section
set_option maxRecDepth 100000
def xM(b c:AV)(L:SH)(Q:R):Prop:=W.len b λd=>wb .gtr 3 d (.W6 200) λa=>bD a false c L λe f=>wg a false (W.len e) f λg h=>wg a false (wb .gtr 3 g (.W6 100)) h λi j=>W.pick a (.bool true) i λk=>Q k j
theorem Fj(t0 t1:AV)(L:SH)(Q:R)(h:xM t0 t1 L Q):af Tryz.prog 5 [t0,t1] L Q:=
 fs [] [] [] [] Tryz.func5 h
def pV(Q:R)(w:SH)(m:AV)(n o:Fp)(p:AV)(x:SH)(y:Ns):Prop:=wn [] y [] w.names λq=>W.ext 0 p λz=>W.ext 1 p λA=>W.calm [rc 4 q,rm 3 n,rm 0 o] ⟨8,[],[],[],false,[]⟩ (W.alloc [.nils,.nils,.nils,.nils,.nils,.nils,.nils] x λc B=>wn [] [] (aa c) [] λC=>W.calm [rm 8 C,rc 4 q,rm 3 n,rm 0 o] ⟨9,[],[],[],false,[]⟩ (W.alloc [.nils,(.W6 0),.nils,.nils,.nils,.nils,.nils] B λd D=>wn [] [] (aa d) [] λd4=>ds [] 10 7 c z D λE d5=>ds [] 11 7 d A E λF d6=>W.frz1 c F λe G=>W.frz1 d G λd7 b=>(true=true)∧(aL 6 e [] 1 b λH I=>W.len H λJ=>aL 6 m [rm 1 I] 4 b λM d8=>W.len M λN=>wb .leq 3 J N λa=>W.dgrd a true (λO=>W.faddr 6 m λP=>O P b rz) b λS f d9=>W.dgrd a true (λT=>dl [] 9 S f λU V=>T U f V) f λg r s=>W.dgrd a true (λX=>W.faddr 6 e λY=>X Y r rz) r λZ h e0=>W.dgrd a true (λa0=>dl [rm 9 s] 11 Z h λa1 a2=>a0 a1 h a2) h λa3 t a4=>W.dgrd a true (λa5=>W.len a3 λa6=>a5 a6 t rz) t λa7 i e1=>W.dgrd a true (λa8=>W.calm [] ⟨13,(dq g),[],[],false,[]⟩ (W.slice 7 g none (some a7) none i λa9=>wn (dq g) [] [] [] λb0=>a8 a9 i b0)) i λb1 u b2=>W.dgrd a true (λb3=>W.faddr 6 e λb4=>b3 b4 u rz) u λb5 j e2=>W.dgrd a true (λb6=>dl [rm 13 b2,rm 11 a4,rm 9 s] 15 b5 j λb7 b8=>b6 b7 j b8) j λb9 k e3=>W.dgrd a true (λc0=>wd [] 16 (.fn 9 []) [b1,b9] k λc1 c2 c3=>wn [] c3 [] k.names λc4=>c0 c1 c2 c4) k λc5 l e4=>W.pick a c5 (.bool false) λv=>W.dgrd v true (λc6=>wd [] 19 (.fn 10 []) [] l λc7 c8 c9=>wn [] c9 [] l.names λd0=>c6 c7 c8 d0) l λd1 d2 e5=>W.pick v d1 (.bool false) λd3=>Q d3 d2)))
def pW(Q:R)(g b h c:AV)(i:SH):Prop:=W.ext 0 c λj=>W.ext 1 c λk=>W.alloc [.nils,.nils,.nils,.nils,.nils,.nils,.nils] i λd l=>W.alloc [.nils,(.W6 0),.nils,.nils,.nils,.nils,.nils] l λe m=>W.store 7 d j m λn=>W.store 7 e k n λo=>W.frz1 d o λp q=>W.frz1 e q λu a=>(true=true)∧(dr [] 0 7 g a λr f=>W.calm [rm 0 f] ⟨3,(dq b),[],[],false,[]⟩ (W.slice 2 b none (some h) none a λs=>wn (dq b) [] [] [] λt=>wd [] 4 (.fn 8 []) [r,s] a (pV Q a p t f)))
def eG(Q:R)(d:Vs)(a:SH):Prop:=sg 7 8 9 d λb c e=>bY 7 b a λf=>wc (.fn 8 []) [f,c] a (pW Q b c e)
def pX(Q:R)(e f a:AV)(g:SH):Prop:=qr [.nils,.nils,.nils,.nils,.nils,.nils,.nils] 7 f g λb c=>W.join (eG Q) λd=>W.len a λh=>wb .gtr 3 h (.W6 0) λi=>wk i (W.conv .i64 e λj=>W.len a λk=>wb .rem 3 j k λl=>d [b,a,l] c) (d [b,a,(.W6 0)] c)
def pY(Q:R)(a b c:AV)(d:SH):Prop:=wc (.fn 7 []) [a] d (pX Q b c)
def pZ(Q:R)(b c d e:AV)(a:SH):Prop:=wk e (Q (.bool true) a) (wc (.fn 6 []) [b] a (pY Q c d))
def iG(a b c:AV)(L:SH)(Q:R):Prop:=wc (.fn 5 []) [a,b] L (pZ Q a b c)
theorem p7(t0 t1 t2:AV)(L:SH)(Q:R)(h:iG t0 t1 t2 L Q):af Tryz.prog 3 [t0,t1,t2] L Q:=
 fs [(6,[7,8,9])] [] [(3,[7]),(7,[10,11]),(8,[12,13])] [(8,[0,0,0,6,15,31,63,63,0,0,895,2047]),(9,[0,1,3,0,8,24,63,127,255,511,255,1279,3327,8191,255,16639,65535,131071,262143,524287,1048575,2097151])] Tryz.func3 h
def Cb(i:Kn)(a:SH)(d e b:AV):Prop:=(true=true)∧(di [] 3 1 d e a λj f=>dl [] 4 j a λk g=>W.conv .i64 k λl=>wb .rem 3 l (.W6 4) λm=>di [rm 4 g,rm 3 f] 9 1 d e a λn x=>dl [rm 4 g,rm 3 f] 10 n a λo y=>W.conv .i64 o λp=>wb .quo 3 p (.W6 4) λq=>wb .rem 3 q (.W6 5) λr=>wb .sub 3 r (.W6 1) λs=>W.build [(.W6 0),(.W6 0)] [(0,1,m),(1,1,s)] λt=>W.calm [] ⟨16,[],[],[],false,[]⟩ (W.bslice 2 [(.W6 0),(.W6 0)] 1 [(0,t)] a λc u=>wn [] [] (aa c) [] λz=>W.calm [] ⟨17,(aa b++aa c),(aa b),[],false,[]⟩ (W.append 2 16 b c u λh v=>wn (aa b++aa c) (aa b) (aa h) [] λA=>wb .add 3 e (.W6 1) λw=>i [d,h,w] v)))
def nL(Q:R)(e:Vs)(a:SH)(f:Kn):Prop:=sg 0 3 4 e λb c d=>W.len b λg=>wb .lss 3 d g λh=>wk h ((Cb f a b d c)) (Q c a)
def p8(a:AV)(L:SH)(Q:R):Prop:=W.loop (nL Q) [a,.nils,(.W6 0)] L
theorem Cc(t0:AV)(L:SH)(Q:R)(h:p8 t0 L Q):af Tryz.prog 7 [t0] L Q:=
 fs [] [(3,[0,3,4])] [] [(5,[0,0,0,6,14,30,62,0,0,384,896,1920,3968,8064,16256,32766,65534,131071,262143])] Tryz.func7 h
end
section
set_option maxRecDepth 100000
theorem af.pure{P:Program}{f:FuncId}{args:List AV}{Q:AV→SH→Prop}(h:af P f args [] Q)(ha:∀a∈args,aW a)(hv:∀u K,Q u K→aW u):∃v K,Q v K∧az P f args v:=by
 obtain⟨v,H',L',h1,h2,h3⟩:=h.2 ac.empty (λb _=>cO b) ⟨Wp,nofun⟩;have hV:KG P f args v:=λw σ vs hW hvs=>(h1 w σ vs hW hvs).mono λe w' ⟨v',σ',he,k1,k2,k3,k4⟩=>⟨v',σ',H',he,k1,k3⟩
 exact⟨v,L',h3,h.1,λH hb hs=>⟨v,H,[],S3 (hv _ _ h3) (λi a hi=>ha a (V0 hi)) hV H,.refl hb hs,rfl,rfl⟩⟩
theorem aW.lsts{rows:List (List AV)}(h:∀r∈rows,∀a∈r,aW a):aW (.lst rows):=.lst rows λi r j a h1 h2=>h r (V0 h1) a (V0 h2)
theorem aW.lmap{α:Type}{f:α→List AV}{l:List α}(h:∀x∈l,∀a∈f x,aW a):aW (.lst (l.map f)):=.lsts λr hr=>by obtain⟨x,hx,rfl⟩:=VY.1 hr;exact h x hx
theorem aW.aggs{cs:List AV}(h:∀a∈cs,aW a):aW (.agg cs):=.agg cs λi a hi=>h a (V0 hi)
theorem aW.tups{cs:List AV}(h:∀a∈cs,aW a):aW (.tup cs):=.tup cs λi a hi=>h a (V0 hi)
theorem l6(s:aZ):∀a∈au s,aW a:=λa h=>by rw[Vr.1 h];exact .str _
mutual
theorem ao.pure:∀x:ao,∀a∈x.enc,aW a
 | .mk op n name l=>by have:=ao.pures l;simp only[ao.enc,V1,VV,false_implies,implies_true,and_true];exact⟨.int _ _,.int _ _,.str _,.lsts this⟩
theorem ao.pures:∀l:List ao,∀r∈ao.encs l,∀a∈r,aW a
 |[]=>nofun
 | x::l=>by simp only[ao.encs,V1];exact⟨ao.pure x,ao.pures l⟩
end
mutual
theorem ab.pure:∀x:ab,∀a∈x.enc,aW a
 | .mk op line name arg index e body els=>by
  have h1:=ab.pures body;have h2:=ab.pures els
  simp only[ab.enc,V1,VV,false_implies,implies_true,and_true];exact⟨.int _ _,.int _ _,.str _,.str _,.lmap λx _=>x.pure,.int _ _,.int _ _,.str _,.lmap λx _=>x.pure,.lsts h1,.lsts h2⟩
theorem ab.pures:∀l:List ab,∀r∈ab.encs l,∀a∈r,aW a
 |[]=>nofun
 | x::l=>by simp only[ab.encs,V1];exact⟨ab.pure x,ab.pures l⟩
end
theorem aF.pure(d:aF):∀a∈d.enc,aW a:=by simp only[aF.enc,V1,VV,false_implies,implies_true,and_true];exact⟨.int _ _,.int _ _,.str _,.int _ _,.int _ _,.str _⟩
theorem ah.pure(d:ah):∀a∈d.enc,aW a:=by simp only[ah.enc,V1,VV,false_implies,implies_true,and_true];exact⟨.str _,.int _ _,.lmap λx _=>l6 x,.lmap λx _=>x.pure⟩
theorem bL.pure(p:bL):aW (.agg p.enc):=.aggs (by
 simp only[bL.enc,V1,VV,false_implies,implies_true,and_true];exact⟨.lmap λx _=>x.pure,.lmap λx _=>x.pure⟩)
theorem Ou(e ln:Int):aW (.tup [.W6 e,.W6 ln]):=.tups (by
 simp only[V1,VV,false_implies,implies_true,and_true];exact⟨.int _ _,.int _ _⟩)
theorem aF.wt_pos(d:aF):1≤d.wt:=by unfold aF.wt;omega
theorem ah.wt_pos(d:ah):1≤d.wt:=by unfold ah.wt;omega
theorem ah.local_len(t:ah){i:Nat}(h:i<t.locals.length):t.locals[i].length<t.wt:=by have:=Cs (f:=List.length) t.locals i h;unfold ah.wt;omega
theorem bL.decl_wt(p:bL){i:Nat}(h:i<p.decls.length):p.decls[i].wt≤p.wt:=by have:=Cs (f:=aF.wt) p.decls i h;unfold bL.wt;omega
theorem bL.thread_wt(p:bL){i:Nat}(h:i<p.threads.length):p.threads[i].wt≤p.wt:=by have:=Cs (f:=ah.wt) p.threads i h;unfold bL.wt;omega
theorem bL.decls_len(p:bL):p.decls.length≤p.wt:=by have:=GA aF.wt_pos p.decls;unfold bL.wt;omega
theorem bL.threads_len(p:bL):p.threads.length≤p.wt:=by have:=GA ah.wt_pos p.threads;unfold bL.wt;omega
theorem tC{α:Type}{p:α→Bool}:∀(l:List α) (j:Nat),(mG p l j=-1∧l.find? p=none)∨∃(k:Nat) (h:k<l.length),mG p l j=(j+k:Nat)∧l.find? p=some l[k]
 |[],_=>.inl ⟨rfl,rfl⟩
 | x::l,j=>by
  by_cases h:p x=true
  ·exact .inr ⟨0,W4,by simp[mG,h],by simp[h]⟩
  ·rcases tC (p:=p) l (j+1)with⟨h1,h2⟩|⟨k,h1,h2,h3⟩
   ·exact .inl ⟨by simp[mG,h,h1],by simp[h,h2]⟩
   ·refine .inr ⟨k+1,by simpa using h1,?_,by simpa[h]using h3⟩;simp only[mG,h,VN,if_false,h2];congr 1;omega
theorem fX{α:Type}{f:α→List AV}{l:List α}{n i:Nat}{k:IntKind}{L:SH}{K:AV→Prop}(h:K (.lst ((l.take i).map f)))(hi:i≤l.length:=by omega)(hn:∀x,(f x).length=n:=by intro x;rfl):W.slice n (.lst (l.map f)) none (some (.int k (i:Int))) none L K:=by
 refine zd (l:=0) (h:=i) rfl ?_ (VX _) (by simpa using hi) (λr hr=>?_) ?_
 ·simp[cq,jX]
 ·cases l with
  |nil=>cases hr
  |cons x l=>simp at hr;rw[←hr];exact hn x
 ·simpa[List.map_take]using h
theorem Kb{k:IntKind}{a b:Int}{K:AV→Prop}(h:K (.int k (if b > a then b else a))):W.mnx true (.int k a) (.int k b) K:=by rw[Qq];exact h
theorem Ov{k:IntKind}{s:Int}{K:AV→Prop}(h:K (.int k (((max s 1).toNat:Nat):Int))):W.mnx true (.int k s) (.int k 1) K:=by
 rw[Qq];have:(if(1:Int) > s then(1:Int)else s)=(((max s 1).toNat:Nat):Int):=by split<;>omega
 rw[this];exact h
structure m3 where
 t:Nat
 o1:Option Nat
 ar:List ab
 k:Nat
 o2:Option Nat
 sp:List aZ
 o3:Option Nat
 se:List aZ
def m3.row(p:bL)(s:m3):List AV:=[.lst (p.decls.map aF.enc),.lst (p.threads.map ah.enc),.W6 s.t,am s.o1 s.k,am s.o2 s.sp.length,am s.o3 s.se.length]
def m3.L(p:bL)(bw:Nat)(s:m3):SH:=(bw,⟨6,[s.row p]⟩)::(ae s.o1 11 (s.ar.map ab.enc)++(ae s.o2 1 (s.sp.map au)++ae s.o3 1 (s.se.map au)))
structure m3.Ok(s:m3)(m:Nat):Prop where
 a0:s.o1=none→s.ar=[]
 ak:s.k≤s.ar.length
 k6:s.k≤6
 p0:s.o2=none→s.sp=[]
 e0:s.o3=none→s.se=[]
 pm:s.sp.length≤m
 em:s.se.length≤m
theorem af.permR{P:Program}{f:FuncId}{args:List AV}{L:SH}{Q:AV→SH→Prop}(h:af P f args L λv L'=>∃L'',L'.Perm L''∧Q v L''):af P f args L Q:=⟨h.1,λH hb hs=>by
 obtain⟨v,H',L',h1,h2,L'',hp,h3⟩:=h.2 H hb hs;exact⟨v,H',L'',h1,h2.permS hp,h3⟩⟩
theorem af.within{P:Program}{f:FuncId}{args:List AV}{K L R:SH}{α:Type}{F:α→AV}(h:af P f args K λu K'=>∃r,u=F r∧K'=K)(hp:L.Perm (K++R)):af P f args L λu K'=>∃r,u=F r∧K'=L:=
 af.permR (h.frame hp λv K' ⟨r,h1,h2⟩=>⟨L,by rw[h2];exact hp.symm,r,h1,rfl⟩)
theorem ab.wts_succ{l:List ab}{i:Nat}(h:i<l.length):ab.wts (l.take (i+1))=ab.wts (l.take i)+l[i].wt:=by
 rw[Vw h];generalize l.take i=m
 induction m with
 |nil=>simp[ab.wts]
 |cons y m ih=>simp only[Ww,ab.wts,ih];omega
theorem ab.wts_take(l:List ab)(i:Nat):ab.wts (l.take i)≤ab.wts l:=by
 induction l generalizing i with
 |nil=>simp
 | cons x l ih=>cases i with
  |zero=>simp[ab.wts]
  |succ i=>have:=ih i;simp only[List.take_succ_cons,ab.wts];omega
theorem Ct{o:Option Nat}{k:Nat}{K:AV→Prop}(h:K (.W6 (k:Int)))(h0:o=none→k=0):W.len (am o k) K:=by
 cases o with
 |none=>rw[h0 rfl]at h;exact Gt h
 |some b=>exact Gq h
theorem I1{KL:R}{L L':SH}{o:Option Nat}{i n by_ bX:Nat}{rows m:List (List AV)}{r:List AV}(hX:(bX,(⟨n,m⟩:Blk))∈L)(hm:m=[r])(hd:dL o n rows L L')(hr:i≤rows.length)(h0:o=none→rows=[])(hb:i≤1000)(hby:by_≤1000)(h4:r.all AV.one=true)
  (h:∀b,b∉L.names→KL (.sl b 0 (i+1)) ((b,⟨n,rows.take i++[r]⟩)::L')):W.append n by_ (am o i) (.sl bX 0 1) L KL:=by
 subst hm;have e1:2*(i+(0+1))*by_≤2*(1000+1)*1000:=Nat.mul_le_mul W1 hby
 have e2:2*(0+1)*by_≤2*(0+1)*1000:=Nat.mul_le_mul W1 hby
 cases o with
 |none=>
  have hr0:=h0 rfl;subst hr0;obtain rfl:i=0:=by simpa using hr
  have hl:=hd.none';subst hl;exact Gs (KL:=KL) (by_:=by_) (mF hX rfl rfl) (by show 2*(0+1)*by_≤2^48;omega) W4 (by simpa using h4) W4 (λb hb=>by simpa using h b hb)
 |some b=>
  refine qk (y:=⟨n,rows⟩) (l:=rows.take i) hd.some'.mem' rfl (by simpa using hr) W4 (mF hX rfl rfl) ?_ ?_ (by simpa using h4) hd.some' (λb' hb=>?_)
  ·rw[VO,Wb hr];simp only[VI,VR];omega
  ·rw[VO,Wb hr];simp only[VI,VR];omega
  ·rw[VO,Wb hr];exact h b' hb
theorem Sn{α:Type}(a t b:α)(R:List α):(a::t::b::R).Perm ((b::([a]++R))++[t]):=by have h:(a::t::b::R).Perm ([t]++(b::([a]++R))):=(List.Perm.swap t a _).trans ((List.Perm.swap b a R).cons t);exact h.trans VQ
theorem Ah{n b k m:Nat}{kd:IntKind}{y:Blk}{L:SH}{K:AV→Prop}(h:K (.sl b 0 k))(hh:k≤m)(hm:(b,y)∈L)(hs:y.size=n):W.slice n (.sl b 0 m) none (some (.int kd (k:Int))) none L K:=by refine zc (l:=0) (h:=k) rfl (by simp[cq,jX]) (VX _) hh hm hs ?_;simpa using h
def G5:List AV:=[.W6 0,.W6 0,.str [],.str [],.nils,.W6 0,.W6 0,.str [],.nils,.nils,.nils]
theorem Fk{α:Type}{f:α→Nat}{l:List α}{i:Nat}(h:i<l.length):((l.take (i+1)).map f).sum=((l.take i).map f).sum+f l[i]:=by rw[Vw h,Vo,List.sum_append];simp
def gw{α:Type}(f:α→Nat)(l:List α):Nat:=(l.map f).sum
theorem Kd{α:Type}{f:α→Nat}{l:List α}{i:Nat}(h:i<l.length):gw f (l.take (i+1))=gw f (l.take i)+f l[i]:=Fk h
theorem D9{α:Type}(f:α→Nat)(l:List α)(i:Nat):gw f (l.take i)≤gw f l:=by
 unfold gw
 induction l generalizing i with
 |nil=>simp
 | cons x l ih=>cases i with
  |zero=>simp
  |succ i=>have:=ih i;simp only[List.take_succ_cons,Vm,Wj];omega
theorem I2{α:Type}{f g:α→Nat}(h:∀x,f x≤g x)(l:List α):gw f l≤gw g l:=by
 unfold gw
 induction l with
 |nil=>simp
 |cons x l ih=>have:=h x;simp only[Vm,Wj];omega
theorem xN{P:Program}{g:FuncId}{args:List AV}{K M L:SH}{R1:AV→SH→Prop}{KL:R}(h:af P g args K R1)(hL:L.Perm (K++M))(hq:∀v K',R1 v K'→∃L'',(K'++M).Perm L''∧KL v L''):W.callM P g args L KL:=⟨af.permR (h.frame hL hq)⟩
theorem Cu{n:Nat}{rows:List (List AV)}:ae none n rows=[]:=rfl
theorem Cv{b n:Nat}{rows:List (List AV)}:ae (some b) n rows=[(b,⟨n,rows⟩)]:=rfl
theorem m4{P:Program}{g:FuncId}{args:List AV}{i:Nat}{L:SH}{KN:AV→SH→List Nat→Prop}(h:W.callM P g args L (λv K=>∀ks,KN v K ks)):W.dcallM P [] i g args L KN:=
 ⟨L,[],W4,nofun,h.1.mono λv K' hr=>by simpa using hr _⟩
mutual
def ab.cnt:ab→Nat
 |.mk _ _ _ _ _ _ body els=>ab.cnts body+ab.cnts els
def ab.cnts:List ab→Nat
 |[]=>0
 |x::l=>1+x.cnt+ab.cnts l
end
theorem ab.cnt_eq(x:ab):x.cnt=ab.cnts x.body+ab.cnts x.els:=by cases x;rfl
mutual
theorem ab.cnt_wt:∀x:ab,x.cnt<x.wt
 |.mk a b c d e f body els=>by have:=ab.cnts_wt body;have:=ab.cnts_wt els;simp only[ab.cnt,ab.wt];omega
theorem ab.cnts_wt:∀l:List ab,ab.cnts l≤ab.wts l
 |[]=>Vl _
 |x::l=>by have:=ab.cnt_wt x;have:=ab.cnts_wt l;simp only[ab.cnts,ab.wts];omega
end
def fk(b:UInt8):List AV:=[.int .u8 (b.toNat:Int)]
end
end Go.Proofs.YtenbpcngcicamaaGreatDoor.Am
