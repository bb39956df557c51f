/- A part of the proof; the statement is proved in the last part. -/
import Derived.Test.YtdnpdghlggbklaaGreatDoorQsq
set_option linter.unusedSimpArgs false
set_option linter.unusedVariables false
namespace Go.Proofs.YtdnpdghlggbklaaGreatDoor.Am
section
set_option maxRecDepth 100000
set_option maxHeartbeats 4000000
set_option linter.unusedSimpArgs false
set_option linter.unusedSectionVars false
theorem Hl{KS:SH→Prop}{n b i off:Nat}{v:AV}{x:Blk}{r cs:List AV}{L L':SH}(hu:CC b x ⟨x.size,x.rows.set i (bA r off cs)⟩ L L')(h1:x.rows[i]? =some r)(h2:v.cells? =some cs)(h3:cs.length=n)(h4:cs.all AV.one=true)(h5:off+n≤r.length)(h:KS L'):W.store n (.ptr b i off) v L KS:=⟨x,r,cs,L',h1,h2,h3,h4,h5,hu,h⟩
theorem cH{n b m:Nat}{k:IntKind}{i:Int}{y:Blk}{L:SH}{K:AV→Prop}(h0:0≤i)(h1:i.toNat<m)(hm:(b,y)∈L)(h2:y.size=n)(h:K (.ptr b i.toNat 0)):W.idx n (.sl b 0 m) (.int k i) L K:=K8 h0 h1 hm h2 (by rw[WG];exact h)
def iw(Q:R)(L168:SH)(x132 x24 x142 x167 x171 x10 x14 x6 x8 x177 x115:AV):Prop:=
 aB 1 x24 L168 λx269=>wb .eql 3 x269 (.Xw 3) λx270=>wk x270 (Bh (bJ Q) L168 x132 x24 x142 x167 x171 x10 x14 x6 x8 x177) (xE (bJ Q) L168 x269 x132 x24 x142 x167 x171 x10 x14 x6 x8 x177 x115)
section
variable (c:bI) (s:dE) (t wake:Int) (h1:inB t s.threads.length=true) (hc:inB t c.ts.length=true) (th:aU) (hth:bz s t=th) (i:bj) (hi:cM (az c t) th.pc=i) (hpc:inB th.pc (az c t).ins.length=true) (sy:SyncD) (sv:Int) (e:dD) (b132 b24 b8 b6 bt tb:Nat) (o oc of:Option Nat) (hn1:b24≠b6) (hn2:b24∉SH.names ((b8,(⟨7,[dZ]⟩:Blk))::[]) ) (ho:o=none→th.regs=[]) (hoc:oc=none→s.cells=[]) (hof:of=none→s.futures=[]) (Q:R)
def cK(th:aU)(tb:Nat)(o:Option Nat):List AV:=[.Xw th.pc,aP o th.regs.length,.sl tb 0 th.taint.length,.Xw th.ev]
def ig(s:dE)(th:aU)(tb:Nat)(o oc of:Option Nat):SH:=ae o 1 (th.regs.map aj)++(tb,⟨1,th.taint.map cp⟩)::(ae oc 1 (s.cells.map aj)++ae of 1 (s.futures.map aj))
def jz(s:dE)(t:Int)(th:aU)(e:dD)(b24 b8 b6 bt tb:Nat)(o:Option Nat)(RR:SH):SH:=
 (b24,⟨7,[e.enc]⟩)::(b8,⟨7,[dZ]⟩)::(b6,⟨7,[bL]⟩)::(bt,⟨4,(s.threads.map aU.enc).set t.toNat (cK th tb o)⟩)::RR
def gC(s:dE)(sy:SyncD)(bt:Nat)(oc of:Option Nat):List AV:=[.lst (sy.locks.map LockD.enc),.Xw sy.tx,.lst (sy.done.map aI),.lst (sy.threads.map ThrD.enc),aP oc s.cells.length,aP of s.futures.length,.sl bt 0 s.threads.length]
include h1 hc hth hi hpc
theorem SD(RR:SH)(h:∀b132,iw Q ((b132,⟨7,[gC s sy bt oc of]⟩)::jz s t th e b24 b8 b6 bt tb o RR) (.ptr b132 0 0) (.ptr b24 0 0) (.ptr bt t.toNat 0) (.pptr [i.enc] 0 0) (.Xw th.ev) (.pptr [c.enc] 0 0) (.pptr [[.Xw t,.Xw wake]] 0 0) (.ptr b6 0 0) (.ptr b8 0 0) (.Xw (IntKind.i64.wrap (th.pc+1))) (.Xw sv)):
  kq Q (.pptr [sy.enc] 0 0) (.pptr [[.Xw t,.Xw wake]] 0 0) (.pptr [c.enc] 0 0) (.ptr b24 0 0) (.ptr b6 0 0) (.ptr b8 0 0) (.Xw sv) (.agg [.nils,.Xw 0,.nils,.nils,aP oc s.cells.length,aP of s.futures.length,.sl bt 0 s.threads.length]) (jz s t th e b24 b8 b6 bt tb o RR):=by
 obtain⟨i1,i2⟩:=aw.1 h1;have hlt:t.toNat<(s.threads.map aU.enc).length:=by simp;omega
 have x1:(c.ts.map gL.enc)[t.toNat]? =some (az c t).enc:=mY hc;have y1:=aw.1 hc;have x4:((az c t).ins.map bj.enc)[th.pc.toNat]? =some i.enc:=by rw[←hi];exact dK hpc
 have y4:=aw.1 hpc;have s0:=dT (cK th tb o) hlt;unfold cK at s0;unfold kq SyncD.enc;unfold jz cK gC at *;unfold iw at h;have hce:c.enc=[.lst (c.w.cells.map aV.enc),.lst (c.w.locks.map bV.enc),.lst (c.w.conds.map cI.enc),.lst (c.w.futures.map aq),.lst (c.w.threads.map aq),.lst (c.w.sites.map cz.enc),.lst (c.ts.map gL.enc)]:=rfl;rw[hce]at *;have hie:(az c t).enc=[.Xw (az c t).regs,.lst ((az c t).ins.map bj.enc)]:=rfl;rw[hie]at x1;cases oc
 all_goals cases of
 all_goals
  dsimp only[aP]at *;have hlt2:t.toNat<s.threads.length:=by omega
  repeat' (first|exact h _|refine cH i1 hlt2 rp rfl ?_|refine st ?_|refine Hl rp Xt Xt Xt Xt Xu ?_|refine sb λnb_ hnb_=>?_|refine s2 (λh=>?_) λh=>?_|fail)
end
end
section
set_option maxRecDepth 100000
set_option maxHeartbeats 4000000
set_option linter.unusedSimpArgs false
set_option linter.unusedSectionVars false
section
variable (c:bI) (s:dE) (t wake:Int) (h1:inB t s.threads.length=true) (hc:inB t c.ts.length=true) (th:aU) (i:bj) (sy:SyncD) (sv:Int) (e:dD) (b132 b24 b8 b6 bt tb:Nat) (o oc of:Option Nat) (hn1:b24≠b6) (ho:o=none→th.regs=[]) (hoc:oc=none→s.cells=[]) (hof:of=none→s.futures=[])
 (htn:th.taint.length=th.regs.length) (hse:ax Tryz.prog 52 [.agg (az c t).enc,.agg (dP i e s th sv).thread.enc] (Dx (bN (az c t) (dP i e s th sv).thread))) (Q:R) (hq:∀v L,Fz L v (pW (xI c s t sy e (dP i e s th sv)))→Q v L)
def jA(c:bI)(s:dE)(t wake:Int)(th:aU)(i:bj)(sy:SyncD)(sv:Int)(e:dD)(b132 b24 b8 b6 bt tb:Nat)(o oc of:Option Nat)(Q:R):Prop:=
 iw Q ((b132,⟨7,[gC s sy bt oc of]⟩)::jz s t th e b24 b8 b6 bt tb o (ig s th tb o oc of)) (.ptr b132 0 0) (.ptr b24 0 0) (.ptr bt t.toNat 0) (.pptr [i.enc] 0 0) (.Xw th.ev) (.pptr [c.enc] 0 0) (.pptr [[.Xw t,.Xw wake]] 0 0) (.ptr b6 0 0) (.ptr b8 0 0) (.Xw (IntKind.i64.wrap (th.pc+1))) (.Xw sv)
include h1 hc hn1 ho hoc hof htn hse hq
theorem Vz(hk:e.kind=3)(ra:0≤i.a∧i.a<th.regs.length)(hob:inB e.obj s.cells.length=true):jA c s t wake th i sy sv e b132 b24 b8 b6 bt tb o oc of Q:=by
 have hact:dP i e s th sv=⟨jZ s.cells e.obj,s.cells,s.futures,⟨IntKind.i64.wrap (th.pc+1),th.regs.set i.a.toNat (jZ s.cells e.obj),th.taint.set i.a.toNat [th.ev],IntKind.i64.wrap (th.ev+1)⟩⟩:=by simp[dP,hk]
 rw[hact]at hse hq;obtain⟨e1,ek,eo,v0,es,d,f⟩:=e;obtain⟨op,ia,ib,ic,m,site⟩:=i;dsimp only at *;subst hk;have hob1:=aw.1 hob;have hi1:=aw.1 h1;cases o with
 |none=>rw[ho rfl]at ra;simp at ra;omega
 |some bo=>
  cases oc with
  |none=>rw[hoc rfl]at hob1;simp at hob1;omega
  |some boc=>
   unfold jA iw jz ig gC cK;obtain⟨J,hJ⟩:∃J,J=bJ Q:=⟨_,rfl⟩;rw[←hJ];have s0:=dT (cK th tb (some bo)) (l:=s.threads.map aU.enc) (n:=t.toNat) (by simp;omega);unfold cK at s0;dsimp only[aP,ae,List.cons_append,List.nil_append]at *;have y1:=pS (s:=th) ra.1 ra.2;have y2:=tp (s:=th) ra.1 Xr;have y3:(s.cells.map aj)[eo.toNat]? =some [.Xw (jZ s.cells eo)]:=mY hob;have z1:ia.toNat<th.regs.length:=by omega
   have z2:ia.toNat<th.taint.length:=by omega
   have z3:eo.toNat<s.cells.length:=by omega
   repeat' (first|refine cH ra.1 z1 rp rfl ?_|refine cH ra.1 z2 rp rfl ?_|refine cH hob1.1 z3 rp rfl ?_|refine FY (cH hob1.1 z3 rp rfl ?_)|refine st ?_|refine sb λnb_ hnb_=>?_|refine s2 (λh=>?_) λh=>?_|fail)
   rw[hJ];refine Em c s t wake h1 hc sy ⟨e1,3,eo,v0,es,d,f⟩ ⟨jZ s.cells eo,s.cells,s.futures,⟨IntKind.i64.wrap (th.pc+1),th.regs.set ia.toNat (jZ s.cells eo),th.taint.set ia.toNat [th.ev],IntKind.i64.wrap (th.ev+1)⟩⟩ b132 b24 b8 b6 bt (some boc) of [(nb_,⟨1,[[.Xw th.ev]]⟩),(bo,⟨1,(th.regs.map aj).set ia.toNat [.Xw (jZ s.cells eo)]⟩),(tb,⟨1,(th.taint.map cp).set ia.toNat [.sl nb_ 0 1]⟩)]
    ((boc,⟨1,s.cells.map aj⟩)::ae of 1 (s.futures.map aj)) ((bo,⟨1,(th.regs.map aj).set ia.toNat [.Xw (jZ s.cells eo)]⟩)::(tb,⟨1,(th.taint.map cp).set ia.toNat [.sl nb_ 0 1]⟩)::(boc,⟨1,s.cells.map aj⟩)::ae of 1 (s.futures.map aj)) [(nb_,⟨1,[[.Xw th.ev]]⟩)] (.inr ⟨_,rfl⟩) (by dsimp only;omega) (.refl _) (.sl bo 0 th.regs.length) (.sl tb 0 th.taint.length) ?_ ?_ hn1 nofun hof ?_ ?_ hse th.pc th.ev rfl Q hq
   ·exact λL hL=>Fz.sls (hL _ (.tail _ (.head _))) (by simp[WH,aj]) Xv Xu
   ·exact λL hL=>Km Xv rfl z2 (hL _ (.tail _ (.tail _ (.head _)))) (.cons (Fz.sls (l:=[th.ev]) (f:=aj) (hL _ (.head _)) rfl Xv rfl) .nil)
   ·exact λb hb=>by cases hb;exact⟨_,rfl,.head _⟩
   ·exact λb hb=>by subst hb;exact⟨_,rfl,.tail _ (.head _)⟩
theorem UI(hk:e.kind=23)(ra:0≤i.a∧i.a<th.regs.length)(hob:inB e.obj s.futures.length=true):jA c s t wake th i sy sv e b132 b24 b8 b6 bt tb o oc of Q:=by
 have hact:dP i e s th sv=⟨jZ s.futures e.obj,s.cells,s.futures,⟨IntKind.i64.wrap (th.pc+1),th.regs.set i.a.toNat (jZ s.futures e.obj),th.taint.set i.a.toNat [th.ev],IntKind.i64.wrap (th.ev+1)⟩⟩:=by simp[dP,hk]
 rw[hact]at hse hq;obtain⟨e1,ek,eo,v0,es,d,f⟩:=e;obtain⟨op,ia,ib,ic,m,site⟩:=i;dsimp only at *;subst hk;have hob1:=aw.1 hob;have hi1:=aw.1 h1;cases o with
 |none=>rw[ho rfl]at ra;simp at ra;omega
 |some bo=>
  cases of with
  |none=>rw[hof rfl]at hob1;simp at hob1;omega
  |some bof=>
   unfold jA iw jz ig gC cK;obtain⟨J,hJ⟩:∃J,J=bJ Q:=⟨_,rfl⟩;rw[←hJ];have s0:=dT (cK th tb (some bo)) (l:=s.threads.map aU.enc) (n:=t.toNat) (by simp;omega);unfold cK at s0;have y1:=pS (s:=th) ra.1 ra.2;have y2:=tp (s:=th) ra.1 Xr;have y3:(s.futures.map aj)[eo.toNat]? =some [.Xw (jZ s.futures eo)]:=mY hob;have z1:ia.toNat<th.regs.length:=by omega
   have z2:ia.toNat<th.taint.length:=by omega
   have z3:eo.toNat<s.futures.length:=by omega
   have goal:∀(nb_:Nat) (A:SH),A=[(bof,⟨1,s.futures.map aj⟩)]→J [.pptr [c.enc] 0 0,.pptr [[.Xw t,.Xw wake]] 0 0,.ptr b6 0 0,.ptr b8 0 0,.ptr b24 0 0,.ptr b132 0 0,.ptr bt t.toNat 0,.Xw (IntKind.i64.wrap (th.pc+1))]
     ((nb_,⟨1,[[.Xw th.ev]]⟩)::(b132,⟨7,[gC s sy bt oc (some bof)]⟩)::(b24,⟨7,[(dD.mk e1 23 eo (jZ s.futures eo) es d f).enc]⟩)::(b8,⟨7,[dZ]⟩)::(b6,⟨7,[bL]⟩)::(bt,⟨4,(s.threads.map aU.enc).set t.toNat (cK th tb (some bo))⟩)::(bo,⟨1,(th.regs.map aj).set ia.toNat [.Xw (jZ s.futures eo)]⟩)::(tb,⟨1,(th.taint.map cp).set ia.toNat [.sl nb_ 0 1]⟩)::(ae oc 1 (s.cells.map aj)++A)):=by
    rintro nb_ A rfl;rw[hJ];refine Em c s t wake h1 hc sy ⟨e1,23,eo,v0,es,d,f⟩ ⟨jZ s.futures eo,s.cells,s.futures,⟨IntKind.i64.wrap (th.pc+1),th.regs.set ia.toNat (jZ s.futures eo),th.taint.set ia.toNat [th.ev],IntKind.i64.wrap (th.ev+1)⟩⟩ b132 b24 b8 b6 bt oc (some bof) [(nb_,⟨1,[[.Xw th.ev]]⟩),(bo,⟨1,(th.regs.map aj).set ia.toNat [.Xw (jZ s.futures eo)]⟩),(tb,⟨1,(th.taint.map cp).set ia.toNat [.sl nb_ 0 1]⟩)]
     (ae oc 1 (s.cells.map aj)++[(bof,⟨1,s.futures.map aj⟩)]) ((bo,⟨1,(th.regs.map aj).set ia.toNat [.Xw (jZ s.futures eo)]⟩)::(tb,⟨1,(th.taint.map cp).set ia.toNat [.sl nb_ 0 1]⟩)::(ae oc 1 (s.cells.map aj)++[(bof,⟨1,s.futures.map aj⟩)])) [(nb_,⟨1,[[.Xw th.ev]]⟩)] (.inr ⟨_,rfl⟩) (by dsimp only;omega) (.refl _) (.sl bo 0 th.regs.length) (.sl tb 0 th.taint.length) ?_ ?_ hn1 hoc nofun ?_ ?_ hse th.pc th.ev rfl Q hq
    ·exact λL hL=>Fz.sls (hL _ (.tail _ (.head _))) (by simp[WH,aj]) Xv Xu
    ·exact λL hL=>Km Xv rfl z2 (hL _ (.tail _ (.tail _ (.head _)))) (.cons (Fz.sls (l:=[th.ev]) (f:=aj) (hL _ (.head _)) rfl Xv rfl) .nil)
    ·exact λb hb=>by subst hb;exact⟨_,rfl,.head _⟩
    ·exact λb hb=>by cases hb;exact⟨_,rfl,Xu⟩
   cases oc
   all_goals
    dsimp only[aP,ae,List.cons_append,List.nil_append]at *
    repeat' (first|refine cH ra.1 z1 rp rfl ?_|refine cH ra.1 z2 rp rfl ?_|refine cH hob1.1 z3 rp rfl ?_|refine FY (cH hob1.1 z3 rp rfl ?_)|refine st ?_|refine sb λnb_ hnb_=>?_|refine s2 (λh=>?_) λh=>?_|fail)
    exact goal nb_ _ rfl
end
end
section
set_option maxRecDepth 100000
set_option maxHeartbeats 4000000
set_option linter.unusedSimpArgs false
set_option linter.unusedSectionVars false
section
variable (c:bI) (s:dE) (t wake:Int) (h1:inB t s.threads.length=true) (hc:inB t c.ts.length=true) (th:aU) (i:bj) (sy:SyncD) (sv:Int) (e:dD) (b132 b24 b8 b6 bt tb:Nat) (o oc of:Option Nat) (hn1:b24≠b6) (ho:o=none→th.regs=[]) (hoc:oc=none→s.cells=[]) (hof:of=none→s.futures=[])
 (htn:th.taint.length=th.regs.length) (hse:ax Tryz.prog 52 [.agg (az c t).enc,.agg (dP i e s th sv).thread.enc] (Dx (bN (az c t) (dP i e s th sv).thread))) (Q:R) (hq:∀v L,Fz L v (pW (xI c s t sy e (dP i e s th sv)))→Q v L)
include h1 hc hn1 ho hoc hof htn hse hq
theorem VA(hk:e.kind=4)(ra:0≤i.b∧i.b<th.regs.length)(hob:inB e.obj s.cells.length=true):jA c s t wake th i sy sv e b132 b24 b8 b6 bt tb o oc of Q:=by
 have hact:dP i e s th sv=⟨th.reg i.b,s.cells.set e.obj.toNat (th.reg i.b),s.futures,⟨IntKind.i64.wrap (th.pc+1),th.regs,th.taint,IntKind.i64.wrap (th.ev+1)⟩⟩:=by simp[dP,hk]
 rw[hact]at hse hq;obtain⟨e1,ek,eo,v0,es,d,f⟩:=e;obtain⟨op,ia,ib,ic,m,site⟩:=i;dsimp only at *;subst hk;have hob1:=aw.1 hob;have hi1:=aw.1 h1;cases o with
 |none=>rw[ho rfl]at ra;simp at ra;omega
 |some bo=>
  cases oc with
  |none=>rw[hoc rfl]at hob1;simp at hob1;omega
  |some boc=>
   unfold jA iw jz ig gC cK;obtain⟨J,hJ⟩:∃J,J=bJ Q:=⟨_,rfl⟩;rw[←hJ];have s0:=dT (cK th tb (some bo)) (l:=s.threads.map aU.enc) (n:=t.toNat) (by simp;omega);unfold cK at s0;have y1:=pS (s:=th) ra.1 ra.2;have y3:(s.cells.map aj)[eo.toNat]? =some [.Xw (jZ s.cells eo)]:=mY hob;have z1:ib.toNat<th.regs.length:=by omega
   have z3:eo.toNat<s.cells.length:=by omega
   have goal:∀(A:SH),A=[]→J [.pptr [c.enc] 0 0,.pptr [[.Xw t,.Xw wake]] 0 0,.ptr b6 0 0,.ptr b8 0 0,.ptr b24 0 0,.ptr b132 0 0,.ptr bt t.toNat 0,.Xw (IntKind.i64.wrap (th.pc+1))]
     ((b132,⟨7,[gC s sy bt (some boc) of]⟩)::(b24,⟨7,[(dD.mk e1 4 eo (th.reg ib) es d f).enc]⟩)::(b8,⟨7,[dZ]⟩)::(b6,⟨7,[bL]⟩)::(bt,⟨4,(s.threads.map aU.enc).set t.toNat (cK th tb (some bo))⟩)::(bo,⟨1,th.regs.map aj⟩)::(tb,⟨1,th.taint.map cp⟩)::((boc,⟨1,(s.cells.map aj).set eo.toNat [.Xw (th.reg ib)]⟩)::(ae of 1 (s.futures.map aj)++A))):=by
    rintro A rfl;rw[hJ];have:=Em c s t wake h1 hc sy ⟨e1,4,eo,v0,es,d,f⟩ ⟨th.reg ib,s.cells.set eo.toNat (th.reg ib),s.futures,⟨IntKind.i64.wrap (th.pc+1),th.regs,th.taint,IntKind.i64.wrap (th.ev+1)⟩⟩ b132 b24 b8 b6 bt (some boc) of [(bo,⟨1,th.regs.map aj⟩),(tb,⟨1,th.taint.map cp⟩)]
     ((boc,⟨1,(s.cells.map aj).set eo.toNat [.Xw (th.reg ib)]⟩)::(ae of 1 (s.futures.map aj)++[])) ((bo,⟨1,th.regs.map aj⟩)::(tb,⟨1,th.taint.map cp⟩)::((boc,⟨1,(s.cells.map aj).set eo.toNat [.Xw (th.reg ib)]⟩)::(ae of 1 (s.futures.map aj)++[]))) [] (.inl rfl) (λ_=>rfl) (.refl _) (.sl bo 0 th.regs.length) (.sl tb 0 th.taint.length) ?_ ?_ hn1 nofun hof ?_ ?_ hse th.pc th.ev rfl Q hq
    ·simp only[Xk]at this;exact this
    ·exact λL hL=>Fz.sls (hL _ (.head _)) rfl Xv rfl
    ·exact λL hL=>Fz.sls (hL _ (.tail _ (.head _))) rfl Xv rfl
    ·exact λb hb=>by cases hb;exact⟨_,by simp[WH,aj],.head _⟩
    ·exact λb hb=>by subst hb;exact⟨_,rfl,.tail _ (.head _)⟩
   cases of
   all_goals
    dsimp only[aP,ae,List.cons_append,List.nil_append]at *
    repeat' (first|refine cH ra.1 z1 rp rfl ?_|refine cH hob1.1 z3 rp rfl ?_|refine FY (cH hob1.1 z3 rp rfl ?_)|refine st ?_|refine sb λnb_ hnb_=>?_|refine s2 (λh=>?_) λh=>?_|fail)
    exact goal _ rfl
theorem UJ(hk:e.kind=22)(ra:0≤i.b∧i.b<th.regs.length)(hob:inB e.obj s.futures.length=true):jA c s t wake th i sy sv e b132 b24 b8 b6 bt tb o oc of Q:=by
 have hact:dP i e s th sv=⟨th.reg i.b,s.cells,s.futures.set e.obj.toNat (th.reg i.b),⟨IntKind.i64.wrap (th.pc+1),th.regs,th.taint,IntKind.i64.wrap (th.ev+1)⟩⟩:=by simp[dP,hk]
 rw[hact]at hse hq;obtain⟨e1,ek,eo,v0,es,d,f⟩:=e;obtain⟨op,ia,ib,ic,m,site⟩:=i;dsimp only at *;subst hk;have hob1:=aw.1 hob;have hi1:=aw.1 h1;cases o with
 |none=>rw[ho rfl]at ra;simp at ra;omega
 |some bo=>
  cases of with
  |none=>rw[hof rfl]at hob1;simp at hob1;omega
  |some bof=>
   unfold jA iw jz ig gC cK;obtain⟨J,hJ⟩:∃J,J=bJ Q:=⟨_,rfl⟩;rw[←hJ];have s0:=dT (cK th tb (some bo)) (l:=s.threads.map aU.enc) (n:=t.toNat) (by simp;omega);unfold cK at s0;have y1:=pS (s:=th) ra.1 ra.2;have y3:(s.futures.map aj)[eo.toNat]? =some [.Xw (jZ s.futures eo)]:=mY hob;have z1:ib.toNat<th.regs.length:=by omega
   have z3:eo.toNat<s.futures.length:=by omega
   have goal:∀(A:SH),A=[(bof,⟨1,(s.futures.map aj).set eo.toNat [.Xw (th.reg ib)]⟩)]→J [.pptr [c.enc] 0 0,.pptr [[.Xw t,.Xw wake]] 0 0,.ptr b6 0 0,.ptr b8 0 0,.ptr b24 0 0,.ptr b132 0 0,.ptr bt t.toNat 0,.Xw (IntKind.i64.wrap (th.pc+1))]
     ((b132,⟨7,[gC s sy bt oc (some bof)]⟩)::(b24,⟨7,[(dD.mk e1 22 eo (th.reg ib) es d f).enc]⟩)::(b8,⟨7,[dZ]⟩)::(b6,⟨7,[bL]⟩)::(bt,⟨4,(s.threads.map aU.enc).set t.toNat (cK th tb (some bo))⟩)::(bo,⟨1,th.regs.map aj⟩)::(tb,⟨1,th.taint.map cp⟩)::(ae oc 1 (s.cells.map aj)++A)):=by
    rintro A rfl;rw[hJ];have:=Em c s t wake h1 hc sy ⟨e1,22,eo,v0,es,d,f⟩ ⟨th.reg ib,s.cells,s.futures.set eo.toNat (th.reg ib),⟨IntKind.i64.wrap (th.pc+1),th.regs,th.taint,IntKind.i64.wrap (th.ev+1)⟩⟩ b132 b24 b8 b6 bt oc (some bof) [(bo,⟨1,th.regs.map aj⟩),(tb,⟨1,th.taint.map cp⟩)]
     (ae oc 1 (s.cells.map aj)++[(bof,⟨1,(s.futures.map aj).set eo.toNat [.Xw (th.reg ib)]⟩)]) ((bo,⟨1,th.regs.map aj⟩)::(tb,⟨1,th.taint.map cp⟩)::(ae oc 1 (s.cells.map aj)++[(bof,⟨1,(s.futures.map aj).set eo.toNat [.Xw (th.reg ib)]⟩)])) [] (.inl rfl) (λ_=>rfl) (.refl _) (.sl bo 0 th.regs.length) (.sl tb 0 th.taint.length) ?_ ?_ hn1 hoc nofun ?_ ?_ hse th.pc th.ev rfl Q hq
    ·simp only[Xk]at this;exact this
    ·exact λL hL=>Fz.sls (hL _ (.head _)) rfl Xv rfl
    ·exact λL hL=>Fz.sls (hL _ (.tail _ (.head _))) rfl Xv rfl
    ·exact λb hb=>by subst hb;exact⟨_,rfl,.head _⟩
    ·exact λb hb=>by cases hb;exact⟨(s.futures.map aj).set eo.toNat [.Xw (th.reg ib)],by simp[WH,aj],Xu⟩
   cases oc
   all_goals
    dsimp only[aP,ae,List.cons_append,List.nil_append]at *
    repeat' (first|refine cH ra.1 z1 rp rfl ?_|refine cH hob1.1 z3 rp rfl ?_|refine FY (cH hob1.1 z3 rp rfl ?_)|refine st ?_|refine sb λnb_ hnb_=>?_|refine s2 (λh=>?_) λh=>?_|fail)
    exact goal _ rfl
end
end
section
set_option maxRecDepth 100000
set_option maxHeartbeats 4000000
set_option linter.unusedSimpArgs false
set_option linter.unusedSectionVars false
section
variable (c:bI) (s:dE) (t wake:Int) (h1:inB t s.threads.length=true) (hc:inB t c.ts.length=true) (th:aU) (i:bj) (sy:SyncD) (sv:Int) (e:dD) (b132 b24 b8 b6 bt tb:Nat) (o oc of:Option Nat) (hn1:b24≠b6) (ho:o=none→th.regs=[]) (hoc:oc=none→s.cells=[]) (hof:of=none→s.futures=[])
 (htn:th.taint.length=th.regs.length) (hse:ax Tryz.prog 52 [.agg (az c t).enc,.agg (dP i e s th sv).thread.enc] (Dx (bN (az c t) (dP i e s th sv).thread))) (Q:R) (hq:∀v L,Fz L v (pW (xI c s t sy e (dP i e s th sv)))→Q v L)
include h1 hc hn1 ho hoc hof htn hse hq
theorem LB(v p:Int)(ha:dP i e s th sv=⟨v,s.cells,s.futures,⟨p,th.regs,th.taint,IntKind.i64.wrap (th.ev+1)⟩⟩)(ev2:dD)(he2:ev2={e with value:=v}):
  bJ Q [.pptr [c.enc] 0 0,.pptr [[.Xw t,.Xw wake]] 0 0,.ptr b6 0 0,.ptr b8 0 0,.ptr b24 0 0,.ptr b132 0 0,.ptr bt t.toNat 0,.Xw p]
   ((b132,⟨7,[gC s sy bt oc of]⟩)::(b24,⟨7,[ev2.enc]⟩)::(b8,⟨7,[dZ]⟩)::(b6,⟨7,[bL]⟩)::(bt,⟨4,(s.threads.map aU.enc).set t.toNat (cK th tb o)⟩)::ig s th tb o oc of):=by
 subst he2;rw[ha]at hse hq;refine Em c s t wake h1 hc sy e ⟨v,s.cells,s.futures,⟨p,th.regs,th.taint,IntKind.i64.wrap (th.ev+1)⟩⟩ b132 b24 b8 b6 bt oc of (ae o 1 (th.regs.map aj)++[(tb,⟨1,th.taint.map cp⟩)]) (ae oc 1 (s.cells.map aj)++ae of 1 (s.futures.map aj)) (ig s th tb o oc of) [] (.inl rfl) (λ_=>rfl) (by unfold ig;simp) (aP o th.regs.length) (.sl tb 0 th.taint.length) ?_ ?_ hn1 hoc hof ?_ ?_ hse th.pc th.ev rfl Q hq
 ·exact λL hL=>lM rfl ho λb hb=>hL _ (by subst hb;simp[ae])
 ·exact λL hL=>Fz.sls (hL _ (Wa _ (.head _))) rfl Xv rfl
 ·exact λb hb=>by subst hb;exact⟨_,rfl,by simp[ae]⟩
 ·exact λb hb=>by subst hb;exact⟨_,rfl,by simp[ae]⟩
theorem VB(hk:e.kind=5)(ra:0≤i.a∧i.a<th.regs.length):jA c s t wake th i sy sv e b132 b24 b8 b6 bt tb o oc of Q:=by
 have js:=LB c s t wake h1 hc th i sy sv e b132 b24 b8 b6 bt tb o oc of hn1 ho hoc hof htn hse Q hq;by_cases hb:th.reg i.a≠0
 ·replace js:=js 1 (IntKind.i64.wrap (th.pc+1)) (by simp[dP,hk,hb]) _ rfl;have d1:decide (th.reg i.a≠0)=true:=decide_eq_true hb;clear hse hq;obtain⟨e1,ek,eo,v0,es,d,f⟩:=e;obtain⟨op,ia,ib,ic,m,site⟩:=i;dsimp only at *;subst hk;have hi1:=aw.1 h1;cases o with
  |none=>rw[ho rfl]at ra;simp at ra;omega
  |some bo=>
   unfold jA iw jz ig gC cK;unfold ig gC cK at js;obtain⟨J,hJ⟩:∃J,J=bJ Q:=⟨_,rfl⟩;rw[←hJ]at js ⊢;have s0:=dT (cK th tb (some bo)) (l:=s.threads.map aU.enc) (n:=t.toNat) (by simp;omega);unfold cK at s0;have y1:=pS (s:=th) ra.1 ra.2;have z1:ia.toNat<th.regs.length:=by omega
   generalize ae oc 1 (s.cells.map aj)++ae of 1 (s.futures.map aj)=T at *;dsimp only[aP,ae,List.cons_append,List.nil_append]at *
   repeat' (first|refine cH ra.1 z1 rp rfl ?_|refine st ?_|refine sb λnb_ hnb_=>?_|refine s2 (λh=>?_) λh=>?_|fail)
   exact js
 ·replace js:=js e.value i.b (by simp[dP,hk,hb]) _ rfl;have d1:decide (th.reg i.a≠0)=false:=decide_eq_false hb;clear hse hq;obtain⟨e1,ek,eo,v0,es,d,f⟩:=e;obtain⟨op,ia,ib,ic,m,site⟩:=i;dsimp only at *;subst hk;have hi1:=aw.1 h1;cases o with
  |none=>rw[ho rfl]at ra;simp at ra;omega
  |some bo=>
   unfold jA iw jz ig gC cK;unfold ig gC cK at js;obtain⟨J,hJ⟩:∃J,J=bJ Q:=⟨_,rfl⟩;rw[←hJ]at js ⊢;have s0:=dT (cK th tb (some bo)) (l:=s.threads.map aU.enc) (n:=t.toNat) (by simp;omega);unfold cK at s0;have y1:=pS (s:=th) ra.1 ra.2;have z1:ia.toNat<th.regs.length:=by omega
   generalize ae oc 1 (s.cells.map aj)++ae of 1 (s.futures.map aj)=T at *;dsimp only[aP,ae,List.cons_append,List.nil_append]at *
   repeat' (first|refine cH ra.1 z1 rp rfl ?_|refine st ?_|refine sb λnb_ hnb_=>?_|refine s2 (λh=>?_) λh=>?_|fail)
   exact js
theorem VC(hk:e.kind≠3∧e.kind≠23∧e.kind≠4∧e.kind≠22∧e.kind≠5):jA c s t wake th i sy sv e b132 b24 b8 b6 bt tb o oc of Q:=by
 obtain⟨k3,k23,k4,k22,k5⟩:=hk;have js:=LB c s t wake h1 hc th i sy sv e b132 b24 b8 b6 bt tb o oc of hn1 ho hoc hof htn hse Q hq;have d3:decide (e.kind=3)=false:=decide_eq_false k3;have d23:decide (e.kind=23)=false:=decide_eq_false k23;have d4:decide (e.kind=4)=false:=decide_eq_false k4;have d22:decide (e.kind=22)=false:=decide_eq_false k22;have d5:decide (e.kind=5)=false:=decide_eq_false k5;have hi1:=aw.1 h1;have s0:=dT (cK th tb o) (l:=s.threads.map aU.enc) (n:=t.toNat) (by simp;omega);have en:e.enc=[.Xw e.thread,.Xw e.kind,.Xw e.obj,.Xw e.value,.Xw e.site,.lst (e.deps.map aj),.lst (e.frm.map aj)]:=rfl;by_cases p1:e.kind=18∨e.kind=19
 ·replace js:=js sv (IntKind.i64.wrap (th.pc+1)) (by unfold dP;rw[if_neg k3,if_neg k23,if_neg k4,if_neg k22,if_neg k5,if_pos p1]) _ rfl;unfold jA iw jz;unfold gC cK at *;obtain⟨J,hJ⟩:∃J,J=bJ Q:=⟨_,rfl⟩;rw[←hJ]at js ⊢;generalize ig s th tb o oc of=T at *;rw[en];rcases p1 with p1|p1
  ·have d18:decide (e.kind=18)=true:=decide_eq_true p1
   repeat' (first|refine st ?_|refine sb λnb_ hnb_=>?_|refine s2 (λh=>?_) λh=>?_|fail)
   exact js
  ·have d18:decide (e.kind=18)=false:=decide_eq_false Xr;have d19:decide (e.kind=19)=true:=decide_eq_true p1
   repeat' (first|refine st ?_|refine sb λnb_ hnb_=>?_|refine s2 (λh=>?_) λh=>?_|fail)
   exact js
 ·have d18:decide (e.kind=18)=false:=decide_eq_false Xr;have d19:decide (e.kind=19)=false:=decide_eq_false Xr;by_cases p2:e.kind=1∨e.kind=16∨e.kind=2
  ·replace js:=js e.value th.pc (by unfold dP;rw[if_neg k3,if_neg k23,if_neg k4,if_neg k22,if_neg k5,if_neg p1,if_pos p2]) _ rfl;unfold jA iw jz;unfold gC cK at *;obtain⟨J,hJ⟩:∃J,J=bJ Q:=⟨_,rfl⟩;rw[←hJ]at js ⊢;generalize ig s th tb o oc of=T at *;rw[en]
   repeat' (first|refine st ?_|refine sb λnb_ hnb_=>?_|refine s2 (λh=>?_) λh=>?_|fail)
   all_goals first
    |exact js
    |(exfalso;simp_all<;>omega)
  ·replace js:=js e.value (IntKind.i64.wrap (th.pc+1)) (by unfold dP;rw[if_neg k3,if_neg k23,if_neg k4,if_neg k22,if_neg k5,if_neg p1,if_neg p2]) _ rfl;unfold jA iw jz;unfold gC cK at *;obtain⟨J,hJ⟩:∃J,J=bJ Q:=⟨_,rfl⟩;rw[←hJ]at js ⊢;generalize ig s th tb o oc of=T at *;rw[en]
   repeat' (first|refine st ?_|refine sb λnb_ hnb_=>?_|refine s2 (λh=>?_) λh=>?_|fail)
   all_goals first
    |exact js
    |(exfalso;simp_all<;>omega)
end
end
section
set_option maxRecDepth 100000
set_option maxHeartbeats 4000000
set_option linter.unusedSimpArgs false
set_option linter.unusedSectionVars false
theorem OF(q:Nat)(o:Option Nat)(tb:Nat)(l:List aU)(hq:q<l.length):iH q o tb l=(l.map aU.enc).set q (cK (l.getD q aU.zero) tb o):=by
 apply WU;intro j;rw[Wn];rcases VO j l.length with hj|hj
 ·rw[xG _ _ _ _ _ hj];by_cases e:q=j
  ·subst e;rw[if_pos rfl,if_pos (by simpa using hj)];simp[FD,cK,hj]
  ·rw[if_neg e];simp[FD,show¬j=q from λh=>e h.symm,hj]
 ·rw[VP (by rw[cY];exact hj),if_neg Xr,VP (by simpa using hj)]
theorem Ms(i:bj)(s:aU)(t:Int):(pQ i s t).kind=lT i.op:=by
 unfold pQ;dsimp only
 repeat' split
 all_goals rfl
theorem OG{i:bj}{n:Int}(h1:1≤i.op)(h2:i.op≤28)(hr:∀r∈bY i,0≤r∧r<n):((lT i.op=3∨lT i.op=23∨lT i.op=5)→0≤i.a∧i.a<n)∧((lT i.op=4∨lT i.op=22)→0≤i.b∧i.b<n):=by obtain⟨op,ia,ib,ic,m,site⟩:=i;dsimp only at *;rcases ops op h1 h2 with rfl|rfl|rfl|rfl|rfl|rfl|rfl|rfl|rfl|rfl|rfl|rfl|rfl|rfl|rfl|rfl|rfl|rfl|rfl|rfl|rfl|rfl|rfl|rfl|rfl|rfl|rfl|rfl<;>simp_all[lT,ja,bY]
structure UK(c:bI)(s:dE)(t:Int)(e:dD):Prop where
 ready:gb c s t=true
 ra:(e.kind=3∨e.kind=23∨e.kind=5)→0≤(cM (az c t) (bz s t).pc).a∧(cM (az c t) (bz s t).pc).a<(bz s t).regs.length
 rb:(e.kind=4∨e.kind=22)→0≤(cM (az c t) (bz s t).pc).b∧(cM (az c t) (bz s t).pc).b<(bz s t).regs.length
theorem kv{c:bI}{s:dE}{t:Int}(h:gb c s t=true):inB t c.ts.length=true∧inB t s.threads.length=true∧inB t s.sync.threads.length=true∧inB (bz s t).pc (az c t).ins.length=true∧((bz s t).regs.length:Int)=(az c t).regs∧((bz s t).taint.length:Int)=(az c t).regs:=by unfold gb at h;simp only[V5,decide_eq_true_eq]at h;obtain⟨⟨⟨⟨⟨a,b⟩,c⟩,d⟩,e⟩,f⟩:=h;exact⟨a,b,c,d,e,f⟩
theorem En{c:bI}{s:dE}{t:Int}{e:dD}(hi:∀x∈c.ts,Ek x)(h:cJ c s t=some e):UK c s t e:=by
 unfold cJ at h;by_cases hr:gb c s t=true
 ·rw[if_pos hr]at h;obtain⟨a1,a2,a3,a4,a5,a6⟩:=kv hr;obtain⟨o1,o2,o3⟩:=hi _ (ku (d:=⟨0,[]⟩) a1) _ (ku (d:=default) a4);rw[show(c.ts.getD t.toNat ⟨0,[]⟩).ins.getD (bz s t).pc.toNat default=cM (az c t) (bz s t).pc from rfl]at o1 o2 o3;have hk:=OG (n:=(bz s t).regs.length) o1 o2 (λr hr=>by have:=o3 r hr;rw[show(c.ts.getD t.toNat ⟨0,[]⟩).regs=(az c t).regs from rfl]at this;omega);have key:e.kind=1∨e.kind=17∨e.kind=lT (cM (az c t) (bz s t).pc).op:=by
   dsimp only at h;split at h
   ·cases h;exact .inl rfl
   ·split at h
    ·cases h;exact .inr (.inl rfl)
    ·split at h
     ·split at h
      ·cases h;exact .inr (.inr (Ms _ _ _))
      ·cases h
     ·cases h
  refine⟨hr,λhx=>hk.1 ?_,λhx=>hk.2 ?_⟩
  ·rcases key with k|k|k
   ·omega
   ·omega
   ·rw[←k];exact hx
  ·rcases key with k|k|k
   ·omega
   ·omega
   ·rw[←k];exact hx
 ·rw[if_neg hr]at h;cases h
theorem Hm(c:bI)(s:dE)(t wake:Int):nH c s t wake=match cJ c s t with
  |none=>none
  | some e=>if s.cells.length=c.w.cells.length∧s.futures.length=c.w.futures.length then
    (if(fy c.w s.sync t e.kind e.obj wake).2.2 then xI c s t (fy c.w s.sync t e.kind e.obj wake).1 e (dP (cM (az c t) (bz s t).pc) e s (bz s t) (fy c.w s.sync t e.kind e.obj wake).2.1)else none)else none:=by
 unfold nH xI;rfl
theorem Jg{w:aM}{s:SyncD}{t k o wake:Int}(h:(fy w s t k o wake).2.2=true):allowedS w k o=true:=by
 unfold fy at h;split at h
 ·rename_i he;unfold bv at he;simp only[V5]at he;exact he.1.2
 ·cases h
structure Rc(U:List Int)(c:bI)(s:dE):Prop where
 ins:∀x∈c.ts,Ek x
 len:∀x∈c.ts,x.ins.length<2^40
 u30:U.length≤2^30
 thr:∀x∈s.threads,jU U x∧x.ev∈U∧x.regs.length≤2^30
 sm:Oa c.w s.sync
 nt:s.threads.length≤2^30
 nc:s.cells.length<2^40
 nf:s.futures.length<2^40
theorem Jh{U:List Int}{i:bj}{e:dD}{s:dE}{th:aU}{sv:Int}(h:jU U th)(hev:th.ev∈U):jU U (dP i e s th sv).thread:=by
 obtain⟨l1,l2,l3,l4⟩:=h;have set1:jU U ⟨th.pc,th.regs,th.taint.set i.a.toNat [th.ev],th.ev⟩:=by
  refine⟨by simpa using l1,l2,λl hl=>?_,λl hl x hx=>?_⟩
  ·rcases W5 hl with h|rfl
   ·exact l3 l h
   ·simp
  ·rcases W5 hl with h|rfl
   ·exact l4 l h x hx
   ·rw[VR.1 hx];exact hev
 unfold dP;dsimp only
 repeat' split
 all_goals first
  |exact⟨l1,l2,l3,l4⟩
  |exact⟨by simpa using l1,by simpa using l2,set1.short,set1.sub⟩
theorem LC(U:List Int)(c:bI)(s:dE)(t wake:Int)(H:Rc U c s):ax Tryz.prog 25 [.agg c.enc,.agg s.enc,.agg [.Xw t,.Xw wake]] (pW (nH c s t wake)):=by
 obtain⟨hi,hl,hu,hth,hsm,hnt,hnc,hnf⟩:=H;have hp:=Hk c s t hi (λx hx r=>by
  have:=(hth x hx).1.short;unfold aU.tnt;rcases VO r.toNat x.taint.length with h|h
  ·have:=this _ (V3 h);simp[h];omega
  ·simp[List.getD,VP h])
 rw[Hm];refine af.fz (Jd _ _ _ _ _ ?_);unfold Ej;generalize hQ:(λ(v:AV) (L:SH)=>∃v2 L2,aF [v] L [v2] L2∧v2=_∧L2=[])=Q;have hq:∀v L,Fz L v (pW (match cJ c s t with
  |none=>none
  | some e=>if s.cells.length=c.w.cells.length∧s.futures.length=c.w.futures.length then
    (if(fy c.w s.sync t e.kind e.obj wake).2.2 then xI c s t (fy c.w s.sync t e.kind e.obj wake).1 e (dP (cM (az c t) (bz s t).pc) e s (bz s t) (fy c.w s.sync t e.kind e.obj wake).2.1)else none)else none))→Q v L:=λv L h=>by subst hQ;exact⟨_,[],aF.all h,rfl,rfl⟩
 clear hQ;have hce:c.enc=[.lst (c.w.cells.map aV.enc),.lst (c.w.locks.map bV.enc),.lst (c.w.conds.map cI.enc),.lst (c.w.futures.map aq),.lst (c.w.threads.map aq),.lst (c.w.sites.map cz.enc),.lst (c.ts.map gL.enc)]:=rfl;have hse:s.enc=[.lst (s.sync.locks.map LockD.enc),.Xw s.sync.tx,.lst (s.sync.done.map aI),.lst (s.sync.threads.map ThrD.enc),.lst (s.cells.map aj),.lst (s.futures.map aj),.lst (s.threads.map aU.enc)]:=rfl;cases hpe:cJ c s t with
 |none=>
  rw[hpe]at hp hq;unfold ie at hp;have hz:=λv L (h:v=_)=>hq v L (by rw[h];exact xJ L)
  unfold bL dZ dD.zero dD.enc at *;dsimp only[List.map]at hp;rw[hce,hse]at *
  repeat' (first|refine st ?_|(refine pf 26 ?_;refine pm (hp) ?_)|refine sb λnb_ hnb_=>?_|refine s2 (λh=>?_) λh=>?_|fail)
  exact hz _ _ rfl
 |some e=>
  rw[hpe]at hp hq;unfold ie at hp;dsimp only at hp hq;have hpp:=En hi hpe;have ha:=Oc c.w s.sync t e.kind e.obj wake hsm;have hcp:=Qe s t.toNat hnt hnc hnf (λx hx=>⟨(hth x hx).1.small,by have:=(hth x hx).1.len;have:=(hth x hx).2.2;omega,(hth x hx).1.short⟩);have een:e.enc=[.Xw e.thread,.Xw e.kind,.Xw e.obj,.Xw e.value,.Xw e.site,.lst (e.deps.map aj),.lst (e.frm.map aj)]:=rfl;generalize hres:fy c.w s.sync t e.kind e.obj wake=r at *;obtain⟨sy,sv,ok⟩:=r;unfold Si at ha;dsimp only at ha hq;by_cases hln:s.cells.length=c.w.cells.length∧s.futures.length=c.w.futures.length
  ·rw[if_pos hln]at hq;have d1:decide ((s.cells.length:Int)≠c.w.cells.length)=false:=decide_eq_false Xr;have d2:decide ((s.futures.length:Int)≠c.w.futures.length)=false:=decide_eq_false Xr;cases ok with
   |false=>
    have hz:=λv L (h:v=_)=>hq v L (by rw[h];exact xJ L)
    unfold bL dZ at hz;rw[hce,hse,een]at *
    repeat' (first|refine st ?_|(refine pf 26 ?_;refine pm (hp) ?_)|(refine pf 50 ?_;refine pm (ha) ?_)|refine sb λnb_ hnb_=>?_|refine s2 (λh=>?_) λh=>?_|fail)
    exact hz _ _ rfl
   |true=>
    rw[if_pos rfl]at hq;obtain⟨a1,a2,a3,a4,a5,a6⟩:=kv hpp.ready;have al:=Jg (w:=c.w) (s:=s.sync) (t:=t) (k:=e.kind) (o:=e.obj) (wake:=wake) (by rw[hres]);have hmem:bz s t∈s.threads:=ku (d:=aU.zero) a2;have hT:=hth _ hmem;have hobc:e.kind=3∨e.kind=4→inB e.obj s.cells.length=true:=λhk=>by unfold allowedS at al;rw[if_neg Xr,if_pos hk]at al;rw[hln.1];exact al
    have hobf:e.kind=22∨e.kind=23→inB e.obj s.futures.length=true:=λhk=>by unfold allowedS at al;rw[if_neg Xr,if_neg Xr,if_neg Xr,if_neg Xr,if_neg Xr,if_neg Xr,if_pos hk]at al;rw[hln.2];exact al
    have tame:=Jh (i:=cM (az c t) (bz s t).pc) (e:=e) (s:=s) (sv:=sv) hT.1 hT.2.1;have hset:=Mj (az c t) _ U hu tame.small (by rw[tame.len];exact tame.small) tame.short tame.sub (hl _ (show az c t∈c.ts from ku a1));have fin:∀(v:AV) (K:SH) (b24 b8 b6:Nat),b24≠b6→SA s t.toNat v K→kq Q (.pptr [sy.enc] 0 0) (.pptr [[.Xw t,.Xw wake]] 0 0) (.pptr [c.enc] 0 0) (.ptr b24 0 0) (.ptr b6 0 0) (.ptr b8 0 0) (.Xw sv) v ((b24,⟨7,[e.enc]⟩)::(b8,⟨7,[dZ]⟩)::(b6,⟨7,[bL]⟩)::K):=by
     rintro v K b24 b8 b6 hn ⟨oc,of,bt,o,tb,rfl,rfl,hoc,hof,ho⟩;have hlt:t.toNat<s.threads.length:=by have:=aw.1 a2;omega
     have e1:(b24,(⟨7,[e.enc]⟩:Blk))::(b8,⟨7,[dZ]⟩)::(b6,⟨7,[bL]⟩)::((bt,⟨4,iH t.toNat o tb s.threads⟩)::(pV t.toNat o tb s.threads s.threads.length++(ae oc 1 (s.cells.map aj)++ae of 1 (s.futures.map aj))))=jz s t (bz s t) e b24 b8 b6 bt tb o (ig s (bz s t) tb o oc of):=by rw[OF _ _ _ _ hlt,pV,if_pos hlt];unfold jz ig;rw[Wq];rfl
     rw[e1];refine SD c s t wake a2 a1 _ rfl _ rfl a4 sy sv e b24 b8 b6 bt tb o oc of Q _ λb132=>?_
     have ho':o=none→(bz s t).regs=[]:=λh=>ho h hlt
     have htn:(bz s t).taint.length=(bz s t).regs.length:=by omega
     by_cases k3:e.kind=3
     ·exact Vz c s t wake a2 a1 _ _ sy sv e b132 b24 b8 b6 bt tb o oc of hn ho' hoc hof htn hset Q hq k3 (hpp.ra Xr) (hobc Xr)
     by_cases k23:e.kind=23
     ·exact UI c s t wake a2 a1 _ _ sy sv e b132 b24 b8 b6 bt tb o oc of hn ho' hoc hof htn hset Q hq k23 (hpp.ra Xr) (hobf Xr)
     by_cases k4:e.kind=4
     ·exact VA c s t wake a2 a1 _ _ sy sv e b132 b24 b8 b6 bt tb o oc of hn ho' hoc hof htn hset Q hq k4 (hpp.rb Xr) (hobc Xr)
     by_cases k22:e.kind=22
     ·exact UJ c s t wake a2 a1 _ _ sy sv e b132 b24 b8 b6 bt tb o oc of hn ho' hoc hof htn hset Q hq k22 (hpp.rb Xr) (hobf Xr)
     by_cases k5:e.kind=5
     ·exact VB c s t wake a2 a1 _ _ sy sv e b132 b24 b8 b6 bt tb o oc of hn ho' hoc hof htn hset Q hq k5 (hpp.ra Xr)
     exact VC c s t wake a2 a1 _ _ sy sv e b132 b24 b8 b6 bt tb o oc of hn ho' hoc hof htn hset Q hq ⟨k3,k23,k4,k22,k5⟩
    unfold bL dZ at fin;clear hq hset tame hobc hobf al hpp hT hmem;rw[hce,hse,een]at *
    repeat' (first|refine st ?_|(refine pf 26 ?_;refine pm (hp) ?_)|(refine pf 50 ?_;refine pm (ha) ?_)|((with_reducible refine aY 51 ?_);(refine o8 hcp ?_;intro v K hK;exact fin _ _ _ _ _ (λh_=>by subst h_;simp[SH.names]at hnb_) hK))|refine sb λnb_ hnb_=>?_|refine s2 (λh=>?_) λh=>?_|fail)
  ·rw[if_neg hln]at hq;have hz:=λv L (h:v=_)=>hq v L (by rw[h];exact xJ L)
   unfold bL dZ at hz;rw[hce,hse,een]at *;by_cases hl1:s.cells.length=c.w.cells.length
   ·have d1:decide ((s.cells.length:Int)≠c.w.cells.length)=false:=decide_eq_false Xr;have d2:decide ((s.futures.length:Int)≠c.w.futures.length)=true:=decide_eq_true Xr
    repeat' (first|refine st ?_|(refine pf 26 ?_;refine pm (hp) ?_)|refine sb λnb_ hnb_=>?_|refine s2 (λh=>?_) λh=>?_|fail)
    exact hz _ _ rfl
   ·have d1:decide ((s.cells.length:Int)≠c.w.cells.length)=true:=decide_eq_true Xr
    repeat' (first|refine st ?_|(refine pf 26 ?_;refine pm (hp) ?_)|refine sb λnb_ hnb_=>?_|refine s2 (λh=>?_) λh=>?_|fail)
    exact hz _ _ rfl
end
section
set_option maxRecDepth 100000
set_option maxHeartbeats 4000000
set_option linter.unusedSimpArgs false
set_option linter.unusedSectionVars false
def Ko(t:gL):aU:=⟨0,List.replicate t.regs.toNat 0,List.replicate t.regs.toNat [],0⟩
theorem SE(l:List gL)(h1:l.length≤1000)(hr:∀t∈l,0≤t.regs∧t.regs≤1000)(sy:SyncD)(x y:AV)(hx:∃b n,x=.sl b 0 n)(hy:∃b n,y=.sl b 0 n)(b2 b37 bt:Nat)(RR L0:SH)(Q:R)(hL0:L0.Perm ((bt,⟨4,[]⟩)::(b37,⟨7,[[.lst (sy.locks.map LockD.enc),.Xw sy.tx,.lst (sy.done.map aI),.lst (sy.threads.map ThrD.enc),x,y,.sl bt 0 0]]⟩)::(b2,⟨7,[bL]⟩)::RR))
  (hq:∀(bt:Nat) (L:SH),(bt,(⟨4,(l.map Ko).map aU.enc⟩:Blk))∈L→(∀q∈RR,q∈L)→Q (.agg [.lst (sy.locks.map LockD.enc),.Xw sy.tx,.lst (sy.done.map aI),.lst (sy.threads.map ThrD.enc),x,y,.sl bt 0 l.length]) L) :
  W.loop (iR Q) [.ptr b2 0 0,.ptr b37 0 0,.lst (l.map gL.enc),.Xw l.length,.Xw (0:Nat)] L0:=by
 refine cb l.length (λk (b':Nat)=>([.ptr b2 0 0,.ptr b37 0 0,.lst (l.map gL.enc),.Xw l.length,.Xw k],(b',⟨4,((l.take k).map Ko).map aU.enc⟩)::(b37,⟨7,[[.lst (sy.locks.map LockD.enc),.Xw sy.tx,.lst (sy.done.map aI),.lst (sy.threads.map ThrD.enc),x,y,.sl b' 0 k]]⟩)::(b2,⟨7,[bL]⟩)::RR)) (λ_ _=>True) bt trivial (aF.forget (K:=[]) hL0) ?_;intro k b' hk _;dsimp only;unfold iR;obtain⟨bx,nx,rfl⟩:=hx;obtain⟨by_,ny,rfl⟩:=hy;rcases Nat.lt_or_ge k l.length with g1|g1
 ·have hd:=bK g1;have hxx:=ay (f:=gL.enc) g1;obtain⟨r1,r2⟩:=hr _ (V3 g1);have htk:l.take (k+1)=l.take k++[l[k]]:=VV g1;generalize hT:l[k]=tk at *;obtain⟨m,hm⟩:∃m:Nat,tk.regs=(m:Int):=⟨tk.regs.toNat,Xr⟩;have hke:tk.enc=[.Xw (m:Int),.lst (tk.ins.map bj.enc)]:=by rw[←hm];rfl
  rw[hke]at hxx
  repeat' (first|refine st ?_|refine fR (i:=m) (j:=m) Xr Xr Xr (λnb_ hnb_=>?_)|refine pU rp rp (by simp;omega) rfl (by simp;omega) (by simp;omega) rfl (λnb_ hnb_=>?_)|refine sb λnb_ hnb_=>?_|fail)
  rename_i kr _ kt _ ka _;refine⟨k+1,nb_,Xr,Xr,trivial,?_⟩;rw[aD g1 Xr,htk,VQ,VQ];have e:Ko tk=⟨0,List.replicate m 0,List.replicate m [],0⟩:=by unfold Ko;rw[hm];rfl
  refine aF.row (K:=[(ka,_),(kt,_),(kr,_)]) (R:=(b37,_)::(b2,_)::RR) (W7 (l₁:=[_,_,_])).symm Xu ?_;intro j r r' q1 q2;rcases VO j (((l.take k).map Ko).map aU.enc).length with hj|hj
  ·rw[V1 hj]at q1 q2;rw[q1]at q2;cases q2;exact iU.refl _ _
  ·rw[VS hj]at q1 q2;rcases hmm:j-(((l.take k).map Ko).map aU.enc).length with _|mm
   ·rw[hmm]at q1 q2;cases q1;cases q2;rw[e];refine .cons (.refl _) (.cons ?_ (.cons ?_ (.cons (.refl _) .nil)))
    ·exact Fz.sls (l:=List.replicate m 0) (f:=aj) (.tail _ (.tail _ (.head _))) (by simp[aj]) Xv Xu
    ·refine Fz.slm (l:=List.replicate m []) (f:=λ_=>[.nils]) (g:=cp) (.tail _ (.head _)) Xu Xv Xu (λy _=>rfl) (λy hy q a a2 q1 q2=>?_);obtain rfl:=(List.mem_replicate.1 hy).2
     match q with
     |0=>cases q1;cases q2;exact .nils
   ·rw[hmm]at q1;simp at q1
 ·have hd:=bO g1;have hk0:k=l.length:=by omega
  subst hk0;rw[Wx (VL _)];unfold bL
  repeat' (first|refine st ?_|refine sb λnb_ hnb_=>?_|refine s2 (λh=>?_) λh=>?_|fail)
  exact hq b' _ (.head _) (λq h=>by simp[h])
theorem SF(c:bI)(h1:c.w.cells.length≤1000)(w1 w2 w3 w4 y z:AV)(b2 b37 bc:Nat)(RR L0:SH)(Q:R)(hL0:L0.Perm ((bc,⟨1,[]⟩)::(b37,⟨7,[[w1,w2,w3,w4,.sl bc 0 0,y,z]]⟩)::RR))
  (hq:∀bc:Nat,W.loop (iR Q) [.ptr b2 0 0,.ptr b37 0 0,.lst (c.ts.map gL.enc),.Xw c.ts.length,.Xw (0:Nat)] ((bc,⟨1,(c.w.cells.map aV.init).map aj⟩)::(b37,⟨7,[[w1,w2,w3,w4,.sl bc 0 c.w.cells.length,y,z]]⟩)::RR)) :
  W.loop (iS Q) [.pptr [c.enc] 0 0,.ptr b2 0 0,.ptr b37 0 0,.lst (c.w.cells.map aV.enc),.Xw c.w.cells.length,.Xw (0:Nat)] L0:=by
 refine cb c.w.cells.length (λk (b':Nat)=>([.pptr [c.enc] 0 0,.ptr b2 0 0,.ptr b37 0 0,.lst (c.w.cells.map aV.enc),.Xw c.w.cells.length,.Xw k],(b',⟨1,((c.w.cells.take k).map aV.init).map aj⟩)::(b37,⟨7,[[w1,w2,w3,w4,.sl b' 0 k,y,z]]⟩)::RR)) (λ_ _=>True) bc trivial (aF.forget (K:=[]) hL0) ?_;intro k b' hk _;dsimp only;unfold iS;rcases Nat.lt_or_ge k c.w.cells.length with g1|g1
 ·have hd:=bK g1;have hxx:=ay (f:=aV.enc) g1;have htk:c.w.cells.take (k+1)=c.w.cells.take k++[c.w.cells[k]]:=VV g1;generalize hT:c.w.cells[k]=ck at *;have hce:ck.enc=[.str ck.name,.Xw ck.index,.Xw ck.size,.bool ck.vol,.Xw ck.init]:=rfl;rw[hce]at hxx
  repeat' (first|refine st ?_|refine pU rp rp (by simp;omega) rfl (by simp;omega) (by simp;omega) rfl (λnb_ hnb_=>?_)|refine sb λnb_ hnb_=>?_|fail)
  refine⟨k+1,nb_,Xr,Xr,trivial,?_⟩;rw[aD g1 Xr,htk,VQ,VQ];exact aF.forget (K:=[(_,_)]) (List.Perm.swap _ _ _)
 ·have hk0:k=c.w.cells.length:=by omega
  subst hk0;rw[Wx (VL _)];have:=hq b';have hd:=bO g1;rw[show c.enc=[.lst (c.w.cells.map aV.enc),.lst (c.w.locks.map bV.enc),.lst (c.w.conds.map cI.enc),.lst (c.w.futures.map aq),.lst (c.w.threads.map aq),.lst (c.w.sites.map cz.enc),.lst (c.ts.map gL.enc)]from rfl]
  repeat' (first|exact this|refine st ?_|refine sb λnb_ hnb_=>?_|refine s2 (λh=>?_) λh=>?_|fail)
theorem Mt(c:bI)(h1:c.w.cells.length≤100)(h2:c.w.locks.length≤100)(h3:c.w.futures.length≤100)(h4:c.w.threads.length≤100)(h5:c.ts.length≤1000)(hr:∀t∈c.ts,0≤t.regs∧t.regs≤1000):ax Tryz.prog 40 [.agg c.enc] (.agg (cG c).enc):=by
 have hst:=Om c.w h2 h3 h4;refine af.fz (Ha _ _ _ ?_);unfold Bg;generalize hQ:(λ(v:AV) (L:SH)=>∃v2 L2,aF [v] L [v2] L2∧v2=AV.agg (cG c).enc∧L2=[])=Q;have hq:∀v L,Fz L v (.agg (cG c).enc)→Q v L:=λv L h=>by subst hQ;exact⟨_,[],aF.all h,rfl,rfl⟩
 clear hQ;have hwe:c.w.enc=[.lst (c.w.cells.map aV.enc),.lst (c.w.locks.map bV.enc),.lst (c.w.conds.map cI.enc),.lst (c.w.futures.map aq),.lst (c.w.threads.map aq),.lst (c.w.sites.map cz.enc)]:=rfl;have hce:c.enc=[.lst (c.w.cells.map aV.enc),.lst (c.w.locks.map bV.enc),.lst (c.w.conds.map cI.enc),.lst (c.w.futures.map aq),.lst (c.w.threads.map aq),.lst (c.w.sites.map cz.enc),.lst (c.ts.map gL.enc)]:=rfl;rw[hwe]at hst;have hsy:(cW c.w).enc=[.lst ((cW c.w).locks.map LockD.enc),.Xw (cW c.w).tx,.lst ((cW c.w).done.map aI),.lst ((cW c.w).threads.map ThrD.enc)]:=rfl;rw[hsy]at hst;rw[hce];generalize hsg:cW c.w=sy at *;have lp:∀(b2 b37 bc bf bt:Nat) (L:SH),L=(b37,⟨7,[[.lst (sy.locks.map LockD.enc),.Xw sy.tx,.lst (sy.done.map aI),.lst (sy.threads.map ThrD.enc),.sl bc 0 0,.sl bf 0 c.w.futures.length,.sl bt 0 0]]⟩)::(bt,⟨4,[]⟩)::(bf,⟨1,List.replicate c.w.futures.length [.Xw 0]⟩)::(bc,⟨1,[]⟩)::[(b2,⟨7,[bL]⟩)]→
   W.loop (iS Q) [.pptr [c.enc] 0 0,.ptr b2 0 0,.ptr b37 0 0,.lst (c.w.cells.map aV.enc),.Xw c.w.cells.length,.Xw (0:Nat)] L:=by
  rintro b2 b37 bc bf bt L rfl;refine SF c Xr (.lst (sy.locks.map LockD.enc)) (.Xw sy.tx) (.lst (sy.done.map aI)) (.lst (sy.threads.map ThrD.enc)) (.sl bf 0 c.w.futures.length) (.sl bt 0 0) b2 b37 bc ((bt,⟨4,[]⟩)::(bf,⟨1,List.replicate c.w.futures.length [.Xw 0]⟩)::[(b2,⟨7,[bL]⟩)]) _ Q ?_ λbc=>?_
  ·exact W7 (l₁:=[_,_,_]) (l₂:=[_])
  refine SE c.ts h5 hr sy (.sl bc 0 c.w.cells.length) (.sl bf 0 c.w.futures.length) ⟨bc,_,rfl⟩ ⟨bf,_,rfl⟩ b2 b37 bt [(bc,⟨1,(c.w.cells.map aV.init).map aj⟩),(bf,⟨1,List.replicate c.w.futures.length [.Xw 0]⟩)] _ Q ?_ λbt L hm hL=>?_
  ·exact(W7 (l₁:=[_,_])).trans (((List.Perm.swap _ _ _).trans ((W7 (l₁:=[_,_])).cons _)).cons _)
  refine hq _ _ ?_;have he:(cG c).enc=[.lst (sy.locks.map LockD.enc),.Xw sy.tx,.lst (sy.done.map aI),.lst (sy.threads.map ThrD.enc),.lst ((c.w.cells.map aV.init).map aj),.lst ((List.replicate c.w.futures.length (0:Int)).map aj),.lst ((c.ts.map Ko).map aU.enc)]:=by unfold cG dE.enc;rw[hsg];rfl
  rw[he];refine Fz.aggs (.cons (.refl _) (.cons (.refl _) (.cons (.refl _) (.cons (.refl _) (.cons ?_ (.cons ?_ (.cons ?_ .nil)))))))
  ·exact Fz.sls (hL _ (.head _)) rfl Xv Xu
  ·exact Fz.sls (hL _ (.tail _ (.head _))) (by simp[aj]) Xv Xu
  ·exact Fz.sls hm rfl Xv Xu
 repeat' (first|exact lp _ _ _ _ _ _ rfl|refine st ?_|(refine pf 71 ?_;refine pm (hst) ?_)|refine fR (i:=0) (j:=c.w.cells.length) Xr Xr Xr (λnb_ hnb_=>?_)|refine fR (i:=c.w.futures.length) (j:=c.w.futures.length) Xr Xr Xr (λnb_ hnb_=>?_)|refine fR (i:=0) (j:=c.ts.length) Xr Xr Xr (λnb_ hnb_=>?_)|refine sb λnb_ hnb_=>?_|refine s2 (λh=>?_) λh=>?_|fail)
end
section
set_option linter.unusedSimpArgs false
def U9:List Int:=(List.range 401).map λk:Nat=>(k:Int)
theorem OH{n:Int}(h0:0≤n)(h1:n≤400):n∈U9:=Wm.2 ⟨n.toNat,WI.2 Xr,Xr⟩
theorem OI:U9.length≤2^30:=by simp[U9]
structure Ap(c:bI)(n:Nat)(s:dE):Prop where
 thr:∀x∈s.threads,jU U9 x∧0≤x.ev∧x.ev≤n∧x.regs.length≤1000
 nt:s.threads.length≤1000
 lk:s.sync.locks.length≤1000
 rd:∀l∈s.sync.locks,l.readers.length≤n
 dn:s.sync.done.length≤1000
 th:s.sync.threads.length≤1000
 nc:s.cells.length≤1000
 nf:s.futures.length≤1000
structure SG(s s':SyncD)(n:Nat):Prop where
 lk:s'.locks.length=s.locks.length
 dn:s'.done.length=s.done.length
 th:s'.threads.length=s.threads.length
 rd:∀l∈s'.locks,l.readers.length≤n+1
theorem Mu(l:List Int)(t:Int):(w6 l t).length≤l.length+1:=by unfold w6;have:=o9 (zB (l++[t]));rw[qi]at this;simpa using this
theorem Mv{s:SyncD}{n:Nat}(h:∀l∈s.locks,l.readers.length≤n)(o:Int):(aL s o).readers.length≤n:=by
 unfold aL;rcases VO o.toNat s.locks.length with h1|h1
 ·simpa[List.getD,h1]using h _ (V3 h1)
 ·simp[List.getD,VP h1];exact WF _
theorem Mw{w:aM}{s:SyncD}{t k o wake:Int}{n:Nat}(h:∀l∈s.locks,l.readers.length≤n):SG s (bR w s t k o wake).1 n:=by
  have same:∀l∈s.locks,l.readers.length≤n+1:=λl hl=>WW (h l hl)
  have lk:∀(i:Int) (f:LockD→LockD),(∀x,x.readers.length≤n→(f x).readers.length≤n+1)→∀l∈aJ s i f,l.readers.length≤n+1:=λi f hf l hl=>by
    unfold aJ at hl;rcases W5 hl with h1|rfl
    · exact same l h1
    · exact hf _ (Mv h i)
  have own:∀(i v:Int),∀l∈aJ s i (λx=>{x with owner:=v}),l.readers.length≤n+1:=λi v=>lk i _ λx hx=>WW hx
  have ll:∀(i:Int) (f:LockD→LockD),(aJ s i f).length=s.locks.length:=λi f=>by simp[aJ]
  have tl:∀(i:Int) (f:ThrD→ThrD),(bC s i f).length=s.threads.length:=λi f=>by simp[bC]
  unfold bR
  repeat' refine iteInduction (motive:=λx:SyncD×Int=>SG s x.1 n) (λ_=>?_) (λ_=>?_)
  all_goals refine⟨by simp[aJ],Xu,by simp[bC,zQ,db,ID],?_⟩
  all_goals first
    |exact same
    | (intro l hl; dsimp only at hl
       refine lk _ _ (λx hx=>?_) l hl;dsimp only
       first
         |exact WW hx
         |exact V2 (Mu _ _) (Nat.succ_le_succ hx)
         |exact V2 (Xi _ _) (WW hx))
theorem LD{i:bj}{e:dD}{s:dE}{th:aU}{sv:Int}:(dP i e s th sv).thread.ev=IntKind.i64.wrap (th.ev+1)∧(dP i e s th sv).thread.regs.length=th.regs.length∧(dP i e s th sv).cells.length=s.cells.length∧(dP i e s th sv).futures.length=s.futures.length:=by
 unfold dP;dsimp only
 repeat' split
 all_goals exact⟨rfl,Xu,Xu,Xu⟩
theorem Qf{i:bj}{s s2:aU}(h:bU i s=some s2):s2.ev=s.ev:=by
 unfold bU at h
 repeat' split at h
 all_goals first
  |(cases h;rfl)
  |cases h
theorem SI{ins:List bj}:∀(k:Nat) {s y:aU},fV ins k s=(y,true)→y.ev=s.ev∧y.regs.length=s.regs.length:=by
 intro k
 induction k with
 |zero=>
  intro s y h;unfold fV at h
  repeat' split at h
  all_goals first
   |(cases h;exact⟨rfl,rfl⟩)
   |cases h
 |succ k ih=>
  intro s y h;unfold fV at h;split at h
  ·split at h
   ·cases h;exact⟨rfl,rfl⟩
   ·split at h
    ·cases h
    ·rename_i s2 he;obtain⟨a,b⟩:=ih h;rw[a,b,Qf he,(Gc he).1];exact⟨rfl,rfl⟩
  ·cases h
theorem Gg{c:gL}{s y:aU}(h:bN c s=(y,true)):y.ev=s.ev∧y.regs.length=s.regs.length:=by
 unfold bN at h;split at h
 ·exact SI _ h
 ·cases h
structure UL(c:bI)(s:dE)(t wake:Int)(s':dE)(e':dD):Prop where
 ex:∃(e:dD) (th':aU),cJ c s t=some e∧(fy c.w s.sync t e.kind e.obj wake).2.2=true∧s.cells.length=c.w.cells.length∧s.futures.length=c.w.futures.length∧
  (th'=(dP (cM (az c t) (bz s t).pc) e s (bz s t) (fy c.w s.sync t e.kind e.obj wake).2.1).thread∨bN (az c t) (dP (cM (az c t) (bz s t).pc) e s (bz s t) (fy c.w s.sync t e.kind e.obj wake).2.1).thread=(th',true))∧
  s'=⟨(fy c.w s.sync t e.kind e.obj wake).1,(dP (cM (az c t) (bz s t).pc) e s (bz s t) (fy c.w s.sync t e.kind e.obj wake).2.1).cells,(dP (cM (az c t) (bz s t).pc) e s (bz s t) (fy c.w s.sync t e.kind e.obj wake).2.1).futures,s.threads.set t.toNat th'⟩∧
  e'={e with value:=(dP (cM (az c t) (bz s t).pc) e s (bz s t) (fy c.w s.sync t e.kind e.obj wake).2.1).value}
theorem Kq{c:bI}{s s':dE}{t wake:Int}{e':dD}(h:nH c s t wake=some (s',e')):UL c s t wake s' e':=by
 rw[Hm]at h;cases hp:cJ c s t with
 |none=>rw[hp]at h;cases h
 |some e=>
  rw[hp]at h;dsimp only at h;split at h
  ·rename_i hl;split at h
   ·rename_i hr;unfold xI at h;split at h
    ·split at h
     ·rename_i hz;cases h;exact⟨e,_,hp,hr,hl.1,hl.2,.inr (Prod.ext rfl hz),rfl,rfl⟩
     ·cases h
    ·cases h;exact⟨e,_,hp,hr,hl.1,hl.2,.inl rfl,rfl,rfl⟩
   ·cases h
  ·cases h
theorem OJ{c:bI}{s s':dE}{t wake:Int}{e':dD}{n:Nat}(hn:n<400)(H:Ap c n s)(hi:∀x∈c.ts,Ek x)(h:nH c s t wake=some (s',e')):Ap c (n+1) s':=by
 obtain⟨e,th',hp,hr,hl1,hl2,hth,rfl,rfl⟩:=Kq h;have a2:=(kv (En hi hp).ready).2.1;have hmem:bz s t∈s.threads:=ku (d:=aU.zero) a2;obtain⟨t1,t2,t3,t4⟩:=H.thr _ hmem;have at_:=Jh (U:=U9) (i:=cM (az c t) (bz s t).pc) (e:=e) (s:=s) (sv:=(fy c.w s.sync t e.kind e.obj wake).2.1) t1 (OH t2 Xr);obtain⟨q1,q2,q3,q4⟩:=LD (i:=cM (az c t) (bz s t).pc) (e:=e) (s:=s) (th:=bz s t) (sv:=(fy c.w s.sync t e.kind e.obj wake).2.1);rw[WA _ Xr]at q1;have hL:SG s.sync (fy c.w s.sync t e.kind e.obj wake).1 n:=by
  unfold fy at hr ⊢;split
  ·exact Mw H.rd
  ·rename_i he;rw[if_neg he]at hr;cases hr
 have key:jU U9 th'∧th'.ev=(bz s t).ev+1∧th'.regs.length=(bz s t).regs.length:=by
  rcases hth with rfl|hz
  ·exact⟨at_,q1,q2⟩
  ·have:=IK (c:=az c t) OI at_;rw[hz]at this;obtain⟨a,b⟩:=Gg hz;exact⟨this,Xr,Xr⟩
 refine⟨λx hx=>?_,by simpa using H.nt,by rw[hL.lk];exact H.lk,hL.rd,by rw[hL.dn];exact H.dn,by rw[hL.th];exact H.th,by rw[q3];exact H.nc,by rw[q4];exact H.nf⟩;rcases W5 hx with h1|rfl
 ·obtain⟨b1,b2,b3,b4⟩:=H.thr x h1;exact⟨b1,b2,Xr,b4⟩
 ·exact⟨key.1,Xr,Xr,Xr⟩
theorem Ji{c:bI}{s:dE}{n:Nat}(hn:n≤400)(H:Ap c n s)(hi:∀x∈c.ts,Ek x)(hl:∀x∈c.ts,x.ins.length<2^40)(hc:c.w.conds.length<2^40):Rc U9 c s where
 ins:=hi
 len:=hl
 u30:=OI
 thr:=λx hx=>by obtain⟨b1,b2,b3,b4⟩:=H.thr x hx;exact⟨b1,OH b2 Xr,Xr⟩
 sm:=⟨hc,by have:=H.lk;omega,by have:=H.dn;omega,by have:=H.th;omega,λl h=>by have:=H.rd l h;omega⟩
 nt:=by have:=H.nt;omega
 nc:=by have:=H.nc;omega
 nf:=by have:=H.nf;omega
end
section
set_option maxRecDepth 100000
set_option maxHeartbeats 4000000
set_option linter.unusedSimpArgs false
set_option linter.unusedSectionVars false
def fM(c:bI)(l:List dU)(p:List dD×dE):List dD×dE:=l.foldl (LA c) p
theorem Gh(c:bI):∀(l:List dU) (p:List dD×dE),400≤p.1.length→fM c l p=p
 |[],p,_=>rfl
 | ch::l,p,h=>by
  show fM c l (LA c p ch)=p;have e:LA c p ch=p:=by unfold LA;rw[if_pos h]
  rw[e];exact Gh c l p h
theorem Mx(c:bI)(l:List dU)(k:Nat)(p:List dD×dE):fM c l p=fM c (l.drop k) (fM c (l.take k) p):=by unfold fM;rw[←List.foldl_append,List.take_append_drop]
theorem My(c:bI)(l:List dU)(k:Nat)(hk:k<l.length)(p:List dD×dE):fM c (l.take (k+1)) p=LA c (fM c (l.take k) p) l[k]:=by unfold fM;rw[VV hk,List.foldl_append];rfl
structure Jj(c:bI):Prop where
 ins:∀x∈c.ts,Ek x
 len:∀x∈c.ts,x.ins.length<2^40
 con:c.w.conds.length<2^40
theorem SJ{c:bI}(hc:Jj c){p:List dD×dE}{ch:dU}(h:Ap c p.1.length p.2)(hn:p.1.length≤400):Ap c (LA c p ch).1.length (LA c p ch).2∧(LA c p ch).1.length≤400:=by
 unfold LA;split
 ·exact⟨h,hn⟩
 ·rename_i hlt;split
  ·exact⟨h,hn⟩
  ·rename_i n e hs;have:=OJ Xr h hc.ins hs;exact⟨by simpa using this,by simp;omega⟩
theorem LE{c:bI}(hc:Jj c)(l:List dU){p:List dD×dE}(h:Ap c p.1.length p.2)(hn:p.1.length≤400):Ap c (fM c l p).1.length (fM c l p).2∧(fM c l p).1.length≤400:=by
 induction l generalizing p with
 |nil=>exact⟨h,hn⟩
 |cons ch l ih=>obtain⟨a,b⟩:=SJ (ch:=ch) hc h hn;exact ih a b
def OK(p:List dD×dE):AV:=.tup [.lst (p.1.map dD.enc),.agg p.2.enc]
theorem OL(c:bI)(hc:Jj c)(l:List dU)(hl:l.length<2^62)(s0:dE)(h0:Ap c 0 s0)(b2 b9:Nat)(Q:R)(hq:∀v L,Fz L v (OK (fM c l ([],s0)))→Q v L):
  W.loop (lh (gX Q)) [.pptr [c.enc] 0 0,.ptr b2 0 0,.ptr b9 0 0,.nils,.lst (l.map dU.enc),.Xw l.length,.Xw (0:Nat)] [(b9,⟨7,[s0.enc]⟩),(b2,⟨7,[bL]⟩)]:=by
 refine cb l.length (λk (o:Option Nat)=>([.pptr [c.enc] 0 0,.ptr b2 0 0,.ptr b9 0 0,am o (fM c (l.take k) ([],s0)).1.length,.lst (l.map dU.enc),.Xw l.length,.Xw k],(b9,⟨7,[(fM c (l.take k) ([],s0)).2.enc]⟩)::(b2,⟨7,[bL]⟩)::ae o 7 ((fM c (l.take k) ([],s0)).1.map dD.enc))) (λk o=>o=none→(fM c (l.take k) ([],s0)).1=[]) none (λ_=>rfl) (aF.drop (K:=[]) (.refl _) rfl (iU.at_ (.cons (.refl _) (.cons (.refl _) (.cons (.refl _) (.cons .nile (.cons (.refl _) (.cons (.refl _) (.cons (.refl _) .nil)))))))).2) ?_;intro k o hk ho;dsimp only;have hiv:=LE hc (l.take k) (p:=([],s0)) h0 (Nat.zero_le _);have hsplit:=Mx c l k ([],s0);have hsucc:=λ(h:k<l.length)=>My c l k h ([],s0);generalize hp:fM c (l.take k) ([],s0)=p at *;obtain⟨ev,sx⟩:=p;dsimp only at *;have fin:fM c l ([],s0)=(ev,sx)→∀L,(∀q∈ae o 7 (ev.map dD.enc),q∈L)→Q (.tup [am o ev.length,.agg sx.enc]) L:=λhe L hm=>by
  refine hq _ _ ?_;rw[he];refine Fz.tups (.cons ?_ (.cons (.refl _) .nil));cases o with
  |none=>rw[ho rfl];exact .emp
  |some b=>exact Fz.sls (hm _ (.head _)) rfl Xv rfl
 unfold lh;obtain⟨J,hJ⟩:∃J,J=gX Q:=⟨_,rfl⟩;have jn:fM c l ([],s0)=(ev,sx)→J [.ptr b2 0 0,.ptr b9 0 0,am o ev.length] ((b9,⟨7,[sx.enc]⟩)::(b2,⟨7,[bL]⟩)::ae o 7 (ev.map dD.enc)):=λhe=>by
  have fin:=fin he;rw[hJ];unfold gX bL dE.enc at *;cases o
  all_goals
   dsimp only[am,ae]at *
   repeat' (first|refine st ?_|refine sb λnb_ hnb_=>?_|refine s2 (λh=>?_) λh=>?_|fail)
   exact fin _ Xu
 rw[←hJ];clear fin hJ;rcases VO k l.length with g1|g1
 ·have hd:=bK g1;have hx:=ay (f:=dU.enc) g1;have hsucc:=hsucc g1;generalize hch:l[k]=ch at *;obtain⟨ct,cw⟩:=ch;unfold dU.enc at hx;dsimp only at hx;by_cases hfull:400≤ev.length
  ·have jn:=jn (by rw[hsplit];exact Gh c _ _ hfull);have d4:decide ((ev.length:Int)≥400)=true:=decide_eq_true Xr;clear hq hsplit hsucc hp;cases o with
   |none=>rw[ho rfl]at hfull;simp at hfull
   |some bo=>
    dsimp only[am,ae]at *
    repeat' (first|exact jn|refine st ?_|refine sb λnb_ hnb_=>?_|refine s2 (λh=>?_) λh=>?_|fail)
  ·have d4:decide ((ev.length:Int)≥400)=false:=decide_eq_false Xr;have hst:=LC U9 c sx ct cw (Ji hiv.2 hiv.1 hc.ins hc.len hc.con);have hgo:LA c (ev,sx) ⟨ct,cw⟩=match nH c sx ct cw with
    |none=>(ev,sx)
    |some (n,e)=>(ev++[e],n):=by unfold LA;rw[if_neg hfull];rfl
   clear hq hsplit jn;cases hs:nH c sx ct cw with
   |none=>
    rw[hs]at hst hgo;dsimp only at hgo;unfold pW at hst;have hz:dE.zero.enc=[.lst [],.Xw 0,.lst [],.lst [],.lst [],.lst [],.lst []]:=rfl;rw[hz,show dD.zero.enc=[.Xw 0,.Xw 0,.Xw 0,.Xw 0,.Xw 0,.lst [],.lst []]from rfl]at hst;have fin2:∀L,L=(b9,(⟨7,[sx.enc]⟩:Blk))::(b2,⟨7,[bL]⟩)::ae o 7 (ev.map dD.enc)→∃(j:Nat) (o':Option Nat),k<j∧j≤l.length∧(o'=none→(fM c (l.take j) ([],s0)).1=[])∧aF [.pptr [c.enc] 0 0,.ptr b2 0 0,.ptr b9 0 0,am o ev.length,.lst (l.map dU.enc),.Xw l.length,.Xw (IntKind.i64.wrap ((k:Int)+1))] L
      [.pptr [c.enc] 0 0,.ptr b2 0 0,.ptr b9 0 0,am o' (fM c (l.take j) ([],s0)).1.length,.lst (l.map dU.enc),.Xw l.length,.Xw j] ((b9,⟨7,[(fM c (l.take j) ([],s0)).2.enc]⟩)::(b2,⟨7,[bL]⟩)::ae o' 7 ((fM c (l.take j) ([],s0)).1.map dD.enc)):=by
     rintro L rfl;refine⟨k+1,o,Xr,Xr,?_,?_⟩
     ·rw[hsucc,hgo];exact ho
     ·rw[hsucc,hgo,aD g1 hl];exact .refl _ _
    cases o
    all_goals
     dsimp only[am,ae]at *
     repeat' (first|refine st ?_|(refine pf 25 ?_;refine pm (hst) ?_)|refine sb λnb_ hnb_=>?_|refine s2 (λh=>?_) λh=>?_|fail)
     exact fin2 _ rfl
   |some r=>
    obtain⟨n,e⟩:=r;rw[hs]at hst hgo;dsimp only at hgo;unfold pW at hst;have hn:n.enc=[.lst (n.sync.locks.map LockD.enc),.Xw n.sync.tx,.lst (n.sync.done.map aI),.lst (n.sync.threads.map ThrD.enc),.lst (n.cells.map aj),.lst (n.futures.map aj),.lst (n.threads.map aU.enc)]:=rfl;have he:e.enc=[.Xw e.thread,.Xw e.kind,.Xw e.obj,.Xw e.value,.Xw e.site,.lst (e.deps.map aj),.lst (e.frm.map aj)]:=rfl;dsimp only at hst;have fin3:∀(nb:Nat) (L:SH),gq L ((b9,(⟨7,[n.enc]⟩:Blk))::(b2,⟨7,[bL]⟩)::ae (some nb) 7 (ev.map dD.enc++[e.enc]))→∃(j:Nat) (o':Option Nat),k<j∧j≤l.length∧(o'=none→(fM c (l.take j) ([],s0)).1=[])∧aF [.pptr [c.enc] 0 0,.ptr b2 0 0,.ptr b9 0 0,.sl nb 0 (ev.length+1),.lst (l.map dU.enc),.Xw l.length,.Xw (IntKind.i64.wrap ((k:Int)+1))] L
      [.pptr [c.enc] 0 0,.ptr b2 0 0,.ptr b9 0 0,am o' (fM c (l.take j) ([],s0)).1.length,.lst (l.map dU.enc),.Xw l.length,.Xw j] ((b9,⟨7,[(fM c (l.take j) ([],s0)).2.enc]⟩)::(b2,⟨7,[bL]⟩)::ae o' 7 ((fM c (l.take j) ([],s0)).1.map dD.enc)):=by
     intro nb L hL;refine⟨k+1,some nb,Xr,Xr,nofun,?_⟩;rw[hsucc,hgo,aD g1 hl];exact aF.pickE hL (by simp[am]) Xu
    rw[hn,he]at *;have hev400:ev.length<2^30:=by omega
    repeat' (first|refine st ?_|(refine pf 25 ?_;refine pm (hst) ?_)|refine cm rp rp Xu (λe=>by first|simp[ho e]) Xt Xu (by simp;omega) (by simp;omega) Xt (λnb_ hnb_=>?_)|refine Lz ?_ (λe=>by rw[ho e];rfl)|refine sb λnb_ hnb_=>?_|refine s2 (λh=>?_) λh=>?_|fail)
    exact fin3 _ _ rp
 ·have hd:=bO g1;have hk0:k=l.length:=by omega
  subst hk0;have jn:=jn (by rw[hsplit,List.drop_of_length_le (VL _)];rfl);clear hq hsplit hsucc hp
  repeat' (first|exact jn|refine st ?_|refine sb λnb_ hnb_=>?_|refine s2 (λh=>?_) λh=>?_|fail)
end
section
open Go.RowKit
theorem Kr(xs:List aV)(hl:xs.length≤1000):ax Tryz.prog 41 [.lst (xs.map aV.enc)] (.lst (xs.map aV.enc)):=by
 refine af.fz ((fF (λA n c xs w hf h1 hn hA=>cloneWc_any A n c xs w hf h1 hn hA) ⟨_,_,Tryz.func41,rfl⟩ (xs.map aV.enc) (by rw[V0];intro r hr;obtain⟨x,_,rfl⟩:=Wm.1 hr;rfl) (λr hr=>by obtain⟨x,_,rfl⟩:=Wm.1 hr;rfl) (by simp;omega)).mono ?_);rintro v L ⟨o,rfl,rfl,h⟩;refine⟨_,[],aF.all ?_,rfl,rfl⟩;cases o with
 |none=>rw[h rfl];exact .refl _
 |some b=>exact Fz.sls (.head _) rfl Xv Xu
theorem Ks(xs:List bV)(hl:xs.length≤1000):ax Tryz.prog 42 [.lst (xs.map bV.enc)] (.lst (xs.map bV.enc)):=by
 refine af.fz ((fF (λA n c xs w hf h1 hn hA=>cloneWl_any A n c xs w hf h1 hn hA) ⟨_,_,Tryz.func42,rfl⟩ (xs.map bV.enc) (by rw[V0];intro r hr;obtain⟨x,_,rfl⟩:=Wm.1 hr;rfl) (λr hr=>by obtain⟨x,_,rfl⟩:=Wm.1 hr;rfl) (by simp;omega)).mono ?_);rintro v L ⟨o,rfl,rfl,h⟩;refine⟨_,[],aF.all ?_,rfl,rfl⟩;cases o with
 |none=>rw[h rfl];exact .refl _
 |some b=>exact Fz.sls (.head _) rfl Xv Xu
theorem Kt(xs:List cI)(hl:xs.length≤1000):ax Tryz.prog 43 [.lst (xs.map cI.enc)] (.lst (xs.map cI.enc)):=by
 refine af.fz ((fF (λA n c xs w hf h1 hn hA=>cloneWd_any A n c xs w hf h1 hn hA) ⟨_,_,Tryz.func43,rfl⟩ (xs.map cI.enc) (by rw[V0];intro r hr;obtain⟨x,_,rfl⟩:=Wm.1 hr;rfl) (λr hr=>by obtain⟨x,_,rfl⟩:=Wm.1 hr;rfl) (by simp;omega)).mono ?_);rintro v L ⟨o,rfl,rfl,h⟩;refine⟨_,[],aF.all ?_,rfl,rfl⟩;cases o with
 |none=>rw[h rfl];exact .refl _
 |some b=>exact Fz.sls (.head _) rfl Xv Xu
theorem Ku(xs:List cz)(hl:xs.length≤1000):ax Tryz.prog 45 [.lst (xs.map cz.enc)] (.lst (xs.map cz.enc)):=by
 refine af.fz ((fF (λA n c xs w hf h1 hn hA=>cloneWs_any A n c xs w hf h1 hn hA) ⟨_,_,Tryz.func45,rfl⟩ (xs.map cz.enc) (by rw[V0];intro r hr;obtain⟨x,_,rfl⟩:=Wm.1 hr;rfl) (λr hr=>by obtain⟨x,_,rfl⟩:=Wm.1 hr;rfl) (by simp;omega)).mono ?_);rintro v L ⟨o,rfl,rfl,h⟩;refine⟨_,[],aF.all ?_,rfl,rfl⟩;cases o with
 |none=>rw[h rfl];exact .refl _
 |some b=>exact Fz.sls (.head _) rfl Xv Xu
theorem Eo(xs:List aZ)(hl:xs.length≤1000):ax Tryz.prog 44 [.lst (xs.map aq)] (.lst (xs.map aq)):=by
 refine af.fz ((fF (λA n c xs w hf h1 hn hA=>cloneWt_any A n c xs w hf h1 hn hA) ⟨_,_,Tryz.func44,rfl⟩ (xs.map aq) (by rw[V0];intro r hr;obtain⟨x,_,rfl⟩:=Wm.1 hr;rfl) (λr hr=>by obtain⟨x,_,rfl⟩:=Wm.1 hr;rfl) (by simp;omega)).mono ?_);rintro v L ⟨o,rfl,rfl,h⟩;refine⟨_,[],aF.all ?_,rfl,rfl⟩;cases o with
 |none=>rw[h rfl];exact .refl _
 |some b=>exact Fz.sls (.head _) rfl Xv Xu
end
end Go.Proofs.YtdnpdghlggbklaaGreatDoor.Am
