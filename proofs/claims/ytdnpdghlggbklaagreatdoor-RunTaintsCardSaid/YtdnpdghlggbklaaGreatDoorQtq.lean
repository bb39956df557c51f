/- A part of the proof; the statement is proved in the last part. -/
import Derived.Test.YtdnpdghlggbklaaGreatDoorQtp
set_option linter.unusedSimpArgs false
set_option linter.unusedVariables false
namespace Go.Proofs.YtdnpdghlggbklaaGreatDoor.Am
section
set_option maxRecDepth 100000
set_option maxHeartbeats 4000000
set_option linter.unusedSimpArgs false
set_option linter.unusedSectionVars false
def ey:List AV:=[.ZO 0,.ZO 0,.ZO 0,.ZO 0,.ZO 0,.nils,.nils]
theorem eg{α:Type}{l:List α}{n:Nat}(r:α)(h:n<l.length):(l.set n r)[n]? =some r:=by simp[h]
theorem aG.rowV{vs vs2:List AV}{L K R:SH}{b n:Nat}{rows rows':List (List AV)}(hL:L.Perm (K++(b,⟨n,rows⟩)::R))(hv:iV K vs vs2)(hlen:rows.length=rows'.length)(hr:∀(j:Nat) (r r':List AV),rows[j]? =some r→rows'[j]? =some r'→iV K r r'):aG vs L vs2 ((b,⟨n,rows'⟩)::R):=by
 refine⟨K,(b,⟨n,rows⟩)::R,hL,⟨hv.at_.1,hv.at_.2⟩,rfl,λi p q h1 h2=>?_⟩
 match i with
 |0=>cases h1;cases h2;exact⟨rfl,rfl,hlen,λj s s2 g1 g2=>(hr j s s2 g1 g2).at_⟩
 |i+1=>simp only[Zv]at h1 h2;rw[h1]at h2;cases h2;exact⟨rfl,rfl,rfl,λj r r2 h3 h4=>by rw[h3]at h4;cases h4;exact⟨rfl,λk a a2 h5 h6=>by rw[h5]at h6;cases h6;exact .refl _⟩⟩
theorem UM{α:Type}(B K RZ RR:List α)(x:α)(h:RR.Perm (K++RZ)):(B++x::RR).Perm (K++x::(B++RZ)):=
 Zs.trans ((((h.append_left B).trans (List.perm_append_comm_assoc _ _ _)).cons x).trans Zs.symm)
theorem UN{α:Type}(A B K RZ RR:List α)(x:α)(h:(A++RR).Perm (K++RZ)):(A++(B++x::RR)).Perm (K++x::(B++RZ)):=
 (List.perm_append_comm_assoc A B _).trans ((Zs.append_left B).trans (UM B K RZ (A++RR) x h))
section
variable (c:bB) (l:List aH) (t wake:Int) (h1:inB t l.length=true) (hc:inB t c.ts.length=true) (p pc0 ev0:Int) (rg:List Int) (tn:List (List Int)) (g1 g2:AV) (sy:SyncD) (x y:AV) (hx:x=.lst []∨∃b n,x=.sl b 0 n) (hy:y=.lst []∨∃b n,y=.sl b 0 n)
 (e1 ek eo ev es:Int) (d f:List Int) (b132 b24 b8 b6 bt:Nat) (K RZ RR A:SH) (hA:A=[]∨∃q,A=[q]) (hR:(A++RR).Perm (K++RZ)) (hg:Fz K g1 (.lst (rg.map aj))) (hg2:Fz K g2 (.lst (tn.map cz)))
 (hn1:b24≠b6) (go1:g1.one=true) (go2:g2.one=true) (Q:R)
include h1 hc hn1 hx hy hA hR hg hg2
theorem WU (zs : List AV) (hzs : zs = bT) (ze : List AV) (hze : ze = ey) (hse : az Tryz.prog 52 [.agg (am c t).enc, .agg (aH.mk p rg tn (IntKind.i64.wrap (ev0 + 1))).enc] (EN (aQ (am c t) ⟨p, rg, tn, IntKind.i64.wrap (ev0 + 1)⟩)))
    (hq1:(ek=16∨ek=2)→∀L,(bt,⟨4,(l.map aH.enc).set t.toNat [.ZO p,g1,g2,.ZO (IntKind.i64.wrap (ev0+1))]⟩)∈L→(∀q∈RR,q∈L)→Q (.tup [.agg [.lst (sy.locks.map LockD.enc),.ZO sy.tx,.lst (sy.done.map bj),.lst (sy.threads.map ThrD.enc),x,y,.sl bt 0 l.length],.agg [.ZO e1,.ZO ek,.ZO eo,.ZO ev,.ZO es,.lst (d.map aj),.lst (f.map aj)],.bool true]) L)
    (hq2:(ek≠16∧ek≠2)→∀th,aQ (am c t) ⟨p,rg,tn,IntKind.i64.wrap (ev0+1)⟩=(th,true)→∀L,(bt,⟨4,(l.map aH.enc).set t.toNat th.enc⟩)∈L→(∀q∈RZ,q∈L)→Q (.tup [.agg [.lst (sy.locks.map LockD.enc),.ZO sy.tx,.lst (sy.done.map bj),.lst (sy.threads.map ThrD.enc),x,y,.sl bt 0 l.length],.agg [.ZO e1,.ZO ek,.ZO eo,.ZO ev,.ZO es,.lst (d.map aj),.lst (f.map aj)],.bool true]) L)
    (hq3:(ek≠16∧ek≠2)→(aQ (am c t) ⟨p,rg,tn,IntKind.i64.wrap (ev0+1)⟩).2=false→∀L,Q (.tup [.agg bT,.agg ey,.bool false]) L) :
    bR Q [.pptr [c.enc] 0 0,.pptr [[.ZO t,.ZO wake]] 0 0,.ptr b6 0 0,.ptr b8 0 0,.ptr b24 0 0,.ptr b132 0 0,.ptr bt t.toNat 0,.ZO p]
      (A++(b132,⟨7,[[.lst (sy.locks.map LockD.enc),.ZO sy.tx,.lst (sy.done.map bj),.lst (sy.threads.map ThrD.enc),x,y,.sl bt 0 l.length]]⟩)::(b24,⟨7,[[.ZO e1,.ZO ek,.ZO eo,.ZO ev,.ZO es,.lst (d.map aj),.lst (f.map aj)]]⟩)::(b8,⟨7,[ze]⟩)::(b6,⟨7,[zs]⟩)::(bt,⟨4,(l.map aH.enc).set t.toNat [.ZO pc0,g1,g2,.ZO ev0]⟩)::RR):=by
  obtain⟨i1,i2⟩:=ax.1 h1;have hlt:t.toNat<(l.map aH.enc).length:=by simp;omega
  have x1:(c.ts.map hY.enc)[t.toNat]? =some (am c t).enc:=oo hc;have y1:=ax.1 hc;have s0:=eg [AV.ZO pc0,g1,g2,.ZO ev0] hlt;have s1:=eg (l:=(l.map aH.enc).set t.toNat [.ZO pc0,g1,g2,.ZO ev0]) [AV.ZO p,g1,g2,.ZO ev0] (by rw[ZC];exact hlt);have s2:=eg (l:=((l.map aH.enc).set t.toNat [.ZO pc0,g1,g2,.ZO ev0]).set t.toNat [.ZO p,g1,g2,.ZO ev0]) [AV.ZO p,g1,g2,.ZO (IntKind.i64.wrap (ev0+1))] (by rw[ZC,ZC];exact hlt);subst hzs;subst hze;unfold bR bT ey;unfold bB.enc;generalize hE:aQ (am c t) ⟨p,rg,tn,IntKind.i64.wrap (ev0+1)⟩=z at *;by_cases hk:ek=16∨ek=2
  · have hq1:=hq1 hk
    clear hq2 hq3;have fin:∀(x y:AV) (L:SH),True:=λ_ _ _=>trivial
    rcases hk with rfl|rfl<;>rcases hA with rfl|⟨q,rfl⟩<;>rcases hx with rfl|⟨_,_,rfl⟩<;>rcases hy with rfl|⟨_,_,rfl⟩
    all_goals
      dsimp only[List.nil_append,List.cons_append]
      repeat' (first|refine st ?_|refine sb λnb_ hnb_=>?_|refine s2 (λh=>?_) λh=>?_|fail)
      refine hq1 _ ?_ (λq hq=>by simp[hq]);simp[List.set_set]
  · have d1:decide (ek≠16)=true:=decide_eq_true ZJ
    have d2:decide (ek≠2)=true:=decide_eq_true ZJ;have hq2:=hq2 ZJ;have hq3:=hq3 ZJ;clear hq1;have hz : ∀ B : SH, aG [.agg (am c t).enc, .agg [.ZO p, g1, g2, .ZO (IntKind.i64.wrap (ev0 + 1))]] (A ++ (B ++ (bt, ⟨4, (((l.map aH.enc).set t.toNat [.ZO pc0, g1, g2, .ZO ev0]).set t.toNat [.ZO p, g1, g2, .ZO ev0]).set t.toNat [.ZO p, g1, g2, .ZO (IntKind.i64.wrap (ev0 + 1))]⟩) :: RR))
        [.agg (am c t).enc,.agg (aH.mk p rg tn (IntKind.i64.wrap (ev0+1))).enc] ((bt,⟨4,(l.map aH.enc).set t.toNat (aH.mk p rg tn (IntKind.i64.wrap (ev0+1))).enc⟩)::(B++RZ)):=λB=>by
      have hrow:iV K [.ZO p,g1,g2,.ZO (IntKind.i64.wrap (ev0+1))] (aH.mk p rg tn (IntKind.i64.wrap (ev0+1))).enc:=.cons (.refl _) (.cons hg (.cons hg2 (.cons (.refl _) .nil)));refine aG.rowV (UN A B K RZ RR _ hR) (.cons (.refl _) (.cons (Fz.aggs hrow) .nil)) ZM ?_;intro j r r' q1 q2;simp only[List.set_set]at q1;rw[Yu]at q1 q2;by_cases hj:t.toNat=j
      · rw[if_pos hj,if_pos hlt]at q1 q2
        cases q1;cases q2;exact hrow
      · rw[if_neg hj]at q1 q2
        rw[q1]at q2;cases q2;exact iV.refl _ _
    have s3:=eg (aH.mk p rg tn (IntKind.i64.wrap (ev0+1))).enc hlt;obtain⟨th,ok⟩:=z;rcases hA with rfl|⟨q,rfl⟩
    · rcases ok with _|_<;>rcases hx with rfl|⟨_,_,rfl⟩<;>rcases hy with rfl|⟨_,_,rfl⟩
      all_goals
        dsimp only[List.nil_append,List.cons_append]
        repeat' (first|refine st ?_|refine sb λnb_ hnb_=>?_|refine s2 (λh=>?_) λh=>?_|fail)
        refine uf (af.pre (hz [_,_,_,_]) (hse.call (KL:=λv K'=>v=_∧K'=_) ⟨rfl,rfl⟩)) ?_;rintro _ _ ⟨rfl,rfl⟩;unfold qT EN;dsimp only[List.nil_append,List.cons_append]
        repeat' (first|refine st ?_|refine sb λnb_ hnb_=>?_|refine s2 (λh=>?_) λh=>?_|fail)
        first
          |exact hq3 rfl _
          | (refine hq2 _ rfl _ ?_ (fun q hq => by simp [hq])
             simp[List.set_set])
    · rcases ok with _|_<;>rcases hx with rfl|⟨_,_,rfl⟩<;>rcases hy with rfl|⟨_,_,rfl⟩
      all_goals
        dsimp only[List.nil_append,List.cons_append]
        repeat' (first|refine st ?_|refine sb λnb_ hnb_=>?_|refine s2 (λh=>?_) λh=>?_|fail)
        refine uf (af.pre (hz [_,_,_,_]) (hse.call (KL:=λv K'=>v=_∧K'=_) ⟨rfl,rfl⟩)) ?_;rintro _ _ ⟨rfl,rfl⟩;unfold qT EN;dsimp only[List.nil_append,List.cons_append]
        repeat' (first|refine st ?_|refine sb λnb_ hnb_=>?_|refine s2 (λh=>?_) λh=>?_|fail)
        first
          |exact hq3 rfl _
          | (refine hq2 _ rfl _ ?_ (fun q hq => by simp [hq])
             simp[List.set_set])
end
end
section
set_option maxRecDepth 100000
set_option maxHeartbeats 4000000
set_option linter.unusedSimpArgs false
set_option linter.unusedSectionVars false
def dw.zero:dw:=⟨M5,[],[],[]⟩
def IL(r:Option (dw×aY)):AV:=match r with
 |some r=>.tup [.agg r.1.enc,.agg r.2.enc,.bool true]
 |none=>.tup [.agg dw.zero.enc,.agg aY.zero.enc,.bool false]
def uL(c:bB)(s:dw)(t:Int)(r1:SyncD)(e:aY)(a:UJ):Option (dw×aY):=
 if e.kind≠16∧e.kind≠2 then
  (if(aQ (am c t) a.thread).2 then some (⟨r1,a.cells,a.futures,s.threads.set t.toNat (aQ (am c t) a.thread).1⟩,{e with value:=a.value})else none)
 else some (⟨r1,a.cells,a.futures,s.threads.set t.toNat a.thread⟩,{e with value:=a.value})
theorem zj(K:SH):Fz K (.tup [.agg bT,.agg ey,.bool false]) (IL none):=
 Fz.tups (.cons (Fz.aggs (by unfold bT dw.zero dw.enc M5;exact fl)) (.cons (Fz.aggs (by unfold ey aY.zero aY.enc;exact fl)) (.cons (.refl _) .nil)))
theorem LU{α:Type}{f:α→List AV}{L:SH}{bt n m:Nat}{l:List α}{k:Nat}{r:List AV}{y:α}(hn:0<n)(hml:m=l.length)(hk:k<l.length)(hm:(bt,(⟨n,(l.map f).set k r⟩:Blk))∈L)(hr:iV L r (f y)):Fz L (.sl bt 0 m) (.lst ((l.set k y).map f)):=by
 subst hml;have key:∀(j:Nat) (x x2:List AV),((l.map f).set k r)[0+j]? =some x→((l.set k y).map f)[j]? =some x2→iV L x x2:=by
  intro j x x2 q1 q2;rw[Y6]at q2;rw[Y2]at q1;rw[Yu]at q1 q2;by_cases hj:k=j
  ·rw[if_pos hj,if_pos (by simpa using hk)]at q1 q2;cases q1;cases q2;exact hr
  ·rw[if_neg hj]at q1 q2;rw[q1]at q2;cases q2;exact iV.refl _ _
 exact .sl bt 0 l.length _ _ hm hn ZJ ZM ZM (λj x x2 q1 q2=>(key j x x2 q1 q2).at_.1) (λj x x2 q a a2 q1 q2 q3 q4=>(key j x x2 q1 q2).at_.2 q a a2 q3 q4)
theorem Ql{L:SH}{bt:Nat}{l:List aH}{k:Nat}{r:List AV}{th:aH}(hk:k<l.length)(hm:(bt,(⟨4,(l.map aH.enc).set k r⟩:Blk))∈L)(hr:iV L r th.enc):Fz L (.sl bt 0 l.length) (.lst ((l.set k th).map aH.enc)):=LU ZN rfl hk hm hr
theorem KI{L:SH}{o:Option Nat}{l:List Int}{n:Nat}(hn:n=l.length)(h0:o=none→l=[])(hm:∀b,o=some b→∃rows,rows=l.map aj∧(b,(⟨1,rows⟩:Blk))∈L):Fz L (aS o n) (.lst (l.map aj)):=
 mA hn h0 λb hb=>by obtain⟨rows,rfl,h⟩:=hm b hb;exact h
section
variable (c:bB) (s:dw) (t wake:Int) (h1:inB t s.threads.length=true) (hc:inB t c.ts.length=true) (sy:SyncD) (e:aY) (a:UJ) (b132 b24 b8 b6 bt:Nat) (oc of:Option Nat) (K RZ RR A:SH) (hA:A=[]∨∃q,A=[q]) (hA0:e.kind=16∨e.kind=2→A=[]) (hR:(A++RR).Perm (K++RZ))
 (g1 g2:AV) (hg:∀L:SH,(∀q∈K,q∈L)→Fz L g1 (.lst (a.thread.regs.map aj))) (hg2:∀L:SH,(∀q∈K,q∈L)→Fz L g2 (.lst (a.thread.taint.map cz))) (hn1:b24≠b6)
 (hoc:oc=none→a.cells=[]) (hof:of=none→a.futures=[]) (hmc:∀b,oc=some b→∃rows,rows=a.cells.map aj∧(b,(⟨1,rows⟩:Blk))∈RZ) (hmf:∀b,of=some b→∃rows,rows=a.futures.map aj∧(b,(⟨1,rows⟩:Blk))∈RZ)
 (hse:az Tryz.prog 52 [.agg (am c t).enc,.agg a.thread.enc] (EN (aQ (am c t) a.thread))) (pc0 ev0:Int) (hev:a.thread.ev=IntKind.i64.wrap (ev0+1)) (Q:R) (hq:∀v L,Fz L v (IL (uL c s t sy e a))→Q v L)
include h1 hc hA hA0 hR hg hg2 hn1 hoc hof hmc hmf hse hev hq
theorem FC : bR Q [.pptr [c.enc] 0 0, .pptr [[.ZO t, .ZO wake]] 0 0, .ptr b6 0 0, .ptr b8 0 0, .ptr b24 0 0, .ptr b132 0 0, .ptr bt t.toNat 0, .ZO a.thread.pc]
      (A++(b132,⟨7,[[.lst (sy.locks.map LockD.enc),.ZO sy.tx,.lst (sy.done.map bj),.lst (sy.threads.map ThrD.enc),aS oc a.cells.length,aS of a.futures.length,.sl bt 0 s.threads.length]]⟩)::(b24,⟨7,[{e with value:=a.value}.enc]⟩)::(b8,⟨7,[ey]⟩)::(b6,⟨7,[bT]⟩)::(bt,⟨4,(s.threads.map aH.enc).set t.toNat [.ZO pc0,g1,g2,.ZO ev0]⟩)::RR):=by
  obtain⟨i1,i2⟩:=ax.1 h1;have hlt:t.toNat<s.threads.length:=by omega
  obtain⟨va,ce,fu,⟨p,rg,tn,ev⟩⟩:=a;obtain⟨e1,ek,eo,v0,es,d,f⟩:=e;dsimp only at *;subst hev;have ends : ∀ (th : aH) (L : SH), uL c s t sy ⟨e1, ek, eo, v0, es, d, f⟩ ⟨va, ce, fu, ⟨p, rg, tn, IntKind.i64.wrap (ev0 + 1)⟩⟩ = some (⟨sy, ce, fu, s.threads.set t.toNat th⟩, ⟨e1, ek, eo, va, es, d, f⟩)→
      Fz L (.sl bt 0 s.threads.length) (.lst ((s.threads.set t.toNat th).map aH.enc))→(∀q∈RZ,q∈L)→
      Q (.tup [.agg [.lst (sy.locks.map LockD.enc),.ZO sy.tx,.lst (sy.done.map bj),.lst (sy.threads.map ThrD.enc),aS oc ce.length,aS of fu.length,.sl bt 0 s.threads.length],.agg [.ZO e1,.ZO ek,.ZO eo,.ZO va,.ZO es,.lst (d.map aj),.lst (f.map aj)],.bool true]) L:=by
    intro th L hf h2 hz;refine hq _ _ ?_;rw[hf];refine Fz.tups (.cons (Fz.aggs ?_) (.cons (.refl _) (.cons (.refl _) .nil)));refine .cons (.refl _) (.cons (.refl _) (.cons (.refl _) (.cons (.refl _) (.cons ?_ (.cons ?_ (.cons h2 .nil))))))
    · exact KI rfl hoc λb hb=>by obtain⟨rows,e,h⟩:=hmc b hb;exact⟨rows,e,hz _ h⟩
    · exact KI rfl hof λb hb=>by obtain⟨rows,e,h⟩:=hmf b hb;exact⟨rows,e,hz _ h⟩
  refine WU c s.threads t wake h1 hc p pc0 ev0 rg tn g1 g2 sy _ _ (zh _ _) (zh _ _) e1 ek eo va es d f b132 b24 b8 b6 bt K RZ RR A hA hR (hg _ λq h=>h) (hg2 _ λq h=>h) hn1 Q _ rfl _ rfl hse ?_ ?_ ?_
  · intro hk L hm hL
    have hA1:=hA0 hk;subst hA1;have hsub:∀q∈K++RZ,q∈L:=λq h=>hL q (by simpa using hR.mem_iff.2 h)
    refine ends ⟨p,rg,tn,IntKind.i64.wrap (ev0+1)⟩ L (by unfold uL;rw[if_neg (by dsimp only;omega)]) (Ql hlt hm ?_) λq h=>hsub q (by simp[h])
    exact .cons (.refl _) (.cons (hg _ λq h=>hsub q (by simp[h])) (.cons (hg2 _ λq h=>hsub q (by simp[h])) (.cons (.refl _) .nil)))
  · intro hk th hth L hm hL
    refine ends th L (by unfold uL;rw[if_pos hk];dsimp only;rw[hth];rfl) (Ql hlt hm (iV.refl _ _)) hL
  · intro hk h2 L
    refine hq _ _ ?_;rw[show uL c s t sy ⟨e1,ek,eo,v0,es,d,f⟩ ⟨va,ce,fu,⟨p,rg,tn,IntKind.i64.wrap (ev0+1)⟩⟩=none by unfold uL;rw[if_pos hk];dsimp only;rw[h2];rfl];exact zj L
end
end
end Go.Proofs.YtdnpdghlggbklaaGreatDoor.Am
