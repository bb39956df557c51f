/- A part of the proof; the statement is proved in the last part. -/
import Derived.Test.YtenbpcngcicamaaGreatDoorQcn
set_option linter.unusedSimpArgs false
set_option linter.unusedVariables false
namespace Go.Proofs.YtenbpcngcicamaaGreatDoor.Am
section
set_option maxRecDepth 100000
set_option maxHeartbeats 4000000
set_option linter.unusedSimpArgs false
set_option linter.unusedSectionVars false
def ea:List AV:=[.W9 0,.W9 0,.W9 0,.W9 0,.W9 0,.nils,.nils]
theorem dV{α:Type}{l:List α}{n:Nat}(r:α)(h:n<l.length):(l.set n r)[n]? =some r:=by simp[h]
theorem aI.rowV{vs vs2:List AV}{L K R:SH}{b n:Nat}{rows rows':List (List AV)}(hL:L.Perm (K++(b,⟨n,rows⟩)::R))(hv:jd K vs vs2)(hlen:rows.length=rows'.length)(hr:∀(j:Nat) (r r':List AV),rows[j]? =some r→rows'[j]? =some r'→jd K r r'):aI vs L vs2 ((b,⟨n,rows'⟩)::R):=by
 refine⟨K,(b,⟨n,rows⟩)::R,hL,⟨hv.at_.1,hv.at_.2⟩,rfl,λi p q h1 h2=>?_⟩
 match i with
 |0=>cases h1;cases h2;exact⟨rfl,rfl,hlen,λj s s2 g1 g2=>(hr j s s2 g1 g2).at_⟩
 |i+1=>simp only[WJ]at h1 h2;rw[h1]at h2;cases h2;exact⟨rfl,rfl,rfl,λj r r2 h3 h4=>by rw[h3]at h4;cases h4;exact⟨rfl,λk a a2 h5 h6=>by rw[h5]at h6;cases h6;exact .refl _⟩⟩
theorem Sh{α:Type}(B K RZ RR:List α)(x:α)(h:RR.Perm (K++RZ)):(B++x::RR).Perm (K++x::(B++RZ)):=
 WG.trans ((((h.append_left B).trans (List.perm_append_comm_assoc _ _ _)).cons x).trans WG.symm)
theorem Si{α:Type}(A B K RZ RR:List α)(x:α)(h:(A++RR).Perm (K++RZ)):(A++(B++x::RR)).Perm (K++x::(B++RZ)):=
 (List.perm_append_comm_assoc A B _).trans ((WG.append_left B).trans (Sh B K RZ (A++RR) x h))
section
variable (c:bP) (l:List aW) (t wake:Int) (h1:inB t l.length=true) (hc:inB t c.ts.length=true) (p pc0 ev0:Int) (rg:List Int) (tn:List (List Int)) (g1 g2:AV) (sy:SyncD) (x y:AV) (hx:x=.lst []∨∃b n,x=.sl b 0 n) (hy:y=.lst []∨∃b n,y=.sl b 0 n)
 (e1 ek eo ev es:Int) (d f:List Int) (b132 b24 b8 b6 bt:Nat) (K RZ RR A:SH) (hA:A=[]∨∃q,A=[q]) (hR:(A++RR).Perm (K++RZ)) (hg:Fz K g1 (.lst (rg.map ao))) (hg2:Fz K g2 (.lst (tn.map cp)))
 (hn1:b24≠b6) (go1:g1.one=true) (go2:g2.one=true) (Q:R)
include h1 hc hn1 hx hy hA hR hg hg2
theorem Uk (zs : List AV) (hzs : zs = bK) (ze : List AV) (hze : ze = ea) (hse : aB Tryz.prog 58 [.agg (aD c t).enc, .agg (aW.mk p rg tn (IntKind.i64.wrap (ev0 + 1))).enc] (Di (bY (aD c t) ⟨p, rg, tn, IntKind.i64.wrap (ev0 + 1)⟩)))
    (hq1:(ek=16∨ek=2)→∀L,(bt,⟨4,(l.map aW.enc).set t.toNat [.W9 p,g1,g2,.W9 (IntKind.i64.wrap (ev0+1))]⟩)∈L→(∀q∈RR,q∈L)→Q (.tup [.agg [.lst (sy.locks.map LockD.enc),.W9 sy.tx,.lst (sy.done.map aV),.lst (sy.threads.map ThrD.enc),x,y,.sl bt 0 l.length],.agg [.W9 e1,.W9 ek,.W9 eo,.W9 ev,.W9 es,.lst (d.map ao),.lst (f.map ao)],.bool true]) L)
    (hq2:(ek≠16∧ek≠2)→∀th,bY (aD c t) ⟨p,rg,tn,IntKind.i64.wrap (ev0+1)⟩=(th,true)→∀L,(bt,⟨4,(l.map aW.enc).set t.toNat th.enc⟩)∈L→(∀q∈RZ,q∈L)→Q (.tup [.agg [.lst (sy.locks.map LockD.enc),.W9 sy.tx,.lst (sy.done.map aV),.lst (sy.threads.map ThrD.enc),x,y,.sl bt 0 l.length],.agg [.W9 e1,.W9 ek,.W9 eo,.W9 ev,.W9 es,.lst (d.map ao),.lst (f.map ao)],.bool true]) L)
    (hq3:(ek≠16∧ek≠2)→(bY (aD c t) ⟨p,rg,tn,IntKind.i64.wrap (ev0+1)⟩).2=false→∀L,Q (.tup [.agg bK,.agg ea,.bool false]) L) :
    bI Q [.pptr [c.enc] 0 0,.pptr [[.W9 t,.W9 wake]] 0 0,.ptr b6 0 0,.ptr b8 0 0,.ptr b24 0 0,.ptr b132 0 0,.ptr bt t.toNat 0,.W9 p]
      (A++(b132,⟨7,[[.lst (sy.locks.map LockD.enc),.W9 sy.tx,.lst (sy.done.map aV),.lst (sy.threads.map ThrD.enc),x,y,.sl bt 0 l.length]]⟩)::(b24,⟨7,[[.W9 e1,.W9 ek,.W9 eo,.W9 ev,.W9 es,.lst (d.map ao),.lst (f.map ao)]]⟩)::(b8,⟨7,[ze]⟩)::(b6,⟨7,[zs]⟩)::(bt,⟨4,(l.map aW.enc).set t.toNat [.W9 pc0,g1,g2,.W9 ev0]⟩)::RR):=by
  obtain⟨i1,i2⟩:=ay.1 h1;have hlt:t.toNat<(l.map aW.enc).length:=by simp;omega
  have x1:(c.ts.map iD.enc)[t.toNat]? =some (aD c t).enc:=m9 hc;have y1:=ay.1 hc;have s0:=dV [AV.W9 pc0,g1,g2,.W9 ev0] hlt;have s1:=dV (l:=(l.map aW.enc).set t.toNat [.W9 pc0,g1,g2,.W9 ev0]) [AV.W9 p,g1,g2,.W9 ev0] (by rw[List.length_set];exact hlt);have s2:=dV (l:=((l.map aW.enc).set t.toNat [.W9 pc0,g1,g2,.W9 ev0]).set t.toNat [.W9 p,g1,g2,.W9 ev0]) [AV.W9 p,g1,g2,.W9 (IntKind.i64.wrap (ev0+1))] (by rw[List.length_set,List.length_set];exact hlt);subst hzs;subst hze;unfold bI bK ea;unfold bP.enc;generalize hE:bY (aD c t) ⟨p,rg,tn,IntKind.i64.wrap (ev0+1)⟩=z at *;by_cases hk:ek=16∨ek=2
  · have hq1:=hq1 hk
    clear hq2 hq3;have fin:∀(x y:AV) (L:SH),True:=λ_ _ _=>trivial
    rcases hk with rfl|rfl<;>rcases hA with rfl|⟨q,rfl⟩<;>rcases hx with rfl|⟨_,_,rfl⟩<;>rcases hy with rfl|⟨_,_,rfl⟩
    all_goals
      dsimp only[List.nil_append,List.cons_append]
      repeat' (first|refine st ?_|refine sb λnb_ hnb_=>?_|refine s2 (λh=>?_) λh=>?_|fail)
      refine hq1 _ ?_ (λq hq=>by simp[hq]);simp[List.set_set]
  · have d1:decide (ek≠16)=true:=decide_eq_true W4
    have d2:decide (ek≠2)=true:=decide_eq_true W4;have hq2:=hq2 W4;have hq3:=hq3 W4;clear hq1;have hz : ∀ B : SH, aI [.agg (aD c t).enc, .agg [.W9 p, g1, g2, .W9 (IntKind.i64.wrap (ev0 + 1))]] (A ++ (B ++ (bt, ⟨4, (((l.map aW.enc).set t.toNat [.W9 pc0, g1, g2, .W9 ev0]).set t.toNat [.W9 p, g1, g2, .W9 ev0]).set t.toNat [.W9 p, g1, g2, .W9 (IntKind.i64.wrap (ev0 + 1))]⟩) :: RR))
        [.agg (aD c t).enc,.agg (aW.mk p rg tn (IntKind.i64.wrap (ev0+1))).enc] ((bt,⟨4,(l.map aW.enc).set t.toNat (aW.mk p rg tn (IntKind.i64.wrap (ev0+1))).enc⟩)::(B++RZ)):=λB=>by
      have hrow:jd K [.W9 p,g1,g2,.W9 (IntKind.i64.wrap (ev0+1))] (aW.mk p rg tn (IntKind.i64.wrap (ev0+1))).enc:=.cons (.refl _) (.cons hg (.cons hg2 (.cons (.refl _) .nil)));refine aI.rowV (Si A B K RZ RR _ hR) (.cons (.refl _) (.cons (Fz.aggs hrow) .nil)) W7 ?_;intro j r r' q1 q2;simp only[List.set_set]at q1;rw[Wf]at q1 q2;by_cases hj:t.toNat=j
      · rw[if_pos hj,if_pos hlt]at q1 q2
        cases q1;cases q2;exact hrow
      · rw[if_neg hj]at q1 q2
        rw[q1]at q2;cases q2;exact jd.refl _ _
    have s3:=dV (aW.mk p rg tn (IntKind.i64.wrap (ev0+1))).enc hlt;obtain⟨th,ok⟩:=z;rcases hA with rfl|⟨q,rfl⟩
    · rcases ok with _|_<;>rcases hx with rfl|⟨_,_,rfl⟩<;>rcases hy with rfl|⟨_,_,rfl⟩
      all_goals
        dsimp only[List.nil_append,List.cons_append]
        repeat' (first|refine st ?_|refine sb λnb_ hnb_=>?_|refine s2 (λh=>?_) λh=>?_|fail)
        refine sR (ai.pre (hz [_,_,_,_]) (hse.call (KL:=λv K'=>v=_∧K'=_) ⟨rfl,rfl⟩)) ?_;rintro _ _ ⟨rfl,rfl⟩;unfold pY Di;dsimp only[List.nil_append,List.cons_append]
        repeat' (first|refine st ?_|refine sb λnb_ hnb_=>?_|refine s2 (λh=>?_) λh=>?_|fail)
        first
          |exact hq3 rfl _
          | (refine hq2 _ rfl _ ?_ (fun q hq => by simp [hq])
             simp[List.set_set])
    · rcases ok with _|_<;>rcases hx with rfl|⟨_,_,rfl⟩<;>rcases hy with rfl|⟨_,_,rfl⟩
      all_goals
        dsimp only[List.nil_append,List.cons_append]
        repeat' (first|refine st ?_|refine sb λnb_ hnb_=>?_|refine s2 (λh=>?_) λh=>?_|fail)
        refine sR (ai.pre (hz [_,_,_,_]) (hse.call (KL:=λv K'=>v=_∧K'=_) ⟨rfl,rfl⟩)) ?_;rintro _ _ ⟨rfl,rfl⟩;unfold pY Di;dsimp only[List.nil_append,List.cons_append]
        repeat' (first|refine st ?_|refine sb λnb_ hnb_=>?_|refine s2 (λh=>?_) λh=>?_|fail)
        first
          |exact hq3 rfl _
          | (refine hq2 _ rfl _ ?_ (fun q hq => by simp [hq])
             simp[List.set_set])
end
end
section
set_option maxRecDepth 100000
set_option maxHeartbeats 4000000
set_option linter.unusedSimpArgs false
set_option linter.unusedSectionVars false
def el.zero:el:=⟨K0,[],[],[]⟩
def GV(r:Option (el×cI)):AV:=match r with
 |some r=>.tup [.agg r.1.enc,.agg r.2.enc,.bool true]
 |none=>.tup [.agg el.zero.enc,.agg cI.zero.enc,.bool false]
def Ad(c:bP)(s:el)(t:Int)(r1:SyncD)(e:cI)(a:Se):Option (el×cI):=
 if e.kind≠16∧e.kind≠2 then
  (if(bY (aD c t) a.thread).2 then some (⟨r1,a.cells,a.futures,s.threads.set t.toNat (bY (aD c t) a.thread).1⟩,{e with value:=a.value})else none)
 else some (⟨r1,a.cells,a.futures,s.threads.set t.toNat a.thread⟩,{e with value:=a.value})
theorem xK(K:SH):Fz K (.tup [.agg bK,.agg ea,.bool false]) (GV none):=
 Fz.tups (.cons (Fz.aggs (by unfold bK el.zero el.enc K0;exact fl)) (.cons (Fz.aggs (by unfold ea cI.zero cI.enc;exact fl)) (.cons (.refl _) .nil)))
theorem JV{α:Type}{f:α→List AV}{L:SH}{bt n m:Nat}{l:List α}{k:Nat}{r:List AV}{y:α}(hn:0<n)(hml:m=l.length)(hk:k<l.length)(hm:(bt,(⟨n,(l.map f).set k r⟩:Blk))∈L)(hr:jd L r (f y)):Fz L (.sl bt 0 m) (.lst ((l.set k y).map f)):=by
 subst hml;have key:∀(j:Nat) (x x2:List AV),((l.map f).set k r)[0+j]? =some x→((l.set k y).map f)[j]? =some x2→jd L x x2:=by
  intro j x x2 q1 q2;rw[Wk]at q2;rw[Wj]at q1;rw[Wf]at q1 q2;by_cases hj:k=j
  ·rw[if_pos hj,if_pos (by simpa using hk)]at q1 q2;cases q1;cases q2;exact hr
  ·rw[if_neg hj]at q1 q2;rw[q1]at q2;cases q2;exact jd.refl _ _
 exact .sl bt 0 l.length _ _ hm hn W4 W7 W7 (λj x x2 q1 q2=>(key j x x2 q1 q2).at_.1) (λj x x2 q a a2 q1 q2 q3 q4=>(key j x x2 q1 q2).at_.2 q a a2 q3 q4)
theorem N9{L:SH}{bt:Nat}{l:List aW}{k:Nat}{r:List AV}{th:aW}(hk:k<l.length)(hm:(bt,(⟨4,(l.map aW.enc).set k r⟩:Blk))∈L)(hr:jd L r th.enc):Fz L (.sl bt 0 l.length) (.lst ((l.set k th).map aW.enc)):=JV W8 rfl hk hm hr
theorem IQ{L:SH}{o:Option Nat}{l:List Int}{n:Nat}(hn:n=l.length)(h0:o=none→l=[])(hm:∀b,o=some b→∃rows,rows=l.map ao∧(b,(⟨1,rows⟩:Blk))∈L):Fz L (aQ o n) (.lst (l.map ao)):=
 lX hn h0 λb hb=>by obtain⟨rows,rfl,h⟩:=hm b hb;exact h
section
variable (c:bP) (s:el) (t wake:Int) (h1:inB t s.threads.length=true) (hc:inB t c.ts.length=true) (sy:SyncD) (e:cI) (a:Se) (b132 b24 b8 b6 bt:Nat) (oc of:Option Nat) (K RZ RR A:SH) (hA:A=[]∨∃q,A=[q]) (hA0:e.kind=16∨e.kind=2→A=[]) (hR:(A++RR).Perm (K++RZ))
 (g1 g2:AV) (hg:∀L:SH,(∀q∈K,q∈L)→Fz L g1 (.lst (a.thread.regs.map ao))) (hg2:∀L:SH,(∀q∈K,q∈L)→Fz L g2 (.lst (a.thread.taint.map cp))) (hn1:b24≠b6)
 (hoc:oc=none→a.cells=[]) (hof:of=none→a.futures=[]) (hmc:∀b,oc=some b→∃rows,rows=a.cells.map ao∧(b,(⟨1,rows⟩:Blk))∈RZ) (hmf:∀b,of=some b→∃rows,rows=a.futures.map ao∧(b,(⟨1,rows⟩:Blk))∈RZ)
 (hse:aB Tryz.prog 58 [.agg (aD c t).enc,.agg a.thread.enc] (Di (bY (aD c t) a.thread))) (pc0 ev0:Int) (hev:a.thread.ev=IntKind.i64.wrap (ev0+1)) (Q:R) (hq:∀v L,Fz L v (GV (Ad c s t sy e a))→Q v L)
include h1 hc hA hA0 hR hg hg2 hn1 hoc hof hmc hmf hse hev hq
theorem D1 : bI Q [.pptr [c.enc] 0 0, .pptr [[.W9 t, .W9 wake]] 0 0, .ptr b6 0 0, .ptr b8 0 0, .ptr b24 0 0, .ptr b132 0 0, .ptr bt t.toNat 0, .W9 a.thread.pc]
      (A++(b132,⟨7,[[.lst (sy.locks.map LockD.enc),.W9 sy.tx,.lst (sy.done.map aV),.lst (sy.threads.map ThrD.enc),aQ oc a.cells.length,aQ of a.futures.length,.sl bt 0 s.threads.length]]⟩)::(b24,⟨7,[{e with value:=a.value}.enc]⟩)::(b8,⟨7,[ea]⟩)::(b6,⟨7,[bK]⟩)::(bt,⟨4,(s.threads.map aW.enc).set t.toNat [.W9 pc0,g1,g2,.W9 ev0]⟩)::RR):=by
  obtain⟨i1,i2⟩:=ay.1 h1;have hlt:t.toNat<s.threads.length:=by omega
  obtain⟨va,ce,fu,⟨p,rg,tn,ev⟩⟩:=a;obtain⟨e1,ek,eo,v0,es,d,f⟩:=e;dsimp only at *;subst hev;have ends : ∀ (th : aW) (L : SH), Ad c s t sy ⟨e1, ek, eo, v0, es, d, f⟩ ⟨va, ce, fu, ⟨p, rg, tn, IntKind.i64.wrap (ev0 + 1)⟩⟩ = some (⟨sy, ce, fu, s.threads.set t.toNat th⟩, ⟨e1, ek, eo, va, es, d, f⟩)→
      Fz L (.sl bt 0 s.threads.length) (.lst ((s.threads.set t.toNat th).map aW.enc))→(∀q∈RZ,q∈L)→
      Q (.tup [.agg [.lst (sy.locks.map LockD.enc),.W9 sy.tx,.lst (sy.done.map aV),.lst (sy.threads.map ThrD.enc),aQ oc ce.length,aQ of fu.length,.sl bt 0 s.threads.length],.agg [.W9 e1,.W9 ek,.W9 eo,.W9 va,.W9 es,.lst (d.map ao),.lst (f.map ao)],.bool true]) L:=by
    intro th L hf h2 hz;refine hq _ _ ?_;rw[hf];refine Fz.tups (.cons (Fz.aggs ?_) (.cons (.refl _) (.cons (.refl _) .nil)));refine .cons (.refl _) (.cons (.refl _) (.cons (.refl _) (.cons (.refl _) (.cons ?_ (.cons ?_ (.cons h2 .nil))))))
    · exact IQ rfl hoc λb hb=>by obtain⟨rows,e,h⟩:=hmc b hb;exact⟨rows,e,hz _ h⟩
    · exact IQ rfl hof λb hb=>by obtain⟨rows,e,h⟩:=hmf b hb;exact⟨rows,e,hz _ h⟩
  refine Uk c s.threads t wake h1 hc p pc0 ev0 rg tn g1 g2 sy _ _ (xJ _ _) (xJ _ _) e1 ek eo va es d f b132 b24 b8 b6 bt K RZ RR A hA hR (hg _ λq h=>h) (hg2 _ λq h=>h) hn1 Q _ rfl _ rfl hse ?_ ?_ ?_
  · intro hk L hm hL
    have hA1:=hA0 hk;subst hA1;have hsub:∀q∈K++RZ,q∈L:=λq h=>hL q (by simpa using hR.mem_iff.2 h)
    refine ends ⟨p,rg,tn,IntKind.i64.wrap (ev0+1)⟩ L (by unfold Ad;rw[if_neg (by dsimp only;omega)]) (N9 hlt hm ?_) λq h=>hsub q (by simp[h])
    exact .cons (.refl _) (.cons (hg _ λq h=>hsub q (by simp[h])) (.cons (hg2 _ λq h=>hsub q (by simp[h])) (.cons (.refl _) .nil)))
  · intro hk th hth L hm hL
    refine ends th L (by unfold Ad;rw[if_pos hk];dsimp only;rw[hth];rfl) (N9 hlt hm (jd.refl _ _)) hL
  · intro hk h2 L
    refine hq _ _ ?_;rw[show Ad c s t sy ⟨e1,ek,eo,v0,es,d,f⟩ ⟨va,ce,fu,⟨p,rg,tn,IntKind.i64.wrap (ev0+1)⟩⟩=none by unfold Ad;rw[if_pos hk];dsimp only;rw[h2];rfl];exact xK L
end
end
section
set_option maxRecDepth 100000
set_option maxHeartbeats 4000000
set_option linter.unusedSimpArgs false
set_option linter.unusedSectionVars false
theorem GW{KS:SH→Prop}{n b i off:Nat}{v:AV}{x:Blk}{r cs:List AV}{L L':SH}(hu:Cp b x ⟨x.size,x.rows.set i (bA r off cs)⟩ L L')(h1:x.rows[i]? =some r)(h2:v.cells? =some cs)(h3:cs.length=n)(h4:cs.all AV.one=true)(h5:off+n≤r.length)(h:KS L'):W.store n (.ptr b i off) v L KS:=⟨x,r,cs,L',h1,h2,h3,h4,h5,hu,h⟩
theorem cH{n b m:Nat}{k:IntKind}{i:Int}{y:Blk}{L:SH}{K:AV→Prop}(h0:0≤i)(h1:i.toNat<m)(hm:(b,y)∈L)(h2:y.size=n)(h:K (.ptr b i.toNat 0)):W.idx n (.sl b 0 m) (.int k i) L K:=KD h0 h1 hm h2 (by rw[Wj];exact h)
def iy(Q:R)(L168:SH)(x132 x24 x142 x167 x171 x10 x14 x6 x8 x177 x115:AV):Prop:=
 aC 1 x24 L168 λx269=>wb .eql 3 x269 (.W9 3) λx270=>wk x270 (A3 (bI Q) L168 x132 x24 x142 x167 x171 x10 x14 x6 x8 x177) (xG (bI Q) L168 x269 x132 x24 x142 x167 x171 x10 x14 x6 x8 x177 x115)
section
variable (c:bP) (s:el) (t wake:Int) (h1:inB t s.threads.length=true) (hc:inB t c.ts.length=true) (th:aW) (hth:bG s t=th) (i:bn) (hi:de (aD c t) th.pc=i) (hpc:inB th.pc (aD c t).ins.length=true) (sy:SyncD) (sv:Int) (e:cI) (b132 b24 b8 b6 bt tb:Nat) (o oc of:Option Nat) (hn1:b24≠b6) (hn2:b24∉SH.names ((b8,(⟨7,[ea]⟩:Blk))::[]) ) (ho:o=none→th.regs=[]) (hoc:oc=none→s.cells=[]) (hof:of=none→s.futures=[]) (Q:R)
def cJ(th:aW)(tb:Nat)(o:Option Nat):List AV:=[.W9 th.pc,aQ o th.regs.length,.sl tb 0 th.taint.length,.W9 th.ev]
def ig(s:el)(th:aW)(tb:Nat)(o oc of:Option Nat):SH:=ah o 1 (th.regs.map ao)++(tb,⟨1,th.taint.map cp⟩)::(ah oc 1 (s.cells.map ao)++ah of 1 (s.futures.map ao))
def jA(s:el)(t:Int)(th:aW)(e:cI)(b24 b8 b6 bt tb:Nat)(o:Option Nat)(RR:SH):SH:=
 (b24,⟨7,[e.enc]⟩)::(b8,⟨7,[ea]⟩)::(b6,⟨7,[bK]⟩)::(bt,⟨4,(s.threads.map aW.enc).set t.toNat (cJ th tb o)⟩)::RR
def gB(s:el)(sy:SyncD)(bt:Nat)(oc of:Option Nat):List AV:=[.lst (sy.locks.map LockD.enc),.W9 sy.tx,.lst (sy.done.map aV),.lst (sy.threads.map ThrD.enc),aQ oc s.cells.length,aQ of s.futures.length,.sl bt 0 s.threads.length]
include h1 hc hth hi hpc
theorem Sj(RR:SH)(h:∀b132,iy Q ((b132,⟨7,[gB s sy bt oc of]⟩)::jA s t th e b24 b8 b6 bt tb o RR) (.ptr b132 0 0) (.ptr b24 0 0) (.ptr bt t.toNat 0) (.pptr [i.enc] 0 0) (.W9 th.ev) (.pptr [c.enc] 0 0) (.pptr [[.W9 t,.W9 wake]] 0 0) (.ptr b6 0 0) (.ptr b8 0 0) (.W9 (IntKind.i64.wrap (th.pc+1))) (.W9 sv)):
  kG Q (.pptr [sy.enc] 0 0) (.pptr [[.W9 t,.W9 wake]] 0 0) (.pptr [c.enc] 0 0) (.ptr b24 0 0) (.ptr b6 0 0) (.ptr b8 0 0) (.W9 sv) (.agg [.nils,.W9 0,.nils,.nils,aQ oc s.cells.length,aQ of s.futures.length,.sl bt 0 s.threads.length]) (jA s t th e b24 b8 b6 bt tb o RR):=by
 obtain⟨i1,i2⟩:=ay.1 h1;have hlt:t.toNat<(s.threads.map aW.enc).length:=by simp;omega
 have x1:(c.ts.map iD.enc)[t.toNat]? =some (aD c t).enc:=m9 hc;have y1:=ay.1 hc;have x4:((aD c t).ins.map bn.enc)[th.pc.toNat]? =some i.enc:=by rw[←hi];exact dO hpc
 have y4:=ay.1 hpc;have s0:=dV (cJ th tb o) hlt;unfold cJ at s0;unfold kG SyncD.enc;unfold jA cJ gB at *;unfold iy at h;have hce:c.enc=[.lst (c.w.cells.map bb.enc),.lst (c.w.locks.map cb.enc),.lst (c.w.conds.map cX.enc),.lst (c.w.futures.map aw),.lst (c.w.threads.map aw),.lst (c.w.sites.map cM.enc),.lst (c.ts.map iD.enc)]:=rfl;rw[hce]at *;have hie:(aD c t).enc=[.W9 (aD c t).regs,.lst ((aD c t).ins.map bn.enc)]:=rfl;rw[hie]at x1;cases oc
 all_goals cases of
 all_goals
  dsimp only[aQ]at *;have hlt2:t.toNat<s.threads.length:=by omega
  repeat' (first|exact h _|refine cH i1 hlt2 rp rfl ?_|refine st ?_|refine GW rp W6 W6 W6 W6 W7 ?_|refine sb λnb_ hnb_=>?_|refine s2 (λh=>?_) λh=>?_|fail)
end
end
end Go.Proofs.YtenbpcngcicamaaGreatDoor.Am
