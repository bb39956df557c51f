/- A part of the proof; the statement is proved in the last part. -/
import Derived.Test.YtdnpdghlggbklaaGreatDoorQen
set_option linter.unusedSimpArgs false
set_option linter.unusedVariables false
namespace Go.Proofs.YtdnpdghlggbklaaGreatDoor.Am
section
set_option maxRecDepth 100000
set_option maxHeartbeats 4000000
set_option linter.unusedSimpArgs false
set_option linter.unusedSectionVars false
def ea:List AV:=[.Xm 0,.Xm 0,.Xm 0,.Xm 0,.Xm 0,.nils,.nils]
theorem dV{α:Type}{l:List α}{n:Nat}(r:α)(h:n<l.length):(l.set n r)[n]? =some r:=by simp[h]
theorem aJ.rowV{vs vs2:List AV}{L K R:SH}{b n:Nat}{rows rows':List (List AV)}(hL:L.Perm (K++(b,⟨n,rows⟩)::R))(hv:ji K vs vs2)(hlen:rows.length=rows'.length)(hr:∀(j:Nat) (r r':List AV),rows[j]? =some r→rows'[j]? =some r'→ji K r r'):aJ vs L vs2 ((b,⟨n,rows'⟩)::R):=by
 refine⟨K,(b,⟨n,rows⟩)::R,hL,⟨hv.at_.1,hv.at_.2⟩,rfl,λi p q h1 h2=>?_⟩
 match i with
 |0=>cases h1;cases h2;exact⟨rfl,rfl,hlen,λj s s2 g1 g2=>(hr j s s2 g1 g2).at_⟩
 |i+1=>simp only[W1]at h1 h2;rw[h1]at h2;cases h2;exact⟨rfl,rfl,rfl,λj r r2 h3 h4=>by rw[h3]at h4;cases h4;exact⟨rfl,λk a a2 h5 h6=>by rw[h5]at h6;cases h6;exact .refl _⟩⟩
theorem Sp{α:Type}(B K RZ RR:List α)(x:α)(h:RR.Perm (K++RZ)):(B++x::RR).Perm (K++x::(B++RZ)):=
 WX.trans ((((h.append_left B).trans (List.perm_append_comm_assoc _ _ _)).cons x).trans WX.symm)
theorem Sq{α:Type}(A B K RZ RR:List α)(x:α)(h:(A++RR).Perm (K++RZ)):(A++(B++x::RR)).Perm (K++x::(B++RZ)):=
 (List.perm_append_comm_assoc A B _).trans ((WX.append_left B).trans (Sp B K RZ (A++RR) x h))
section
variable (c:bM) (l:List aV) (t wake:Int) (h1:inB t l.length=true) (hc:inB t c.ts.length=true) (p pc0 ev0:Int) (rg:List Int) (tn:List (List Int)) (g1 g2:AV) (sy:SyncD) (x y:AV) (hx:x=.lst []∨∃b n,x=.sl b 0 n) (hy:y=.lst []∨∃b n,y=.sl b 0 n)
 (e1 ek eo ev es:Int) (d f:List Int) (b132 b24 b8 b6 bt:Nat) (K RZ RR A:SH) (hA:A=[]∨∃q,A=[q]) (hR:(A++RR).Perm (K++RZ)) (hg:Fz K g1 (.lst (rg.map aj))) (hg2:Fz K g2 (.lst (tn.map cp)))
 (hn1:b24≠b6) (go1:g1.one=true) (go2:g2.one=true) (Q:R)
include h1 hc hn1 hx hy hA hR hg hg2
theorem Uv (zs : List AV) (hzs : zs = bK) (ze : List AV) (hze : ze = ea) (hse : az Tryz.prog 52 [.agg (aB c t).enc, .agg (aV.mk p rg tn (IntKind.i64.wrap (ev0 + 1))).enc] (Do (bW (aB c t) ⟨p, rg, tn, IntKind.i64.wrap (ev0 + 1)⟩)))
    (hq1:(ek=16∨ek=2)→∀L,(bt,⟨4,(l.map aV.enc).set t.toNat [.Xm p,g1,g2,.Xm (IntKind.i64.wrap (ev0+1))]⟩)∈L→(∀q∈RR,q∈L)→Q (.tup [.agg [.lst (sy.locks.map LockD.enc),.Xm sy.tx,.lst (sy.done.map aT),.lst (sy.threads.map ThrD.enc),x,y,.sl bt 0 l.length],.agg [.Xm e1,.Xm ek,.Xm eo,.Xm ev,.Xm es,.lst (d.map aj),.lst (f.map aj)],.bool true]) L)
    (hq2:(ek≠16∧ek≠2)→∀th,bW (aB c t) ⟨p,rg,tn,IntKind.i64.wrap (ev0+1)⟩=(th,true)→∀L,(bt,⟨4,(l.map aV.enc).set t.toNat th.enc⟩)∈L→(∀q∈RZ,q∈L)→Q (.tup [.agg [.lst (sy.locks.map LockD.enc),.Xm sy.tx,.lst (sy.done.map aT),.lst (sy.threads.map ThrD.enc),x,y,.sl bt 0 l.length],.agg [.Xm e1,.Xm ek,.Xm eo,.Xm ev,.Xm es,.lst (d.map aj),.lst (f.map aj)],.bool true]) L)
    (hq3:(ek≠16∧ek≠2)→(bW (aB c t) ⟨p,rg,tn,IntKind.i64.wrap (ev0+1)⟩).2=false→∀L,Q (.tup [.agg bK,.agg ea,.bool false]) L) :
    bH Q [.pptr [c.enc] 0 0,.pptr [[.Xm t,.Xm wake]] 0 0,.ptr b6 0 0,.ptr b8 0 0,.ptr b24 0 0,.ptr b132 0 0,.ptr bt t.toNat 0,.Xm p]
      (A++(b132,⟨7,[[.lst (sy.locks.map LockD.enc),.Xm sy.tx,.lst (sy.done.map aT),.lst (sy.threads.map ThrD.enc),x,y,.sl bt 0 l.length]]⟩)::(b24,⟨7,[[.Xm e1,.Xm ek,.Xm eo,.Xm ev,.Xm es,.lst (d.map aj),.lst (f.map aj)]]⟩)::(b8,⟨7,[ze]⟩)::(b6,⟨7,[zs]⟩)::(bt,⟨4,(l.map aV.enc).set t.toNat [.Xm pc0,g1,g2,.Xm ev0]⟩)::RR):=by
  obtain⟨i1,i2⟩:=ax.1 h1;have hlt:t.toNat<(l.map aV.enc).length:=by simp;omega
  have x1:(c.ts.map iH.enc)[t.toNat]? =some (aB c t).enc:=m6 hc;have y1:=ax.1 hc;have s0:=dV [AV.Xm pc0,g1,g2,.Xm ev0] hlt;have s1:=dV (l:=(l.map aV.enc).set t.toNat [.Xm pc0,g1,g2,.Xm ev0]) [AV.Xm p,g1,g2,.Xm ev0] (by rw[List.length_set];exact hlt);have s2:=dV (l:=((l.map aV.enc).set t.toNat [.Xm pc0,g1,g2,.Xm ev0]).set t.toNat [.Xm p,g1,g2,.Xm ev0]) [AV.Xm p,g1,g2,.Xm (IntKind.i64.wrap (ev0+1))] (by rw[List.length_set,List.length_set];exact hlt);subst hzs;subst hze;unfold bH bK ea;unfold bM.enc;generalize hE:bW (aB c t) ⟨p,rg,tn,IntKind.i64.wrap (ev0+1)⟩=z at *;by_cases hk:ek=16∨ek=2
  · have hq1:=hq1 hk
    clear hq2 hq3;have fin:∀(x y:AV) (L:SH),True:=λ_ _ _=>trivial
    rcases hk with rfl|rfl<;>rcases hA with rfl|⟨q,rfl⟩<;>rcases hx with rfl|⟨_,_,rfl⟩<;>rcases hy with rfl|⟨_,_,rfl⟩
    all_goals
      dsimp only[List.nil_append,List.cons_append]
      repeat' (first|refine st ?_|refine sb λnb_ hnb_=>?_|refine s2 (λh=>?_) λh=>?_|fail)
      refine hq1 _ ?_ (λq hq=>by simp[hq]);simp[List.set_set]
  · have d1:decide (ek≠16)=true:=decide_eq_true Xh
    have d2:decide (ek≠2)=true:=decide_eq_true Xh;have hq2:=hq2 Xh;have hq3:=hq3 Xh;clear hq1;have hz : ∀ B : SH, aJ [.agg (aB c t).enc, .agg [.Xm p, g1, g2, .Xm (IntKind.i64.wrap (ev0 + 1))]] (A ++ (B ++ (bt, ⟨4, (((l.map aV.enc).set t.toNat [.Xm pc0, g1, g2, .Xm ev0]).set t.toNat [.Xm p, g1, g2, .Xm ev0]).set t.toNat [.Xm p, g1, g2, .Xm (IntKind.i64.wrap (ev0 + 1))]⟩) :: RR))
        [.agg (aB c t).enc,.agg (aV.mk p rg tn (IntKind.i64.wrap (ev0+1))).enc] ((bt,⟨4,(l.map aV.enc).set t.toNat (aV.mk p rg tn (IntKind.i64.wrap (ev0+1))).enc⟩)::(B++RZ)):=λB=>by
      have hrow:ji K [.Xm p,g1,g2,.Xm (IntKind.i64.wrap (ev0+1))] (aV.mk p rg tn (IntKind.i64.wrap (ev0+1))).enc:=.cons (.refl _) (.cons hg (.cons hg2 (.cons (.refl _) .nil)));refine aJ.rowV (Sq A B K RZ RR _ hR) (.cons (.refl _) (.cons (Fz.aggs hrow) .nil)) Xk ?_;intro j r r' q1 q2;simp only[List.set_set]at q1;rw[Wu]at q1 q2;by_cases hj:t.toNat=j
      · rw[if_pos hj,if_pos hlt]at q1 q2
        cases q1;cases q2;exact hrow
      · rw[if_neg hj]at q1 q2
        rw[q1]at q2;cases q2;exact ji.refl _ _
    have s3:=dV (aV.mk p rg tn (IntKind.i64.wrap (ev0+1))).enc hlt;obtain⟨th,ok⟩:=z;rcases hA with rfl|⟨q,rfl⟩
    · rcases ok with _|_<;>rcases hx with rfl|⟨_,_,rfl⟩<;>rcases hy with rfl|⟨_,_,rfl⟩
      all_goals
        dsimp only[List.nil_append,List.cons_append]
        repeat' (first|refine st ?_|refine sb λnb_ hnb_=>?_|refine s2 (λh=>?_) λh=>?_|fail)
        refine s5 (af.pre (hz [_,_,_,_]) (hse.call (KL:=λv K'=>v=_∧K'=_) ⟨rfl,rfl⟩)) ?_;rintro _ _ ⟨rfl,rfl⟩;unfold pV Do;dsimp only[List.nil_append,List.cons_append]
        repeat' (first|refine st ?_|refine sb λnb_ hnb_=>?_|refine s2 (λh=>?_) λh=>?_|fail)
        first
          |exact hq3 rfl _
          | (refine hq2 _ rfl _ ?_ (fun q hq => by simp [hq])
             simp[List.set_set])
    · rcases ok with _|_<;>rcases hx with rfl|⟨_,_,rfl⟩<;>rcases hy with rfl|⟨_,_,rfl⟩
      all_goals
        dsimp only[List.nil_append,List.cons_append]
        repeat' (first|refine st ?_|refine sb λnb_ hnb_=>?_|refine s2 (λh=>?_) λh=>?_|fail)
        refine s5 (af.pre (hz [_,_,_,_]) (hse.call (KL:=λv K'=>v=_∧K'=_) ⟨rfl,rfl⟩)) ?_;rintro _ _ ⟨rfl,rfl⟩;unfold pV Do;dsimp only[List.nil_append,List.cons_append]
        repeat' (first|refine st ?_|refine sb λnb_ hnb_=>?_|refine s2 (λh=>?_) λh=>?_|fail)
        first
          |exact hq3 rfl _
          | (refine hq2 _ rfl _ ?_ (fun q hq => by simp [hq])
             simp[List.set_set])
end
end
section
set_option maxRecDepth 100000
set_option maxHeartbeats 4000000
set_option linter.unusedSimpArgs false
set_option linter.unusedSectionVars false
def el.zero:el:=⟨K8,[],[],[]⟩
def G4(r:Option (el×cC)):AV:=match r with
 |some r=>.tup [.agg r.1.enc,.agg r.2.enc,.bool true]
 |none=>.tup [.agg el.zero.enc,.agg cC.zero.enc,.bool false]
def Al(c:bM)(s:el)(t:Int)(r1:SyncD)(e:cC)(a:Sm):Option (el×cC):=
 if e.kind≠16∧e.kind≠2 then
  (if(bW (aB c t) a.thread).2 then some (⟨r1,a.cells,a.futures,s.threads.set t.toNat (bW (aB c t) a.thread).1⟩,{e with value:=a.value})else none)
 else some (⟨r1,a.cells,a.futures,s.threads.set t.toNat a.thread⟩,{e with value:=a.value})
theorem xT(K:SH):Fz K (.tup [.agg bK,.agg ea,.bool false]) (G4 none):=
 Fz.tups (.cons (Fz.aggs (by unfold bK el.zero el.enc K8;exact fl)) (.cons (Fz.aggs (by unfold ea cC.zero cC.enc;exact fl)) (.cons (.refl _) .nil)))
theorem J2{α:Type}{f:α→List AV}{L:SH}{bt n m:Nat}{l:List α}{k:Nat}{r:List AV}{y:α}(hn:0<n)(hml:m=l.length)(hk:k<l.length)(hm:(bt,(⟨n,(l.map f).set k r⟩:Blk))∈L)(hr:ji L r (f y)):Fz L (.sl bt 0 m) (.lst ((l.set k y).map f)):=by
 subst hml;have key:∀(j:Nat) (x x2:List AV),((l.map f).set k r)[0+j]? =some x→((l.set k y).map f)[j]? =some x2→ji L x x2:=by
  intro j x x2 q1 q2;rw[Wx]at q2;rw[Ww]at q1;rw[Wu]at q1 q2;by_cases hj:k=j
  ·rw[if_pos hj,if_pos (by simpa using hk)]at q1 q2;cases q1;cases q2;exact hr
  ·rw[if_neg hj]at q1 q2;rw[q1]at q2;cases q2;exact ji.refl _ _
 exact .sl bt 0 l.length _ _ hm hn Xh Xk Xk (λj x x2 q1 q2=>(key j x x2 q1 q2).at_.1) (λj x x2 q a a2 q1 q2 q3 q4=>(key j x x2 q1 q2).at_.2 q a a2 q3 q4)
theorem Of{L:SH}{bt:Nat}{l:List aV}{k:Nat}{r:List AV}{th:aV}(hk:k<l.length)(hm:(bt,(⟨4,(l.map aV.enc).set k r⟩:Blk))∈L)(hr:ji L r th.enc):Fz L (.sl bt 0 l.length) (.lst ((l.set k th).map aV.enc)):=J2 Xl rfl hk hm hr
theorem IW{L:SH}{o:Option Nat}{l:List Int}{n:Nat}(hn:n=l.length)(h0:o=none→l=[])(hm:∀b,o=some b→∃rows,rows=l.map aj∧(b,(⟨1,rows⟩:Blk))∈L):Fz L (aO o n) (.lst (l.map aj)):=
 lV hn h0 λb hb=>by obtain⟨rows,rfl,h⟩:=hm b hb;exact h
section
variable (c:bM) (s:el) (t wake:Int) (h1:inB t s.threads.length=true) (hc:inB t c.ts.length=true) (sy:SyncD) (e:cC) (a:Sm) (b132 b24 b8 b6 bt:Nat) (oc of:Option Nat) (K RZ RR A:SH) (hA:A=[]∨∃q,A=[q]) (hA0:e.kind=16∨e.kind=2→A=[]) (hR:(A++RR).Perm (K++RZ))
 (g1 g2:AV) (hg:∀L:SH,(∀q∈K,q∈L)→Fz L g1 (.lst (a.thread.regs.map aj))) (hg2:∀L:SH,(∀q∈K,q∈L)→Fz L g2 (.lst (a.thread.taint.map cp))) (hn1:b24≠b6)
 (hoc:oc=none→a.cells=[]) (hof:of=none→a.futures=[]) (hmc:∀b,oc=some b→∃rows,rows=a.cells.map aj∧(b,(⟨1,rows⟩:Blk))∈RZ) (hmf:∀b,of=some b→∃rows,rows=a.futures.map aj∧(b,(⟨1,rows⟩:Blk))∈RZ)
 (hse:az Tryz.prog 52 [.agg (aB c t).enc,.agg a.thread.enc] (Do (bW (aB c t) a.thread))) (pc0 ev0:Int) (hev:a.thread.ev=IntKind.i64.wrap (ev0+1)) (Q:R) (hq:∀v L,Fz L v (G4 (Al c s t sy e a))→Q v L)
include h1 hc hA hA0 hR hg hg2 hn1 hoc hof hmc hmf hse hev hq
theorem D7 : bH Q [.pptr [c.enc] 0 0, .pptr [[.Xm t, .Xm wake]] 0 0, .ptr b6 0 0, .ptr b8 0 0, .ptr b24 0 0, .ptr b132 0 0, .ptr bt t.toNat 0, .Xm a.thread.pc]
      (A++(b132,⟨7,[[.lst (sy.locks.map LockD.enc),.Xm sy.tx,.lst (sy.done.map aT),.lst (sy.threads.map ThrD.enc),aO oc a.cells.length,aO of a.futures.length,.sl bt 0 s.threads.length]]⟩)::(b24,⟨7,[{e with value:=a.value}.enc]⟩)::(b8,⟨7,[ea]⟩)::(b6,⟨7,[bK]⟩)::(bt,⟨4,(s.threads.map aV.enc).set t.toNat [.Xm pc0,g1,g2,.Xm ev0]⟩)::RR):=by
  obtain⟨i1,i2⟩:=ax.1 h1;have hlt:t.toNat<s.threads.length:=by omega
  obtain⟨va,ce,fu,⟨p,rg,tn,ev⟩⟩:=a;obtain⟨e1,ek,eo,v0,es,d,f⟩:=e;dsimp only at *;subst hev;have ends : ∀ (th : aV) (L : SH), Al c s t sy ⟨e1, ek, eo, v0, es, d, f⟩ ⟨va, ce, fu, ⟨p, rg, tn, IntKind.i64.wrap (ev0 + 1)⟩⟩ = some (⟨sy, ce, fu, s.threads.set t.toNat th⟩, ⟨e1, ek, eo, va, es, d, f⟩)→
      Fz L (.sl bt 0 s.threads.length) (.lst ((s.threads.set t.toNat th).map aV.enc))→(∀q∈RZ,q∈L)→
      Q (.tup [.agg [.lst (sy.locks.map LockD.enc),.Xm sy.tx,.lst (sy.done.map aT),.lst (sy.threads.map ThrD.enc),aO oc ce.length,aO of fu.length,.sl bt 0 s.threads.length],.agg [.Xm e1,.Xm ek,.Xm eo,.Xm va,.Xm es,.lst (d.map aj),.lst (f.map aj)],.bool true]) L:=by
    intro th L hf h2 hz;refine hq _ _ ?_;rw[hf];refine Fz.tups (.cons (Fz.aggs ?_) (.cons (.refl _) (.cons (.refl _) .nil)));refine .cons (.refl _) (.cons (.refl _) (.cons (.refl _) (.cons (.refl _) (.cons ?_ (.cons ?_ (.cons h2 .nil))))))
    · exact IW rfl hoc λb hb=>by obtain⟨rows,e,h⟩:=hmc b hb;exact⟨rows,e,hz _ h⟩
    · exact IW rfl hof λb hb=>by obtain⟨rows,e,h⟩:=hmf b hb;exact⟨rows,e,hz _ h⟩
  refine Uv c s.threads t wake h1 hc p pc0 ev0 rg tn g1 g2 sy _ _ (xS _ _) (xS _ _) e1 ek eo va es d f b132 b24 b8 b6 bt K RZ RR A hA hR (hg _ λq h=>h) (hg2 _ λq h=>h) hn1 Q _ rfl _ rfl hse ?_ ?_ ?_
  · intro hk L hm hL
    have hA1:=hA0 hk;subst hA1;have hsub:∀q∈K++RZ,q∈L:=λq h=>hL q (by simpa using hR.mem_iff.2 h)
    refine ends ⟨p,rg,tn,IntKind.i64.wrap (ev0+1)⟩ L (by unfold Al;rw[if_neg (by dsimp only;omega)]) (Of hlt hm ?_) λq h=>hsub q (by simp[h])
    exact .cons (.refl _) (.cons (hg _ λq h=>hsub q (by simp[h])) (.cons (hg2 _ λq h=>hsub q (by simp[h])) (.cons (.refl _) .nil)))
  · intro hk th hth L hm hL
    refine ends th L (by unfold Al;rw[if_pos hk];dsimp only;rw[hth];rfl) (Of hlt hm (ji.refl _ _)) hL
  · intro hk h2 L
    refine hq _ _ ?_;rw[show Al c s t sy ⟨e1,ek,eo,v0,es,d,f⟩ ⟨va,ce,fu,⟨p,rg,tn,IntKind.i64.wrap (ev0+1)⟩⟩=none by unfold Al;rw[if_pos hk];dsimp only;rw[h2];rfl];exact xT L
end
end
section
set_option maxRecDepth 100000
set_option maxHeartbeats 4000000
set_option linter.unusedSimpArgs false
set_option linter.unusedSectionVars false
theorem G5{KS:SH→Prop}{n b i off:Nat}{v:AV}{x:Blk}{r cs:List AV}{L L':SH}(hu:Cv b x ⟨x.size,x.rows.set i (bv r off cs)⟩ L L')(h1:x.rows[i]? =some r)(h2:v.cells? =some cs)(h3:cs.length=n)(h4:cs.all AV.one=true)(h5:off+n≤r.length)(h:KS L'):W.store n (.ptr b i off) v L KS:=⟨x,r,cs,L',h1,h2,h3,h4,h5,hu,h⟩
theorem cI{n b m:Nat}{k:IntKind}{i:Int}{y:Blk}{L:SH}{K:AV→Prop}(h0:0≤i)(h1:i.toNat<m)(hm:(b,y)∈L)(h2:y.size=n)(h:K (.ptr b i.toNat 0)):W.idx n (.sl b 0 m) (.int k i) L K:=KK h0 h1 hm h2 (by rw[Ww];exact h)
def iC(Q:R)(L168:SH)(x132 x24 x142 x167 x171 x10 x14 x6 x8 x177 x115:AV):Prop:=
 aA 1 x24 L168 λx269=>wb .eql 3 x269 (.Xm 3) λx270=>wk x270 (Ba (bH Q) L168 x132 x24 x142 x167 x171 x10 x14 x6 x8 x177) (xP (bH Q) L168 x269 x132 x24 x142 x167 x171 x10 x14 x6 x8 x177 x115)
section
variable (c:bM) (s:el) (t wake:Int) (h1:inB t s.threads.length=true) (hc:inB t c.ts.length=true) (th:aV) (hth:bN s t=th) (i:bj) (hi:dm (aB c t) th.pc=i) (hpc:inB th.pc (aB c t).ins.length=true) (sy:SyncD) (sv:Int) (e:cC) (b132 b24 b8 b6 bt tb:Nat) (o oc of:Option Nat) (hn1:b24≠b6) (hn2:b24∉SH.names ((b8,(⟨7,[ea]⟩:Blk))::[]) ) (ho:o=none→th.regs=[]) (hoc:oc=none→s.cells=[]) (hof:of=none→s.futures=[]) (Q:R)
def cK(th:aV)(tb:Nat)(o:Option Nat):List AV:=[.Xm th.pc,aO o th.regs.length,.sl tb 0 th.taint.length,.Xm th.ev]
def il(s:el)(th:aV)(tb:Nat)(o oc of:Option Nat):SH:=ae o 1 (th.regs.map aj)++(tb,⟨1,th.taint.map cp⟩)::(ae oc 1 (s.cells.map aj)++ae of 1 (s.futures.map aj))
def jG(s:el)(t:Int)(th:aV)(e:cC)(b24 b8 b6 bt tb:Nat)(o:Option Nat)(RR:SH):SH:=
 (b24,⟨7,[e.enc]⟩)::(b8,⟨7,[ea]⟩)::(b6,⟨7,[bK]⟩)::(bt,⟨4,(s.threads.map aV.enc).set t.toNat (cK th tb o)⟩)::RR
def gF(s:el)(sy:SyncD)(bt:Nat)(oc of:Option Nat):List AV:=[.lst (sy.locks.map LockD.enc),.Xm sy.tx,.lst (sy.done.map aT),.lst (sy.threads.map ThrD.enc),aO oc s.cells.length,aO of s.futures.length,.sl bt 0 s.threads.length]
include h1 hc hth hi hpc
theorem Sr(RR:SH)(h:∀b132,iC Q ((b132,⟨7,[gF s sy bt oc of]⟩)::jG s t th e b24 b8 b6 bt tb o RR) (.ptr b132 0 0) (.ptr b24 0 0) (.ptr bt t.toNat 0) (.pptr [i.enc] 0 0) (.Xm th.ev) (.pptr [c.enc] 0 0) (.pptr [[.Xm t,.Xm wake]] 0 0) (.ptr b6 0 0) (.ptr b8 0 0) (.Xm (IntKind.i64.wrap (th.pc+1))) (.Xm sv)):
  kE Q (.pptr [sy.enc] 0 0) (.pptr [[.Xm t,.Xm wake]] 0 0) (.pptr [c.enc] 0 0) (.ptr b24 0 0) (.ptr b6 0 0) (.ptr b8 0 0) (.Xm sv) (.agg [.nils,.Xm 0,.nils,.nils,aO oc s.cells.length,aO of s.futures.length,.sl bt 0 s.threads.length]) (jG s t th e b24 b8 b6 bt tb o RR):=by
 obtain⟨i1,i2⟩:=ax.1 h1;have hlt:t.toNat<(s.threads.map aV.enc).length:=by simp;omega
 have x1:(c.ts.map iH.enc)[t.toNat]? =some (aB c t).enc:=m6 hc;have y1:=ax.1 hc;have x4:((aB c t).ins.map bj.enc)[th.pc.toNat]? =some i.enc:=by rw[←hi];exact dN hpc
 have y4:=ax.1 hpc;have s0:=dV (cK th tb o) hlt;unfold cK at s0;unfold kE SyncD.enc;unfold jG cK gF at *;unfold iC at h;have hce:c.enc=[.lst (c.w.cells.map aY.enc),.lst (c.w.locks.map ca.enc),.lst (c.w.conds.map cP.enc),.lst (c.w.futures.map au),.lst (c.w.threads.map au),.lst (c.w.sites.map cM.enc),.lst (c.ts.map iH.enc)]:=rfl;rw[hce]at *;have hie:(aB c t).enc=[.Xm (aB c t).regs,.lst ((aB c t).ins.map bj.enc)]:=rfl;rw[hie]at x1;cases oc
 all_goals cases of
 all_goals
  dsimp only[aO]at *;have hlt2:t.toNat<s.threads.length:=by omega
  repeat' (first|exact h _|refine cI i1 hlt2 rp rfl ?_|refine st ?_|refine G5 rp Xj Xj Xj Xj Xk ?_|refine sb λnb_ hnb_=>?_|refine s2 (λh=>?_) λh=>?_|fail)
end
end
end Go.Proofs.YtdnpdghlggbklaaGreatDoor.Am
