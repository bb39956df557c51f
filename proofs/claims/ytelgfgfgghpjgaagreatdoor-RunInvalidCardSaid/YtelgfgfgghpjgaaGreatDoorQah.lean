/- A part of the proof; the statement is proved in the last part. -/
import Derived.Test.YtelgfgfgghpjgaaGreatDoorQag
set_option linter.unusedSimpArgs false
set_option linter.unusedVariables false
section
namespace Go.Proofs.YtelgfgfgghpjgaaGreatDoor.Am
set_option linter.unusedVariables false
set_option maxRecDepth 100000
def hJ(t0:AV)(L:SH)(Q:R):Prop:=
 wb .geq 5 t0 (.int .u8 97) fun x0=>
 bN x0 true t0 L fun x1 L3=>
 wg x0 true (wb .leq 5 x1 (.int .u8 122)) L3 fun x4 L6=>
 W.pick x0 x4 (.bool false) fun x8=>
 bN x8 false t0 L6 fun x9 L11=>
 wg x8 false (wb .geq 5 x9 (.int .u8 65)) L11 fun x12 L14=>
 bN x8 false x12 L14 fun x16 L18=>
 bN x16 true t0 L18 fun x19 L21=>
 wg x16 true (wb .leq 5 x19 (.int .u8 90)) L21 fun x22 L24=>
 wg x8 false (W.pick x16 x22 (.bool false)) L24 fun x26 L28=>
 W.pick x8 (.bool true) x26 fun x30=>
 Q x30 L28
theorem lr(t0:AV)(L:SH)(Q:R)(h:hJ t0 L Q):al Tryz.prog 48 [t0] L Q:=
 bg ⟨fun _=>none,fun _=>[],fun _=>[],fun _=>[]⟩ Tryz.func48 (by kernel_rfl) (by kernel_rfl) h
def iV(t0:AV)(L:SH)(Q:R):Prop:=
 wb .geq 5 t0 (.int .u8 48) fun x0=>
 bN x0 true t0 L fun x1 L3=>
 wg x0 true (wb .leq 5 x1 (.int .u8 57)) L3 fun x4 L6=>
 W.pick x0 x4 (.bool false) fun x8=>
 Q x8 L6
theorem mU(t0:AV)(L:SH)(Q:R)(h:iV t0 L Q):al Tryz.prog 84 [t0] L Q:=
 bg ⟨fun _=>none,fun _=>[],fun _=>[],fun _=>[]⟩ Tryz.func84 (by kernel_rfl) (by kernel_rfl) h
def mV(Q:R)(t0 x0:AV)(L1:SH):Prop:=
 bN x0 false t0 L1 fun x2 L4=>
 W.grd x0 false (fun k6=>wc (.fn 84 []) [x2] L4 fun x8 L9=>
 k6 x8 L9) L4 fun x5 L7=>
 W.pick x0 (.bool true) x5 fun x10=>
 bN x10 false t0 L7 fun x11 L13=>
 wg x10 false (wb .eql 5 x11 (.int .u8 95)) L13 fun x14 L16=>
 W.pick x10 (.bool true) x14 fun x18=>
 Q x18 L16
def iW(t0:AV)(L:SH)(Q:R):Prop:=
 wc (.fn 48 []) [t0] L (mV Q t0)
theorem mW(t0:AV)(L:SH)(Q:R)(h:iW t0 L Q):al Tryz.prog 50 [t0] L Q:=
 bg ⟨fun _=>none,fun _=>[],fun _=>[],fun _=>[]⟩ Tryz.func50 (by kernel_rfl) (by kernel_rfl) h
def e9(L:SH)(Q:R):Prop:=
 W.bslice 1 [(.str [])] 22 [(0,(.str [118,97,114])),(1,(.str [118,111,108,97,116,105,108,101])),(2,(.str [109,117,116,101,120])),(3,(.str [114,119,108,111,99,107])),(4,(.str [99,111,110,100])),(5,(.str [102,117,116,117,114,101])),(6,(.str [116,104,114,101,97,100])),(7,(.str [105,102])),(8,(.str [101,108,115,101])),(9,(.str [119,104,105,108,101])),(10,(.str [108,111,99,107])),(11,(.str [114,101,97,100])),(12,(.str [119,114,105,116,101])),(13,(.str [116,114,97,110,115,97,99,116,105,111,110])),(14,(.str [97,116,111,109,105,99])),(15,(.str [119,97,105,116])),(16,(.str [110,111,116,105,102,121])),(17,(.str [110,111,116,105,102,121,97,108,108])),(18,(.str [115,112,97,119,110])),(19,(.str [106,111,105,110])),(20,(.str [115,101,116])),(21,(.str [103,101,116]))] L fun x0 L1=>
 Q x0 L1
theorem j1(L:SH)(Q:R)(h:e9 L Q):al Tryz.prog 83 [] L Q:=
 bg ⟨fun _=>none,fun _=>[],fun _=>[],fun _=>[]⟩ Tryz.func83 (by kernel_rfl) (by kernel_rfl) h
def dP(Q:R)(v2:Vs)(L4:SH)(n3:Kn):Prop:=
 px 0 3 4 v2 fun x5 x6 x7=>
 W.len x6 fun x8=>
 wb .lss 3 x7 x8 fun x9=>
 wk x9 (
 tK 1 x6 x7 L4 fun x11=>
 wb .eql 9 x11 x5 fun x12=>
 wk x12 (
 Q (.bool true) L4) (
 wb .add 3 x7 (.int .i64 1) fun x13=>
 n3 [x5,x6,x13] L4)) (
 Q (.bool false) L4)
def je(Q:R)(t0 x0:AV)(L1:SH):Prop:=
 W.loop (dP Q) [t0,x0,(.int .i64 0)] L1
def ee(t0:AV)(L:SH)(Q:R):Prop:=
 wc (.fn 83 []) [] L (je Q t0)
theorem jf(t0:AV)(L:SH)(Q:R)(h:ee t0 L Q):al Tryz.prog 49 [t0] L Q:=
 bg ⟨fun _=>none,fun k=>if k=3 then [0,3,4]else [],fun _=>[],fun _=>[]⟩ Tryz.func49 (by kernel_rfl) (by kernel_rfl) h
def ls(Q:R)(n41:Kn)(x44 x43 x48:AV)(L49:SH):Prop:=
 W.un .not x48 fun x50=>
 wk x50 (
 Q (.bool false) L49) (
 wb .add 3 x44 (.int .i64 1) fun x51=>
 n41 [x43,x51] L49)
def fS(Q:R)(v40:Vs)(L42:SH)(n41:Kn):Prop:=
 vQ 0 3 v40 fun x43 x44=>
 W.lenS x43 fun x45=>
 wb .lss 3 x44 x45 fun x46=>
 wk x46 (
 W.ixS x43 x44 fun x47=>
 wc (.fn 50 []) [x47] L42 (ls Q n41 x44 x43)) (
 Q (.bool true) L42)
def dQ(t0:AV)(L:SH)(Q:R):Prop:=
 W.lenS t0 fun x0=>
 wb .lss 3 x0 (.int .i64 1) fun x1=>
 bN x1 false t0 L fun x2 L4=>
 wg x1 false (W.lenS x2) L4 fun x5 L7=>
 wg x1 false (wb .gtr 3 x5 (.int .i64 12)) L7 fun x9 L11=>
 W.pick x1 (.bool true) x9 fun x13=>
 bN x13 false t0 L11 fun x14 L16=>
 wg x13 false (W.ixS x14 (.int .i64 0)) L16 fun x17 L19=>
 W.grd x13 false (fun k22=>wc (.fn 48 []) [x17] L19 fun x24 L25=>
 k22 x24 L25) L19 fun x21 L23=>
 wg x13 false (W.un .not x21) L23 fun x26 L28=>
 W.pick x13 (.bool true) x26 fun x30=>
 bN x30 false t0 L28 fun x31 L33=>
 W.grd x30 false (fun k35=>wc (.fn 49 []) [x31] L33 fun x37 L38=>
 k35 x37 L38) L33 fun x34 L36=>
 W.pick x30 (.bool true) x34 fun x39=>
 wk x39 (
 Q (.bool false) L36) (
 W.loop (fS Q) [t0,(.int .i64 0)] L36)
theorem fT(t0:AV)(L:SH)(Q:R)(h:dQ t0 L Q):al Tryz.prog 24 [t0] L Q:=
 bg ⟨fun _=>none,fun k=>if k=4 then [0,3]else [],fun _=>[],fun _=>[]⟩ Tryz.func24 (by kernel_rfl) (by kernel_rfl) h
def lc(Q:R)(v0:Vs)(L2:SH)(n1:Kn):Prop:=
 px 0 1 5 v0 fun x3 x4 x5=>
 W.len x3 fun x6=>
 wb .lss 3 x5 x6 fun x7=>
 wk x7 (
 tK 1 x3 x5 L2 fun x9=>
 wb .eql 9 x9 x4 fun x10=>
 wk x10 (
 Q x5 L2) (
 wb .add 3 x5 (.int .i64 1) fun x11=>
 n1 [x3,x4,x11] L2)) (
 Q (.int .i64 (-1)) L2)
def mX(t0 t1:AV)(L:SH)(Q:R):Prop:=
 W.loop (lc Q) [t0,t1,(.int .i64 0)] L
theorem pF(t0 t1:AV)(L:SH)(Q:R)(h:mX t0 t1 L Q):al Tryz.prog 25 [t0,t1] L Q:=
 bg ⟨fun _=>none,fun k=>if k=2 then [0,1,5]else [],fun _=>[],fun _=>[]⟩ Tryz.func25 (by kernel_rfl) (by kernel_rfl) h
end Go.Proofs.YtelgfgfgghpjgaaGreatDoor.Am
end
section
namespace Go.Proofs.YtelgfgfgghpjgaaGreatDoor.Am
set_option maxRecDepth 100000
set_option linter.unusedVariables false
def cD(c:Int):Bool:=(decide (97≤c)&&decide (c≤122))||(decide (65≤c)&&decide (c≤90))
def kO(c:Int):Bool:=decide (48≤c)&&decide (c≤57)
def cT(c:Int):Bool:=cD c||kO c||decide (c=95)
theorem ie(c:Int):ax Tryz.prog 48 [.int .u8 c] (.bool (cD c)):=by
 refine lr _ _ _ ?_
 unfold hJ
 repeat' (first | refine st ?_ | refine sb (fun nb_ hnb_=>?_) | refine s2 (fun h=>?_) (fun h=>?_) | fail)
 all_goals (refine⟨?_,rfl⟩;simp_all[cD]<;>omega)
theorem pG(c:Int):ax Tryz.prog 84 [.int .u8 c] (.bool (kO c)):=by
 refine mU _ _ _ ?_
 unfold iV
 repeat' (first | refine st ?_ | refine sb (fun nb_ hnb_=>?_) | refine s2 (fun h=>?_) (fun h=>?_) | fail)
 all_goals (refine⟨?_,rfl⟩;simp_all[kO]<;>omega)
theorem pH(c:Int):ax Tryz.prog 50 [.int .u8 c] (.bool (cT c)):=by
 refine mW _ _ _ ?_
 unfold iW
 repeat' (first | refine st ?_ | ((with_reducible refine am 48 ?_);refine ae (ie _) ?_) | ((with_reducible refine af 48 ?_);refine ab (ie _) ?_) | ((with_reducible refine am 84 ?_);refine ae (pG _) ?_) | ((with_reducible refine af 84 ?_);refine ab (pG _) ?_) | refine sb (fun nb_ hnb_=>?_) | refine s2 (fun h=>?_) (fun h=>?_) | fail)
 all_goals (refine⟨?_,rfl⟩;simp_all[cT]<;>omega)
def fU:List br:=[[118,97,114],[118,111,108,97,116,105,108,101],[109,117,116,101,120],[114,119,108,111,99,107],[99,111,110,100],[102,117,116,117,114,101],[116,104,114,101,97,100],[105,102],[101,108,115,101],[119,104,105,108,101],[108,111,99,107],[114,101,97,100],[119,114,105,116,101],[116,114,97,110,115,97,99,116,105,111,110],[97,116,111,109,105,99],[119,97,105,116],[110,111,116,105,102,121],[110,111,116,105,102,121,97,108,108],[115,112,97,119,110],[106,111,105,110],[115,101,116],[103,101,116]]
theorem ri:ax Tryz.prog 83 [] (.lst (fU.map aN)):=by
 refine al.fz (j1 _ _ ?_)
 unfold e9
 repeat' (first | refine st ?_ | refine sb (fun nb_ hnb_=>?_) | refine s2 (fun h=>?_) (fun h=>?_) | fail)
 exact⟨_,[],bM.all (Fz.sls (l:=fU) (f:=aN) rp rfl (by decide) rfl),rfl,rfl⟩
def oF(s:br):Bool:=fU.any fun x=>decide (x=s)
theorem tp(s:br):ax Tryz.prog 49 [.str s] (.bool (oF s)):=by
 refine jf _ _ _ ?_
 unfold ee
 repeat' (first | refine st ?_ | ((with_reducible refine am 83 ?_);refine ae (ri) ?_) | ((with_reducible refine af 83 ?_);refine ab (ri) ?_) | refine sb (fun nb_ hnb_=>?_) | refine s2 (fun h=>?_) (fun h=>?_) | fail)
 refine eZ fU (fun x=>decide (x=s)) (fun i=>[.str s,.lst (fU.map aN),.int .i64 i]) (by decide) rfl (fun i h1 hd hi hno nx hn=>?_) (fun i h1 hd hno nx=>?_)
 all_goals unfold dP
 ·have hx:=aG (f:=aN) h1
  repeat' (first | refine st ?_ | refine sb (fun nb_ hnb_=>?_) | refine s2 (fun h=>?_) (fun h=>?_) | fail)
  ·exact⟨by rw[oF,rd h1 h],rfl⟩
  ·exact hn h
 ·repeat' (first | refine st ?_ | refine sb (fun nb_ hnb_=>?_) | refine s2 (fun h=>?_) (fun h=>?_) | fail)
  exact⟨by rw[oF,tc hno],rfl⟩
def bv(s:br):Bool:=decide (1≤(s.length:Int))&&decide ((s.length:Int)≤12)&&cD (s.getD 0 0).toNat&&!oF s&&s.all fun c=>cT c.toNat
theorem rP(s:br)(hs:s.length<2^62):ax Tryz.prog 24 [.str s] (.bool (bv s)):=by
 refine fT _ _ _ ?_
 unfold dQ
 generalize hQ:(fun(u:AV) (K:SH)=>u=AV.bool (bv s)∧K=[])=Q
 have hq:Q (.bool (bv s)) []:=by subst hQ;exact⟨rfl,rfl⟩
 clear hQ
 by_cases h0:0<s.length
 ·have d1:decide ((s.length:Int)<1)=false:=by simpa using(by omega:(1:Int)≤s.length)
  repeat' (first | refine st ?_ | refine u2 (i:=0) ?_ h0 | ((with_reducible refine am 48 ?_);refine ae (ie _) ?_) | ((with_reducible refine af 48 ?_);refine ab (ie _) ?_) | ((with_reducible refine am 49 ?_);refine ae (tp _) ?_) | ((with_reducible refine af 49 ?_);refine ab (tp _) ?_) | refine sb (fun nb_ hnb_=>?_) | refine s2 (fun h=>?_) (fun h=>?_) | fail)
  all_goals first
   | (refine Eq.mp (congrArg (fun b=>Q (AV.bool b) []) ?_) hq;simp_all[bv]<;>omega;done)
   | skip
  refine eZ s (fun c=>!cT c.toNat) (fun i=>[.str s,.int .i64 i]) hs rfl (fun i h1 hd hi hno nx hn=>?_) (fun i h1 hd hno nx=>?_)
  all_goals unfold fS
  ·repeat' (first | refine st ?_ | refine u2 ?_ | ((with_reducible refine am 50 ?_);refine ae (pH _) ?_) | ((with_reducible refine af 50 ?_);refine ab (pH _) ?_) | refine sb (fun nb_ hnb_=>?_) | refine s2 (fun h=>?_) (fun h=>?_) | fail)
   ·refine Eq.mp (congrArg (fun b=>Q (AV.bool b) []) ?_) hq
    have:(s.all fun c=>cT c.toNat)=false:=vF h1 (by simpa[List.getD,h1]using h)
    simp[bv,this]
   ·exact hn (by simpa[List.getD,h1]using h)
  ·repeat' (first | refine st ?_ | refine sb (fun nb_ hnb_=>?_) | refine s2 (fun h=>?_) (fun h=>?_) | fail)
   refine Eq.mp (congrArg (fun b=>Q (AV.bool b) []) ?_) hq
   have:(s.all fun c=>cT c.toNat)=true:=List.all_eq_true.2 fun x hx=>by simpa using hno x hx
   simp_all[bv]<;>omega
 ·have d1:decide ((s.length:Int)<1)=true:=by simpa using(by omega:(s.length:Int)<1)
  repeat' (first | refine st ?_ | refine sb (fun nb_ hnb_=>?_) | refine s2 (fun h=>?_) (fun h=>?_) | fail)
  refine Eq.mp (congrArg (fun b=>Q (AV.bool b) []) ?_) hq
  simp_all[bv]
end Go.Proofs.YtelgfgfgghpjgaaGreatDoor.Am
end
section
namespace Go.Proofs.YtelgfgfgghpjgaaGreatDoor.Am
set_option linter.unusedVariables false
structure jg(c:aJ)(l:List aJ):Prop where
 lo:1≤c.size
 hi:c.size≤4
 fits:c.size≤l.length
 eq:∀k:Nat,(k:Int)<c.size→l[k]? =some ⟨c.name,k,c.size,false,c.init⟩
inductive aW:List aJ→List br→Prop where
 | nil:aW [] []
 | one (c:aJ) (l:List aJ) (ns:List br):c.size=0→c.index=0→aW l ns→aW (c::l) (c.name::ns)
 | arr (c:aJ) (l:List aJ) (ns:List br):c.size≠0→jg c (c::l)→aW (l.drop (c.size.toNat-1)) ns→aW (c::l) (c.name::ns)
theorem aW.nil_iff{ns:List br}:aW [] ns↔ns=[]:=⟨fun h=>by cases h;rfl,fun h=>by subst h;exact .nil⟩
theorem aW.one_iff{c:aJ}{l:List aJ}{ns:List br}(h0:c.size=0):aW (c::l) ns↔c.index=0∧∃n2,ns=c.name::n2∧aW l n2:=by
 constructor
 ·intro h
  cases h with
  | one _ _ n2 _ h2 h3=>exact⟨h2,n2,rfl,h3⟩
  | arr _ _ n2 h1=>exact absurd h0 h1
 ·rintro⟨h2,n2,rfl,h3⟩
  exact .one _ _ _ h0 h2 h3
theorem aW.arr_iff{c:aJ}{l:List aJ}{ns:List br}(h0:c.size≠0):aW (c::l) ns↔jg c (c::l)∧∃n2,ns=c.name::n2∧aW (l.drop (c.size.toNat-1)) n2:=by
 constructor
 ·intro h
  cases h with
  | one _ _ n2 h1=>exact absurd h1 h0
  | arr _ _ n2 _ h2 h3=>exact⟨h2,n2,rfl,h3⟩
 ·rintro⟨h2,n2,rfl,h3⟩
  exact .arr _ _ _ h0 h2 h3
def bZ(l:List aJ)(i:Nat)(acc:List br):Prop:=i≤l.length∧acc.length≤i∧∀ns,aW l ns↔∃n2,ns=acc++n2∧aW (l.drop i) n2
theorem bZ.zero(l:List aJ):bZ l 0 []:=⟨Nat.zero_le _,Nat.le_refl _,fun ns=>by simp⟩
theorem bZ.step{l:List aJ}{i:Nat}{acc:List br}(h:bZ l i acc)(hi:i<l.length)(h0:l[i].size=0)(h1:l[i].index=0):bZ l (i+1) (acc++[l[i].name]):=by
 refine⟨hi,by have:=h.2.1;simp;omega,fun ns=>?_⟩
 rw[h.2.2 ns,List.drop_eq_getElem_cons hi]
 constructor
 ·rintro⟨n2,rfl,h2⟩
  obtain⟨_,n3,rfl,h3⟩:=(aW.one_iff h0).1 h2
  exact⟨n3,by simp,h3⟩
 ·rintro⟨n3,rfl,h3⟩
  exact⟨l[i].name::n3,by simp,(aW.one_iff h0).2 ⟨h1,n3,rfl,h3⟩⟩
theorem bZ.jump{l:List aJ}{i:Nat}{acc:List br}(h:bZ l i acc)(hi:i<l.length)(h0:l[i].size≠0)(hb:jg l[i] (l.drop i)):bZ l (i+l[i].size.toNat) (acc++[l[i].name]):=by
 have hl:=hb.lo
 have hf:=hb.fits
 rw[List.length_drop]at hf
 refine⟨by omega,by have:=h.2.1;simp;omega,fun ns=>?_⟩
 rw[h.2.2 ns]
 rw[List.drop_eq_getElem_cons hi]at hb ⊢
 have e:(l.drop (i+1)).drop (l[i].size.toNat-1)=l.drop (i+l[i].size.toNat):=by rw[List.drop_drop];congr 1;omega
 constructor
 ·rintro⟨n2,rfl,h2⟩
  obtain⟨_,n3,rfl,h3⟩:=(aW.arr_iff h0).1 h2
  exact⟨n3,by simp,e▸h3⟩
 ·rintro⟨n3,rfl,h3⟩
  exact⟨l[i].name::n3,by simp,(aW.arr_iff h0).2 ⟨hb,n3,rfl,e▸h3⟩⟩
theorem bZ.done{l:List aJ}{i:Nat}{acc:List br}(h:bZ l i acc)(hi:l.length≤i):aW l acc:=by
 rw[h.2.2 acc,List.drop_eq_nil_of_le hi]
 exact⟨[],by simp,.nil⟩
theorem bZ.no1{l:List aJ}{i:Nat}{acc:List br}(h:bZ l i acc)(hi:i<l.length)(h0:l[i].size=0)(h1:l[i].index≠0):∀ns,¬aW l ns:=fun ns hn=>by
 rw[h.2.2 ns,List.drop_eq_getElem_cons hi]at hn
 obtain⟨n2,_,h2⟩:=hn
 exact h1 ((aW.one_iff h0).1 h2).1
theorem bZ.no2{l:List aJ}{i:Nat}{acc:List br}(h:bZ l i acc)(hi:i<l.length)(h0:l[i].size≠0)(hb:¬jg l[i] (l.drop i)):∀ns,¬aW l ns:=fun ns hn=>by
 rw[h.2.2 ns]at hn
 rw[List.drop_eq_getElem_cons hi]at hn hb
 obtain⟨n2,_,h2⟩:=hn
 exact hb ((aW.arr_iff h0).1 h2).1
theorem aW.uniq{l:List aJ}{a b:List br}(h:aW l a):aW l b→a=b:=by
 induction h generalizing b with
 | nil=>intro h2;rw[aW.nil_iff.1 h2]
 | one c l ns h0 h1 _ ih=>intro h2;obtain⟨_,n2,rfl,h3⟩:=(aW.one_iff h0).1 h2;rw[ih h3]
 | arr c l ns h0 h1 _ ih=>intro h2;obtain⟨_,n2,rfl,h3⟩:=(aW.arr_iff h0).1 h2;rw[ih h3]
theorem aW.len{l:List aJ}{a:List br}(h:aW l a):a.length≤l.length:=by
 induction h with
 | nil=>exact Nat.le_refl _
 | one c l ns h0 h1 _ ih=>simpa using ih
 | arr c l ns h0 h1 _ ih=>rw[List.length_drop]at ih;simp only[List.length_cons];omega
def bp(w:cj)(ns:List br):List br:=ns++w.locks.map bK.name++w.conds.map eK.name++w.futures++w.threads
def kP(n:Nat):Int→Int→List d6→Prop
 | _,_,[]=>True
 | t,x,s::l=>t≤s.thread∧s.thread<n∧s.stmt=(if t<s.thread then 0 else x)∧kP n s.thread (s.stmt+1) l
structure kQ(w:cj):Prop where
 c12:w.cells.length≤12
 l4:w.locks.length≤4
 d2:w.conds.length≤2
 f2:w.futures.length≤2
 s60:w.sites.length≤60
 t1:1≤w.threads.length
 t4:w.threads.length≤4
 names:∃ns,aW w.cells ns∧(∀s∈bp w ns,bv s=true)∧(bp w ns).Nodup
 mtx:∀c∈w.conds,eM w c.mutex false=true
 sites:kP w.threads.length 0 0 w.sites
end Go.Proofs.YtelgfgfgghpjgaaGreatDoor.Am
end
section
namespace Go.Proofs.YtelgfgfgghpjgaaGreatDoor.Am
set_option maxRecDepth 100000
set_option linter.unusedVariables false
theorem rJ.refl(K:SH):∀l:List AV,rJ K l l
 | []=>.nil
 | a::l=>.cons (.refl a) (rJ.refl K l)
theorem bM.pickE{vs vs2:List AV}{L R R2:SH}(h:iE L R)(hv:vs=vs2)(hR:R=R2):bM vs L vs2 R2:=by
 subst hR
 exact bM.pick h hv
end Go.Proofs.YtelgfgfgghpjgaaGreatDoor.Am
end
section
namespace Go.Proofs.YtelgfgfgghpjgaaGreatDoor.Am
set_option maxRecDepth 100000
set_option maxHeartbeats 1000000
set_option linter.unusedVariables false
theorem hM{α:Type}(S:α→List AV×SH)(m:α→Nat)(G:α→Prop){B:List AV→SH→W.Kn→Prop}{vs:List AV}{L:SH}(a0:α)(h0:G a0)(hz:bM vs L (S a0).1 (S a0).2)
  (h:∀a,G a→∀nx:W.Kn,(∀a',G a'→m a'<m a→∀vs' L',bM vs' L' (S a').1 (S a').2→nx vs' L')→B (S a).1 (S a).2 nx):W.loop B vs L:=by
 refine⟨fun n vs L=>∃a,G a∧m a=n∧vs=(S a).1∧L=(S a).2,⟨m a0,_,_,hz,a0,h0,rfl,rfl,rfl⟩,?_⟩
 rintro n vs L ⟨a,ha,rfl,rfl,rfl⟩
 exact h a ha _ fun a' g1 g2 vs' L' g3=>⟨m a',_,_,g2,g3,a',g1,rfl,rfl,rfl⟩
theorem uk{K:AV→Prop}(x y:aJ)(h:K (.bool (cV (x≠y)))):W.bin Tryz.prog Fl .neq 90 (.agg x.enc) (.agg y.enc) K:=by
 rw[b8]
 refine⟨.bool (cV (x≠y)),?_,h⟩
 have hF:Fl 90=some [9,3,3,4,2]:=by kernel_rfl
 have hi:Tryz.prog.underlying 3=some (.int .i64):=by kernel_rfl
 have hj:Tryz.prog.underlying 2=some (.int .i64):=by kernel_rfl
 have hb:Tryz.prog.underlying 4=some .bool:=by kernel_rfl
 have hs:Tryz.prog.underlying 9=some .string:=by kernel_rfl
 obtain⟨a1,a2,a3,a4,a5⟩:=x
 obtain⟨b1,b2,b3,b4,b5⟩:=y
 have he:cV ((⟨a1,a2,a3,a4,a5⟩:aJ)≠⟨b1,b2,b3,b4,b5⟩)=!(decide (a1=b1)&&decide (a2=b2)&&decide (a3=b3)&&decide (a4=b4)&&decide (a5=b5)):=by
  cases hd:(decide (a1=b1)&&decide (a2=b2)&&decide (a3=b3)&&decide (a4=b4)&&decide (a5=b5))with
  | true=>exact aZ fun hh=>hh (by simpa[and_assoc]using hd)
  | false=>
   refine bJ fun hh=>?_
   rw[aJ.mk.injEq]at hh
   obtain⟨h1,h2,h3,h4,h5⟩:=hh
   simp[h1,h2,h3,h4,h5]at hd
 rw[he]
 simp only[cX,aJ.enc,hF,Option.bind_some,nY,kR,hi,hj,hb,hs,if_true]
 by_cases h1:a1=b1<;>by_cases h2:a2=b2<;>by_cases h3:a3=b3<;>by_cases h4:a4=b4<;>by_cases h5:a5=b5<;>simp[h1,h2,h3,h4,h5]
theorem rQ{K:AV→Prop}(x y:aJ)(h:K (.bool (cV (x≠y)))):wb .neq 90 (.agg x.enc) (.agg y.enc) K:=wQ (uk x y h)
section
variable {l:List aJ} {Q:R} {nm:br} {sz ini:Int} {i nb bs bw:Nat} {n1:W.Kn} (hl:l.length≤12) (h1:1≤sz) (h4:sz≤4) (hf:sz≤(l.length-i:Nat))
 (hno:¬jg ⟨nm,0,sz,false,ini⟩ (l.drop i)→∀L,Q (.tup [.nils,.bool false]) L) (x:AV) (X Y:Blk)
 (hgo:jg ⟨nm,0,sz,false,ini⟩ (l.drop i)→∀ix,n1 [.lst (l.map aJ.enc),x,.int .i64 ((i+sz.toNat:Nat):Int)] [(nb,X),(bs,Y),(bw,⟨5,[[.str nm,.int .i64 ix,.int .i64 sz,.bool false,.int .i64 ini]]⟩)])
include hl h1 h4 hf hno hgo
theorem xf(ix:Int):W.loop (bD Q n1) [.lst (l.map aJ.enc),x,.int .i64 (i:Int),.ptr bw 0 0,.int .i64 sz,.int .i64 0] [(nb,X),(bs,Y),(bw,⟨5,[[.str nm,.int .i64 ix,.int .i64 sz,.bool false,.int .i64 ini]]⟩)]:=by
 obtain⟨m,rfl⟩:=Int.eq_ofNat_of_zero_le (show 0≤sz by omega)
 refine hM (α:=Nat×Int) (fun a=>([.lst (l.map aJ.enc),x,.int .i64 (i:Int),.ptr bw 0 0,.int .i64 (m:Int),.int .i64 (a.1:Int)],[(nb,X),(bs,Y),(bw,⟨5,[[.str nm,.int .i64 a.2,.int .i64 (m:Int),.bool false,.int .i64 ini]]⟩)])) (fun a=>m-a.1) (fun a=>a.1≤m∧∀j,j<a.1→l[i+j]? =some ⟨nm,j,m,false,ini⟩) (0,ix) ⟨Nat.zero_le _,fun j h=>absurd h (Nat.not_lt_zero _)⟩ (.refl _ _) ?_
 rintro⟨k,y⟩ ⟨hk,hG⟩ nx hnx
 unfold bD
 dsimp only at *
 rcases Nat.lt_or_ge k m with h | h
 ·have d1:decide ((k:Int)<(m:Int))=true:=dE h
  have hw1:IntKind.i64.wrap ((k:Int)+1)=((k+1:Nat):Int):=aY h (by omega)
  have hw2:IntKind.i64.wrap ((i:Int)+(k:Int))=((i+k:Nat):Int):=by rw[IntWalk.i64_in _ (by omega)];omega
  have hik:i+k<l.length:=by omega
  have hx:=aG (f:=aJ.enc) hik
  have hxe:l[i+k]? =some l[i+k]:=List.getElem?_eq_getElem hik
  generalize l[i+k]=c at hx hxe
  have hne:cV (c≠⟨nm,k,m,false,ini⟩)=true→∀L,Q (.tup [.nils,.bool false]) L:=fun hd=>hno fun hb=>by
   have h2:=hb.eq k (by show(k:Int)<(m:Int);omega)
   rw[List.getElem?_drop,hxe]at h2
   cases h2
   exact cW.1 hd rfl
  have hye:cV (c≠⟨nm,k,m,false,ini⟩)=false→∀j,j<k+1→l[i+j]? =some ⟨nm,j,m,false,ini⟩:=fun hd j hj=>by
   rcases Nat.lt_or_ge j k with g | g
   ·exact hG j g
   ·have e:j=k:=by omega
    subst e
    rw[hxe]
    by_cases hc:c=⟨nm,j,m,false,ini⟩
    ·rw[hc]
    ·rw[bJ hc]at hd;cases hd
  repeat' (first | refine st ?_ | refine rQ c ⟨nm,k,m,false,ini⟩ ?_ | refine sb (fun nb_ hnb_=>?_) | refine s2 (fun h=>?_) (fun h=>?_) | fail)
  ·exact hne (by assumption) _
  ·exact hnx (k+1,k) ⟨by dsimp only;omega,hye (by assumption)⟩ (by dsimp only;omega) _ _ (.refl _ _)
 ·have d1:decide ((k:Int)<(m:Int))=false:=dF h
  have hw2:IntKind.i64.wrap ((i:Int)+(m:Int))=((i+m:Nat):Int):=by rw[IntWalk.i64_in _ (by omega)];omega
  obtain rfl:k=m:=by omega
  repeat' (first | refine st ?_ | refine sb (fun nb_ hnb_=>?_) | refine s2 (fun h=>?_) (fun h=>?_) | fail)
  exact hgo ⟨h1,h4,by rw[List.length_drop];omega,fun j hj=>by rw[List.getElem?_drop];exact hG j (by simpa using hj)⟩ y
end
theorem iX (l : List aJ) (hl : l.length ≤ 12) {Q : R} (hy : ∀ ns L v, aW l ns → Fz L v (.lst (ns.map aN)) → Q (.tup [v, .bool true]) L) (hn : (∀ ns, ¬ aW l ns) → ∀ L, Q (.tup [.nils, .bool false]) L) :
    bT (.lst (l.map aJ.enc)) [] Q:=by
  unfold bT
  refine hM (α:=Nat×List br×Option Nat) (fun a=>([.lst (l.map aJ.enc),bS a.2.2 a.2.1.length,.int .i64 (a.1:Int)],bf a.2.2 1 (a.2.1.map aN))) (fun a=>l.length-a.1) (fun a=>bZ l a.1 a.2.1∧(a.2.2=none→a.2.1=[])) (0,[],none) ⟨.zero l,fun _=>rfl⟩ (bM.drop (K:=[]) (.refl _) rfl ((rJ.cons (.refl _) (.cons .nile (.cons (.refl _) .nil))).at_.2)) ?_
  rintro⟨i,acc,o⟩ ⟨hV,ho⟩ nx hnx
  unfold cL
  dsimp only at *
  have hva:=hV.2.1
  rcases Nat.lt_or_ge i l.length with h | h
  · have hx:=aG (f:=aJ.enc) h
    have d1:decide ((i:Int)<(l.length:Int))=true:=dE h
    have hw1:IntKind.i64.wrap ((i:Int)+1)=((i+1:Nat):Int):=aY h (by omega)
    have hw2:IntKind.i64.wrap ((l.length:Int)-(i:Int))=((l.length-i:Nat):Int):=by rw[IntWalk.i64_in _ (by omega)];omega
    have hs0:l[i].size=0→l[i].index≠0→∀ns,¬aW l ns:=hV.no1 h
    have hs1:l[i].size=0→l[i].index=0→bZ l (i+1) (acc++[l[i].name]):=hV.step h
    have hs2:l[i].size≠0→¬jg l[i] (l.drop i)→∀ns,¬aW l ns:=hV.no2 h
    have hs3:l[i].size≠0→jg l[i] (l.drop i)→bZ l (i+l[i].size.toNat) (acc++[l[i].name]):=hV.jump h
    have hgo:∀j nb_ L',bZ l j (acc++[l[i].name])→i<j→iE L' [(nb_,⟨1,acc.map aN++[[.str l[i].name]]⟩)]→nx [.lst (l.map aJ.enc),.sl nb_ 0 (acc.length+1),.int .i64 (j:Int)] L':=fun j nb_ L' h1 h2 h3=>
      hnx (j,acc++[l[i].name],some nb_) ⟨h1,nofun⟩ (by have:=h1.1;dsimp only;omega) _ _ (bM.pickE h3 (by simp[bS]) (by simp[bf,aN]))
    have hxe:(l.drop i)[0]? =some l[i]:=by rw[List.getElem?_drop];exact List.getElem?_eq_getElem h
    clear hnx hV
    generalize l[i]=c at *
    obtain⟨nm,ix,sz,vo,ini⟩:=c
    unfold aJ.enc at hx
    dsimp only at *
    have hbe:jg ⟨nm,ix,sz,vo,ini⟩ (l.drop i)→1≤sz∧sz≤4∧vo=false∧sz≤(l.length-i:Nat):=fun hb=>by
      have h1:=hb.lo
      have h2:=hb.eq 0 (by show(0:Int)<sz;have:=hb.lo;dsimp only at this;omega)
      rw[hxe]at h2
      cases h2
      exact⟨h1,hb.hi,rfl,by have:=hb.fits;rw[List.length_drop]at this;exact this⟩
    have hbq:jg ⟨nm,0,sz,false,ini⟩ (l.drop i)→jg ⟨nm,ix,sz,vo,ini⟩ (l.drop i):=fun hb=>by
      have h2:=hb.eq 0 (by show(0:Int)<sz;have:=hb.lo;dsimp only at this;omega)
      rw[hxe]at h2
      cases h2
      exact hb
    repeat' (first | refine st ?_ | refine hZ mm rp (by simp) (fun e=>by simp[ho e]) (by rfl) (by simp) (by simp;omega) (by simp;omega) (by rfl) (fun nb_ hnb_=>?_) | refine sb (fun nb_ hnb_=>?_) | refine s2 (fun h=>?_) (fun h=>?_) | fail)
    all_goals first
      | exact hn (hs0 (of_decide_eq_true (by assumption)) (of_decide_eq_true (by assumption))) _
      | (refine hgo (i+1) _ _ (hs1 (of_decide_eq_true (by assumption)) ?_) (Nat.lt_succ_self _) rp;clear hgo hn hy hs0 hs1 hs2 hs3 hbe hbq;simp only[ne_eq,decide_eq_false_iff_not,Decidable.not_not]at *;assumption)
      | (refine hn (hs2 (of_decide_eq_false (by assumption)) fun hb => ?_) _
         have hb:=hbe hb
         clear hgo hn hy hs0 hs1 hs2 hs3 hbe hbq
         (simp only[decide_eq_true_eq,decide_eq_false_iff_not]at *;simp_all<;>omega))
      | skip
    rename_i h1 h2 h3 h4
    subst h4
    simp only[decide_eq_false_iff_not]at h h1 h2 h3
    refine xf hl (by omega) (by omega) (by omega) (fun hb=>hn (hs2 (by omega) fun hc=>hb ?_)) _ _ _ (fun hb y=>hgo _ _ _ (hs3 (by omega) (hbq hb)) (by have:=hb.lo;dsimp only at this;omega) rp) ix
    have h5:=hc.eq 0 (by show(0:Int)<sz;omega)
    rw[hxe]at h5
    cases h5
    exact hc
  · have d1:decide ((i:Int)<(l.length:Int))=false:=dF h
    repeat' (first | refine st ?_ | refine sb (fun nb_ hnb_=>?_) | refine s2 (fun h=>?_) (fun h=>?_) | fail)
    exact hy acc _ _ (hV.done h) (Fz.slot rfl (fun e=>by simp[ho e]) (by decide) (fun _ _=>rfl) fun _ _ q a a2 h1 h2=>by rw[h1]at h2;cases h2;exact .refl _)
end Go.Proofs.YtelgfgfgghpjgaaGreatDoor.Am
end
section
namespace Go.Proofs.YtelgfgfgghpjgaaGreatDoor.Am
set_option linter.unusedVariables false
set_option maxRecDepth 100000
def gn(n10:Kn)(L11:SH)(x14 x16 x13 x12 x15:AV):Prop:=
 pT 2 x14 x16 L11 fun x19=>
 pU [(.str []),(.bool false)] 2 x19 L11 fun x23 L24=>
 aF 0 x23 L24 fun x26=>
 W.bslice 1 [(.str [])] 1 [(0,x26)] L24 fun x27 L28=>
 W.append 1 16 x13 x27 L28 fun x29 L30=>
 wb .add 3 x16 (.int .i64 1) fun x31=>
 n10 [x12,x29,x14,x15,x31] L30
def gp(n36:Kn)(L37:SH)(x40 x42 x39 x38 x41:AV):Prop:=
 pT 2 x40 x42 L37 fun x45=>
 pU [(.str []),(.int .i64 0)] 2 x45 L37 fun x49 L50=>
 aF 0 x49 L50 fun x52=>
 W.bslice 1 [(.str [])] 1 [(0,x52)] L50 fun x53 L54=>
 W.append 1 16 x39 x53 L54 fun x55 L56=>
 wb .add 3 x42 (.int .i64 1) fun x57=>
 n36 [x38,x55,x40,x41,x57] L56
def gq(Q:R)(n70:Kn)(x72 x78 x75 x73 x74 x79:AV)(L80:SH):Prop:=
 W.un .not x79 fun x81=>
 bN x81 false x72 L80 fun x82 L84=>
 bN x81 false x78 L84 fun x85 L87=>
 wg x81 false (W.look (.bool false) false x82 x85 L87) L87 fun x88 L90=>
 W.pick x81 (.bool true) x88 fun x92=>
 wk x92 (
 Q (.bool false) L90) (
 W.mup x72 x78 (.bool true) L90 fun L93=>
 wb .add 3 x75 (.int .i64 1) fun x94=>
 n70 [x72,x73,x74,x94] L93)
def bE(Q:R)(v69:Vs)(L71:SH)(n70:Kn):Prop:=
 rK 10 51 52 53 v69 fun x72 x73 x74 x75=>
 wb .lss 3 x75 x74 fun x76=>
 wk x76 (
 tK 1 x73 x75 L71 fun x78=>
 wc (.fn 85 []) [x78] L71 (gq Q n70 x72 x78 x75 x73 x74)) (
 Q (.bool true) L71)
def gr(Q:R)(L37:SH)(x38 x39:AV):Prop:=
 aF 3 x38 L37 fun x59=>
 W.append 1 16 x39 x59 L37 fun x60 L61=>
 aF 4 x38 L61 fun x63=>
 W.append 1 16 x60 x63 L61 fun x64 L65=>
 W.mkmap L65 fun x66 L67=>
 W.len x64 fun x68=>
 W.loop (bE Q) [x66,x64,x68,(.int .i64 0)] L67
def bF(Q:R)(v35:Vs)(L37:SH)(n36:Kn):Prop:=
 uh 2 5 30 31 32 v35 fun x38 x39 x40 x41 x42=>
 wb .lss 3 x42 x41 fun x43=>
 wk x43 (
 (gp n36 L37 x40 x42 x39 x38 x41)) (
 (gr Q L37 x38 x39))
def bG(Q:R)(v9:Vs)(L11:SH)(n10:Kn):Prop:=
 uh 2 5 17 18 19 v9 fun x12 x13 x14 x15 x16=>
 wb .lss 3 x16 x15 fun x17=>
 wk x17 (
 (gn n10 L11 x14 x16 x13 x12 x15)) (
 aF 2 x12 L11 fun x33=>
 W.len x33 fun x34=>
 W.loop (bF Q) [x12,x13,x33,x34,(.int .i64 0)] L11)
def bU(t0 t1:AV)(L:SH)(Q:R):Prop:=
 pV t0 L fun x2 L3=>
 W.append 1 16 .nils t1 L3 fun x4 L5=>
 aF 1 x2 L5 fun x7=>
 W.len x7 fun x8=>
 W.loop (bG Q) [x2,x4,x7,x8,(.int .i64 0)] L5
theorem gt(t0 t1:AV)(L:SH)(Q:R)(h:bU t0 t1 L Q):al Tryz.prog 54 [t0,t1] L Q:=
 bg ⟨fun _=>none,fun k=>if k=4 then [2,5,17,18,19]else if k=9 then [2,5,30,31,32]else if k=17 then [10,51,52,53]else [],fun k=>if k=0 then [2]else if k=5 then [7]else if k=10 then [9]else [],fun _=>[]⟩ Tryz.func54 (by kernel_rfl) (by kernel_rfl) h
def lu(Q:R)(n26:Kn)(L62:SH)(x32 x33 x28:AV):Prop:=
 wb .gtr 3 x32 (.int .i64 0) fun x65=>
 bN x65 true x33 L62 fun x66 L68=>
 wg x65 true (wb .eql 21 x66 (.int .i32 95)) L68 fun x69 L71=>
 bN x65 true x69 L71 fun x73 L75=>
 bN x73 false x33 L75 fun x76 L78=>
 wg x73 false (wb .leq 21 (.int .i32 48) x76) L78 fun x79 L81=>
 bN x73 false x79 L81 fun x83 L85=>
 bN x83 true x33 L85 fun x86 L88=>
 wg x83 true (wb .leq 21 x86 (.int .i32 57)) L88 fun x89 L91=>
 wg x73 false (W.pick x83 x89 (.bool false)) L91 fun x93 L95=>
 wg x65 true (W.pick x73 (.bool true) x93) L95 fun x97 L99=>
 W.pick x65 x97 (.bool false) fun x101=>
 wk x101 (
 n26 [x28] L99) (
 Q (.bool false) L99)
def lv(Q:R)(n26:Kn)(L30:SH)(x29 x28:AV):Prop:=
 W.ext 1 x29 fun x32=>
 W.ext 2 x29 fun x33=>
 wb .leq 21 (.int .i32 97) x33 fun x34=>
 bN x34 true x33 L30 fun x35 L37=>
 wg x34 true (wb .leq 21 x35 (.int .i32 122)) L37 fun x38 L40=>
 W.pick x34 x38 (.bool false) fun x42=>
 bN x42 false x33 L40 fun x43 L45=>
 wg x42 false (wb .leq 21 (.int .i32 65) x43) L45 fun x46 L48=>
 bN x42 false x46 L48 fun x50 L52=>
 bN x50 true x33 L52 fun x53 L55=>
 wg x50 true (wb .leq 21 x53 (.int .i32 90)) L55 fun x56 L58=>
 wg x42 false (W.pick x50 x56 (.bool false)) L58 fun x60 L62=>
 W.pick x42 (.bool true) x60 fun x64=>
 wk x64 (
 n26 [x28] L62) (
 (lu Q n26 L62 x32 x33 x28))
def fV(Q:R)(v25:Vs)(L27:SH)(n26:Kn):Prop:=
 xM 18 v25 fun x28=>
 W.nxt x28 L27 fun x29 L30=>
 W.ext 0 x29 fun x31=>
 wk x31 (
 (lv Q n26 L30 x29 x28)) (
 Q (.bool true) L30)
def hO(t0:AV)(L:SH)(Q:R):Prop:=
 W.lenS t0 fun x0=>
 wb .lss 3 x0 (.int .i64 1) fun x1=>
 bN x1 false t0 L fun x2 L4=>
 wg x1 false (W.lenS x2) L4 fun x5 L7=>
 wg x1 false (wb .gtr 3 x5 (.int .i64 12)) L7 fun x9 L11=>
 W.pick x1 (.bool true) x9 fun x13=>
 bN x13 false t0 L11 fun x14 L16=>
 W.grd x13 false (fun k18=>wc (.fn 110 []) [x14] L16 fun x20 L21=>
 k18 x20 L21) L16 fun x17 L19=>
 W.pick x13 (.bool true) x17 fun x22=>
 wk x22 (
 Q (.bool false) L19) (
 W.rngS t0 L19 fun x23 L24=>
 W.loop (fV Q) [x23] L24)
theorem lw(t0:AV)(L:SH)(Q:R)(h:hO t0 L Q):al Tryz.prog 85 [t0] L Q:=
 bg ⟨fun _=>none,fun k=>if k=4 then [18]else [],fun _=>[],fun _=>[]⟩ Tryz.func85 (by kernel_rfl) (by kernel_rfl) h
def dR(Q:R)(v1:Vs)(L3:SH)(n2:Kn):Prop:=
 px 0 5 6 v1 fun x4 x5 x6=>
 wb .lss 3 x6 (.int .i64 22) fun x7=>
 wk x7 (
 W.ixA false 22 1 x5 x6 fun x8=>
 wb .eql 9 x4 x8 fun x9=>
 wk x9 (
 Q (.bool true) L3) (
 wb .add 3 x6 (.int .i64 1) fun x10=>
 n2 [x4,x5,x10] L3)) (
 Q (.bool false) L3)
def ef(t0:AV)(L:SH)(Q:R):Prop:=
 cH 22 (vT 1) L fun x0=>
 W.loop (dR Q) [t0,x0,(.int .i64 0)] L
theorem jh(t0:AV)(L:SH)(Q:R)(h:ef t0 L Q):al Tryz.prog 110 [t0] L Q:=
 bg ⟨fun _=>none,fun k=>if k=2 then [0,5,6]else [],fun _=>[],fun _=>[]⟩ Tryz.func110 (by kernel_rfl) (by kernel_rfl) h
end Go.Proofs.YtelgfgfgghpjgaaGreatDoor.Am
end
section
namespace Go.Proofs.YtelgfgfgghpjgaaGreatDoor.Am
set_option maxRecDepth 100000
set_option maxHeartbeats 1000000
set_option linter.unusedVariables false
set_option linter.unusedSimpArgs false
theorem tq:vT 1=.pptr [fU.map .str] 0 0:=rfl
theorem vL{i:Nat}(h:i<fU.length):W0.rowLd false 1 (fU.map .str) ((i:Int).toNat*1)=some (.str fU[i]):=by
 unfold W0.rowLd
 simp[h]
theorem u3(s:br):ax Tryz.prog 110 [.str s] (.bool (oF s)):=by
 refine jh _ _ _ ?_
 unfold ef
 rw[tq]
 have hk:oF s=fU.any fun x=>decide (s=x):=by simp only[oF,eq_comm]
 repeat' (first | refine st ?_ | refine sb (fun nb_ hnb_=>?_) | refine s2 (fun h=>?_) (fun h=>?_) | fail)
 refine eZ fU (fun x=>decide (s=x)) (fun i=>[.str s,.agg (fU.map .str),.int .i64 i]) (by decide) rfl (fun i h1 hd hi hno nx hn=>?_) (fun i h1 hd hno nx=>?_)
 all_goals unfold dR
 ·have hx:=vL h1
  have hd2:decide ((i:Int)<22)=true:=hd
  have h22:(i:Int).toNat<22:=h1
  repeat' (first | refine st ?_ | refine wH (Int.natCast_nonneg _) h22 hx ?_ | refine sb (fun nb_ hnb_=>?_) | refine s2 (fun h=>?_) (fun h=>?_) | fail)
  ·exact⟨by rw[hk,rd h1 h],rfl⟩
  ·exact hn h
 ·have hd2:decide ((i:Int)<22)=false:=hd
  repeat' (first | refine st ?_ | refine sb (fun nb_ hnb_=>?_) | refine s2 (fun h=>?_) (fun h=>?_) | fail)
  exact⟨by rw[hk,tc hno],rfl⟩
theorem xg{s:br}{i:Nat}(h:i<s.length):(⟨s.toArray⟩:ByteArray).get! i=s[i]:=by
 show s.toArray[i]! =s[i]
 simp[h]
theorem xh{s:br}{i:Nat}(h:i<s.length):∃c wd,Utf8.decode ⟨s.toArray⟩ i=(c,wd)∧((c=s[i].toNat∧wd=1∧c<128)∨(128≤c∧128≤s[i].toNat)):=by
 refine⟨(Utf8.decode ⟨s.toArray⟩ i).1,(Utf8.decode ⟨s.toArray⟩ i).2,rfl,?_⟩
 unfold Utf8.decode
 simp only[Nat.add_zero,xg h]
 by_cases hb:s[i].toNat<128
 ·rw[if_pos hb]
  exact .inl ⟨rfl,rfl,hb⟩
 ·rw[if_neg hb]
  refine .inr ⟨?_,by omega⟩
  have h0:128≤Utf8.runeError:=by decide
  repeat' split
  all_goals first
   | exact h0
   | (simp only[ge_iff_le,Bool.and_eq_true,decide_eq_true_eq]at *;omega)
theorem rj(s:br):ax Tryz.prog 85 [.str s] (.bool (bv s)):=by
 refine al.fz (lw _ _ _ ?_)
 unfold hO
 generalize hQ:(fun(v:AV) (L:SH)=>∃v2 L2,bM [v] L [v2] L2∧v2=AV.bool (bv s)∧L2=[])=Q
 have hq:∀b L,bv s=b→Q (.bool b) L:=fun b L h=>by subst hQ;exact⟨_,[],bM.all (.refl _),by rw[h],rfl⟩
 clear hQ
 by_cases h0:1≤s.length∧s.length≤12∧oF s=false
 ·obtain⟨h1,h12,hk⟩:=h0
  have hkk:=u3 s
  rw[hk]at hkk
  have d1:decide ((s.length:Int)<1)=false:=decide_eq_false (by omega)
  have d2:decide ((s.length:Int) > 12)=false:=decide_eq_false (by omega)
  have hno:∀i (h:i<s.length),¬(cT s[i].toNat=true∧(i=0→cD s[i].toNat=true))→bv s=false:=fun i h hb=>by
   cases hn:bv s with
   | false=>rfl
   | true=>
    exfalso
    unfold bv at hn
    simp only[Bool.and_eq_true,List.all_eq_true]at hn
    refine hb ⟨hn.2 _ (List.getElem_mem h),fun e=>?_⟩
    subst e
    have:=hn.1.1.2
    simpa[List.getD,h]using this
  repeat' (first | refine st ?_ | ((with_reducible refine am 110 ?_);refine ae (hkk) ?_) | ((with_reducible refine af 110 ?_);refine ab (hkk) ?_) | refine vG (fun nb_ hnb_=>?_) | refine sb (fun nb_ hnb_=>?_) | refine s2 (fun h=>?_) (fun h=>?_) | fail)
  refine kM (fun i:Nat=>([.it nb_],[(nb_,⟨0,[[.str s,.int .i64 (i:Int)]]⟩)])) (fun i=>s.length-i) (fun i=>i≤s.length∧∀j (h:j<s.length),j<i→cT s[j].toNat=true∧(j=0→cD s[j].toNat=true)) 0 ⟨Nat.zero_le _,fun j h h2=>absurd h2 (Nat.not_lt_zero _)⟩ rfl rfl (fun i hG nx hn=>?_)
  obtain⟨hi,hG⟩:=hG
  unfold fV
  dsimp only
  rcases Nat.lt_or_ge i s.length with h | h
  ·obtain⟨c,wd,hd,hc⟩:=xh h
   replace hno:=hno i h
   have hgo:cT s[i].toNat=true∧(i=0→cD s[i].toNat=true)→nx [.it nb_] [(nb_,⟨0,[[.str s,.int .i64 ((i+1:Nat):Int)]]⟩)]:=fun hb=>hn (i+1) ⟨h,fun j hj hji=>by
    rcases Nat.lt_or_ge j i with g | g
    ·exact hG j hj g
    ·have e:j=i:=by omega
     subst e;exact hb⟩ (by omega)
   clear hn hG
   repeat' (first | refine st ?_ | refine sb (fun nb_ hnb_=>?_) | refine s2 (fun h=>?_) (fun h=>?_) | fail)
   refine xd (.head _) h (.here _) ?_
   simp only[hd]
   clear hd
   rcases hc with⟨rfl,rfl,hc⟩ | ⟨hc,hb⟩
   ·generalize s[i].toNat=x at *
    repeat' (first | refine st ?_ | refine sb (fun nb_ hnb_=>?_) | refine s2 (fun h=>?_) (fun h=>?_) | fail)
    all_goals first
     | (refine hgo ?_;clear hgo hno hq;simp only[cT,cD,kO,Bool.or_eq_true,Bool.and_eq_true,decide_eq_true_eq,decide_eq_false_iff_not]at *;omega)
     | (refine hq _ _ (hno ?_);clear hgo hno hq;simp only[cT,cD,kO,Bool.or_eq_true,Bool.and_eq_true,decide_eq_true_eq,decide_eq_false_iff_not]at *;omega)
   ·generalize s[i].toNat=x at *
    have e1:decide ((c:Int)≤122)=false:=decide_eq_false (by omega)
    have e2:decide ((c:Int)≤90)=false:=decide_eq_false (by omega)
    have e3:decide ((c:Int)≤57)=false:=decide_eq_false (by omega)
    have e4:decide ((c:Int)=95)=false:=decide_eq_false (by omega)
    repeat' (first | refine st ?_ | refine sb (fun nb_ hnb_=>?_) | refine s2 (fun h=>?_) (fun h=>?_) | fail)
    all_goals first
     | (refine hq _ _ (hno ?_);clear hgo hno hq;simp only[cT,cD,kO,Bool.or_eq_true,Bool.and_eq_true,decide_eq_true_eq,decide_eq_false_iff_not]at *;omega)
  ·repeat' (first | refine st ?_ | refine sb (fun nb_ hnb_=>?_) | refine s2 (fun h=>?_) (fun h=>?_) | fail)
   refine rO (.head _) (by omega) ?_
   repeat' (first | refine st ?_ | refine sb (fun nb_ hnb_=>?_) | refine s2 (fun h=>?_) (fun h=>?_) | fail)
   refine hq _ _ ?_
   unfold bv
   have e1:(s.all fun c=>cT c.toNat)=true:=List.all_eq_true.2 fun x hx=>by
    obtain⟨j,hj,rfl⟩:=List.getElem_of_mem hx
    exact(hG j hj (by omega)).1
   have e2:cD ((s.getD 0 0).toNat:Nat)=true:=by
    have:=(hG 0 (by omega) (by omega)).2 rfl
    simpa[List.getD,show 0<s.length by omega]using this
   rw[e1,e2,hk]
   simp
   omega
 ·have hkk:=u3 s
  have hf:bv s=false:=by
   cases hn:bv s with
   | false=>rfl
   | true=>
    exfalso
    refine h0 ?_
    unfold bv at hn
    simp only[Bool.and_eq_true,decide_eq_true_eq,Bool.not_eq_true']at hn
    exact⟨by omega,by omega,hn.1.2⟩
  cases hk:oF s with
  | true=>
   rw[hk]at hkk
   repeat' (first | refine st ?_ | ((with_reducible refine am 110 ?_);refine ae (hkk) ?_) | ((with_reducible refine af 110 ?_);refine ab (hkk) ?_) | refine sb (fun nb_ hnb_=>?_) | refine s2 (fun h=>?_) (fun h=>?_) | fail)
   all_goals exact hq _ _ hf
  | false=>
   rw[hk]at hkk
   repeat' (first | refine st ?_ | ((with_reducible refine am 110 ?_);refine ae (hkk) ?_) | ((with_reducible refine af 110 ?_);refine ab (hkk) ?_) | refine sb (fun nb_ hnb_=>?_) | refine s2 (fun h=>?_) (fun h=>?_) | fail)
   all_goals first
    | exact hq _ _ hf
    | (exfalso;refine h0 ⟨?_,?_,hk⟩<;>simp only[decide_eq_true_eq,decide_eq_false_iff_not]at * <;>omega)
end Go.Proofs.YtelgfgfgghpjgaaGreatDoor.Am
end
section
namespace Go.Proofs.YtelgfgfgghpjgaaGreatDoor.Am
set_option maxRecDepth 100000
set_option maxHeartbeats 1000000
set_option linter.unusedVariables false
def fL(A:List br):Prop:=(∀s∈A,bv s=true)∧A.Nodup
def fa(l:List br):List (List AV):=l.map fun s=>[.str s,.bool true]
theorem qr(l:List br):(fa l).all jv=true:=by
 induction l with
 | nil=>rfl
 | cons s l ih=>simp only[fa,List.map_cons,List.all_cons]at *;rw[ih];rfl
theorem ig{s:br}:∀{l:List br} {k:Nat},(s∉l→cI s (fa l) k=none)∧(s∈l→∃j,cI s (fa l) k=some (j,.bool true))
 | [],k=>⟨fun _=>rfl,fun h=>by simp at h⟩
 | x::l,k=>by
  have ih:=ig (s:=s) (l:=l) (k:=k+1)
  have e:cI s (fa (x::l)) k=if s==x then some (k,.bool true)else cI s (fa l) (k+1):=rfl
  rw[e]
  by_cases h:s=x
  ·subst h
   exact⟨fun h=>by simp at h,fun _=>⟨k,by simp⟩⟩
  ·have:(s==x)=false:=by simpa using h
   rw[this]
   exact⟨fun h2=>ih.1 (by simp at h2;exact h2.2),fun h2=>ih.2 (by simpa[h]using h2)⟩
theorem ul{s:br}{l:List br}(h:s∉l):W0.found (.bool false) false (cI s (fa l) 0)=.bool false:=by rw[ig.1 h];rfl
theorem tt{s:br}{l:List br}(h:s∈l):W0.found (.bool false) false (cI s (fa l) 0)=.bool true:=by obtain⟨j,hj⟩:=(ig (k:=0)).2 h;rw[hj];rfl
theorem tu{s:br}{l:List br}(h:s∉l):W0.putR s (.bool true) (fa l)=fa (l++[s]):=by
 unfold W0.putR
 rw[ig.1 h]
 simp[fa]
theorem um{o:Option Nat}{k:Nat}{K:AV→Prop}(h:K (.int .i64 (k:Int)))(h0:o=none→k=0):W.len (bS o k) K:=by
 cases o with
 | none=>rw[h0 rfl]at h;exact qW h
 | some b=>exact qU h
theorem tv{α:Type}{f:α→List AV}{l:List α}{n by_:Nat}{L:SH}{KL:AV→SH→Prop}(hn:∀x,(f x).length=n)(h2:2*l.length*by_≤2^48)(h3:2*l.length≤2^62)(h4:∀x,(f x).all AV.one=true)
  (h:l=[]→KL .nils L) (h':∀b,b∉L.names→KL (.sl b 0 l.length) ((b,⟨n,l.map f⟩)::L)):W.append n by_ .nils (.lst (l.map f)) L KL:=by
 have h4':((l.map f).all fun r=>r.all AV.one)=true:=by
  rw[List.all_eq_true]
  intro r hr
  obtain⟨x,_,rfl⟩:=List.mem_map.1 hr
  exact h4 x
 refine⟨[],l.map f,rfl,ou hn,by simpa using h2,by simpa using h3,h4',fun e=>?_,fun e b hb=>?_⟩
 ·exact h (by simpa using e)
 ·have:=h' b hb
  simpa using this
theorem xi{A:List br}(hA:A.length<2^40){Q:R}(hq:∀b L,cV (fL A)=b→Q (.bool b) L){vs:List AV}{L:SH}{bm:Nat}(hz:bM vs L [.mp bm,.lst (A.map aN),.int .i64 A.length,.int .i64 0] [(bm,⟨0,[]⟩)]):W.loop (bE Q) vs L:=by
 refine hM (α:=Nat) (fun i=>([.mp bm,.lst (A.map aN),.int .i64 A.length,.int .i64 (i:Int)],[(bm,⟨0,fa (A.take i)⟩)])) (fun i=>A.length-i) (fun i=>i≤A.length∧fL (A.take i)) 0 ⟨Nat.zero_le _,by simp[fL]⟩ hz ?_
 rintro i ⟨hi,hG⟩ nx hnx
 unfold bE
 dsimp only
 rcases Nat.lt_or_ge i A.length with h | h
 ·have d1:decide ((i:Int)<(A.length:Int))=true:=dE h
  have hw1:IntKind.i64.wrap ((i:Int)+1)=((i+1:Nat):Int):=aY h (by omega)
  have hx:=aG (f:=aN) h
  have hok:=rj A[i]
  have ht:=List.take_succ_eq_append_getElem h
  have hno:¬fL (A.take (i+1))→∀L,Q (.bool false) L:=fun hb L=>hq _ _ (aZ fun hN=>hb ⟨fun s hs=>hN.1 s (List.mem_of_mem_take hs),hN.2.sublist (List.take_sublist _ _)⟩)
  have hgo:fL (A.take (i+1))→nx [.mp bm,.lst (A.map aN),.int .i64 A.length,.int .i64 ((i+1:Nat):Int)] [(bm,⟨0,fa (A.take (i+1))⟩)]:=fun hb=>hnx (i+1) ⟨h,hb⟩ (by omega) _ _ (.refl _ _)
  rw[ht]at hno hgo
  clear hq hnx ht hz
  generalize A[i]=s at *
  generalize A.take i=l at *
  have hk:=qr l
  cases hnm:bv s with
  | false=>
   rw[hnm]at hok
   have hb:¬fL (l++[s]):=fun hb=>by have:=hb.1 s (by simp);rw[hnm]at this;cases this
   repeat' (first | refine st ?_ | ((with_reducible refine am 85 ?_);refine ae (hok) ?_) | ((with_reducible refine af 85 ?_);refine ab (hok) ?_) | refine sb (fun nb_ hnb_=>?_) | refine s2 (fun h=>?_) (fun h=>?_) | fail)
   all_goals exact hno hb _
  | true=>
   rw[hnm]at hok
   by_cases hm:s∈l
   ·have hf:=tt hm
    have hb:¬fL (l++[s]):=fun hb=>by
     have:=(List.nodup_append.1 hb.2).2.2 s hm s (by simp)
     exact this rfl
    repeat' (first | refine st ?_ | ((with_reducible refine am 85 ?_);refine ae (hok) ?_) | ((with_reducible refine af 85 ?_);refine ab (hok) ?_) | refine tg (.head _) hk hf ?_ | refine sb (fun nb_ hnb_=>?_) | refine s2 (fun h=>?_) (fun h=>?_) | fail)
    all_goals exact hno hb _
   ·have hf:=ul hm
    have hp:=tu hm
    have hb:fL (l++[s]):=⟨fun x hx=>by
     rcases List.mem_append.1 hx with h | h
     ·exact hG.1 x h
     ·rw[List.mem_singleton.1 h];exact hnm,List.nodup_append.2 ⟨hG.2,by simp,fun a ha b hb=>by rw[List.mem_singleton.1 hb];rintro rfl;exact hm ha⟩⟩
    repeat' (first | refine st ?_ | ((with_reducible refine am 85 ?_);refine ae (hok) ?_) | ((with_reducible refine af 85 ?_);refine ab (hok) ?_) | refine tg (.head _) hk hf ?_ | refine xc (.here _) hk rfl hp ?_ | refine sb (fun nb_ hnb_=>?_) | refine s2 (fun h=>?_) (fun h=>?_) | fail)
    all_goals exact hgo hb
 ·have d1:decide ((i:Int)<(A.length:Int))=false:=dF h
  rw[List.take_of_length_le h]at hG
  repeat' (first | refine st ?_ | refine sb (fun nb_ hnb_=>?_) | refine s2 (fun h=>?_) (fun h=>?_) | fail)
  exact hq _ _ (bJ hG)
section
variable {w:cj} {Q:R} {ns:List br} (hns:ns.length≤12) (h4:w.locks.length≤4) (h2:w.conds.length≤2) (hf2:w.futures.length≤2) (ht4:w.threads.length≤4) (hq:∀b L,cV (fL (bp w ns))=b→Q (.bool b) L)
include hns h4 h2 hf2 ht4 hq
theorem xj{vs:List AV}{L:SH}(o:Option Nat)(ho:o=none→ns++w.locks.map bK.name=[])(hz:bM vs L [.pptr [w.enc] 0 0,bS o (ns++w.locks.map bK.name).length,.lst (w.conds.map eK.enc),.int .i64 w.conds.length,.int .i64 0] (bf o 1 ((ns++w.locks.map bK.name).map aN))):W.loop (bF Q) vs L:=by
 obtain⟨S,hS⟩:∃S:Nat→List br,S=fun i=>ns++w.locks.map bK.name++(w.conds.take i).map eK.name:=⟨_,rfl⟩
 have hS0:S 0=ns++w.locks.map bK.name:=by subst hS;simp
 have hSl:S w.conds.length++w.futures++w.threads=bp w ns:=by subst hS;simp[bp]
 have hSs:∀i (h:i<w.conds.length),S (i+1)=S i++[w.conds[i].name]:=fun i h=>by subst hS;simp only[List.take_succ_eq_append_getElem h,List.map_append,List.append_assoc,List.map_cons,List.map_nil]
 have hSn:∀i,(S i).length≤18:=fun i=>by subst hS;rw[List.length_append,List.length_append,List.length_map,List.length_map,List.length_take];omega
 rw[←hS0]at hz ho
 clear hS0 hS
 refine hM (α:=Nat×Option Nat) (fun a=>([.pptr [w.enc] 0 0,bS a.2 (S a.1).length,.lst (w.conds.map eK.enc),.int .i64 w.conds.length,.int .i64 (a.1:Int)],bf a.2 1 ((S a.1).map aN))) (fun a=>w.conds.length-a.1) (fun a=>a.1≤w.conds.length∧(a.2=none→S a.1=[])) (0,o) ⟨Nat.zero_le _,ho⟩ hz ?_
 rintro⟨i,o⟩ ⟨hi,ho⟩ nx hnx
 unfold bF
 dsimp only at *
 have hA:=hSn i
 rcases Nat.lt_or_ge i w.conds.length with h | h
 ·have d1:decide ((i:Int)<(w.conds.length:Int))=true:=dE h
  have hw1:IntKind.i64.wrap ((i:Int)+1)=((i+1:Nat):Int):=aY h (by omega)
  have hx:=aG (f:=eK.enc) h
  have hgo:∀nb_ L',iE L' [(nb_,⟨1,(S i).map aN++[[.str w.conds[i].name]]⟩)]→nx [.pptr [w.enc] 0 0,.sl nb_ 0 ((S i).length+1),.lst (w.conds.map eK.enc),.int .i64 w.conds.length,.int .i64 ((i+1:Nat):Int)] L':=fun nb_ L' h3=>
   hnx (i+1,some nb_) ⟨h,nofun⟩ (by dsimp only;omega) _ _ (bM.pickE h3 (by simp[bS,hSs i h]) (by simp[bf,aN,hSs i h]))
  clear hnx hSs hSl hSn hz
  generalize w.conds[i]=c at *
  generalize S i=C at *
  obtain⟨nm,mx⟩:=c
  unfold eK.enc at hx
  dsimp only at *
  repeat' (first | refine st ?_ | refine hZ mm rp (by simp) (fun e=>by simp[ho e]) (by rfl) (by simp) (by simp;omega) (by simp;omega) (by rfl) (fun nb_ hnb_=>?_) | refine sb (fun nb_ hnb_=>?_) | refine s2 (fun h=>?_) (fun h=>?_) | fail)
  exact hgo _ _ rp
 ·have d1:decide ((i:Int)<(w.conds.length:Int))=false:=dF h
  obtain rfl:i=w.conds.length:=by omega
  repeat' (first | refine st ?_ | refine sb (fun nb_ hnb_=>?_) | refine s2 (fun h=>?_) (fun h=>?_) | fail)
  refine jZ rp (fun _=>rfl) (by simp) (fun e=>by simp[ho e]) (by omega) (by omega) (fun _=>rfl) (fun o1 ho1=>?_)
  repeat' (first | refine st ?_ | refine sb (fun nb_ hnb_=>?_) | refine s2 (fun h=>?_) (fun h=>?_) | fail)
  refine jZ rp (fun _=>rfl) (by simp) (fun e=>ho1 e) (by omega) (by omega) (fun _=>rfl) (fun o2 ho2=>?_)
  refine uj fun bm hbm=>?_
  refine um ?_ (fun e=>by have:=ho2 e;simp only[List.append_eq_nil_iff,List.map_eq_nil_iff]at this;simp[this])
  have e1:(S w.conds.length).map aN++w.futures.map aN++w.threads.map aN=(bp w ns).map aN:=by rw[←hSl];simp
  have e2:(S w.conds.length).length+w.futures.length+w.threads.length=(bp w ns).length:=by rw[←hSl];simp;omega
  have e3:(bp w ns).length≤30:=by rw[←e2];omega
  rw[e1]at ho2 ⊢
  rw[e2]
  refine xi (A:=bp w ns) (by omega) hq (bm:=bm) (bM.drop (K:=bf o2 1 ((bp w ns).map aN)) (R:=[(bm,⟨0,[]⟩)]) (by rw[List.append_nil];exact(List.perm_append_singleton _ _).symm) rfl ((rJ.cons (.refl _) (.cons (Fz.slot rfl ho2 (by decide) (fun _ _=>rfl) fun _ _ q a a2 h1 h2=>by rw[h1]at h2;cases h2;exact .refl _) (.cons (.refl _) (.cons (.refl _) .nil)))).at_.2))
theorem xk{vs:List AV}{L:SH}(o:Option Nat)(ho:o=none→ns=[])(hz:bM vs L [.pptr [w.enc] 0 0,bS o ns.length,.lst (w.locks.map bK.enc),.int .i64 w.locks.length,.int .i64 0] (bf o 1 (ns.map aN))):W.loop (bG Q) vs L:=by
 have hl2:=fun vs L o ho hz=>xj hns h4 h2 hf2 ht4 hq (vs:=vs) (L:=L) o ho hz
 obtain⟨S,hS⟩:∃S:Nat→List br,S=fun i=>ns++(w.locks.take i).map bK.name:=⟨_,rfl⟩
 have hS0:S 0=ns:=by subst hS;simp
 have hSl:S w.locks.length=ns++w.locks.map bK.name:=by subst hS;simp
 have hSs:∀i (h:i<w.locks.length),S (i+1)=S i++[w.locks[i].name]:=fun i h=>by subst hS;simp only[List.take_succ_eq_append_getElem h,List.map_append,List.append_assoc,List.map_cons,List.map_nil]
 have hSn:∀i,(S i).length≤18:=fun i=>by subst hS;rw[List.length_append,List.length_map,List.length_take];omega
 rw[←hSl]at hl2
 rw[←hS0]at hz ho
 clear hS0 hS hq
 refine hM (α:=Nat×Option Nat) (fun a=>([.pptr [w.enc] 0 0,bS a.2 (S a.1).length,.lst (w.locks.map bK.enc),.int .i64 w.locks.length,.int .i64 (a.1:Int)],bf a.2 1 ((S a.1).map aN))) (fun a=>w.locks.length-a.1) (fun a=>a.1≤w.locks.length∧(a.2=none→S a.1=[])) (0,o) ⟨Nat.zero_le _,ho⟩ hz ?_
 rintro⟨i,o⟩ ⟨hi,ho⟩ nx hnx
 unfold bG
 dsimp only at *
 have hA:=hSn i
 rcases Nat.lt_or_ge i w.locks.length with h | h
 ·have d1:decide ((i:Int)<(w.locks.length:Int))=true:=dE h
  have hw1:IntKind.i64.wrap ((i:Int)+1)=((i+1:Nat):Int):=aY h (by omega)
  have hx:=aG (f:=bK.enc) h
  have hgo:∀nb_ L',iE L' [(nb_,⟨1,(S i).map aN++[[.str w.locks[i].name]]⟩)]→nx [.pptr [w.enc] 0 0,.sl nb_ 0 ((S i).length+1),.lst (w.locks.map bK.enc),.int .i64 w.locks.length,.int .i64 ((i+1:Nat):Int)] L':=fun nb_ L' h3=>
   hnx (i+1,some nb_) ⟨h,nofun⟩ (by dsimp only;omega) _ _ (bM.pickE h3 (by simp[bS,hSs i h]) (by simp[bf,aN,hSs i h]))
  clear hnx hSs hSl hSn hz hl2
  generalize w.locks[i]=c at *
  generalize S i=C at *
  obtain⟨nm,mx⟩:=c
  unfold bK.enc at hx
  dsimp only at *
  repeat' (first | refine st ?_ | refine hZ mm rp (by simp) (fun e=>by simp[ho e]) (by rfl) (by simp) (by simp;omega) (by simp;omega) (by rfl) (fun nb_ hnb_=>?_) | refine sb (fun nb_ hnb_=>?_) | refine s2 (fun h=>?_) (fun h=>?_) | fail)
  exact hgo _ _ rp
 ·have d1:decide ((i:Int)<(w.locks.length:Int))=false:=dF h
  obtain rfl:i=w.locks.length:=by omega
  repeat' (first | refine st ?_ | refine sb (fun nb_ hnb_=>?_) | refine s2 (fun h=>?_) (fun h=>?_) | fail)
  exact hl2 _ _ o ho (.refl _ _)
theorem xR:bU (.agg w.enc) (.lst (ns.map aN)) [] Q:=by
 have hl3:=fun vs L o ho hz=>xk hns h4 h2 hf2 ht4 hq (vs:=vs) (L:=L) o ho hz
 clear hq
 unfold bU
 repeat' (first | refine st ?_ | refine sb (fun nb_ hnb_=>?_) | refine s2 (fun h=>?_) (fun h=>?_) | fail)
 refine tv (fun _=>rfl) (by omega) (by omega) (fun _=>rfl) (fun e=>?_) (fun nb_ hnb_=>?_)
 ·subst e
  repeat' (first | refine st ?_ | refine sb (fun nb_ hnb_=>?_) | refine s2 (fun h=>?_) (fun h=>?_) | fail)
  exact hl3 _ _ none (fun _=>rfl) (bM.drop (K:=[]) (.refl _) rfl ((rJ.cons (.refl _) (.cons .nile (.cons (.refl _) (.cons (.refl _) (.cons (.refl _) .nil))))).at_.2))
 ·repeat' (first | refine st ?_ | refine sb (fun nb_ hnb_=>?_) | refine s2 (fun h=>?_) (fun h=>?_) | fail)
  exact hl3 _ _ (some nb_) nofun (.refl _ _)
end
theorem rR(w:cj){ns:List br}(hns:ns.length≤12)(h4:w.locks.length≤4)(h2:w.conds.length≤2)(hf2:w.futures.length≤2)(ht4:w.threads.length≤4):ax Tryz.prog 54 [.agg w.enc,.lst (ns.map aN)] (.bool (cV (fL (bp w ns)))):=
 al.fz (gt _ _ _ _ (xR hns h4 h2 hf2 ht4 fun b L h=>⟨_,[],bM.all (.refl _),by rw[h],rfl⟩))
theorem qt{l:List aJ}(hl:l.length≤12){ns:List br}(h:aW l ns):ax Tryz.prog 53 [.lst (l.map aJ.enc)] (.tup [.lst (ns.map aN),.bool true]):=
 al.fz (cM _ _ _ (iX l hl (fun ns' L v h1 h2=>⟨_,[],bM.all (.tups (.cons h2 (.cons (.refl _) .nil))),by rw[h.uniq h1],rfl⟩) fun h2=>absurd h (h2 ns)))
theorem rS{l:List aJ}(hl:l.length≤12)(h:∀ns,¬aW l ns):ax Tryz.prog 53 [.lst (l.map aJ.enc)] (.tup [.nils,.bool false]):=
 al.fz (cM _ _ _ (iX l hl (fun ns' L v h1 h2=>absurd h1 (h ns')) fun _ L=>⟨_,[],bM.all (.refl _),rfl,rfl⟩))
end Go.Proofs.YtelgfgfgghpjgaaGreatDoor.Am
end
section
namespace Go.Proofs.YtelgfgfgghpjgaaGreatDoor.Am
set_option maxRecDepth 100000
set_option maxHeartbeats 1000000
set_option linter.unusedVariables false
section
variable {w:cj} {Q:R} {c:aJ} {i nb bs:Nat} {n5:W.Kn} (hl:w.cells.length≤12) (h1:1≤c.size) (h4:c.size≤4) (hf:c.size≤(w.cells.length-i:Nat))
 (hno:¬jg c (w.cells.drop i)→∀L,Q (.tup [.nils,.bool false]) L) (x:AV) (L:SH)
 (hgo:jg c (w.cells.drop i)→n5 [.pptr [w.enc] 0 0,x,.int .i64 ((i+c.size.toNat:Nat):Int)] L)
include hl h1 h4 hf hno hgo
theorem xl:W.loop (dH Q n5) [.pptr [w.enc] 0 0,x,.int .i64 (i:Int),.pptr [c.enc] 0 0,.int .i64 0] L:=by
 obtain⟨nm,ix,sz,vo,ini⟩:=c
 dsimp only at *
 obtain⟨m,rfl⟩:=Int.eq_ofNat_of_zero_le (show 0≤sz by omega)
 have he:aJ.enc ⟨nm,ix,m,vo,ini⟩=[.str nm,.int .i64 ix,.int .i64 (m:Int),.bool vo,.int .i64 ini]:=rfl
 rw[he]
 refine iU m (fun k=>∀j,j<k→w.cells[i+j]? =some ⟨nm,j,m,false,ini⟩) (fun k=>[.pptr [w.enc] 0 0,x,.int .i64 (i:Int),.pptr [[.str nm,.int .i64 ix,.int .i64 (m:Int),.bool vo,.int .i64 ini]] 0 0,.int .i64 (k:Int)]) (by omega) (fun j h=>absurd h (Nat.not_lt_zero _)) rfl (fun k h d1 hw1 hG nx hnx=>?_) (fun k h d1 hG nx=>?_)
 all_goals unfold dH
 ·have hw2:IntKind.i64.wrap ((i:Int)+(k:Int))=((i+k:Nat):Int):=by rw[IntWalk.i64_in _ (by omega)];omega
  have hik:i+k<w.cells.length:=by omega
  have hx:=aG (f:=aJ.enc) hik
  have hxe:w.cells[i+k]? =some w.cells[i+k]:=List.getElem?_eq_getElem hik
  generalize w.cells[i+k]=c at hx hxe
  have hne:c≠⟨nm,k,m,false,ini⟩→∀L,Q (.tup [.nils,.bool false]) L:=fun hd=>hno fun hb=>by
   have h2:=hb.eq k (by show(k:Int)<(m:Int);omega)
   rw[List.getElem?_drop,hxe]at h2
   exact hd (Option.some.inj h2)
  have hye:c=⟨nm,k,m,false,ini⟩→∀j,j<k+1→w.cells[i+j]? =some ⟨nm,j,m,false,ini⟩:=fun hd j hj=>by
   rcases Nat.lt_or_ge j k with g | g
   ·exact hG j g
   ·have e:j=k:=by omega
    subst e
    rw[hxe,hd]
  obtain⟨cn,cx,cs,cv,ci⟩:=c
  unfold aJ.enc at hx
  dsimp only at *
  rw[aJ.mk.injEq]at hye
  rw[Ne,aJ.mk.injEq]at hne
  clear hG
  repeat' (first | refine st ?_ | refine sb (fun nb_ hnb_=>?_) | refine s2 (fun h=>?_) (fun h=>?_) | fail)
  all_goals first
   | (refine hne (fun h2=>?_) _;clear hnx hgo hno hye hne;simp_all;done)
   | (refine hnx (hye ?_);clear hnx hgo hno hye hne;simp_all;done)
 ·have hw2:IntKind.i64.wrap ((i:Int)+(m:Int))=((i+m:Nat):Int):=by rw[IntWalk.i64_in _ (by omega)];omega
  obtain rfl:k=m:=by omega
  repeat' (first | refine st ?_ | refine sb (fun nb_ hnb_=>?_) | refine s2 (fun h=>?_) (fun h=>?_) | fail)
  exact hgo ⟨h1,h4,by rw[List.length_drop];exact hf,fun j hj=>by rw[List.getElem?_drop];exact hG j (by simpa using hj)⟩
end
section
variable {w:cj} {Q:R} (hc12:w.cells.length≤12) (h4:w.locks.length≤4) (h2:w.conds.length≤2) (hf2:w.futures.length≤2) (ht4:w.threads.length≤4)
include h4 h2 hf2 ht4
theorem xm{ns:List br}(hns:ns.length≤12)(hq:∀L v,Fz L v (.lst ((bp w ns).map aN))→Q (.tup [v,.bool true]) L){vs:List AV}{L:SH}(o:Option Nat)(ho:o=none→ns++w.locks.map bK.name=[])(hz:bM vs L [.pptr [w.enc] 0 0,bS o (ns++w.locks.map bK.name).length,.int .i64 0] (bf o 1 ((ns++w.locks.map bK.name).map aN))):W.loop (dI Q) vs L:=by
 obtain⟨S,hS⟩:∃S:Nat→List br,S=fun i=>ns++w.locks.map bK.name++(w.conds.take i).map eK.name:=⟨_,rfl⟩
 have hS0:S 0=ns++w.locks.map bK.name:=by subst hS;simp
 have hSl:S w.conds.length++w.futures++w.threads=bp w ns:=by subst hS;simp[bp]
 have hSs:∀i (h:i<w.conds.length),S (i+1)=S i++[w.conds[i].name]:=fun i h=>by subst hS;simp only[List.take_succ_eq_append_getElem h,List.map_append,List.append_assoc,List.map_cons,List.map_nil]
 have hSn:∀i,(S i).length≤18:=fun i=>by subst hS;rw[List.length_append,List.length_append,List.length_map,List.length_map,List.length_take];omega
 rw[←hS0]at hz ho
 clear hS0 hS
 refine hM (α:=Nat×Option Nat) (fun a=>([.pptr [w.enc] 0 0,bS a.2 (S a.1).length,.int .i64 (a.1:Int)],bf a.2 1 ((S a.1).map aN))) (fun a=>w.conds.length-a.1) (fun a=>a.1≤w.conds.length∧(a.2=none→S a.1=[])) (0,o) ⟨Nat.zero_le _,ho⟩ hz ?_
 rintro⟨i,o⟩ ⟨hi,ho⟩ nx hnx
 unfold dI
 dsimp only at *
 have hA:=hSn i
 rcases Nat.lt_or_ge i w.conds.length with h | h
 ·have d1:decide ((i:Int)<(w.conds.length:Int))=true:=dE h
  have hw1:IntKind.i64.wrap ((i:Int)+1)=((i+1:Nat):Int):=aY h (by omega)
  have hx:=aG (f:=eK.enc) h
  have hgo:∀nb_ L',iE L' [(nb_,⟨1,(S i).map aN++[[.str w.conds[i].name]]⟩)]→nx [.pptr [w.enc] 0 0,.sl nb_ 0 ((S i).length+1),.int .i64 ((i+1:Nat):Int)] L':=fun nb_ L' h3=>
   hnx (i+1,some nb_) ⟨h,nofun⟩ (by dsimp only;omega) _ _ (bM.pickE h3 (by simp[bS,hSs i h]) (by simp[bf,aN,hSs i h]))
  clear hnx hSs hSl hSn hz
  generalize w.conds[i]=c at *
  generalize S i=C at *
  obtain⟨nm,mx⟩:=c
  unfold eK.enc at hx
  dsimp only at *
  repeat' (first | refine st ?_ | refine hZ mm rp (by simp) (fun e=>by simp[ho e]) (by rfl) (by simp) (by simp;omega) (by simp;omega) (by rfl) (fun nb_ hnb_=>?_) | refine sb (fun nb_ hnb_=>?_) | refine s2 (fun h=>?_) (fun h=>?_) | fail)
  exact hgo _ _ rp
 ·have d1:decide ((i:Int)<(w.conds.length:Int))=false:=dF h
  obtain rfl:i=w.conds.length:=by omega
  repeat' (first | refine st ?_ | refine sb (fun nb_ hnb_=>?_) | refine s2 (fun h=>?_) (fun h=>?_) | fail)
  refine jZ rp (fun _=>rfl) (by simp) (fun e=>by simp[ho e]) (by omega) (by omega) (fun _=>rfl) (fun o1 ho1=>?_)
  repeat' (first | refine st ?_ | refine sb (fun nb_ hnb_=>?_) | refine s2 (fun h=>?_) (fun h=>?_) | fail)
  refine jZ rp (fun _=>rfl) (by simp) (fun e=>ho1 e) (by omega) (by omega) (fun _=>rfl) (fun o2 ho2=>?_)
  have e1:(S w.conds.length).map aN++w.futures.map aN++w.threads.map aN=(bp w ns).map aN:=by rw[←hSl];simp
  have e2:(S w.conds.length).length+w.futures.length+w.threads.length=(bp w ns).length:=by rw[←hSl];simp;omega
  rw[e1]at ho2 ⊢
  rw[e2,List.append_nil]
  exact hq _ _ (Fz.slot rfl ho2 (by decide) (fun _ _=>rfl) fun _ _ q a a2 h1 h2=>by rw[h1]at h2;cases h2;exact .refl _)
theorem xn{ns:List br}(hns:ns.length≤12)(hq:∀L v,Fz L v (.lst ((bp w ns).map aN))→Q (.tup [v,.bool true]) L){vs:List AV}{L:SH}(o:Option Nat)(ho:o=none→ns=[])(hz:bM vs L [.pptr [w.enc] 0 0,bS o ns.length,.int .i64 0] (bf o 1 (ns.map aN))):W.loop (dJ Q) vs L:=by
 have hl2:=fun vs L o ho hz=>xm h4 h2 hf2 ht4 hns hq (vs:=vs) (L:=L) o ho hz
 obtain⟨S,hS⟩:∃S:Nat→List br,S=fun i=>ns++(w.locks.take i).map bK.name:=⟨_,rfl⟩
 have hS0:S 0=ns:=by subst hS;simp
 have hSl:S w.locks.length=ns++w.locks.map bK.name:=by subst hS;simp
 have hSs:∀i (h:i<w.locks.length),S (i+1)=S i++[w.locks[i].name]:=fun i h=>by subst hS;simp only[List.take_succ_eq_append_getElem h,List.map_append,List.append_assoc,List.map_cons,List.map_nil]
 have hSn:∀i,(S i).length≤18:=fun i=>by subst hS;rw[List.length_append,List.length_map,List.length_take];omega
 rw[←hSl]at hl2
 rw[←hS0]at hz ho
 clear hS0 hS hq
 refine hM (α:=Nat×Option Nat) (fun a=>([.pptr [w.enc] 0 0,bS a.2 (S a.1).length,.int .i64 (a.1:Int)],bf a.2 1 ((S a.1).map aN))) (fun a=>w.locks.length-a.1) (fun a=>a.1≤w.locks.length∧(a.2=none→S a.1=[])) (0,o) ⟨Nat.zero_le _,ho⟩ hz ?_
 rintro⟨i,o⟩ ⟨hi,ho⟩ nx hnx
 unfold dJ
 dsimp only at *
 have hA:=hSn i
 rcases Nat.lt_or_ge i w.locks.length with h | h
 ·have d1:decide ((i:Int)<(w.locks.length:Int))=true:=dE h
  have hw1:IntKind.i64.wrap ((i:Int)+1)=((i+1:Nat):Int):=aY h (by omega)
  have hx:=aG (f:=bK.enc) h
  have hgo:∀nb_ L',iE L' [(nb_,⟨1,(S i).map aN++[[.str w.locks[i].name]]⟩)]→nx [.pptr [w.enc] 0 0,.sl nb_ 0 ((S i).length+1),.int .i64 ((i+1:Nat):Int)] L':=fun nb_ L' h3=>
   hnx (i+1,some nb_) ⟨h,nofun⟩ (by dsimp only;omega) _ _ (bM.pickE h3 (by simp[bS,hSs i h]) (by simp[bf,aN,hSs i h]))
  clear hnx hSs hSl hSn hz hl2
  generalize w.locks[i]=c at *
  generalize S i=C at *
  obtain⟨nm,mx⟩:=c
  unfold bK.enc at hx
  dsimp only at *
  repeat' (first | refine st ?_ | refine hZ mm rp (by simp) (fun e=>by simp[ho e]) (by rfl) (by simp) (by simp;omega) (by simp;omega) (by rfl) (fun nb_ hnb_=>?_) | refine sb (fun nb_ hnb_=>?_) | refine s2 (fun h=>?_) (fun h=>?_) | fail)
  exact hgo _ _ rp
 ·have d1:decide ((i:Int)<(w.locks.length:Int))=false:=dF h
  obtain rfl:i=w.locks.length:=by omega
  repeat' (first | refine st ?_ | refine sb (fun nb_ hnb_=>?_) | refine s2 (fun h=>?_) (fun h=>?_) | fail)
  exact hl2 _ _ o ho (.refl _ _)
include hc12
theorem xo(hy:∀ns L v,aW w.cells ns→Fz L v (.lst ((bp w ns).map aN))→Q (.tup [v,.bool true]) L)(hn:(∀ns,¬aW w.cells ns)→∀L,Q (.tup [.nils,.bool false]) L):em (.agg w.enc) [] Q:=by
  unfold em
  repeat' (first | refine st ?_ | refine sb (fun nb_ hnb_=>?_) | refine s2 (fun h=>?_) (fun h=>?_) | fail)
  refine hM (α:=Nat×List br×Option Nat) (fun a=>([.pptr [w.enc] 0 0,bS a.2.2 a.2.1.length,.int .i64 (a.1:Int)],bf a.2.2 1 (a.2.1.map aN))) (fun a=>w.cells.length-a.1) (fun a=>bZ w.cells a.1 a.2.1∧(a.2.2=none→a.2.1=[])) (0,[],none) ⟨.zero _,fun _=>rfl⟩ (bM.drop (K:=[]) (.refl _) rfl ((rJ.cons (.refl _) (.cons .nile (.cons (.refl _) .nil))).at_.2)) ?_
  rintro⟨i,acc,o⟩ ⟨hV,ho⟩ nx hnx
  unfold gF
  dsimp only at *
  have hva:=hV.2.1
  have hva2:=hV.1
  rcases Nat.lt_or_ge i w.cells.length with h | h
  · have hx:=aG (f:=aJ.enc) h
    have d1:decide ((i:Int)<(w.cells.length:Int))=true:=dE h
    have hw1:IntKind.i64.wrap ((i:Int)+1)=((i+1:Nat):Int):=aY h (by omega)
    have hw2:IntKind.i64.wrap ((w.cells.length:Int)-(i:Int))=((w.cells.length-i:Nat):Int):=by rw[IntWalk.i64_in _ (by omega)];omega
    have hs0:w.cells[i].size=0→w.cells[i].index≠0→∀ns,¬aW w.cells ns:=hV.no1 h
    have hs1:w.cells[i].size=0→w.cells[i].index=0→bZ w.cells (i+1) (acc++[w.cells[i].name]):=hV.step h
    have hs2:w.cells[i].size≠0→¬jg w.cells[i] (w.cells.drop i)→∀ns,¬aW w.cells ns:=hV.no2 h
    have hs3:w.cells[i].size≠0→jg w.cells[i] (w.cells.drop i)→bZ w.cells (i+w.cells[i].size.toNat) (acc++[w.cells[i].name]):=hV.jump h
    have hgo:∀j nb_ L',bZ w.cells j (acc++[w.cells[i].name])→i<j→iE L' [(nb_,⟨1,acc.map aN++[[.str w.cells[i].name]]⟩)]→nx [.pptr [w.enc] 0 0,.sl nb_ 0 (acc.length+1),.int .i64 (j:Int)] L':=fun j nb_ L' h1 h2 h3=>
      hnx (j,acc++[w.cells[i].name],some nb_) ⟨h1,nofun⟩ (by have:=h1.1;dsimp only;omega) _ _ (bM.pickE h3 (by simp[bS]) (by simp[bf,aN]))
    clear hnx hV
    have hl0:=fun h1 h4' hf hno x L hgo=>xl (Q:=Q) (n5:=nx) (c:=w.cells[i]'h) (i:=i) hc12 h1 h4' hf hno x L hgo
    generalize w.cells[i]=c at *
    obtain⟨nm,ix,sz,vo,ini⟩:=c
    have he:aJ.enc ⟨nm,ix,sz,vo,ini⟩=[.str nm,.int .i64 ix,.int .i64 sz,.bool vo,.int .i64 ini]:=rfl
    rw[he]at hx hl0
    clear he
    dsimp only at *
    repeat' (first | refine st ?_ | refine hZ mm rp (by simp) (fun e=>by simp[ho e]) (by rfl) (by simp) (by simp;omega) (by simp;omega) (by rfl) (fun nb_ hnb_=>?_) | refine sb (fun nb_ hnb_=>?_) | refine s2 (fun h=>?_) (fun h=>?_) | fail)
    all_goals first
      | exact hn (hs0 (of_decide_eq_true (by assumption)) (of_decide_eq_true (by assumption))) _
      | (refine hgo (i+1) _ _ (hs1 (of_decide_eq_true (by assumption)) ?_) (Nat.lt_succ_self _) rp;clear hl0 hgo hn hy hs0 hs1 hs2 hs3;simp only[ne_eq,decide_eq_false_iff_not,Decidable.not_not]at *;assumption)
      | (refine hn (hs2 (of_decide_eq_false (by assumption)) fun hb => ?_) _
         have hb1:=hb.lo;have hb2:=hb.hi;have hb3:=hb.fits
         rw[List.length_drop]at hb3
         clear hl0 hgo hn hy hs0 hs1 hs2 hs3 hb
         dsimp only at hb1 hb2 hb3
         (simp only[decide_eq_true_eq,decide_eq_false_iff_not]at *;omega))
      | skip
    rename_i g1 g2 g3
    simp only[decide_eq_false_iff_not]at g1 g2 g3 h
    exact hl0 (by omega) (by omega) (by omega) (fun hb=>hn (hs2 (by omega) hb)) _ _ (fun hb=>hgo _ _ _ (hs3 (by omega) hb) (by omega) rp)
  · have d1:decide ((i:Int)<(w.cells.length:Int))=false:=dF h
    have hv:=hV.done h
    repeat' (first | refine st ?_ | refine sb (fun nb_ hnb_=>?_) | refine s2 (fun h=>?_) (fun h=>?_) | fail)
    exact xn h4 h2 hf2 ht4 (by omega) (fun L v hf=>hy acc L v hv hf) o ho (.refl _ _)
end
theorem rT{w:cj}(hc12:w.cells.length≤12)(h4:w.locks.length≤4)(h2:w.conds.length≤2)(hf2:w.futures.length≤2)(ht4:w.threads.length≤4){ns:List br}(h:aW w.cells ns):ax Tryz.prog 23 [.agg w.enc] (.tup [.lst ((bp w ns).map aN),.bool true]):=
 al.fz (gG _ _ _ (xo hc12 h4 h2 hf2 ht4 (fun ns' L v h1 h2=>⟨_,[],bM.all (.tups (.cons h2 (.cons (.refl _) .nil))),by rw[h.uniq h1],rfl⟩) fun h2=>absurd h (h2 ns)))
theorem tw{w:cj}(hc12:w.cells.length≤12)(h4:w.locks.length≤4)(h2:w.conds.length≤2)(hf2:w.futures.length≤2)(ht4:w.threads.length≤4)(h:∀ns,¬aW w.cells ns):ax Tryz.prog 23 [.agg w.enc] (.tup [.nils,.bool false]):=
 al.fz (gG _ _ _ (xo hc12 h4 h2 hf2 ht4 (fun ns' L v h1 h2=>absurd h1 (h ns')) fun _ L=>⟨_,[],bM.all (.refl _),rfl,rfl⟩))
end Go.Proofs.YtelgfgfgghpjgaaGreatDoor.Am
end
section
namespace Go.Proofs.YtelgfgfgghpjgaaGreatDoor.Am
set_option maxRecDepth 100000
set_option maxHeartbeats 1000000
set_option linter.unusedVariables false
theorem tz{n:Nat}{t x:Int}{s:d6}{l:List d6}:kP n t x (s::l)↔t≤s.thread∧s.thread<n∧s.stmt=(if t<s.thread then 0 else x)∧kP n s.thread (s.stmt+1) l:=Iff.rfl
theorem nB(w:cj)(h60:w.sites.length≤60):ax Tryz.prog 56 [.agg w.enc] (.bool (cV (kP w.threads.length 0 0 w.sites))):=by
  refine gl _ _ _ ?_
  unfold dc
  generalize hQ:(fun(u:AV) (K:SH)=>u=AV.bool (cV (kP w.threads.length 0 0 w.sites))∧K=[])=Q
  have hq:∀b,cV (kP w.threads.length 0 0 w.sites)=b→Q (.bool b) []:=fun b hb=>by subst hQ;exact⟨by rw[hb],rfl⟩
  clear hQ
  repeat' (first | refine st ?_ | refine sb (fun nb_ hnb_=>?_) | refine s2 (fun h=>?_) (fun h=>?_) | fail)
  refine kM (α:=Nat×Int×Nat) (fun a=>([.pptr [w.enc] 0 0,.int .i64 a.2.1,.int .i64 (a.2.2:Int),.lst (w.sites.map d6.enc),.int .i64 w.sites.length,.int .i64 (a.1:Int)],[])) (fun a=>w.sites.length-a.1) (fun a=>a.1≤w.sites.length∧a.2.2≤a.1∧(kP w.threads.length 0 0 w.sites↔kP w.threads.length a.2.1 a.2.2 (w.sites.drop a.1))) (0,0,0) ⟨Nat.zero_le _,Nat.le_refl _,by simp⟩ rfl rfl ?_
  rintro⟨i,t,x⟩ ⟨hi,hx0,hG⟩ nx hnx
  unfold cN
  dsimp only at *
  rcases Nat.lt_or_ge i w.sites.length with h | h
  · have d1:decide ((i:Int)<(w.sites.length:Int))=true:=dE h
    have hw1:IntKind.i64.wrap ((i:Int)+1)=((i+1:Nat):Int):=aY h (by omega)
    have hw2:IntKind.i64.wrap ((x:Int)+1)=((x+1:Nat):Int):=by rw[IntWalk.i64_in _ (by omega)];omega
    have hw3:IntKind.i64.wrap (0+1)=((0+1:Nat):Int):=rfl
    have hx:=aG (f:=d6.enc) h
    rw[List.drop_eq_getElem_cons h]at hG
    generalize w.sites[i]=s at *
    rw[tz]at hG
    have hno:¬(t≤s.thread∧s.thread<w.threads.length∧s.stmt=if t<s.thread then 0 else(x:Int))→Q (.bool false) []:=fun hb=>hq _ (aZ fun h2=>hb (by have:=hG.1 h2;exact⟨this.1,this.2.1,this.2.2.1⟩))
    have hgo:∀y:Nat,y≤i→(t≤s.thread∧s.thread<w.threads.length∧s.stmt=if t<s.thread then 0 else(x:Int))→s.stmt=(y:Int)→nx [.pptr [w.enc] 0 0,.int .i64 s.thread,.int .i64 ((y+1:Nat):Int),.lst (w.sites.map d6.enc),.int .i64 w.sites.length,.int .i64 ((i+1:Nat):Int)] []:=fun y hy hb hs=>
      hnx (i+1,s.thread,y+1) ⟨h,by dsimp only;omega,by
        rw[hG]
        dsimp only
        have e:s.stmt+1=((y+1:Nat):Int):=by omega
        rw[e]
        exact⟨fun h=>h.2.2.2,fun h=>⟨hb.1,hb.2.1,hb.2.2,h⟩⟩⟩ (by dsimp only;omega)
    clear hnx hG
    obtain⟨th,sm,ln⟩:=s
    unfold d6.enc at hx
    dsimp only at *
    repeat' (first | refine st ?_ | refine sb (fun nb_ hnb_=>?_) | refine s2 (fun h=>?_) (fun h=>?_) | fail)
    all_goals first
      | (refine hno fun h2=>?_;have h3:=h2.1;have h4:=h2.2.1;have h5:=h2.2.2;clear h2 hno hgo;split at h5<;>simp only[decide_eq_true_eq,decide_eq_false_iff_not,ge_iff_le,ne_eq,Decidable.not_not]at * <;>omega)
      | (refine hgo 0 (Nat.zero_le _) ?_ ?_<;>clear hno hgo<;>simp only[decide_eq_true_eq,decide_eq_false_iff_not,ge_iff_le,ne_eq,Decidable.not_not]at * <;>first | omega | (refine⟨by omega,by omega,?_⟩;rw[if_pos (by omega)];omega))
      | (simp only [decide_eq_true_eq, decide_eq_false_iff_not, ge_iff_le, ne_eq, Decidable.not_not] at *
         obtain rfl:t=th:=by omega
         refine hgo x hx0 ?_ ?_<;>clear hno hgo<;>first | omega | (refine⟨by omega,by omega,?_⟩;rw[if_neg (by omega)];omega))
  · have d1:decide ((i:Int)<(w.sites.length:Int))=false:=dF h
    rw[List.drop_eq_nil_of_le h]at hG
    repeat' (first | refine st ?_ | refine sb (fun nb_ hnb_=>?_) | refine s2 (fun h=>?_) (fun h=>?_) | fail)
    exact hq _ (bJ (hG.2 trivial))
theorem rU(w:cj):ax Tryz.prog 30 [.agg w.enc] (.bool (cV (kQ w))):=by
 refine gd _ _ _ ?_
 unfold db
 generalize hQ:(fun(u:AV) (K:SH)=>u=AV.bool (cV (kQ w))∧K=[])=Q
 have hq:∀b,cV (kQ w)=b→Q (.bool b) []:=fun b hb=>by subst hQ;exact⟨by rw[hb],rfl⟩
 clear hQ
 by_cases h0:w.cells.length≤12∧w.locks.length≤4∧w.conds.length≤2∧w.futures.length≤2∧w.sites.length≤60∧1≤w.threads.length∧w.threads.length≤4
 ·obtain⟨c12,l4,d2,f2,s60,t1,t4⟩:=h0
  have e1:decide ((w.cells.length:Int) > 12)=false:=decide_eq_false (by omega)
  have e2:decide ((w.locks.length:Int) > 4)=false:=decide_eq_false (by omega)
  have e3:decide ((w.conds.length:Int) > 2)=false:=decide_eq_false (by omega)
  have e4:decide ((w.futures.length:Int) > 2)=false:=decide_eq_false (by omega)
  have e5:decide ((w.sites.length:Int) > 60)=false:=decide_eq_false (by omega)
  have e6:decide ((w.threads.length:Int)<1)=false:=decide_eq_false (by omega)
  have e7:decide ((w.threads.length:Int) > 4)=false:=decide_eq_false (by omega)
  by_cases hv:∃ns,aW w.cells ns
  ·obtain⟨ns,hv⟩:=hv
   have hvc:=qt c12 hv
   have hns:ns.length≤12:=by
    have:=hv.len
    omega
   have hvn:=rR w hns l4 d2 f2 t4
   have hvs:=nB w s60
   cases hN:cV (fL (bp w ns))with
   | false=>
    rw[hN]at hvn
    have hb:cV (kQ w)=false:=aZ fun h=>by
     obtain⟨n2,h1,h2⟩:=h.names
     obtain rfl:=hv.uniq h1
     rw[bJ ⟨h2.1,h2.2⟩]at hN;cases hN
    repeat' (first | refine st ?_ | ((with_reducible refine am 53 ?_);refine ae (hvc) ?_) | ((with_reducible refine af 53 ?_);refine ab (hvc) ?_) | ((with_reducible refine am 54 ?_);refine ae (hvn) ?_) | ((with_reducible refine af 54 ?_);refine ab (hvn) ?_) | refine sb (fun nb_ hnb_=>?_) | refine s2 (fun h=>?_) (fun h=>?_) | fail)
    all_goals exact hq _ hb
   | true=>
    rw[hN]at hvn
    repeat' (first | refine st ?_ | ((with_reducible refine am 53 ?_);refine ae (hvc) ?_) | ((with_reducible refine af 53 ?_);refine ab (hvc) ?_) | ((with_reducible refine am 54 ?_);refine ae (hvn) ?_) | ((with_reducible refine af 54 ?_);refine ab (hvn) ?_) | refine sb (fun nb_ hnb_=>?_) | refine s2 (fun h=>?_) (fun h=>?_) | fail)
    refine eZ w.conds (fun c=>!eM w c.mutex false) (fun i=>[.pptr [w.enc] 0 0,.lst (w.conds.map eK.enc),.int .i64 w.conds.length,.int .i64 (i:Int)]) (by omega) rfl (fun i h1 hd hi hno nx hn=>?_) (fun i h1 hd hno nx=>?_)
    all_goals unfold cK
    ·have hx:=aG (f:=eK.enc) h1
     have hlk:=nT w w.conds[i].mutex false
     have hbad:eM w w.conds[i].mutex false=false→cV (kQ w)=false:=fun h=>aZ fun h2=>by rw[h2.mtx _ (List.getElem_mem h1)]at h;cases h
     generalize w.conds[i]=c at *
     obtain⟨nm,mx⟩:=c
     unfold eK.enc at hx
     dsimp only at *
     cases hl:eM w mx false with
     | false=>
      rw[hl]at hlk
      repeat' (first | refine st ?_ | ((with_reducible refine am 55 ?_);refine ae (hlk) ?_) | ((with_reducible refine af 55 ?_);refine ab (hlk) ?_) | refine sb (fun nb_ hnb_=>?_) | refine s2 (fun h=>?_) (fun h=>?_) | fail)
      exact hq _ (hbad hl)
     | true=>
      rw[hl]at hlk
      repeat' (first | refine st ?_ | ((with_reducible refine am 55 ?_);refine ae (hlk) ?_) | ((with_reducible refine af 55 ?_);refine ab (hlk) ?_) | refine sb (fun nb_ hnb_=>?_) | refine s2 (fun h=>?_) (fun h=>?_) | fail)
      exact hn (by rw[hl];rfl)
    ·repeat' (first | refine st ?_ | ((with_reducible refine am 56 ?_);refine ae (hvs) ?_) | ((with_reducible refine af 56 ?_);refine ab (hvs) ?_) | refine sb (fun nb_ hnb_=>?_) | refine s2 (fun h=>?_) (fun h=>?_) | fail)
     refine hq _ ?_
     cases hs:cV (kP w.threads.length 0 0 w.sites)with
     | false=>exact aZ fun h=>by rw[bJ h.sites]at hs;cases hs
     | true=>
      have hN:=cW.1 hN
      exact bJ ⟨c12,l4,d2,f2,s60,t1,t4,⟨ns,hv,hN.1,hN.2⟩,fun c hc=>by simpa using hno c hc,cW.1 hs⟩
  ·have hvc:=rS c12 fun ns h=>hv ⟨ns,h⟩
   repeat' (first | refine st ?_ | ((with_reducible refine am 53 ?_);refine ae (hvc) ?_) | ((with_reducible refine af 53 ?_);refine ab (hvc) ?_) | refine sb (fun nb_ hnb_=>?_) | refine s2 (fun h=>?_) (fun h=>?_) | fail)
   all_goals exact hq _ (aZ fun h=>by obtain⟨ns,h1,_⟩:=h.names;exact hv ⟨ns,h1⟩)
 ·have hb:cV (kQ w)=false:=aZ fun h=>h0 ⟨h.c12,h.l4,h.d2,h.f2,h.s60,h.t1,h.t4⟩
  repeat' (first | refine st ?_ | refine sb (fun nb_ hnb_=>?_) | refine s2 (fun h=>?_) (fun h=>?_) | fail)
  all_goals first
   | exact hq _ hb
   | (exfalso;refine h0 ?_;clear hq hb h0;simp only[decide_eq_true_eq,decide_eq_false_iff_not]at *;omega)
structure qu(c:CodD):Prop where
 world:kQ c.w
 len:c.ts.length=c.w.threads.length
 thr:∀i (h:i<c.ts.length),jd c.w i c.ts[i]
theorem tA(c:CodD)(hl:∀t∈c.ts,t.ins.length<2^48):ax Tryz.prog 14 [.agg c.enc] (.bool (cV (qu c))):=by
 have hw:=rU c.w
 have ht:=fun i (h:i<c.ts.length)=>mT c.w i c.ts[i] (hl _ (List.getElem_mem h))
 obtain⟨w,ts⟩:=c
 dsimp only at *
 refine kK _ _ _ ?_
 unfold fQ
 generalize hQ:(fun(u:AV) (K:SH)=>u=AV.bool (cV (qu ⟨w,ts⟩))∧K=[])=Q
 have hq:∀b,cV (qu ⟨w,ts⟩)=b→Q (.bool b) []:=fun b hb=>by subst hQ;exact⟨by rw[hb],rfl⟩
 clear hQ
 cases hW:cV (kQ w)with
 | false=>
  rw[hW]at hw
  repeat' (first | refine st ?_ | ((with_reducible refine am 30 ?_);refine ae (hw) ?_) | ((with_reducible refine af 30 ?_);refine ab (hw) ?_) | refine sb (fun nb_ hnb_=>?_) | refine s2 (fun h=>?_) (fun h=>?_) | fail)
  all_goals exact hq _ (aZ fun h=>by have:=h.world;rw[bJ this]at hW;cases hW)
 | true=>
  rw[hW]at hw
  have hW:=cW.1 hW
  by_cases hlen:ts.length=w.threads.length
  ·have e1:decide ((ts.length:Int)≠(w.threads.length:Int))=false:=by simp[hlen]
   have h4:=hW.t4
   repeat' (first | refine st ?_ | ((with_reducible refine am 30 ?_);refine ae (hw) ?_) | ((with_reducible refine af 30 ?_);refine ab (hw) ?_) | refine sb (fun nb_ hnb_=>?_) | refine s2 (fun h=>?_) (fun h=>?_) | fail)
   refine iU ts.length (fun k=>∀j (h:j<ts.length),j<k→jd w j ts[j]) (fun k=>[.pptr [(⟨w,ts⟩:CodD).enc] 0 0,.lst (ts.map pW.enc),.int .i64 ts.length,.int .i64 k]) (by omega) (fun j h hj=>absurd hj (Nat.not_lt_zero _)) rfl (fun k hk hd hi hG nx hn=>?_) (fun k hk hd hG nx=>?_)
   all_goals unfold eW
   ·have hx:=aG (f:=pW.enc) hk
    have hok:=ht k hk
    have hbad:¬jd w k ts[k]→Q (.bool false) []:=fun h=>hq _ (aZ fun h2=>h (h2.thr k hk))
    have hgo:jd w k ts[k]→nx [.pptr [(⟨w,ts⟩:CodD).enc] 0 0,.lst (ts.map pW.enc),.int .i64 ts.length,.int .i64 ((k+1:Nat):Int)] []:=fun h=>hn fun j hj hjk=>by
     rcases Nat.lt_or_ge j k with g | g
     ·exact hG j hj g
     ·have e:j=k:=by omega
      subst e;exact h
    clear hn hG
    generalize ts[k]=c at *
    obtain⟨rg,ins⟩:=c
    cases hT:cV (jd w k ⟨rg,ins⟩)with
    | false=>
     rw[hT]at hok
     repeat' (first | refine st ?_ | ((with_reducible refine am 31 ?_);refine ae (hok) ?_) | ((with_reducible refine af 31 ?_);refine ab (hok) ?_) | refine sb (fun nb_ hnb_=>?_) | refine s2 (fun h=>?_) (fun h=>?_) | fail)
     exact hbad fun h=>by rw[bJ h]at hT;cases hT
    | true=>
     rw[hT]at hok
     repeat' (first | refine st ?_ | ((with_reducible refine am 31 ?_);refine ae (hok) ?_) | ((with_reducible refine af 31 ?_);refine ab (hok) ?_) | refine sb (fun nb_ hnb_=>?_) | refine s2 (fun h=>?_) (fun h=>?_) | fail)
     exact hgo (cW.1 hT)
   ·repeat' (first | refine st ?_ | refine sb (fun nb_ hnb_=>?_) | refine s2 (fun h=>?_) (fun h=>?_) | fail)
    exact hq _ (bJ ⟨hW,hlen,fun j h=>hG j h (by have:j<ts.length:=h;omega)⟩)
  ·have e1:decide ((ts.length:Int)≠(w.threads.length:Int))=true:=by simp;omega
   repeat' (first | refine st ?_ | ((with_reducible refine am 30 ?_);refine ae (hw) ?_) | ((with_reducible refine af 30 ?_);refine ab (hw) ?_) | refine sb (fun nb_ hnb_=>?_) | refine s2 (fun h=>?_) (fun h=>?_) | fail)
   all_goals exact hq _ (aZ fun h=>hlen h.len)
end Go.Proofs.YtelgfgfgghpjgaaGreatDoor.Am
end
section
namespace Go.Proofs.YtelgfgfgghpjgaaGreatDoor.Am
set_option maxRecDepth 100000
set_option linter.unusedVariables false
def xp(l:List br)(s:br):Int:=nA (fun x=>decide (x=s)) l 0
theorem xq(l:List br)(s:br)(hl:l.length<2^62):ax Tryz.prog 25 [.lst (l.map aN),.str s] (.int .i64 (xp l s)):=by
 refine pF _ _ _ _ ?_
 unfold mX
 refine eZ l (fun x=>decide (x=s)) (fun i=>[.lst (l.map aN),.str s,.int .i64 i]) hl rfl (fun i h1 hd hi hno nx hn=>?_) (fun i h1 hd hno nx=>?_)
 all_goals unfold lc
 ·have hx:=aG (f:=aN) h1
  repeat' (first | refine st ?_ | refine sb (fun nb_ hnb_=>?_) | refine s2 (fun h=>?_) (fun h=>?_) | fail)
  ·exact⟨by rw[xp,td h1 hno h],rfl⟩
  ·exact hn h
 ·repeat' (first | refine st ?_ | refine sb (fun nb_ hnb_=>?_) | refine s2 (fun h=>?_) (fun h=>?_) | fail)
  exact⟨by rw[xp,kL hno],rfl⟩
mutual
def aD.cnt:aD→Nat
 | .mk _ _ _ _ _ _ body els=>aD.cnts body+aD.cnts els
def aD.cnts:List aD→Nat
 | []=>0
 | x::l=>1+x.cnt+aD.cnts l
end
end Go.Proofs.YtelgfgfgghpjgaaGreatDoor.Am
end
