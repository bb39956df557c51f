/- A part of the proof; the statement is proved in the last part. -/
import Derived.Test.YtenbpcngcicamaaGreatDoorQcj
set_option linter.unusedSimpArgs false
set_option linter.unusedVariables false
namespace Go.Proofs.YtenbpcngcicamaaGreatDoor.Am
section
set_option maxRecDepth 100000
set_option maxHeartbeats 1000000
theorem dI(i:Int)(n:Nat):aB Tryz.prog 50 [.W9 i,.W9 n] (.bool (inB i n)):=by
 refine xz _ _ _ _ ?_;unfold l5;generalize hQ:(λ(u:AV) (K:SH)=>u=AV.bool (inB i n)∧K=[])=Q
 repeat' (first|refine st ?_|refine sb λnb_ hnb_=>?_|refine s2 (λh=>?_) λh=>?_|fail)
 all_goals
  subst hQ;refine⟨?_,rfl⟩;simp_all[inB]<;>omega
def BS(op:Int):Bool:=decide (1≤op)&&decide (op≤5)
theorem AY(op:Int):aB Tryz.prog 81 [.W9 op] (.bool (BS op)):=by
 refine qC _ _ _ ?_;unfold jm;generalize hQ:(λ(u:AV) (K:SH)=>u=AV.bool (BS op)∧K=[])=Q
 repeat' (first|refine st ?_|refine sb λnb_ hnb_=>?_|refine s2 (λh=>?_) λh=>?_|fail)
 all_goals
  subst hQ;refine⟨?_,rfl⟩;simp_all[BS]<;>omega
section
variable (w:aN)
theorem Ir(i:Int):aB Tryz.prog 79 [.agg w.enc,.W9 i] (.bool (KX w i)):=by
 have hw:=dI i w.cells.length;refine qB _ _ _ _ ?_;unfold jl KX;cases h1:inB i w.cells.length with
 |false=>
  rw[h1]at hw
  repeat' (first|refine st ?_|(refine pf 50 ?_;refine pm (hw) ?_)|refine sb λnb_ hnb_=>?_|refine s2 (λh=>?_) λh=>?_|fail)
  exact⟨rfl,rfl⟩
 |true=>
  rw[h1]at hw;have hx:=dO (f:=bb.enc) h1;obtain⟨k,rfl⟩:=WL (fB h1);unfold bb.enc at hx;rw[WB]at hx
  repeat' (first|refine st ?_|(refine pf 50 ?_;refine pm (hw) ?_)|refine sb λnb_ hnb_=>?_|refine s2 (λh=>?_) λh=>?_|fail)
  exact⟨rfl,rfl⟩
theorem JM(i n:Int):aB Tryz.prog 80 [.agg w.enc,.W9 i,.W9 n] (.bool (Jz w i n)):=by
 have hw:=dI i w.cells.length;refine sU _ _ _ _ _ ?_;unfold kz;generalize hQ:(λ(u:AV) (K:SH)=>u=AV.bool (Jz w i n)∧K=[])=Q;have hq:∀b,Jz w i n=b→Q (.bool b) []:=λb hb=>by subst hQ;exact⟨by rw[hb],rfl⟩
 clear hQ;cases h1:inB i w.cells.length with
 |false=>
  rw[h1]at hw
  repeat' (first|refine st ?_|(refine pf 50 ?_;refine pm (hw) ?_)|refine sb λnb_ hnb_=>?_|refine s2 (λh=>?_) λh=>?_|fail)
  exact hq _ (by simp[Jz,h1])
 |true=>
  rw[h1]at hw;have hx:=dO (f:=bb.enc) h1;obtain⟨k,rfl⟩:=WL (fB h1);unfold bb.enc at hx;rw[WB]at hx
  repeat' (first|refine st ?_|(refine pf 50 ?_;refine pm (hw) ?_)|refine sb λnb_ hnb_=>?_|refine s2 (λh=>?_) λh=>?_|fail)
  all_goals exact hq _ (by simp_all[Jz])
theorem FQ(i:Int)(rw_:Bool):aB Tryz.prog 48 [.agg w.enc,.W9 i,.bool rw_] (.bool (Ie w i rw_)):=by
 have hw:=dI i w.locks.length;refine xy _ _ _ _ _ ?_;unfold lZ Ie;cases h1:inB i w.locks.length with
 |false=>
  rw[h1]at hw
  repeat' (first|refine st ?_|(refine pf 50 ?_;refine pm (hw) ?_)|refine sb λnb_ hnb_=>?_|refine s2 (λh=>?_) λh=>?_|fail)
  exact⟨rfl,rfl⟩
 |true=>
  rw[h1]at hw;obtain⟨k,rfl⟩:=WL (fB h1);have hk:k<w.locks.length:=by have:=(ay.1 h1).2;omega
  have hx:=az (f:=cb.enc) hk;unfold cb.enc at hx
  repeat' (first|refine st ?_|(refine pf 50 ?_;refine pm (hw) ?_)|refine sb λnb_ hnb_=>?_|refine s2 (λh=>?_) λh=>?_|fail)
  refine⟨congrArg AV.bool ?_,rfl⟩;rw[WB,WP,Vn hk];simp only[W2,Bool.true_and];generalize w.locks[k].rw=r;cases r<;>cases rw_<;>rfl
end
def Is(n:Nat)(i:bn):Bool:=if i.op=5 then inB i.a n else if i.op=10 then inB i.b n else true
theorem NU(n a:Int):(OZ n a).2=decide (n=4∨n=5):=by
 unfold OZ
 repeat' split
 all_goals simp_all
theorem LO(n a b:Int):(Dd n a b).2=decide (6≤n∧n≤18):=by
 by_cases h:6≤n∧n≤18
 ·rw[decide_eq_true h];have:n=6∨n=7∨n=8∨n=9∨n=10∨n=11∨n=12∨n=13∨n=14∨n=15∨n=16∨n=17∨n=18:=by omega
  unfold Dd;rcases this with rfl|rfl|rfl|rfl|rfl|rfl|rfl|rfl|rfl|rfl|rfl|rfl|rfl<;>rfl
 ·rw[decide_eq_false h];unfold Dd;rw[if_neg W4,if_neg W4,if_neg W4,if_neg W4,if_neg W4,if_neg W4,if_neg W4,if_neg W4,if_neg W4,if_neg W4,if_neg W4,if_neg W4,if_neg W4]
theorem GF(w:aN)(n:Nat)(i:bn):aB Tryz.prog 52 [.agg w.enc,.W9 n,.agg i.enc] (.bool (JA w i&&Is n i)):=by
 obtain⟨op,ia,ib,ic,m,site⟩:=i;refine lx _ _ _ _ _ ?_;unfold fK;have h1:=dI ia n;have h2:=dI ib n;have hc:=dI ia w.conds.length;have ht:=dI ia w.threads.length;have hf:=dI ia w.futures.length;have hg:=dI ib w.futures.length;have hu:=Io m 0;have hbn:=FO m 0 0;unfold GB at hu hbn;rw[NU]at hu;rw[LO]at hbn;have hs:=Ir w;have ha:=JM w;have hl:=FQ w;generalize hQ:(λ(u:AV) (K:SH)=>u=AV.bool (JA w ⟨op,ia,ib,ic,m,site⟩&&Is n ⟨op,ia,ib,ic,m,site⟩)∧K=[])=Q;have hq:∀b:Bool,(JA w ⟨op,ia,ib,ic,m,site⟩&&Is n ⟨op,ia,ib,ic,m,site⟩)=b→Q (.bool b) []:=λb hb=>by subst hb;subst hQ;exact⟨rfl,rfl⟩
 clear hQ
 repeat' (first|refine st ?_|(refine pf 50 ?_;refine pm (h1) ?_)|(refine pf 50 ?_;refine pm (h2) ?_)|(refine pf 50 ?_;refine pm (hc) ?_)|(refine pf 50 ?_;refine pm (ht) ?_)|(refine pf 50 ?_;refine pm (hf) ?_)|(refine pf 50 ?_;refine pm (hg) ?_)|(refine pf 77 ?_;refine pm (hu) ?_)|(refine pf 78 ?_;refine pm (hbn) ?_)|(refine pf 79 ?_;refine pm (hs _) ?_)|(refine pf 80 ?_;refine pm (ha _ _) ?_)|(refine pf 48 ?_;refine pm (hl _ _) ?_)|refine sb λnb_ hnb_=>?_|refine s2 (λh=>?_) λh=>?_|fail)
 all_goals
  refine hq _ ?_;simp only[decide_eq_true_eq,decide_eq_false_iff_not]at *;unfold JA Is
  first
   |(subst_vars;rfl)
   |(subst_vars;simp;done)
   |(simp_all;done)
end
section
section
variable {L:SH} {K:AV→Prop} {KL:R} {KS:SH→Prop}
theorem PK(h:∀b,b∉L.names→KL (.mp b) ((b,⟨0,[]⟩)::L)):W.mkmap L KL:=⟨h⟩
theorem NV{z v:AV}{ok:Bool}{b:Nat}{s:List UInt8}{x:Blk}(hm:(b,x)∈L)(h1:x.rows.all vR=true)(h2:W0.found z ok (gu s x.rows 0)=v)(k:K v):W.look z ok (.mp b) (.str s) L K:=⟨x,hm,h1,by rw[h2];exact k⟩
theorem T6{v:AV}{b:Nat}{s:List UInt8}{x:Blk}{rows:List (List AV)}{L':SH}(hu:Cp b x ⟨x.size,rows⟩ L L')(h1:x.rows.all vR=true)(h2:v.konst=true)(h3:W0.putR s v x.rows=rows)(k:KS L'):W.mup (.mp b) (.str s) v L KS:=⟨x,L',h1,h2,by rw[h3];exact hu,k⟩
theorem R6{s:List UInt8}(h:∀b,b∉L.names→KL (.it b) ((b,⟨0,[[.str s,.W9 0]]⟩)::L)):W.rngS (.str s) L KL:=⟨s,rfl,h⟩
theorem LP{b n:Nat}{s:List UInt8}{k:IntKind}{pos:Int}(hm:(b,(⟨n,[[.str s,.int k pos]]⟩:Blk))∈L)(h:¬pos<s.length)(hk:KL (.tup [.bool false]) L):W.nxt (.it b) L KL:=⟨_,s,k,pos,hm,rfl,by rw[if_neg h];exact hk⟩
theorem T7{b n:Nat}{s:List UInt8}{k:IntKind}{pos:Nat}{L':SH}(hm:(b,(⟨n,[[.str s,.int k (pos:Int)]]⟩:Blk))∈L)(h:pos<s.length)(hu:Cp b ⟨n,[[.str s,.int k (pos:Int)]]⟩ ⟨n,[[.str s,.W9 ((pos+(Utf8.decode ⟨s.toArray⟩ pos).2:Nat):Int)]]⟩ L L')
  (hk:KL (.tup [.bool true,.W9 (pos:Int),.int .i32 (Utf8.decode ⟨s.toArray⟩ pos).1]) L'):W.nxt (.it b) L KL:=⟨_,s,k,pos,hm,rfl,by
 rw[if_pos W4];simp only[WB];exact⟨L',hu,hk⟩⟩
end
theorem Du{α:Type}(S:α→List AV×SH)(m:α→Nat)(G:α→Prop){B:List AV→SH→W.Kn→Prop}{vs:List AV}{L:SH}(a0:α)(h0:G a0)(hv:vs=(S a0).1)(hL:L=(S a0).2)
  (h:∀a,G a→∀nx:W.Kn,(∀a',G a'→m a'<m a→nx (S a').1 (S a').2)→B (S a).1 (S a).2 nx):W.loop B vs L:=
 O8 S m G a0 h0 hv hL λa ha=>h a ha _ λa' h1 h2=>⟨a',h1,h2,.refl _ _⟩
end
section
set_option maxRecDepth 100000
set_option maxHeartbeats 1000000
set_option linter.unusedSectionVars false
noncomputable def m4 (P:Prop):Bool:=@decide P (Classical.propDecidable P)
theorem kB{P:Prop}(h:P):m4 P=true:=@decide_eq_true P (Classical.propDecidable P) h
theorem jp{P:Prop}(h:¬P):m4 P=false:=@decide_eq_false P (Classical.propDecidable P) h
theorem kC{P:Prop}:m4 P=true↔P:=⟨λh=>@of_decide_eq_true P (Classical.propDecidable P) h,kB⟩
theorem GG(i:bn):aB Tryz.prog 51 [.agg i.enc] (.lst ((bU i).map ao)):=by
 obtain⟨op,ia,ib,ic,n,site⟩:=i;refine ai.fz (pI _ _ _ ?_);unfold iG;generalize hQ:(λ(v:AV) (L:SH)=>∃v2 L2,aI [v] L [v2] L2∧v2=AV.lst ((bU ⟨op,ia,ib,ic,n,site⟩).map ao)∧L2=[])=Q;have hq:∀(l:List Int),bU ⟨op,ia,ib,ic,n,site⟩=l→∀v L,Fz L v (.lst (l.map ao))→Q v L:=λl hl v L h=>by subst hQ;exact⟨_,[],aI.all h,by rw[hl],rfl⟩
 clear hQ
 repeat' (first|refine st ?_|refine sb λnb_ hnb_=>?_|refine s2 (λh=>?_) λh=>?_|fail)
 all_goals first
  |exact hq [ia] (by simp_all[bU];done) _ _ (Fz.sls (l:=[ia]) (f:=ao) (.head _) rfl W8 rfl)
  |exact hq [ib] (by simp_all[bU];done) _ _ (Fz.sls (l:=[ib]) (f:=ao) (.head _) rfl W8 rfl)
  |exact hq [ia,ib] (by simp_all[bU];done) _ _ (Fz.sls (l:=[ia,ib]) (f:=ao) (.head _) rfl W8 rfl)
  |exact hq [ia,ic] (by simp_all[bU];done) _ _ (Fz.sls (l:=[ia,ic]) (f:=ao) (.head _) rfl W8 rfl)
  |exact hq [ib,ic] (by simp_all[bU];done) _ _ (Fz.sls (l:=[ib,ic]) (f:=ao) (.head _) rfl W8 rfl)
  |exact hq [ia,ib,ic] (by simp_all[bU];done) _ _ (Fz.sls (l:=[ia,ib,ic]) (f:=ao) (.head _) rfl W8 rfl)
  |exact hq [] (by simp_all[bU];done) _ _ .nils
theorem GH{ins:List bn}{k:Nat}{i:bn}(h:ins[k]? =some i):aB Tryz.prog 82 [.lst (ins.map bn.enc),.W9 k] (.W9 (if i.op=5 then i.a else IntKind.i64.wrap ((k:Int)+1))):=by
 have hx:(ins.map bn.enc)[k]? =some i.enc:=Ph h;obtain⟨op,ia,ib,ic,n,site⟩:=i;unfold bn.enc at hx;refine px _ _ _ _ ?_;unfold iF;generalize hQ:(λ(u:AV) (K:SH)=>u=AV.W9 (if op=5 then ia else IntKind.i64.wrap ((k:Int)+1))∧K=[])=Q
 repeat' (first|refine st ?_|refine sb λnb_ hnb_=>?_|refine s2 (λh=>?_) λh=>?_|fail)
 all_goals
  subst hQ;refine⟨?_,rfl⟩;simp_all
structure NW(ins:List bn):Prop where
 len:ins.length<2^48
 jmp:∀i∈ins,i.op=5→0≤i.a∧i.a<ins.length
 last:∀(k:Nat) (i:bn),ins[k]? =some i→(i.op=28↔k+1=ins.length)
def nxt(ins:List bn)(k:Nat):Nat:=match ins[k]? with
 |some i=>if i.op=5 then i.a.toNat else k+1
 |none=>0
def m5(ins:List bn)(k:Nat):Nat→Nat
 |0=>k
 |t+1=>nxt ins (m5 ins k t)
def nG(ins:List bn)(k:Nat):Prop:=∃i,ins[k]? =some i∧i.sil
section
variable {ins:List bn} (hf:NW ins)
include hf
theorem NX{k:Nat}(h:nG ins k):nxt ins k<ins.length:=by
 obtain⟨i,hi,hs⟩:=h;have hk:=(List.getElem?_eq_some_iff.1 hi).1;unfold nxt;rw[hi];dsimp only;split
 ·rename_i h5;have:=hf.jmp i (V2 hi) h5;omega
 ·have h1:=hf.last k i hi;have:=hs.2;have:k+1≠ins.length:=λe=>by have:=h1.2 e;omega
  omega
theorem K8{k:Nat}(h:nG ins k):aB Tryz.prog 82 [.lst (ins.map bn.enc),.W9 k] (.W9 (nxt ins k:Nat)):=by
 have hl:=NX hf h;obtain⟨i,hi,hs⟩:=h;have h1:=GH hi;have hk:=(V7.1 hi).1;have:(if i.op=5 then i.a else IntKind.i64.wrap ((k:Int)+1))=(nxt ins k:Nat):=by
  unfold nxt;rw[hi];dsimp only;split
  ·rename_i h5;have:=hf.jmp i (V2 hi) h5;omega
  ·have:=hf.len;rw[aE hk W4]
 rw[this]at h1;exact h1
theorem NY{k:Nat}(h:nG ins k)(h2:pt ins (nxt ins k)):pt ins k:=by
 obtain⟨i,hi,hs⟩:=h;obtain⟨m,hm⟩:=h2;unfold nxt at hm;rw[hi]at hm;dsimp only at hm;split at hm
 ·rename_i h5;have:=hf.jmp i (V2 hi) h5;exact⟨m+1,.jump k m i.a.toNat i hi h5 W4 hm⟩
 ·rename_i h5;exact⟨m+1,.go k m i hi hs h5 hm⟩
theorem R7{k m:Nat}(h:nG ins k)(h2:JB ins k m):∃m',m=m'+1∧JB ins (nxt ins k) m':=by
 obtain⟨i,hi,hs⟩:=h;unfold nxt;rw[hi];dsimp only;cases h2 with
 |ev _ i' hi' hs'=>rw[hi]at hi';cases hi';exact absurd hs hs'
 |go _ m' i' hi' hs' h5 hm=>rw[hi]at hi';cases hi';rw[if_neg h5];exact⟨m',rfl,hm⟩
 |jump _ m' j i' hi' h5 ha hm=>rw[hi]at hi';cases hi';rw[if_pos h5,ha];exact⟨m',rfl,by simpa using hm⟩
theorem GI{k m:Nat}(h:JB ins k m):∀t,(∀u,u<t→nG ins (m5 ins k u))→t≤m∧JB ins (m5 ins k t) (m-t)
 |0,_=>⟨V1 _,h⟩
 | t+1,hs=>by
  obtain⟨h1,h2⟩:=GI h t λu hu=>hs u W4
  obtain⟨m',h3,h4⟩:=R7 hf (hs t W4) h2;refine⟨W4,?_⟩;rw[show m-(t+1)=m' by omega];exact h4
theorem NZ{k t u:Nat}(hs:∀u,u<t→nG ins (m5 ins k u))(hu:u<t)(e:m5 ins k u=m5 ins k t):¬pt ins k:=λ⟨m,hm⟩=>by
 obtain⟨h1,h2⟩:=GI hf hm t hs;obtain⟨h3,h4⟩:=GI hf hm u λv hv=>hs v W4
 rw[e]at h4;have:=h4.uniq h2;omega
theorem It{k:Nat}:∀t,(∀u,u<t→nG ins (m5 ins k u))→pt ins (m5 ins k t)→∀u,u≤t→pt ins (m5 ins k u)
 |0,_,h,u,hu=>by rw[show u=0 by omega];exact h
 | t+1,hs,h,u,hu=>by
  rcases Vt t u with h1|h1
  ·rw[show u=t+1 by omega];exact h
  ·exact It t (λv hv=>hs v W4) (NY hf (hs t W4) h) u h1
end
def m6(s:List Bool)(ins:List bn)(k:Nat):Nat→List Bool
 |0=>s
 |t+1=>(m6 s ins k t).set (m5 ins k t) true
theorem jq(s:List Bool)(ins:List bn)(k:Nat):∀t,(m6 s ins k t).length=s.length
 |0=>rfl
 |t+1=>by rw[m6,List.length_set,jq s ins k t]
theorem pJ{s:List Bool}{ins:List bn}{k j:Nat}:∀t,(m6 s ins k t)[j]? =some true→s[j]? =some true∨∃u,u<t∧m5 ins k u=j
 |0,h=>.inl h
 | t+1,h=>by
  rw[m6,Wf]at h;split at h
  ·rename_i e;exact .inr ⟨t,W4,e⟩
  ·rcases pJ t h with h1|⟨u,hu,e⟩
   ·exact .inl h1
   ·exact .inr ⟨u,W4,e⟩
theorem pK{s:List Bool}{ins:List bn}{k j:Nat}(hj:j<s.length):∀t,(s[j]? =some true∨∃u,u<t∧m5 ins k u=j)→(m6 s ins k t)[j]? =some true
 | 0,h=>by
  rcases h with h|⟨u,hu,_⟩
  ·exact h
  ·omega
 | t+1,h=>by
  rw[m6,Wf];split
  ·rename_i e;rw[if_pos (by rw[jq];omega)]
  ·rename_i e;refine pK hj t ?_;rcases h with h|⟨u,hu,e2⟩
   ·exact .inl h
   ·refine .inr ⟨u,?_,e2⟩;rcases Vt u t with h1|h1
    ·exact h1
    ·rw[show u=t by omega]at e2;exact absurd e2 e
theorem JN{l:List Bool}{k:Nat}(h:k<l.length):∃b,l[k]? =some b:=⟨l[k],Vn h⟩
theorem GJ{l:List Bool}{k:Nat}{b:Bool}(h:l[k]? =some b):(l.map aV)[k]? =some [.bool b]:=by rw[VD,h];rfl
theorem Iu(s:List Bool)(ins:List bn)(k t:Nat):((m6 s ins k t).map aV).set (m5 ins k t) [.bool true]=(m6 s ins k (t+1)).map aV:=by rw[m6,Wk];rfl
end
section
set_option maxRecDepth 100000
set_option maxHeartbeats 1000000
set_option linter.unusedSectionVars false
structure T8(ins:List bn)(start:Nat)(g:List Bool)(t:Nat):Prop where
 lt:m5 ins start t<ins.length
 sil:∀u,u<t→nG ins (m5 ins start u)
 bad:∀u,u<t→g[m5 ins start u]? =some false
 inj:∀u v,u<v→v<t→m5 ins start u≠m5 ins start v
section
variable {ins:List bn} (hf:NW ins) {b1 b2:Nat} {start:Nat} (hs:start<ins.length) {g s:List Bool} (hg:g.length=ins.length) (hl:s.length=ins.length) (hsg:∀k:Nat,s[k]? =some true→g[k]? =some true) (hgl:∀k:Nat,g[k]? =some true→pt ins k)
theorem R8{t:Nat}(hf:NW ins)(hs:start<ins.length)(h:T8 ins start g t):t≤ins.length:=by
 have h1:((List.range t).map (m5 ins start)).Nodup:=by
  refine List.pairwise_map.2 ?_;refine(List.nodup_range (n:=t)).imp_of_mem ?_;intro u v hu hv hne e;rcases Vt u v with h2|h2
  ·exact h.inj u v h2 (Wl.1 hv) e
  ·exact h.inj v u W4 (Wl.1 hu) e.symm
 have h2:=Nt h1 (n:=ins.length) (by
  intro j hj;obtain⟨u,hu,rfl⟩:=V0.1 hj;obtain⟨i,hi,_⟩:=h.sil u (Wl.1 hu);exact(V7.1 hi).1)
 simpa using h2
include hf hs hg hl
theorem N0(n8:W.Kn)(T:Nat)(hw:T8 ins start g T)(he:¬nG ins (m5 ins start T)∨g[m5 ins start T]? =some true)(sr:List Bool)
  (hn:n8 [.lst (ins.map bn.enc),.sl b1 0 ins.length,.sl b2 0 ins.length,.W9 ins.length,.W9 (start+1:Nat)] [(b2,⟨1,sr.map aV⟩),(b1,⟨1,(m6 g ins start T).map aV⟩)]) :
  W.loop (fb n8) [.lst (ins.map bn.enc),.sl b1 0 ins.length,.sl b2 0 ins.length,.W9 start,.W9 ins.length,.W9 start] [(b2,⟨1,sr.map aV⟩),(b1,⟨1,g.map aV⟩)]:=by
 refine Du (λu:Nat=>([.lst (ins.map bn.enc),.sl b1 0 ins.length,.sl b2 0 ins.length,.W9 (m5 ins start u:Nat),.W9 ins.length,.W9 start],[(b2,⟨1,sr.map aV⟩),(b1,⟨1,(m6 g ins start u).map aV⟩)])) (λu=>T-u) (λu=>u≤T) 0 (V1 _) rfl rfl λu hu nx hnx=>?_
 have hk:m5 ins start u<ins.length:=by
  rcases Vt u T with h|h
  ·obtain⟨i,hi,_⟩:=hw.sil u h;exact(V7.1 hi).1
  ·rw[show u=T by omega];exact hw.lt
 have hx:=az (f:=bn.enc) hk;unfold bn.enc at hx;have hsi:=AY ins[m5 ins start u].op;obtain⟨b,hb⟩:=JN (l:=m6 g ins start u) (k:=m5 ins start u) (by rw[jq];omega);have hbm:=GJ hb;have hw1:IntKind.i64.wrap ((start:Int)+1)=((start+1:Nat):Int):=aE hs (by have:=hf.len;omega);have hon:BS ins[m5 ins start u].op=true→b=false→u<T:=λh1 h2=>by
  rcases Vt u T with h|h
  ·exact h
  ·exfalso;have e:u=T:=by omega
   subst e;rcases he with he|he
   ·exact he ⟨_,Vn hk,by simpa[BS,bn.sil]using h1⟩
   ·rw[pK W4 u (.inl he)]at hb;cases hb;cases h2
 have hoff:u<T→BS ins[m5 ins start u].op=true∧b=false:=λh=>by
  obtain⟨i,hi,h2⟩:=hw.sil u h;rw[Vn hk]at hi;cases hi;refine⟨by simpa[BS,bn.sil]using h2,?_⟩;cases b with
  |false=>rfl
  |true=>
   exfalso;rcases pJ u hb with h3|⟨v,hv,h3⟩
   ·rw[hw.bad u h]at h3;cases h3
   ·exact hw.inj v u hv h h3
 unfold fb;dsimp only;rcases Nat.lt_or_ge u T with h|h
 ·obtain⟨h1,rfl⟩:=hoff h;have hfo:=K8 hf (hw.sil u h);rw[h1]at hsi
  repeat' (first|refine st ?_|(refine pf 81 ?_;refine pm (hsi) ?_)|(refine pf 82 ?_;refine pm (hfo) ?_)|refine sb λnb_ hnb_=>?_|refine s2 (λh=>?_) λh=>?_|fail)
  have:=hnx (u+1) W4 W4;rw[←Iu]at this;exact this
 ·have e:u=T:=by omega
  subst e;cases h1:BS ins[m5 ins start u].op with
  |false=>
   rw[h1]at hsi
   repeat' (first|refine st ?_|(refine pf 81 ?_;refine pm (hsi) ?_)|refine sb λnb_ hnb_=>?_|refine s2 (λh=>?_) λh=>?_|fail)
   exact hn
  |true=>
   rw[h1]at hsi;cases b with
   |false=>exact absurd (hon h1 rfl) (Nat.lt_irrefl _)
   |true=>
    repeat' (first|refine st ?_|(refine pf 81 ?_;refine pm (hsi) ?_)|refine sb λnb_ hnb_=>?_|refine s2 (λh=>?_) λh=>?_|fail)
    exact hn
include hsg in
theorem R9(Q:R)(n8:W.Kn)(hq:¬pt ins start→∀L,Q (.bool false) L)
  (hn:∀T,T8 ins start g T→(¬nG ins (m5 ins start T)∨g[m5 ins start T]? =some true)→n8 [.lst (ins.map bn.enc),.sl b1 0 ins.length,.sl b2 0 ins.length,.W9 ins.length,.W9 (start+1:Nat)] [(b2,⟨1,(m6 s ins start T).map aV⟩),(b1,⟨1,(m6 g ins start T).map aV⟩)]) :
  W.loop (fe Q n8) [.lst (ins.map bn.enc),.sl b1 0 ins.length,.sl b2 0 ins.length,.W9 start,.W9 start,.W9 ins.length,.W9 start] [(b2,⟨1,s.map aV⟩),(b1,⟨1,g.map aV⟩)]:=by
 refine Du (λt:Nat=>([.lst (ins.map bn.enc),.sl b1 0 ins.length,.sl b2 0 ins.length,.W9 start,.W9 (m5 ins start t:Nat),.W9 ins.length,.W9 start],[(b2,⟨1,(m6 s ins start t).map aV⟩),(b1,⟨1,g.map aV⟩)])) (λt=>ins.length-t) (λt=>T8 ins start g t) 0 ⟨hs,λu hu=>absurd hu (Nat.not_lt_zero _),λu hu=>absurd hu (Nat.not_lt_zero _),λu v _ hv=>absurd hv (Nat.not_lt_zero _)⟩ rfl rfl λt hw nx hnx=>?_
 have hk:=hw.lt;have hx:=az (f:=bn.enc) hk;unfold bn.enc at hx;have hsi:=AY ins[m5 ins start t].op;obtain⟨b,hb⟩:=JN (l:=g) (k:=m5 ins start t) W4;have hbm:=GJ hb;obtain⟨c,hc⟩:=JN (l:=m6 s ins start t) (k:=m5 ins start t) (by rw[jq];omega);have hcm:=GJ hc;unfold fe;dsimp only;cases h1:BS ins[m5 ins start t].op with
 |false=>
  rw[h1]at hsi;have hno:¬nG ins (m5 ins start t):=λ⟨i,hi,h2⟩=>by
   rw[Vn hk]at hi;cases hi;have:BS ins[m5 ins start t].op=true:=by simpa[BS,bn.sil]using h2
   rw[h1]at this;cases this
  repeat' (first|refine st ?_|(refine pf 81 ?_;refine pm (hsi) ?_)|refine sb λnb_ hnb_=>?_|refine s2 (λh=>?_) λh=>?_|fail)
  exact N0 hf hs hg hl n8 t hw (.inl hno) _ (hn t hw (.inl hno))
 |true=>
  rw[h1]at hsi;have hsa:nG ins (m5 ins start t):=⟨_,Vn hk,by simpa[BS,bn.sil]using h1⟩;cases b with
  |true=>
   repeat' (first|refine st ?_|(refine pf 81 ?_;refine pm (hsi) ?_)|refine sb λnb_ hnb_=>?_|refine s2 (λh=>?_) λh=>?_|fail)
   exact N0 hf hs hg hl n8 t hw (.inr hb) _ (hn t hw (.inr hb))
  |false=>
   cases c with
   |true=>
    have:¬pt ins start:=by
     rcases pJ t hc with h2|⟨u,hu,h2⟩
     ·rw[hsg _ h2]at hb;cases hb
     ·exact NZ hf hw.sil hu h2
    repeat' (first|refine st ?_|(refine pf 81 ?_;refine pm (hsi) ?_)|refine sb λnb_ hnb_=>?_|refine s2 (λh=>?_) λh=>?_|fail)
    exact hq this _
   |false=>
    have hfo:=K8 hf hsa;have hw2:T8 ins start g (t+1):=⟨NX hf hsa,λu hu=>by
     rcases Vt u t with h|h
     ·exact hw.sil u h
     ·rw[show u=t by omega];exact hsa,λu hu=>by
     rcases Vt u t with h|h
     ·exact hw.bad u h
     ·rw[show u=t by omega];exact hb,λu v huv hv e=>by
     rcases Vt v t with h|h
     ·exact hw.inj u v huv h e
     ·have h2:v=t:=by omega
      subst h2;rw[pK W4 v (.inr ⟨u,huv,e⟩)]at hc;cases hc⟩
    have hle:=R8 hf hs hw2
    repeat' (first|refine st ?_|(refine pf 81 ?_;refine pm (hsi) ?_)|(refine pf 82 ?_;refine pm (hfo) ?_)|refine sb λnb_ hnb_=>?_|refine s2 (λh=>?_) λh=>?_|fail)
    have:=hnx (t+1) hw2 W4;rw[←Iu]at this;exact this
end
theorem Iv{ins:List bn}(hf:NW ins):aB Tryz.prog 53 [.lst (ins.map bn.enc)] (.bool (m4 (∀k,k<ins.length→pt ins k))):=by
 have hl:=hf.len;refine ai.fz (qG _ _ _ ?_);unfold jo;generalize hQ:(λ(v:AV) (L:SH)=>∃v2 L2,aI [v] L [v2] L2∧v2=AV.bool (m4 (∀k,k<ins.length→pt ins k))∧L2=[])=Q;have hq:∀b,m4 (∀k,k<ins.length→pt ins k)=b→∀L,Q (.bool b) L:=λb hb L=>by subst hQ;exact⟨_,[],aI.all (.refl _),by rw[hb],rfl⟩
 clear hQ
 repeat' (first|refine st ?_|refine sb λnb_ hnb_=>?_|refine s2 (λh=>?_) λh=>?_|fail)
 rename_i b1 _;revert nb_;intro b2 _;have hrep:∀k:Nat,(List.replicate ins.length false)[k]? =some true→pt ins k:=λk h=>by rw[Wy]at h;split at h<;>cases h
 refine Du (α:=Nat×List Bool×List Bool) (λa=>([.lst (ins.map bn.enc),.sl b1 0 ins.length,.sl b2 0 ins.length,.W9 ins.length,.W9 (a.1:Nat)],[(b2,⟨1,a.2.2.map aV⟩),(b1,⟨1,a.2.1.map aV⟩)])) (λa=>ins.length-a.1)
  (λa=>a.1≤ins.length∧a.2.1.length=ins.length∧a.2.2.length=ins.length∧(∀k:Nat,a.2.2[k]? =some true→a.2.1[k]? =some true)∧(∀k:Nat,a.2.1[k]? =some true→pt ins k)∧∀k,k<a.1→pt ins k) (0,List.replicate ins.length false,List.replicate ins.length false)
  ⟨V1 _,W7,W7,λk h=>h,hrep,λk h=>absurd h (Nat.not_lt_zero _)⟩ W7 (by simp[aV]) ?_
 rintro⟨a,g,s⟩ ⟨h1,h2,h3,h4,h5,h6⟩ nx hnx;dsimp only at h1 h2 h3 h4 h5 h6 ⊢;unfold iE;rcases Nat.lt_or_ge a ins.length with h|h
 ·have hd:=bF h
  repeat' (first|refine st ?_|refine sb λnb_ hnb_=>?_|refine s2 (λh=>?_) λh=>?_|fail)
  refine R9 hf h h2 h3 h4 Q nx (λhno L=>hq _ (jp λhall=>hno (hall a h)) L) λT hw he=>?_
  have hT:pt ins (m5 ins a T):=by
   rcases he with he|he
   ·have hk:=hw.lt;exact⟨0,.ev _ _ (Vn hk) λhs=>he ⟨_,Vn hk,hs⟩⟩
   ·exact h5 _ he
  have hall:=It hf T hw.sil hT;refine hnx (a+1,m6 g ins a T,m6 s ins a T) ⟨h,by rw[jq,h2],by rw[jq,h3],λk hk=>?_,λk hk=>?_,λk hk=>?_⟩ (by show ins.length-(a+1)<ins.length-a;omega)
  ·have hkl:k<s.length:=by have:=(V7.1 hk).1;rwa [jq]at this
   rcases pJ T hk with g1|g1
   ·exact pK W4 T (.inl (h4 k g1))
   ·exact pK W4 T (.inr g1)
  ·rcases pJ T hk with g1|⟨u,hu,g1⟩
   ·exact h5 k g1
   ·rw[←g1];exact hall u W4
  ·rcases Vt k a with g1|g1
   ·exact h6 k g1
   ·rw[show k=a by dsimp only at hk;omega];exact hall 0 (Nat.zero_le _)
 ·have hd:=bM h
  repeat' (first|refine st ?_|refine sb λnb_ hnb_=>?_|refine s2 (λh=>?_) λh=>?_|fail)
  exact hq _ (kB λk hk=>h6 k W4) _
end
end Go.Proofs.YtenbpcngcicamaaGreatDoor.Am
