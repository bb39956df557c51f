/- A part of the proof; the statement is proved in the last part. -/
import Derived.Test.YtdnpdghlggbklaaGreatDoorQej
set_option linter.unusedSimpArgs false
set_option linter.unusedVariables false
namespace Go.Proofs.YtdnpdghlggbklaaGreatDoor.Am
section
set_option maxRecDepth 100000
set_option maxHeartbeats 1000000
theorem dG(i:Int)(n:Nat):az Tryz.prog 67 [.Xm i,.Xm n] (.bool (inB i n)):=by
 refine xI _ _ _ _ ?_;unfold lY;generalize hQ:(λ(u:AV) (K:SH)=>u=AV.bool (inB i n)∧K=[])=Q
 repeat' (first|refine st ?_|refine sb λnb_ hnb_=>?_|refine s2 (λh=>?_) λh=>?_|fail)
 all_goals
  subst hQ;refine⟨?_,rfl⟩;simp_all[inB]<;>omega
def BY(op:Int):Bool:=decide (1≤op)&&decide (op≤5)
theorem A7(op:Int):az Tryz.prog 107 [.Xm op] (.bool (BY op)):=by
 refine qK _ _ _ ?_;unfold ju;generalize hQ:(λ(u:AV) (K:SH)=>u=AV.bool (BY op)∧K=[])=Q
 repeat' (first|refine st ?_|refine sb λnb_ hnb_=>?_|refine s2 (λh=>?_) λh=>?_|fail)
 all_goals
  subst hQ;refine⟨?_,rfl⟩;simp_all[BY]<;>omega
section
variable (w:aH)
theorem Ix(i:Int):az Tryz.prog 105 [.agg w.enc,.Xm i] (.bool (K6 w i)):=by
 have hw:=dG i w.cells.length;refine qJ _ _ _ _ ?_;unfold jt K6;cases h1:inB i w.cells.length with
 |false=>
  rw[h1]at hw
  repeat' (first|refine st ?_|(refine pf 67 ?_;refine pm (hw) ?_)|refine sb λnb_ hnb_=>?_|refine s2 (λh=>?_) λh=>?_|fail)
  exact⟨rfl,rfl⟩
 |true=>
  rw[h1]at hw;have hx:=dN (f:=aY.enc) h1;obtain⟨k,rfl⟩:=W2 (fE h1);unfold aY.enc at hx;rw[WS]at hx
  repeat' (first|refine st ?_|(refine pf 67 ?_;refine pm (hw) ?_)|refine sb λnb_ hnb_=>?_|refine s2 (λh=>?_) λh=>?_|fail)
  exact⟨rfl,rfl⟩
theorem JT(i n:Int):az Tryz.prog 106 [.agg w.enc,.Xm i,.Xm n] (.bool (JG w i n)):=by
 have hw:=dG i w.cells.length;refine s8 _ _ _ _ _ ?_;unfold ku;generalize hQ:(λ(u:AV) (K:SH)=>u=AV.bool (JG w i n)∧K=[])=Q;have hq:∀b,JG w i n=b→Q (.bool b) []:=λb hb=>by subst hQ;exact⟨by rw[hb],rfl⟩
 clear hQ;cases h1:inB i w.cells.length with
 |false=>
  rw[h1]at hw
  repeat' (first|refine st ?_|(refine pf 67 ?_;refine pm (hw) ?_)|refine sb λnb_ hnb_=>?_|refine s2 (λh=>?_) λh=>?_|fail)
  exact hq _ (by simp[JG,h1])
 |true=>
  rw[h1]at hw;have hx:=dN (f:=aY.enc) h1;obtain⟨k,rfl⟩:=W2 (fE h1);unfold aY.enc at hx;rw[WS]at hx
  repeat' (first|refine st ?_|(refine pf 67 ?_;refine pm (hw) ?_)|refine sb λnb_ hnb_=>?_|refine s2 (λh=>?_) λh=>?_|fail)
  all_goals exact hq _ (by simp_all[JG])
theorem FX(i:Int)(rw_:Bool):az Tryz.prog 65 [.agg w.enc,.Xm i,.bool rw_] (.bool (Il w i rw_)):=by
 have hw:=dG i w.locks.length;refine xH _ _ _ _ _ ?_;unfold lX Il;cases h1:inB i w.locks.length with
 |false=>
  rw[h1]at hw
  repeat' (first|refine st ?_|(refine pf 67 ?_;refine pm (hw) ?_)|refine sb λnb_ hnb_=>?_|refine s2 (λh=>?_) λh=>?_|fail)
  exact⟨rfl,rfl⟩
 |true=>
  rw[h1]at hw;obtain⟨k,rfl⟩:=W2 (fE h1);have hk:k<w.locks.length:=by have:=(ax.1 h1).2;omega
  have hx:=aw (f:=ca.enc) hk;unfold ca.enc at hx
  repeat' (first|refine st ?_|(refine pf 67 ?_;refine pm (hw) ?_)|refine sb λnb_ hnb_=>?_|refine s2 (λh=>?_) λh=>?_|fail)
  refine⟨congrArg AV.bool ?_,rfl⟩;rw[WS,W6,VB hk];simp only[Xf,Bool.true_and];generalize w.locks[k].rw=r;cases r<;>cases rw_<;>rfl
end
def Iy(n:Nat)(i:bj):Bool:=if i.op=5 then inB i.a n else if i.op=10 then inB i.b n else true
theorem N0(n a:Int):(O3 n a).2=decide (n=4∨n=5):=by
 unfold O3
 repeat' split
 all_goals simp_all
theorem LV(n a b:Int):(Dj n a b).2=decide (6≤n∧n≤18):=by
 by_cases h:6≤n∧n≤18
 ·rw[decide_eq_true h];have:n=6∨n=7∨n=8∨n=9∨n=10∨n=11∨n=12∨n=13∨n=14∨n=15∨n=16∨n=17∨n=18:=by omega
  unfold Dj;rcases this with rfl|rfl|rfl|rfl|rfl|rfl|rfl|rfl|rfl|rfl|rfl|rfl|rfl<;>rfl
 ·rw[decide_eq_false h];unfold Dj;rw[if_neg Xh,if_neg Xh,if_neg Xh,if_neg Xh,if_neg Xh,if_neg Xh,if_neg Xh,if_neg Xh,if_neg Xh,if_neg Xh,if_neg Xh,if_neg Xh,if_neg Xh]
theorem GO(w:aH)(n:Nat)(i:bj):az Tryz.prog 69 [.agg w.enc,.Xm n,.agg i.enc] (.bool (JH w i&&Iy n i)):=by
 obtain⟨op,ia,ib,ic,m,site⟩:=i;refine lw _ _ _ _ _ ?_;unfold fN;have h1:=dG ia n;have h2:=dG ib n;have hc:=dG ia w.conds.length;have ht:=dG ia w.threads.length;have hf:=dG ia w.futures.length;have hg:=dG ib w.futures.length;have hu:=Iu m 0;have hbn:=FV m 0 0;unfold GK at hu hbn;rw[N0]at hu;rw[LV]at hbn;have hs:=Ix w;have ha:=JT w;have hl:=FX w;generalize hQ:(λ(u:AV) (K:SH)=>u=AV.bool (JH w ⟨op,ia,ib,ic,m,site⟩&&Iy n ⟨op,ia,ib,ic,m,site⟩)∧K=[])=Q;have hq:∀b:Bool,(JH w ⟨op,ia,ib,ic,m,site⟩&&Iy n ⟨op,ia,ib,ic,m,site⟩)=b→Q (.bool b) []:=λb hb=>by subst hb;subst hQ;exact⟨rfl,rfl⟩
 clear hQ
 repeat' (first|refine st ?_|(refine pf 67 ?_;refine pm (h1) ?_)|(refine pf 67 ?_;refine pm (h2) ?_)|(refine pf 67 ?_;refine pm (hc) ?_)|(refine pf 67 ?_;refine pm (ht) ?_)|(refine pf 67 ?_;refine pm (hf) ?_)|(refine pf 67 ?_;refine pm (hg) ?_)|(refine pf 103 ?_;refine pm (hu) ?_)|(refine pf 104 ?_;refine pm (hbn) ?_)|(refine pf 105 ?_;refine pm (hs _) ?_)|(refine pf 106 ?_;refine pm (ha _ _) ?_)|(refine pf 65 ?_;refine pm (hl _ _) ?_)|refine sb λnb_ hnb_=>?_|refine s2 (λh=>?_) λh=>?_|fail)
 all_goals
  refine hq _ ?_;simp only[decide_eq_true_eq,decide_eq_false_iff_not]at *;unfold JH Iy
  first
   |(subst_vars;rfl)
   |(subst_vars;simp;done)
   |(simp_all;done)
end
section
section
variable {L:SH} {K:AV→Prop} {KL:R} {KS:SH→Prop}
theorem PN(h:∀b,b∉L.names→KL (.mp b) ((b,⟨0,[]⟩)::L)):W.mkmap L KL:=⟨h⟩
theorem N1{z v:AV}{ok:Bool}{b:Nat}{s:List UInt8}{x:Blk}(hm:(b,x)∈L)(h1:x.rows.all we=true)(h2:W0.found z ok (gy s x.rows 0)=v)(k:K v):W.look z ok (.mp b) (.str s) L K:=⟨x,hm,h1,by rw[h2];exact k⟩
theorem Uh{v:AV}{b:Nat}{s:List UInt8}{x:Blk}{rows:List (List AV)}{L':SH}(hu:Cv b x ⟨x.size,rows⟩ L L')(h1:x.rows.all we=true)(h2:v.konst=true)(h3:W0.putR s v x.rows=rows)(k:KS L'):W.mup (.mp b) (.str s) v L KS:=⟨x,L',h1,h2,by rw[h3];exact hu,k⟩
theorem Sd{s:List UInt8}(h:∀b,b∉L.names→KL (.it b) ((b,⟨0,[[.str s,.Xm 0]]⟩)::L)):W.rngS (.str s) L KL:=⟨s,rfl,h⟩
theorem LX{b n:Nat}{s:List UInt8}{k:IntKind}{pos:Int}(hm:(b,(⟨n,[[.str s,.int k pos]]⟩:Blk))∈L)(h:¬pos<s.length)(hk:KL (.tup [.bool false]) L):W.nxt (.it b) L KL:=⟨_,s,k,pos,hm,rfl,by rw[if_neg h];exact hk⟩
theorem Ui{b n:Nat}{s:List UInt8}{k:IntKind}{pos:Nat}{L':SH}(hm:(b,(⟨n,[[.str s,.int k (pos:Int)]]⟩:Blk))∈L)(h:pos<s.length)(hu:Cv b ⟨n,[[.str s,.int k (pos:Int)]]⟩ ⟨n,[[.str s,.Xm ((pos+(Utf8.decode ⟨s.toArray⟩ pos).2:Nat):Int)]]⟩ L L')
  (hk:KL (.tup [.bool true,.Xm (pos:Int),.int .i32 (Utf8.decode ⟨s.toArray⟩ pos).1]) L'):W.nxt (.it b) L KL:=⟨_,s,k,pos,hm,rfl,by
 rw[if_pos Xh];simp only[WS];exact⟨L',hu,hk⟩⟩
end
theorem DA{α:Type}(S:α→List AV×SH)(m:α→Nat)(G:α→Prop){B:List AV→SH→W.Kn→Prop}{vs:List AV}{L:SH}(a0:α)(h0:G a0)(hv:vs=(S a0).1)(hL:L=(S a0).2)
  (h:∀a,G a→∀nx:W.Kn,(∀a',G a'→m a'<m a→nx (S a').1 (S a').2)→B (S a).1 (S a).2 nx):W.loop B vs L:=
 Pc S m G a0 h0 hv hL λa ha=>h a ha _ λa' h1 h2=>⟨a',h1,h2,.refl _ _⟩
end
section
set_option maxRecDepth 100000
set_option maxHeartbeats 1000000
set_option linter.unusedSectionVars false
noncomputable def mZ (P:Prop):Bool:=@decide P (Classical.propDecidable P)
theorem kv{P:Prop}(h:P):mZ P=true:=@decide_eq_true P (Classical.propDecidable P) h
theorem jw{P:Prop}(h:¬P):mZ P=false:=@decide_eq_false P (Classical.propDecidable P) h
theorem ky{P:Prop}:mZ P=true↔P:=⟨λh=>@of_decide_eq_true P (Classical.propDecidable P) h,kv⟩
theorem GP(i:bj):az Tryz.prog 68 [.agg i.enc] (.lst ((bT i).map aj)):=by
 obtain⟨op,ia,ib,ic,n,site⟩:=i;refine af.fz (pF _ _ _ ?_);unfold iK;generalize hQ:(λ(v:AV) (L:SH)=>∃v2 L2,aJ [v] L [v2] L2∧v2=AV.lst ((bT ⟨op,ia,ib,ic,n,site⟩).map aj)∧L2=[])=Q;have hq:∀(l:List Int),bT ⟨op,ia,ib,ic,n,site⟩=l→∀v L,Fz L v (.lst (l.map aj))→Q v L:=λl hl v L h=>by subst hQ;exact⟨_,[],aJ.all h,by rw[hl],rfl⟩
 clear hQ
 repeat' (first|refine st ?_|refine sb λnb_ hnb_=>?_|refine s2 (λh=>?_) λh=>?_|fail)
 all_goals first
  |exact hq [ia] (by simp_all[bT];done) _ _ (Fz.sls (l:=[ia]) (f:=aj) (.head _) rfl Xl rfl)
  |exact hq [ib] (by simp_all[bT];done) _ _ (Fz.sls (l:=[ib]) (f:=aj) (.head _) rfl Xl rfl)
  |exact hq [ia,ib] (by simp_all[bT];done) _ _ (Fz.sls (l:=[ia,ib]) (f:=aj) (.head _) rfl Xl rfl)
  |exact hq [ia,ic] (by simp_all[bT];done) _ _ (Fz.sls (l:=[ia,ic]) (f:=aj) (.head _) rfl Xl rfl)
  |exact hq [ib,ic] (by simp_all[bT];done) _ _ (Fz.sls (l:=[ib,ic]) (f:=aj) (.head _) rfl Xl rfl)
  |exact hq [ia,ib,ic] (by simp_all[bT];done) _ _ (Fz.sls (l:=[ia,ib,ic]) (f:=aj) (.head _) rfl Xl rfl)
  |exact hq [] (by simp_all[bT];done) _ _ .nils
theorem GQ{ins:List bj}{k:Nat}{i:bj}(h:ins[k]? =some i):az Tryz.prog 108 [.lst (ins.map bj.enc),.Xm k] (.Xm (if i.op=5 then i.a else IntKind.i64.wrap ((k:Int)+1))):=by
 have hx:(ins.map bj.enc)[k]? =some i.enc:=Pk h;obtain⟨op,ia,ib,ic,n,site⟩:=i;unfold bj.enc at hx;refine pt _ _ _ _ ?_;unfold iJ;generalize hQ:(λ(u:AV) (K:SH)=>u=AV.Xm (if op=5 then ia else IntKind.i64.wrap ((k:Int)+1))∧K=[])=Q
 repeat' (first|refine st ?_|refine sb λnb_ hnb_=>?_|refine s2 (λh=>?_) λh=>?_|fail)
 all_goals
  subst hQ;refine⟨?_,rfl⟩;simp_all
structure N2(ins:List bj):Prop where
 len:ins.length<2^48
 jmp:∀i∈ins,i.op=5→0≤i.a∧i.a<ins.length
 last:∀(k:Nat) (i:bj),ins[k]? =some i→(i.op=28↔k+1=ins.length)
def nxt(ins:List bj)(k:Nat):Nat:=match ins[k]? with
 |some i=>if i.op=5 then i.a.toNat else k+1
 |none=>0
def m0(ins:List bj)(k:Nat):Nat→Nat
 |0=>k
 |t+1=>nxt ins (m0 ins k t)
def nD(ins:List bj)(k:Nat):Prop:=∃i,ins[k]? =some i∧i.sil
section
variable {ins:List bj} (hf:N2 ins)
include hf
theorem N3{k:Nat}(h:nD ins k):nxt ins k<ins.length:=by
 obtain⟨i,hi,hs⟩:=h;have hk:=(List.getElem?_eq_some_iff.1 hi).1;unfold nxt;rw[hi];dsimp only;split
 ·rename_i h5;have:=hf.jmp i (Wf hi) h5;omega
 ·have h1:=hf.last k i hi;have:=hs.2;have:k+1≠ins.length:=λe=>by have:=h1.2 e;omega
  omega
theorem Le{k:Nat}(h:nD ins k):az Tryz.prog 108 [.lst (ins.map bj.enc),.Xm k] (.Xm (nxt ins k:Nat)):=by
 have hl:=N3 hf h;obtain⟨i,hi,hs⟩:=h;have h1:=GQ hi;have hk:=(Wk.1 hi).1;have:(if i.op=5 then i.a else IntKind.i64.wrap ((k:Int)+1))=(nxt ins k:Nat):=by
  unfold nxt;rw[hi];dsimp only;split
  ·rename_i h5;have:=hf.jmp i (Wf hi) h5;omega
  ·have:=hf.len;rw[aE hk Xh]
 rw[this]at h1;exact h1
theorem N4{k:Nat}(h:nD ins k)(h2:po ins (nxt ins k)):po ins k:=by
 obtain⟨i,hi,hs⟩:=h;obtain⟨m,hm⟩:=h2;unfold nxt at hm;rw[hi]at hm;dsimp only at hm;split at hm
 ·rename_i h5;have:=hf.jmp i (Wf hi) h5;exact⟨m+1,.jump k m i.a.toNat i hi h5 Xh hm⟩
 ·rename_i h5;exact⟨m+1,.go k m i hi hs h5 hm⟩
theorem Se{k m:Nat}(h:nD ins k)(h2:JI ins k m):∃m',m=m'+1∧JI ins (nxt ins k) m':=by
 obtain⟨i,hi,hs⟩:=h;unfold nxt;rw[hi];dsimp only;cases h2 with
 |ev _ i' hi' hs'=>rw[hi]at hi';cases hi';exact absurd hs hs'
 |go _ m' i' hi' hs' h5 hm=>rw[hi]at hi';cases hi';rw[if_neg h5];exact⟨m',rfl,hm⟩
 |jump _ m' j i' hi' h5 ha hm=>rw[hi]at hi';cases hi';rw[if_pos h5,ha];exact⟨m',rfl,by simpa using hm⟩
theorem GR{k m:Nat}(h:JI ins k m):∀t,(∀u,u<t→nD ins (m0 ins k u))→t≤m∧JI ins (m0 ins k t) (m-t)
 |0,_=>⟨We _,h⟩
 | t+1,hs=>by
  obtain⟨h1,h2⟩:=GR h t λu hu=>hs u Xh
  obtain⟨m',h3,h4⟩:=Se hf (hs t Xh) h2;refine⟨Xh,?_⟩;rw[show m-(t+1)=m' by omega];exact h4
theorem N5{k t u:Nat}(hs:∀u,u<t→nD ins (m0 ins k u))(hu:u<t)(e:m0 ins k u=m0 ins k t):¬po ins k:=λ⟨m,hm⟩=>by
 obtain⟨h1,h2⟩:=GR hf hm t hs;obtain⟨h3,h4⟩:=GR hf hm u λv hv=>hs v Xh
 rw[e]at h4;have:=h4.uniq h2;omega
theorem Iz{k:Nat}:∀t,(∀u,u<t→nD ins (m0 ins k u))→po ins (m0 ins k t)→∀u,u≤t→po ins (m0 ins k u)
 |0,_,h,u,hu=>by rw[show u=0 by omega];exact h
 | t+1,hs,h,u,hu=>by
  rcases VG t u with h1|h1
  ·rw[show u=t+1 by omega];exact h
  ·exact Iz t (λv hv=>hs v Xh) (N4 hf (hs t Xh) h) u h1
end
def m3(s:List Bool)(ins:List bj)(k:Nat):Nat→List Bool
 |0=>s
 |t+1=>(m3 s ins k t).set (m0 ins k t) true
theorem jx(s:List Bool)(ins:List bj)(k:Nat):∀t,(m3 s ins k t).length=s.length
 |0=>rfl
 |t+1=>by rw[m3,List.length_set,jx s ins k t]
theorem pG{s:List Bool}{ins:List bj}{k j:Nat}:∀t,(m3 s ins k t)[j]? =some true→s[j]? =some true∨∃u,u<t∧m0 ins k u=j
 |0,h=>.inl h
 | t+1,h=>by
  rw[m3,Wu]at h;split at h
  ·rename_i e;exact .inr ⟨t,Xh,e⟩
  ·rcases pG t h with h1|⟨u,hu,e⟩
   ·exact .inl h1
   ·exact .inr ⟨u,Xh,e⟩
theorem pH{s:List Bool}{ins:List bj}{k j:Nat}(hj:j<s.length):∀t,(s[j]? =some true∨∃u,u<t∧m0 ins k u=j)→(m3 s ins k t)[j]? =some true
 | 0,h=>by
  rcases h with h|⟨u,hu,_⟩
  ·exact h
  ·omega
 | t+1,h=>by
  rw[m3,Wu];split
  ·rename_i e;rw[if_pos (by rw[jx];omega)]
  ·rename_i e;refine pH hj t ?_;rcases h with h|⟨u,hu,e2⟩
   ·exact .inl h
   ·refine .inr ⟨u,?_,e2⟩;rcases VG u t with h1|h1
    ·exact h1
    ·rw[show u=t by omega]at e2;exact absurd e2 e
theorem JU{l:List Bool}{k:Nat}(h:k<l.length):∃b,l[k]? =some b:=⟨l[k],VB h⟩
theorem GS{l:List Bool}{k:Nat}{b:Bool}(h:l[k]? =some b):(l.map aT)[k]? =some [.bool b]:=by rw[VQ,h];rfl
theorem IA(s:List Bool)(ins:List bj)(k t:Nat):((m3 s ins k t).map aT).set (m0 ins k t) [.bool true]=(m3 s ins k (t+1)).map aT:=by rw[m3,Wx];rfl
end
section
set_option maxRecDepth 100000
set_option maxHeartbeats 1000000
set_option linter.unusedSectionVars false
structure Uj(ins:List bj)(start:Nat)(g:List Bool)(t:Nat):Prop where
 lt:m0 ins start t<ins.length
 sil:∀u,u<t→nD ins (m0 ins start u)
 bad:∀u,u<t→g[m0 ins start u]? =some false
 inj:∀u v,u<v→v<t→m0 ins start u≠m0 ins start v
section
variable {ins:List bj} (hf:N2 ins) {b1 b2:Nat} {start:Nat} (hs:start<ins.length) {g s:List Bool} (hg:g.length=ins.length) (hl:s.length=ins.length) (hsg:∀k:Nat,s[k]? =some true→g[k]? =some true) (hgl:∀k:Nat,g[k]? =some true→po ins k)
theorem Sf{t:Nat}(hf:N2 ins)(hs:start<ins.length)(h:Uj ins start g t):t≤ins.length:=by
 have h1:((List.range t).map (m0 ins start)).Nodup:=by
  refine List.pairwise_map.2 ?_;refine(List.nodup_range (n:=t)).imp_of_mem ?_;intro u v hu hv hne e;rcases VG u v with h2|h2
  ·exact h.inj u v h2 (Wy.1 hv) e
  ·exact h.inj v u Xh (Wy.1 hu) e.symm
 have h2:=Nz h1 (n:=ins.length) (by
  intro j hj;obtain⟨u,hu,rfl⟩:=Wd.1 hj;obtain⟨i,hi,_⟩:=h.sil u (Wy.1 hu);exact(Wk.1 hi).1)
 simpa using h2
include hf hs hg hl
theorem N6(n8:W.Kn)(T:Nat)(hw:Uj ins start g T)(he:¬nD ins (m0 ins start T)∨g[m0 ins start T]? =some true)(sr:List Bool)
  (hn:n8 [.lst (ins.map bj.enc),.sl b1 0 ins.length,.sl b2 0 ins.length,.Xm ins.length,.Xm (start+1:Nat)] [(b2,⟨1,sr.map aT⟩),(b1,⟨1,(m3 g ins start T).map aT⟩)]) :
  W.loop (fg n8) [.lst (ins.map bj.enc),.sl b1 0 ins.length,.sl b2 0 ins.length,.Xm start,.Xm ins.length,.Xm start] [(b2,⟨1,sr.map aT⟩),(b1,⟨1,g.map aT⟩)]:=by
 refine DA (λu:Nat=>([.lst (ins.map bj.enc),.sl b1 0 ins.length,.sl b2 0 ins.length,.Xm (m0 ins start u:Nat),.Xm ins.length,.Xm start],[(b2,⟨1,sr.map aT⟩),(b1,⟨1,(m3 g ins start u).map aT⟩)])) (λu=>T-u) (λu=>u≤T) 0 (We _) rfl rfl λu hu nx hnx=>?_
 have hk:m0 ins start u<ins.length:=by
  rcases VG u T with h|h
  ·obtain⟨i,hi,_⟩:=hw.sil u h;exact(Wk.1 hi).1
  ·rw[show u=T by omega];exact hw.lt
 have hx:=aw (f:=bj.enc) hk;unfold bj.enc at hx;have hsi:=A7 ins[m0 ins start u].op;obtain⟨b,hb⟩:=JU (l:=m3 g ins start u) (k:=m0 ins start u) (by rw[jx];omega);have hbm:=GS hb;have hw1:IntKind.i64.wrap ((start:Int)+1)=((start+1:Nat):Int):=aE hs (by have:=hf.len;omega);have hon:BY ins[m0 ins start u].op=true→b=false→u<T:=λh1 h2=>by
  rcases VG u T with h|h
  ·exact h
  ·exfalso;have e:u=T:=by omega
   subst e;rcases he with he|he
   ·exact he ⟨_,VB hk,by simpa[BY,bj.sil]using h1⟩
   ·rw[pH Xh u (.inl he)]at hb;cases hb;cases h2
 have hoff:u<T→BY ins[m0 ins start u].op=true∧b=false:=λh=>by
  obtain⟨i,hi,h2⟩:=hw.sil u h;rw[VB hk]at hi;cases hi;refine⟨by simpa[BY,bj.sil]using h2,?_⟩;cases b with
  |false=>rfl
  |true=>
   exfalso;rcases pG u hb with h3|⟨v,hv,h3⟩
   ·rw[hw.bad u h]at h3;cases h3
   ·exact hw.inj v u hv h h3
 unfold fg;dsimp only;rcases Nat.lt_or_ge u T with h|h
 ·obtain⟨h1,rfl⟩:=hoff h;have hfo:=Le hf (hw.sil u h);rw[h1]at hsi
  repeat' (first|refine st ?_|(refine pf 107 ?_;refine pm (hsi) ?_)|(refine pf 108 ?_;refine pm (hfo) ?_)|refine sb λnb_ hnb_=>?_|refine s2 (λh=>?_) λh=>?_|fail)
  have:=hnx (u+1) Xh Xh;rw[←IA]at this;exact this
 ·have e:u=T:=by omega
  subst e;cases h1:BY ins[m0 ins start u].op with
  |false=>
   rw[h1]at hsi
   repeat' (first|refine st ?_|(refine pf 107 ?_;refine pm (hsi) ?_)|refine sb λnb_ hnb_=>?_|refine s2 (λh=>?_) λh=>?_|fail)
   exact hn
  |true=>
   rw[h1]at hsi;cases b with
   |false=>exact absurd (hon h1 rfl) (Nat.lt_irrefl _)
   |true=>
    repeat' (first|refine st ?_|(refine pf 107 ?_;refine pm (hsi) ?_)|refine sb λnb_ hnb_=>?_|refine s2 (λh=>?_) λh=>?_|fail)
    exact hn
include hsg in
theorem Sg(Q:R)(n8:W.Kn)(hq:¬po ins start→∀L,Q (.bool false) L)
  (hn:∀T,Uj ins start g T→(¬nD ins (m0 ins start T)∨g[m0 ins start T]? =some true)→n8 [.lst (ins.map bj.enc),.sl b1 0 ins.length,.sl b2 0 ins.length,.Xm ins.length,.Xm (start+1:Nat)] [(b2,⟨1,(m3 s ins start T).map aT⟩),(b1,⟨1,(m3 g ins start T).map aT⟩)]) :
  W.loop (fh Q n8) [.lst (ins.map bj.enc),.sl b1 0 ins.length,.sl b2 0 ins.length,.Xm start,.Xm start,.Xm ins.length,.Xm start] [(b2,⟨1,s.map aT⟩),(b1,⟨1,g.map aT⟩)]:=by
 refine DA (λt:Nat=>([.lst (ins.map bj.enc),.sl b1 0 ins.length,.sl b2 0 ins.length,.Xm start,.Xm (m0 ins start t:Nat),.Xm ins.length,.Xm start],[(b2,⟨1,(m3 s ins start t).map aT⟩),(b1,⟨1,g.map aT⟩)])) (λt=>ins.length-t) (λt=>Uj ins start g t) 0 ⟨hs,λu hu=>absurd hu (Nat.not_lt_zero _),λu hu=>absurd hu (Nat.not_lt_zero _),λu v _ hv=>absurd hv (Nat.not_lt_zero _)⟩ rfl rfl λt hw nx hnx=>?_
 have hk:=hw.lt;have hx:=aw (f:=bj.enc) hk;unfold bj.enc at hx;have hsi:=A7 ins[m0 ins start t].op;obtain⟨b,hb⟩:=JU (l:=g) (k:=m0 ins start t) Xh;have hbm:=GS hb;obtain⟨c,hc⟩:=JU (l:=m3 s ins start t) (k:=m0 ins start t) (by rw[jx];omega);have hcm:=GS hc;unfold fh;dsimp only;cases h1:BY ins[m0 ins start t].op with
 |false=>
  rw[h1]at hsi;have hno:¬nD ins (m0 ins start t):=λ⟨i,hi,h2⟩=>by
   rw[VB hk]at hi;cases hi;have:BY ins[m0 ins start t].op=true:=by simpa[BY,bj.sil]using h2
   rw[h1]at this;cases this
  repeat' (first|refine st ?_|(refine pf 107 ?_;refine pm (hsi) ?_)|refine sb λnb_ hnb_=>?_|refine s2 (λh=>?_) λh=>?_|fail)
  exact N6 hf hs hg hl n8 t hw (.inl hno) _ (hn t hw (.inl hno))
 |true=>
  rw[h1]at hsi;have hsa:nD ins (m0 ins start t):=⟨_,VB hk,by simpa[BY,bj.sil]using h1⟩;cases b with
  |true=>
   repeat' (first|refine st ?_|(refine pf 107 ?_;refine pm (hsi) ?_)|refine sb λnb_ hnb_=>?_|refine s2 (λh=>?_) λh=>?_|fail)
   exact N6 hf hs hg hl n8 t hw (.inr hb) _ (hn t hw (.inr hb))
  |false=>
   cases c with
   |true=>
    have:¬po ins start:=by
     rcases pG t hc with h2|⟨u,hu,h2⟩
     ·rw[hsg _ h2]at hb;cases hb
     ·exact N5 hf hw.sil hu h2
    repeat' (first|refine st ?_|(refine pf 107 ?_;refine pm (hsi) ?_)|refine sb λnb_ hnb_=>?_|refine s2 (λh=>?_) λh=>?_|fail)
    exact hq this _
   |false=>
    have hfo:=Le hf hsa;have hw2:Uj ins start g (t+1):=⟨N3 hf hsa,λu hu=>by
     rcases VG u t with h|h
     ·exact hw.sil u h
     ·rw[show u=t by omega];exact hsa,λu hu=>by
     rcases VG u t with h|h
     ·exact hw.bad u h
     ·rw[show u=t by omega];exact hb,λu v huv hv e=>by
     rcases VG v t with h|h
     ·exact hw.inj u v huv h e
     ·have h2:v=t:=by omega
      subst h2;rw[pH Xh v (.inr ⟨u,huv,e⟩)]at hc;cases hc⟩
    have hle:=Sf hf hs hw2
    repeat' (first|refine st ?_|(refine pf 107 ?_;refine pm (hsi) ?_)|(refine pf 108 ?_;refine pm (hfo) ?_)|refine sb λnb_ hnb_=>?_|refine s2 (λh=>?_) λh=>?_|fail)
    have:=hnx (t+1) hw2 Xh;rw[←IA]at this;exact this
end
theorem IB{ins:List bj}(hf:N2 ins):az Tryz.prog 70 [.lst (ins.map bj.enc)] (.bool (mZ (∀k,k<ins.length→po ins k))):=by
 have hl:=hf.len;refine af.fz (qO _ _ _ ?_);unfold jv;generalize hQ:(λ(v:AV) (L:SH)=>∃v2 L2,aJ [v] L [v2] L2∧v2=AV.bool (mZ (∀k,k<ins.length→po ins k))∧L2=[])=Q;have hq:∀b,mZ (∀k,k<ins.length→po ins k)=b→∀L,Q (.bool b) L:=λb hb L=>by subst hQ;exact⟨_,[],aJ.all (.refl _),by rw[hb],rfl⟩
 clear hQ
 repeat' (first|refine st ?_|refine sb λnb_ hnb_=>?_|refine s2 (λh=>?_) λh=>?_|fail)
 rename_i b1 _;revert nb_;intro b2 _;have hrep:∀k:Nat,(List.replicate ins.length false)[k]? =some true→po ins k:=λk h=>by rw[WN]at h;split at h<;>cases h
 refine DA (α:=Nat×List Bool×List Bool) (λa=>([.lst (ins.map bj.enc),.sl b1 0 ins.length,.sl b2 0 ins.length,.Xm ins.length,.Xm (a.1:Nat)],[(b2,⟨1,a.2.2.map aT⟩),(b1,⟨1,a.2.1.map aT⟩)])) (λa=>ins.length-a.1)
  (λa=>a.1≤ins.length∧a.2.1.length=ins.length∧a.2.2.length=ins.length∧(∀k:Nat,a.2.2[k]? =some true→a.2.1[k]? =some true)∧(∀k:Nat,a.2.1[k]? =some true→po ins k)∧∀k,k<a.1→po ins k) (0,List.replicate ins.length false,List.replicate ins.length false)
  ⟨We _,Xk,Xk,λk h=>h,hrep,λk h=>absurd h (Nat.not_lt_zero _)⟩ Xk (by simp[aT]) ?_
 rintro⟨a,g,s⟩ ⟨h1,h2,h3,h4,h5,h6⟩ nx hnx;dsimp only at h1 h2 h3 h4 h5 h6 ⊢;unfold iI;rcases Nat.lt_or_ge a ins.length with h|h
 ·have hd:=bF h
  repeat' (first|refine st ?_|refine sb λnb_ hnb_=>?_|refine s2 (λh=>?_) λh=>?_|fail)
  refine Sg hf h h2 h3 h4 Q nx (λhno L=>hq _ (jw λhall=>hno (hall a h)) L) λT hw he=>?_
  have hT:po ins (m0 ins a T):=by
   rcases he with he|he
   ·have hk:=hw.lt;exact⟨0,.ev _ _ (VB hk) λhs=>he ⟨_,VB hk,hs⟩⟩
   ·exact h5 _ he
  have hall:=Iz hf T hw.sil hT;refine hnx (a+1,m3 g ins a T,m3 s ins a T) ⟨h,by rw[jx,h2],by rw[jx,h3],λk hk=>?_,λk hk=>?_,λk hk=>?_⟩ (by show ins.length-(a+1)<ins.length-a;omega)
  ·have hkl:k<s.length:=by have:=(Wk.1 hk).1;rwa [jx]at this
   rcases pG T hk with g1|g1
   ·exact pH Xh T (.inl (h4 k g1))
   ·exact pH Xh T (.inr g1)
  ·rcases pG T hk with g1|⟨u,hu,g1⟩
   ·exact h5 k g1
   ·rw[←g1];exact hall u Xh
  ·rcases VG k a with g1|g1
   ·exact h6 k g1
   ·rw[show k=a by dsimp only at hk;omega];exact hall 0 (Nat.zero_le _)
 ·have hd:=bI h
  repeat' (first|refine st ?_|refine sb λnb_ hnb_=>?_|refine s2 (λh=>?_) λh=>?_|fail)
  exact hq _ (kv λk hk=>h6 k Xh) _
end
end Go.Proofs.YtdnpdghlggbklaaGreatDoor.Am
