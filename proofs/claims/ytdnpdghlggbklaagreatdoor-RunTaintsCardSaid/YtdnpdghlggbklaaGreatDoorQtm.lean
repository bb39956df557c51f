/- A part of the proof; the statement is proved in the last part. -/
import Derived.Test.YtdnpdghlggbklaaGreatDoorQtl
set_option linter.unusedSimpArgs false
set_option linter.unusedVariables false
namespace Go.Proofs.YtdnpdghlggbklaaGreatDoor.Am
section
set_option maxRecDepth 100000
set_option maxHeartbeats 1000000
set_option linter.unusedSectionVars false
noncomputable def nZ (P:Prop):Bool:=@decide P (Classical.propDecidable P)
theorem kW{P:Prop}(h:P):nZ P=true:=@decide_eq_true P (Classical.propDecidable P) h
theorem jK{P:Prop}(h:¬P):nZ P=false:=@decide_eq_false P (Classical.propDecidable P) h
theorem jm{P:Prop}:nZ P=true↔P:=⟨λh=>@of_decide_eq_true P (Classical.propDecidable P) h,kW⟩
theorem Iw(i:bq):az Tryz.prog 68 [.agg i.enc] (.lst ((cf i).map aj)):=by
 obtain⟨op,ia,ib,ic,n,site⟩:=i;refine af.fz (qE _ _ _ ?_);unfold iZ;generalize hQ:(λ(v:AV) (L:SH)=>∃v2 L2,aG [v] L [v2] L2∧v2=AV.lst ((cf ⟨op,ia,ib,ic,n,site⟩).map aj)∧L2=[])=Q;have hq:∀(l:List Int),cf ⟨op,ia,ib,ic,n,site⟩=l→∀v L,Fz L v (.lst (l.map aj))→Q v L:=λl hl v L h=>by subst hQ;exact⟨_,[],aG.all h,by rw[hl],rfl⟩
 clear hQ
 repeat' (first|refine st ?_|refine sb λnb_ hnb_=>?_|refine s2 (λh=>?_) λh=>?_|fail)
 all_goals first
  |exact hq [ia] (by simp_all[cf];done) _ _ (Fz.sls (l:=[ia]) (f:=aj) (.head _) rfl ZN rfl)
  |exact hq [ib] (by simp_all[cf];done) _ _ (Fz.sls (l:=[ib]) (f:=aj) (.head _) rfl ZN rfl)
  |exact hq [ia,ib] (by simp_all[cf];done) _ _ (Fz.sls (l:=[ia,ib]) (f:=aj) (.head _) rfl ZN rfl)
  |exact hq [ia,ic] (by simp_all[cf];done) _ _ (Fz.sls (l:=[ia,ic]) (f:=aj) (.head _) rfl ZN rfl)
  |exact hq [ib,ic] (by simp_all[cf];done) _ _ (Fz.sls (l:=[ib,ic]) (f:=aj) (.head _) rfl ZN rfl)
  |exact hq [ia,ib,ic] (by simp_all[cf];done) _ _ (Fz.sls (l:=[ia,ib,ic]) (f:=aj) (.head _) rfl ZN rfl)
  |exact hq [] (by simp_all[cf];done) _ _ .nils
theorem Ix{ins:List bq}{k:Nat}{i:bq}(h:ins[k]? =some i):az Tryz.prog 108 [.lst (ins.map bq.enc),.ZO k] (.ZO (if i.op=5 then i.a else IntKind.i64.wrap ((k:Int)+1))):=by
 have hx:(ins.map bq.enc)[k]? =some i.enc:=RH h;obtain⟨op,ia,ib,ic,n,site⟩:=i;unfold bq.enc at hx;refine qu _ _ _ _ ?_;unfold iY;generalize hQ:(λ(u:AV) (K:SH)=>u=AV.ZO (if op=5 then ia else IntKind.i64.wrap ((k:Int)+1))∧K=[])=Q
 repeat' (first|refine st ?_|refine sb λnb_ hnb_=>?_|refine s2 (λh=>?_) λh=>?_|fail)
 all_goals
  subst hQ;refine⟨?_,rfl⟩;simp_all
structure P8(ins:List bq):Prop where
 len:ins.length<2^48
 jmp:∀i∈ins,i.op=5→0≤i.a∧i.a<ins.length
 last:∀(k:Nat) (i:bq),ins[k]? =some i→(i.op=28↔k+1=ins.length)
def nxt(ins:List bq)(k:Nat):Nat:=match ins[k]? with
 |some i=>if i.op=5 then i.a.toNat else k+1
 |none=>0
def oa(ins:List bq)(k:Nat):Nat→Nat
 |0=>k
 |t+1=>nxt ins (oa ins k t)
def oM(ins:List bq)(k:Nat):Prop:=∃i,ins[k]? =some i∧i.sil
section
variable {ins:List bq} (hf:P8 ins)
include hf
theorem P9{k:Nat}(h:oM ins k):nxt ins k<ins.length:=by
 obtain⟨i,hi,hs⟩:=h;have hk:=(List.getElem?_eq_some_iff.1 hi).1;unfold nxt;rw[hi];dsimp only;split
 ·rename_i h5;have:=hf.jmp i (YN hi) h5;omega
 ·have h1:=hf.last k i hi;have:=hs.2;have:k+1≠ins.length:=λe=>by have:=h1.2 e;omega
  omega
theorem Nb{k:Nat}(h:oM ins k):az Tryz.prog 108 [.lst (ins.map bq.enc),.ZO k] (.ZO (nxt ins k:Nat)):=by
 have hl:=P9 hf h;obtain⟨i,hi,hs⟩:=h;have h1:=Ix hi;have hk:=(YR.1 hi).1;have:(if i.op=5 then i.a else IntKind.i64.wrap ((k:Int)+1))=(nxt ins k:Nat):=by
  unfold nxt;rw[hi];dsimp only;split
  ·rename_i h5;have:=hf.jmp i (YN hi) h5;omega
  ·have:=hf.len;rw[aA hk ZJ]
 rw[this]at h1;exact h1
theorem Qa{k:Nat}(h:oM ins k)(h2:qp ins (nxt ins k)):qp ins k:=by
 obtain⟨i,hi,hs⟩:=h;obtain⟨m,hm⟩:=h2;unfold nxt at hm;rw[hi]at hm;dsimp only at hm;split at hm
 ·rename_i h5;have:=hf.jmp i (YN hi) h5;exact⟨m+1,.jump k m i.a.toNat i hi h5 ZJ hm⟩
 ·rename_i h5;exact⟨m+1,.go k m i hi hs h5 hm⟩
theorem UC{k m:Nat}(h:oM ins k)(h2:LD ins k m):∃m',m=m'+1∧LD ins (nxt ins k) m':=by
 obtain⟨i,hi,hs⟩:=h;unfold nxt;rw[hi];dsimp only;cases h2 with
 |ev _ i' hi' hs'=>rw[hi]at hi';cases hi';exact absurd hs hs'
 |go _ m' i' hi' hs' h5 hm=>rw[hi]at hi';cases hi';rw[if_neg h5];exact⟨m',rfl,hm⟩
 |jump _ m' j i' hi' h5 ha hm=>rw[hi]at hi';cases hi';rw[if_pos h5,ha];exact⟨m',rfl,by simpa using hm⟩
theorem Iy{k m:Nat}(h:LD ins k m):∀t,(∀u,u<t→oM ins (oa ins k u))→t≤m∧LD ins (oa ins k t) (m-t)
 |0,_=>⟨YK _,h⟩
 | t+1,hs=>by
  obtain⟨h1,h2⟩:=Iy h t λu hu=>hs u ZJ
  obtain⟨m',h3,h4⟩:=UC hf (hs t ZJ) h2;refine⟨ZJ,?_⟩;rw[show m-(t+1)=m' by omega];exact h4
theorem Qb{k t u:Nat}(hs:∀u,u<t→oM ins (oa ins k u))(hu:u<t)(e:oa ins k u=oa ins k t):¬qp ins k:=λ⟨m,hm⟩=>by
 obtain⟨h1,h2⟩:=Iy hf hm t hs;obtain⟨h3,h4⟩:=Iy hf hm u λv hv=>hs v ZJ
 rw[e]at h4;have:=h4.uniq h2;omega
theorem Kj{k:Nat}:∀t,(∀u,u<t→oM ins (oa ins k u))→qp ins (oa ins k t)→∀u,u≤t→qp ins (oa ins k u)
 |0,_,h,u,hu=>by rw[show u=0 by omega];exact h
 | t+1,hs,h,u,hu=>by
  rcases X9 t u with h1|h1
  ·rw[show u=t+1 by omega];exact h
  ·exact Kj t (λv hv=>hs v ZJ) (Qa hf (hs t ZJ) h) u h1
end
def oe(s:List Bool)(ins:List bq)(k:Nat):Nat→List Bool
 |0=>s
 |t+1=>(oe s ins k t).set (oa ins k t) true
theorem jL(s:List Bool)(ins:List bq)(k:Nat):∀t,(oe s ins k t).length=s.length
 |0=>rfl
 |t+1=>by rw[oe,ZC,jL s ins k t]
theorem qF{s:List Bool}{ins:List bq}{k j:Nat}:∀t,(oe s ins k t)[j]? =some true→s[j]? =some true∨∃u,u<t∧oa ins k u=j
 |0,h=>.inl h
 | t+1,h=>by
  rw[oe,Yu]at h;split at h
  ·rename_i e;exact .inr ⟨t,ZJ,e⟩
  ·rcases qF t h with h1|⟨u,hu,e⟩
   ·exact .inl h1
   ·exact .inr ⟨u,ZJ,e⟩
theorem qG{s:List Bool}{ins:List bq}{k j:Nat}(hj:j<s.length):∀t,(s[j]? =some true∨∃u,u<t∧oa ins k u=j)→(oe s ins k t)[j]? =some true
 | 0,h=>by
  rcases h with h|⟨u,hu,_⟩
  ·exact h
  ·omega
 | t+1,h=>by
  rw[oe,Yu];split
  ·rename_i e;rw[if_pos (by rw[jL];omega)]
  ·rename_i e;refine qG hj t ?_;rcases h with h|⟨u,hu,e2⟩
   ·exact .inl h
   ·refine .inr ⟨u,?_,e2⟩;rcases X9 u t with h1|h1
    ·exact h1
    ·rw[show u=t by omega]at e2;exact absurd e2 e
theorem LM{l:List Bool}{k:Nat}(h:k<l.length):∃b,l[k]? =some b:=⟨l[k],X6 h⟩
theorem Iz{l:List Bool}{k:Nat}{b:Bool}(h:l[k]? =some b):(l.map bj)[k]? =some [.bool b]:=by rw[Ym,h];rfl
theorem Kk(s:List Bool)(ins:List bq)(k t:Nat):((oe s ins k t).map bj).set (oa ins k t) [.bool true]=(oe s ins k (t+1)).map bj:=by rw[oe,Y6];rfl
end
section
set_option maxRecDepth 100000
set_option maxHeartbeats 1000000
set_option linter.unusedSectionVars false
structure WF(ins:List bq)(start:Nat)(g:List Bool)(t:Nat):Prop where
 lt:oa ins start t<ins.length
 sil:∀u,u<t→oM ins (oa ins start u)
 bad:∀u,u<t→g[oa ins start u]? =some false
 inj:∀u v,u<v→v<t→oa ins start u≠oa ins start v
section
variable {ins:List bq} (hf:P8 ins) {b1 b2:Nat} {start:Nat} (hs:start<ins.length) {g s:List Bool} (hg:g.length=ins.length) (hl:s.length=ins.length) (hsg:∀k:Nat,s[k]? =some true→g[k]? =some true) (hgl:∀k:Nat,g[k]? =some true→qp ins k)
theorem UD{t:Nat}(hf:P8 ins)(hs:start<ins.length)(h:WF ins start g t):t≤ins.length:=by
 have h1:((List.range t).map (oa ins start)).Nodup:=by
  refine List.pairwise_map.2 ?_;refine(List.nodup_range (n:=t)).imp_of_mem ?_;intro u v hu hv hne e;rcases X9 u v with h2|h2
  ·exact h.inj u v h2 (Y3.1 hv) e
  ·exact h.inj v u ZJ (Y3.1 hu) e.symm
 have h2:=PD h1 (n:=ins.length) (by
  intro j hj;obtain⟨u,hu,rfl⟩:=YH.1 hj;obtain⟨i,hi,_⟩:=h.sil u (Y3.1 hu);exact(YR.1 hi).1)
 simpa using h2
include hf hs hg hl
theorem Qc(n8:W.Kn)(T:Nat)(hw:WF ins start g T)(he:¬oM ins (oa ins start T)∨g[oa ins start T]? =some true)(sr:List Bool)
  (hn:n8 [.lst (ins.map bq.enc),.sl b1 0 ins.length,.sl b2 0 ins.length,.ZO ins.length,.ZO (start+1:Nat)] [(b2,⟨1,sr.map bj⟩),(b1,⟨1,(oe g ins start T).map bj⟩)]) :
  W.loop (ft n8) [.lst (ins.map bq.enc),.sl b1 0 ins.length,.sl b2 0 ins.length,.ZO start,.ZO ins.length,.ZO start] [(b2,⟨1,sr.map bj⟩),(b1,⟨1,g.map bj⟩)]:=by
 refine EZ (λu:Nat=>([.lst (ins.map bq.enc),.sl b1 0 ins.length,.sl b2 0 ins.length,.ZO (oa ins start u:Nat),.ZO ins.length,.ZO start],[(b2,⟨1,sr.map bj⟩),(b1,⟨1,(oe g ins start u).map bj⟩)])) (λu=>T-u) (λu=>u≤T) 0 (YK _) rfl rfl λu hu nx hnx=>?_
 have hk:oa ins start u<ins.length:=by
  rcases X9 u T with h|h
  ·obtain⟨i,hi,_⟩:=hw.sil u h;exact(YR.1 hi).1
  ·rw[show u=T by omega];exact hw.lt
 have hx:=ay (f:=bq.enc) hk;unfold bq.enc at hx;have hsi:=Cq ins[oa ins start u].op;obtain⟨b,hb⟩:=LM (l:=oe g ins start u) (k:=oa ins start u) (by rw[jL];omega);have hbm:=Iz hb;have hw1:IntKind.i64.wrap ((start:Int)+1)=((start+1:Nat):Int):=aA hs (by have:=hf.len;omega);have hon:Dj ins[oa ins start u].op=true→b=false→u<T:=λh1 h2=>by
  rcases X9 u T with h|h
  ·exact h
  ·exfalso;have e:u=T:=by omega
   subst e;rcases he with he|he
   ·exact he ⟨_,X6 hk,by simpa[Dj,bq.sil]using h1⟩
   ·rw[qG ZJ u (.inl he)]at hb;cases hb;cases h2
 have hoff:u<T→Dj ins[oa ins start u].op=true∧b=false:=λh=>by
  obtain⟨i,hi,h2⟩:=hw.sil u h;rw[X6 hk]at hi;cases hi;refine⟨by simpa[Dj,bq.sil]using h2,?_⟩;cases b with
  |false=>rfl
  |true=>
   exfalso;rcases qF u hb with h3|⟨v,hv,h3⟩
   ·rw[hw.bad u h]at h3;cases h3
   ·exact hw.inj v u hv h h3
 unfold ft;dsimp only;rcases Nat.lt_or_ge u T with h|h
 ·obtain⟨h1,rfl⟩:=hoff h;have hfo:=Nb hf (hw.sil u h);rw[h1]at hsi
  repeat' (first|refine st ?_|(refine pf 107 ?_;refine pm (hsi) ?_)|(refine pf 108 ?_;refine pm (hfo) ?_)|refine sb λnb_ hnb_=>?_|refine s2 (λh=>?_) λh=>?_|fail)
  have:=hnx (u+1) ZJ ZJ;rw[←Kk]at this;exact this
 ·have e:u=T:=by omega
  subst e;cases h1:Dj ins[oa ins start u].op with
  |false=>
   rw[h1]at hsi
   repeat' (first|refine st ?_|(refine pf 107 ?_;refine pm (hsi) ?_)|refine sb λnb_ hnb_=>?_|refine s2 (λh=>?_) λh=>?_|fail)
   exact hn
  |true=>
   rw[h1]at hsi;cases b with
   |false=>exact absurd (hon h1 rfl) (Nat.lt_irrefl _)
   |true=>
    repeat' (first|refine st ?_|(refine pf 107 ?_;refine pm (hsi) ?_)|refine sb λnb_ hnb_=>?_|refine s2 (λh=>?_) λh=>?_|fail)
    exact hn
include hsg in
theorem UE(Q:R)(n8:W.Kn)(hq:¬qp ins start→∀L,Q (.bool false) L)
  (hn:∀T,WF ins start g T→(¬oM ins (oa ins start T)∨g[oa ins start T]? =some true)→n8 [.lst (ins.map bq.enc),.sl b1 0 ins.length,.sl b2 0 ins.length,.ZO ins.length,.ZO (start+1:Nat)] [(b2,⟨1,(oe s ins start T).map bj⟩),(b1,⟨1,(oe g ins start T).map bj⟩)]) :
  W.loop (fw Q n8) [.lst (ins.map bq.enc),.sl b1 0 ins.length,.sl b2 0 ins.length,.ZO start,.ZO start,.ZO ins.length,.ZO start] [(b2,⟨1,s.map bj⟩),(b1,⟨1,g.map bj⟩)]:=by
 refine EZ (λt:Nat=>([.lst (ins.map bq.enc),.sl b1 0 ins.length,.sl b2 0 ins.length,.ZO start,.ZO (oa ins start t:Nat),.ZO ins.length,.ZO start],[(b2,⟨1,(oe s ins start t).map bj⟩),(b1,⟨1,g.map bj⟩)])) (λt=>ins.length-t) (λt=>WF ins start g t) 0 ⟨hs,λu hu=>absurd hu (Zx _),λu hu=>absurd hu (Zx _),λu v _ hv=>absurd hv (Zx _)⟩ rfl rfl λt hw nx hnx=>?_
 have hk:=hw.lt;have hx:=ay (f:=bq.enc) hk;unfold bq.enc at hx;have hsi:=Cq ins[oa ins start t].op;obtain⟨b,hb⟩:=LM (l:=g) (k:=oa ins start t) ZJ;have hbm:=Iz hb;obtain⟨c,hc⟩:=LM (l:=oe s ins start t) (k:=oa ins start t) (by rw[jL];omega);have hcm:=Iz hc;unfold fw;dsimp only;cases h1:Dj ins[oa ins start t].op with
 |false=>
  rw[h1]at hsi;have hno:¬oM ins (oa ins start t):=λ⟨i,hi,h2⟩=>by
   rw[X6 hk]at hi;cases hi;have:Dj ins[oa ins start t].op=true:=by simpa[Dj,bq.sil]using h2
   rw[h1]at this;cases this
  repeat' (first|refine st ?_|(refine pf 107 ?_;refine pm (hsi) ?_)|refine sb λnb_ hnb_=>?_|refine s2 (λh=>?_) λh=>?_|fail)
  exact Qc hf hs hg hl n8 t hw (.inl hno) _ (hn t hw (.inl hno))
 |true=>
  rw[h1]at hsi;have hsa:oM ins (oa ins start t):=⟨_,X6 hk,by simpa[Dj,bq.sil]using h1⟩;cases b with
  |true=>
   repeat' (first|refine st ?_|(refine pf 107 ?_;refine pm (hsi) ?_)|refine sb λnb_ hnb_=>?_|refine s2 (λh=>?_) λh=>?_|fail)
   exact Qc hf hs hg hl n8 t hw (.inr hb) _ (hn t hw (.inr hb))
  |false=>
   cases c with
   |true=>
    have:¬qp ins start:=by
     rcases qF t hc with h2|⟨u,hu,h2⟩
     ·rw[hsg _ h2]at hb;cases hb
     ·exact Qb hf hw.sil hu h2
    repeat' (first|refine st ?_|(refine pf 107 ?_;refine pm (hsi) ?_)|refine sb λnb_ hnb_=>?_|refine s2 (λh=>?_) λh=>?_|fail)
    exact hq this _
   |false=>
    have hfo:=Nb hf hsa;have hw2:WF ins start g (t+1):=⟨P9 hf hsa,λu hu=>by
     rcases X9 u t with h|h
     ·exact hw.sil u h
     ·rw[show u=t by omega];exact hsa,λu hu=>by
     rcases X9 u t with h|h
     ·exact hw.bad u h
     ·rw[show u=t by omega];exact hb,λu v huv hv e=>by
     rcases X9 v t with h|h
     ·exact hw.inj u v huv h e
     ·have h2:v=t:=by omega
      subst h2;rw[qG ZJ v (.inr ⟨u,huv,e⟩)]at hc;cases hc⟩
    have hle:=UD hf hs hw2
    repeat' (first|refine st ?_|(refine pf 107 ?_;refine pm (hsi) ?_)|(refine pf 108 ?_;refine pm (hfo) ?_)|refine sb λnb_ hnb_=>?_|refine s2 (λh=>?_) λh=>?_|fail)
    have:=hnx (t+1) hw2 ZJ;rw[←Kk]at this;exact this
end
theorem Kl{ins:List bq}(hf:P8 ins):az Tryz.prog 70 [.lst (ins.map bq.enc)] (.bool (nZ (∀k,k<ins.length→qp ins k))):=by
 have hl:=hf.len;refine af.fz (rR _ _ _ ?_);unfold jJ;generalize hQ:(λ(v:AV) (L:SH)=>∃v2 L2,aG [v] L [v2] L2∧v2=AV.bool (nZ (∀k,k<ins.length→qp ins k))∧L2=[])=Q;have hq:∀b,nZ (∀k,k<ins.length→qp ins k)=b→∀L,Q (.bool b) L:=λb hb L=>by subst hQ;exact⟨_,[],aG.all (.refl _),by rw[hb],rfl⟩
 clear hQ
 repeat' (first|refine st ?_|refine sb λnb_ hnb_=>?_|refine s2 (λh=>?_) λh=>?_|fail)
 rename_i b1 _;revert nb_;intro b2 _;have hrep:∀k:Nat,(List.replicate ins.length false)[k]? =some true→qp ins k:=λk h=>by rw[Zm]at h;split at h<;>cases h
 refine EZ (α:=Nat×List Bool×List Bool) (λa=>([.lst (ins.map bq.enc),.sl b1 0 ins.length,.sl b2 0 ins.length,.ZO ins.length,.ZO (a.1:Nat)],[(b2,⟨1,a.2.2.map bj⟩),(b1,⟨1,a.2.1.map bj⟩)])) (λa=>ins.length-a.1)
  (λa=>a.1≤ins.length∧a.2.1.length=ins.length∧a.2.2.length=ins.length∧(∀k:Nat,a.2.2[k]? =some true→a.2.1[k]? =some true)∧(∀k:Nat,a.2.1[k]? =some true→qp ins k)∧∀k,k<a.1→qp ins k) (0,List.replicate ins.length false,List.replicate ins.length false)
  ⟨YK _,ZM,ZM,λk h=>h,hrep,λk h=>absurd h (Zx _)⟩ ZM (by simp[bj]) ?_
 rintro⟨a,g,s⟩ ⟨h1,h2,h3,h4,h5,h6⟩ nx hnx;dsimp only at h1 h2 h3 h4 h5 h6 ⊢;unfold iX;rcases Nat.lt_or_ge a ins.length with h|h
 ·have hd:=bE h
  repeat' (first|refine st ?_|refine sb λnb_ hnb_=>?_|refine s2 (λh=>?_) λh=>?_|fail)
  refine UE hf h h2 h3 h4 Q nx (λhno L=>hq _ (jK λhall=>hno (hall a h)) L) λT hw he=>?_
  have hT:qp ins (oa ins a T):=by
   rcases he with he|he
   ·have hk:=hw.lt;exact⟨0,.ev _ _ (X6 hk) λhs=>he ⟨_,X6 hk,hs⟩⟩
   ·exact h5 _ he
  have hall:=Kj hf T hw.sil hT;refine hnx (a+1,oe g ins a T,oe s ins a T) ⟨h,by rw[jL,h2],by rw[jL,h3],λk hk=>?_,λk hk=>?_,λk hk=>?_⟩ (by show ins.length-(a+1)<ins.length-a;omega)
  ·have hkl:k<s.length:=by have:=(YR.1 hk).1;rwa [jL]at this
   rcases qF T hk with g1|g1
   ·exact qG ZJ T (.inl (h4 k g1))
   ·exact qG ZJ T (.inr g1)
  ·rcases qF T hk with g1|⟨u,hu,g1⟩
   ·exact h5 k g1
   ·rw[←g1];exact hall u ZJ
  ·rcases X9 k a with g1|g1
   ·exact h6 k g1
   ·rw[show k=a by dsimp only at hk;omega];exact hall 0 (Nat.zero_le _)
 ·have hd:=bI h
  repeat' (first|refine st ?_|refine sb λnb_ hnb_=>?_|refine s2 (λh=>?_) λh=>?_|fail)
  exact hq _ (kW λk hk=>h6 k ZJ) _
end
section
set_option maxRecDepth 100000
set_option maxHeartbeats 1000000
set_option linter.unusedSectionVars false
structure GJ(w:aO)(t n:Nat)(regs:Int)(k:Nat)(i:bq):Prop where
 lo:1≤i.op
 hi:i.op≤28
 last:i.op=28↔k+1=n
 fin:i.op=28→i.site=-1
 sin:i.op≠28→inB i.site w.sites.length=true
 sth:i.op≠28→(w.sites.getD i.site.toNat default).thread=t
 regs:∀r∈cf i,0≤r∧r<regs
 obj:LC w i=true
 jmp:Ki n i=true
structure Km(w:aO)(t:Nat)(c:hY):Prop where
 r0:0≤c.regs
 r32:c.regs≤32
 ne:0<c.ins.length
 ins:∀(k:Nat) (h:k<c.ins.length),GJ w t c.ins.length c.regs k c.ins[k]
 lans:∀k,k<c.ins.length→qp c.ins k
theorem GJ.fit{w:aO}{t:Nat}{c:hY}(hl:c.ins.length<2^48)(h:∀(k:Nat) (h:k<c.ins.length),GJ w t c.ins.length c.regs k c.ins[k]):P8 c.ins where
 len:=hl
 jmp:=λi hi h5=>by obtain⟨k,hk,rfl⟩:=List.mem_iff_getElem.1 hi;have:=(h k hk).jmp;unfold Ki at this;rw[if_pos h5]at this;exact ax.1 this
 last:=λk i hi=>by obtain⟨hk,rfl⟩:=YR.1 hi;exact(h k hk).last
theorem N0(i:bq):(cf i).length≤3:=by
 unfold cf
 repeat' split
 all_goals simp
section
variable {w:aO} {t:Nat} {c:hY} {k:Nat} {i:bq} (h0:0≤c.regs) (Q:R) (n45:W.Kn)
 (hno:¬GJ w t c.ins.length c.regs k i→Q (.bool false) [])
 (hgo:(∀r∈cf i,0≤r∧r<c.regs)→LC w i=true→Ki c.ins.length i=true→n45 [.ZO t,.pptr [w.enc] 0 0,.pptr [c.enc] 0 0,.lst (c.ins.map bq.enc),.ZO c.ins.length,.ZO (k+1:Nat)] [])
 (hl:c.ins.length<2^48) (hk:k<c.ins.length)
include h0 hno hgo hl hk
theorem UF(x:AV):dY Q n45 [.ZO t,.pptr [w.enc] 0 0,.pptr [c.enc] 0 0,x,.pptr [i.enc] 0 0,.lst (c.ins.map bq.enc),.ZO c.ins.length,.ZO k] []:=by
 have hr:=Iw i;have ho:=Iv w c.ins.length i;obtain⟨rg,hrg⟩:=Zw h0;have hwr:IntKind.i64.wrap ((k:Int)+1)=((k+1:Nat):Int):=aA hk ZJ;unfold dY
 repeat' (first|refine st ?_|(refine pf 68 ?_;refine pm (hr) ?_)|refine sb λnb_ hnb_=>?_|refine s2 (λh=>?_) λh=>?_|fail)
 refine mu (cf i).length (λj=>∀r∈(cf i).take j,0≤r∧r<c.regs) (λj=>[.ZO t,.pptr [w.enc] 0 0,.pptr [c.enc] 0 0,.pptr [i.enc] 0 0,.lst (c.ins.map bq.enc),.ZO c.ins.length,.ZO k,.lst ((cf i).map aj),.ZO (cf i).length,.ZO j]) (by have:=N0 i;omega) ZM ZM (λj hj hd hi hG nx hn=>?_) (λj hj hd hG nx=>?_)
 all_goals unfold gw
 ·have hx:=ay (f:=aj) hj;have hw:=dN (cf i)[j] rg;rw[←hrg]at hw;cases hb:inB (cf i)[j] rg with
  |false=>
   rw[hb]at hw;have:¬GJ w t c.ins.length c.regs k i:=λh=>by have:=h.regs _ (Yr hj);rw[hrg,←ax,hb]at this;cases this
   repeat' (first|refine st ?_|(refine pf 67 ?_;refine pm (hw) ?_)|refine sb λnb_ hnb_=>?_|refine s2 (λh=>?_) λh=>?_|fail)
   exact hno this
  |true=>
   rw[hb]at hw
   repeat' (first|refine st ?_|(refine pf 67 ?_;refine pm (hw) ?_)|refine sb λnb_ hnb_=>?_|refine s2 (λh=>?_) λh=>?_|fail)
   refine hn (J4 hj hG ?_);rw[hrg];exact ax.1 hb
 ·subst hj;rw[List.take_length]at hG;cases hb:(LC w i&&Ki c.ins.length i)with
  |false=>
   rw[hb]at ho;have:¬GJ w t c.ins.length c.regs k i:=λh=>by rw[h.obj,h.jmp]at hb;cases hb
   repeat' (first|refine st ?_|(refine pf 69 ?_;refine pm (ho) ?_)|refine sb λnb_ hnb_=>?_|refine s2 (λh=>?_) λh=>?_|fail)
   exact hno this
  |true=>
   rw[hb]at ho;rw[Yl]at hb
   repeat' (first|refine st ?_|(refine pf 69 ?_;refine pm (ho) ?_)|refine sb λnb_ hnb_=>?_|refine s2 (λh=>?_) λh=>?_|fail)
   exact hgo hG hb.1 hb.2
end
theorem E0(w:aO)(t:Nat)(c:hY)(hl:c.ins.length<2^48):az Tryz.prog 39 [.agg w.enc,.ZO t,.agg c.enc] (.bool (nZ (Km w t c))):=by
  refine nY _ _ _ _ _ ?_;unfold gO;generalize hQ:(λ(u:AV) (K:SH)=>u=AV.bool (nZ (Km w t c))∧K=[])=Q;have hq:∀b,nZ (Km w t c)=b→Q (.bool b) []:=λb hb=>by subst hQ;exact⟨by rw[hb],rfl⟩
  clear hQ;by_cases h0:0≤c.regs∧c.regs≤32∧0<c.ins.length
  · obtain⟨h0,h32,hn0⟩:=h0
    have d1:decide (c.regs<0)=false:=by simpa using h0
    have d2:decide (c.regs > 32)=false:=by simpa using h32
    have d3:decide ((c.ins.length:Int)=0)=false:=decide_eq_false ZJ
    repeat' (first|refine st ?_|refine sb λnb_ hnb_=>?_|refine s2 (λh=>?_) λh=>?_|fail)
    refine mu c.ins.length (λk=>∀j (h:j<c.ins.length),j<k→GJ w t c.ins.length c.regs j c.ins[j]) (λk=>[.ZO t,.pptr [w.enc] 0 0,.pptr [c.enc] 0 0,.lst (c.ins.map bq.enc),.ZO c.ins.length,.ZO k]) ZJ (λj h hj=>absurd hj (Zx _)) ZM (λk hk hd hi hG nx hn=>?_) (λk hk hd hG nx=>?_)
    all_goals unfold gx
    · have hx:=ay (f:=bq.enc) hk
      have hno:¬GJ w t c.ins.length c.regs k c.ins[k]→Q (.bool false) []:=λh=>hq _ (jK λh2=>h (h2.ins k hk))
      have hgo:GJ w t c.ins.length c.regs k c.ins[k]→nx [.ZO t,.pptr [w.enc] 0 0,.pptr [c.enc] 0 0,.lst (c.ins.map bq.enc),.ZO c.ins.length,.ZO (k+1:Nat)] []:=λh=>hn λj hj hjk=>by
        rcases X9 j k with g|g
        · exact hG j hj g
        · have e:j=k:=by omega
          subst e;exact h
      generalize c.ins[k]=i at hx hno hgo;have hj4:=λhgo x=>UF (i:=i) (w:=w) (t:=t) (k:=k) h0 Q nx hno hgo hl hk x
      have hs1:IntKind.i64.wrap ((c.ins.length:Int)-1)=((c.ins.length-1:Nat):Int):=by rw[YU _ ZJ];omega
      have hw:=dN i.site w.sites.length;obtain⟨op,ia,ib,ic,m,site⟩:=i;have he:bq.enc ⟨op,ia,ib,ic,m,site⟩=[.ZO op,.ZO ia,.ZO ib,.ZO ic,.ZO m,.ZO site]:=rfl;rw[he]at hx hj4;clear he;cases hb:inB site w.sites.length with
      |false=>
        rw[hb]at hw
        repeat' (first|with_reducible refine hj4 (λr1 r2 r3=>?_) _|refine st ?_|(refine pf 67 ?_;refine pm (hw) ?_)|refine sb λnb_ hnb_=>?_|refine s2 (λh=>?_) λh=>?_|fail)
        all_goals first
        | (refine hno fun h9 => ?_
           have g1:=h9.lo;have g2:=h9.hi;have g3:=h9.last;have g4:=h9.fin;have g5:=h9.sin;have g6:=h9.sth
           clear h9 hno hgo hn hG hj4 hq
           (simp only[hb,YB,decide_eq_true_eq,decide_eq_false_iff_not,ne_eq,Decidable.not_not,decide_eq_decide,imp_false]at *)
           omega)
        | (refine hgo ⟨?_, ?_, ?_, ?_, fun h9 => ?_, fun h9 => ?_, r1, r2, r3⟩
           all_goals clear hno hgo hn hG hj4 hq r1 r2 r3
           all_goals (simp only[hb,YB,decide_eq_true_eq,decide_eq_false_iff_not,ne_eq,Decidable.not_not,decide_eq_decide,imp_false]at *)
           all_goals omega)
        |trace_state
      |true=>
        rw[hb]at hw;obtain⟨ks,rfl⟩:=Zw (fN hb);have hks:ks<w.sites.length:=by have:=(ax.1 hb).2;omega
        have hx2:=ay (f:=cQ.enc) hks;unfold cQ.enc at hx2
        repeat' (first|with_reducible refine hj4 (λr1 r2 r3=>?_) _|refine st ?_|(refine pf 67 ?_;refine pm (hw) ?_)|refine sb λnb_ hnb_=>?_|refine s2 (λh=>?_) λh=>?_|fail)
        all_goals first
        | (refine hno fun h9 => ?_
           have g1:=h9.lo;have g2:=h9.hi;have g3:=h9.last;have g4:=h9.fin;have g5:=h9.sin;have g6:=h9.sth
           clear h9 hno hgo hn hG hj4 hq
           (simp only[Y7,Ze,X6 hks,Zr,hb,imp_true_iff,decide_eq_true_eq,decide_eq_false_iff_not,ne_eq,Decidable.not_not,decide_eq_decide,imp_false]at *)
           omega)
        | (refine hgo ⟨?_, ?_, ?_, ?_, fun h9 => hb, fun h9 => ?_, r1, r2, r3⟩
           all_goals clear hno hgo hn hG hj4 hq r1 r2 r3
           all_goals (simp only[Y7,Ze,X6 hks,Zr,hb,imp_true_iff,decide_eq_true_eq,decide_eq_false_iff_not,ne_eq,Decidable.not_not,decide_eq_decide,imp_false]at *)
           all_goals omega)
        |trace_state
    · have ha:=Kl (GJ.fit hl λj h=>hG j h ZJ)
      repeat' (first|refine st ?_|(refine pf 70 ?_;refine pm (ha) ?_)|refine sb λnb_ hnb_=>?_|refine s2 (λh=>?_) λh=>?_|fail)
      refine hq _ ?_;cases hb:nZ (∀k,k<c.ins.length→qp c.ins k)with
      |true=>exact kW ⟨h0,h32,hn0,λj h=>hG j h ZJ,jm.1 hb⟩
      |false=>exact jK λh=>by rw[kW h.lans]at hb;cases hb
  · have hno:=hq _ (jK λh=>h0 ⟨h.r0,h.r32,h.ne⟩)
    repeat' (first|refine st ?_|refine sb λnb_ hnb_=>?_|refine s2 (λh=>?_) λh=>?_|fail)
    all_goals first
      |exact hno
      |(exfalso;refine h0 ?_;simp only[decide_eq_true_eq,decide_eq_false_iff_not]at *;omega)
end
section
set_option maxRecDepth 100000
def jM(b:AV)(L:SH)(Q:R):Prop:=wb .geq 5 b (.int .u8 97) λc=>bJ c true b L λe f=>wg c true (wb .leq 5 e (.int .u8 122)) f λg h=>W.pick c g (.bool false) λa=>bJ a false b h λi j=>wg a false (wb .geq 5 i (.int .u8 65)) j λk l=>bJ a false k l λd m=>bJ d true b m λn o=>wg d true (wb .leq 5 n (.int .u8 90)) o λp q=>wg a false (W.pick d p (.bool false)) q λr s=>W.pick a (.bool true) r λt=>Q t s
theorem oN(t0:AV)(L:SH)(Q:R)(h:jM t0 L Q):af Tryz.prog 118 [t0] L Q:=
 fs [] [] [] [] Tryz.func118 h
def lV(b:AV)(L:SH)(Q:R):Prop:=wb .geq 5 b (.int .u8 48) λa=>bJ a true b L λc d=>wg a true (wb .leq 5 c (.int .u8 57)) d λe f=>W.pick a e (.bool false) λg=>Q g f
theorem qH(t0:AV)(L:SH)(Q:R)(h:lV t0 L Q):af Tryz.prog 142 [t0] L Q:=
 fs [] [] [] [] Tryz.func142 h
def E3(Q:R)(c a:AV)(e:SH):Prop:=bJ a false c e λf d=>W.grd a false (λg=>wc (.fn 142 []) [f] d λh i=>g h i) d λj k=>W.pick a (.bool true) j λb=>bJ b false c k λl m=>wg b false (wb .eql 5 l (.int .u8 95)) m λn o=>W.pick b (.bool true) n λp=>Q p o
def lW(a:AV)(L:SH)(Q:R):Prop:=wc (.fn 118 []) [a] L (E3 Q a)
theorem qI(t0:AV)(L:SH)(Q:R)(h:lW t0 L Q):af Tryz.prog 120 [t0] L Q:=
 fs [] [] [] [] Tryz.func120 h
def ig(L:SH)(Q:R):Prop:=W.bslice 1 [(.str [])] 22 [(0,(.str [118,97,114])),(1,(.str [118,111,108,97,116,105,108,101])),(2,(.str [109,117,116,101,120])),(3,(.str [114,119,108,111,99,107])),(4,(.str [99,111,110,100])),(5,(.str [102,117,116,117,114,101])),(6,(.str [116,104,114,101,97,100])),(7,(.str [105,102])),(8,(.str [101,108,115,101])),(9,(.str [119,104,105,108,101])),(10,(.str [108,111,99,107])),(11,(.str [114,101,97,100])),(12,(.str [119,114,105,116,101])),(13,(.str [116,114,97,110,115,97,99,116,105,111,110])),(14,(.str [97,116,111,109,105,99])),(15,(.str [119,97,105,116])),(16,(.str [110,111,116,105,102,121])),(17,(.str [110,111,116,105,102,121,97,108,108])),(18,(.str [115,112,97,119,110])),(19,(.str [106,111,105,110])),(20,(.str [115,101,116])),(21,(.str [103,101,116]))] L λa b=>Q a b
theorem kX(L:SH)(Q:R)(h:ig L Q):af Tryz.prog 141 [] L Q:=
 fs [] [] [] [] Tryz.func141 h
def fP(Q:R)(e:Vs)(a:SH)(f:Kn):Prop:=tI 0 3 4 e λd b c=>W.len b λg=>wb .lss 3 c g λh=>wk h (tH 1 b c a λi=>wb .eql 9 i d λj=>wk j (Q (.bool true) a) (wb .add 3 c (.ZO 1) λk=>f [d,b,k] a)) (Q (.bool false) a)
def ul(Q:R)(a b:AV)(c:SH):Prop:=W.loop (fP Q) [a,b,(.ZO 0)] c
def gy(a:AV)(L:SH)(Q:R):Prop:=wc (.fn 141 []) [] L (ul Q a)
theorem jN(t0:AV)(L:SH)(Q:R)(h:gy t0 L Q):af Tryz.prog 119 [t0] L Q:=
 fs [] [(3,[0,3,4])] [] [] Tryz.func119 h
def Dk(Q:R)(b:Kn)(c d e:AV)(a:SH):Prop:=W.un .not e λf=>wk f (Q (.bool false) a) (wb .add 3 c (.ZO 1) λg=>b [d,g] a)
def iO(Q:R)(d:Vs)(c:SH)(e:Kn):Prop:=RV 0 3 d λa b=>W.lenS a λf=>wb .lss 3 b f λg=>wk g (W.ixS a b λh=>wc (.fn 120 []) [h] c (Dk Q e b a)) (Q (.bool true) c)
def gz(a:AV)(L:SH)(Q:R):Prop:=W.lenS a λh=>wb .lss 3 h (.ZO 1) λc=>bJ c false a L λi j=>wg c false (W.lenS i) j λk l=>wg c false (wb .gtr 3 k (.ZO 12)) l λm n=>W.pick c (.bool true) m λb=>bJ b false a n λo p=>wg b false (W.ixS o (.ZO 0)) p λq e=>W.grd b false (λr=>wc (.fn 118 []) [q] e λs t=>r s t) e λu v=>wg b false (W.un .not u) v λw x=>W.pick b (.bool true) w λd=>bJ d false a x λy f=>W.grd d false (λz=>wc (.fn 119 []) [y] f λA B=>z A B) f λC g=>W.pick d (.bool true) C λD=>wk D (Q (.bool false) g) (W.loop (iO Q) [a,(.ZO 0)] g)
theorem iP(t0:AV)(L:SH)(Q:R)(h:gz t0 L Q):af Tryz.prog 86 [t0] L Q:=
 fs [] [(4,[0,3])] [] [] Tryz.func86 h
def yV(Q:R)(d:SH)(b:AV):Prop:=wb .geq 3 b (.ZO 6) λa=>bJ a true b d λe f=>wg a true (wb .leq 3 e (.ZO 18)) f λg c=>W.pick a g (.bool false) λh=>wk h (Q (.ZO 2) c) (Q (.ZO (-1)) c)
def yW(Q:R)(d:SH)(a:AV):Prop:=wb .geq 3 a (.ZO 3) λb=>bJ b true a d λe f=>wg b true (wb .leq 3 e (.ZO 5)) f λg c=>W.pick b g (.bool false) λh=>wk h (Q (.ZO 1) c) ((yV Q c a))
def mE(a:AV)(L:SH)(Q:R):Prop:=wb .eql 3 a (.ZO 1) λb=>bJ b false a L λd e=>wg b false (wb .eql 3 d (.ZO 2)) e λf c=>W.pick b (.bool true) f λg=>wk g (Q (.ZO 0) c) ((yW Q c a))
theorem yX(t0:AV)(L:SH)(Q:R)(h:mE t0 L Q):af Tryz.prog 154 [t0] L Q:=
 fs [] [] [] [] Tryz.func154 h
def rS(Q:R)(b:Kn)(c d e:AV)(a:SH):Prop:=W.un .not e λf=>wk f (Q (.bool false) a) (wb .add 3 c (.ZO 1) λg=>b [d,g] a)
def ja(Q:R)(d:Vs)(a:SH)(e:Kn):Prop:=RV 1 4 d λb c=>aC 3 b a λf=>W.len f λg=>wb .lss 3 c g λh=>wk h (aC 3 b a λi=>ma 4 i c a λj=>wc (.fn 143 []) [j] a (rS Q e c b)) (Q (.bool true) a)
def rT(Q:R)(G:SH)(a o:AV)(H:Fp)(I:AV)(h:SH)(J:Ns):Prop:=wn [] J [] G.names λM=>aN 3 a [rc 2 M,rm 1 H] 4 h λN g4=>W.len N λO=>wb .neq 3 I O λb=>W.dgrd b false (λP=>P o h rz) h λS p g5=>W.dgrd b false (λT=>W.faddr 2 a λU=>T U p rz) p λV i g6=>W.dgrd b false (λX=>dl [] 10 V i λY Z=>X Y i Z) i λa0 q g7=>W.dgrd b false (λa1=>wb .neq 9 a0 (.str []) λa2=>a1 a2 q rz) q λa3 r g8=>W.dgrd b false (λa4=>wb .neq 4 S a3 λa5=>a4 a5 r rz) r λa6 s g9=>W.pick b (.bool true) a6 λe=>W.dgrd e false (λa7=>a7 o s rz) s λa8 t h0=>W.dgrd e false (λa9=>a9 a8 t rz) t λd u h1=>W.dgrd d true (λb0=>W.faddr 2 a λb1=>b0 b1 u rz) u λb2 j h2=>W.dgrd d true (λb3=>dl [] 18 b2 j λb4 b5=>b3 b4 j b5) j λb6 k h3=>W.dgrd d true (λb7=>wd [] 19 (.fn 86 []) [b6] k λb8 b9 c0=>wn [] c0 [] k.names λc1=>b7 b8 b9 c1) k λc2 v h4=>W.dgrd d true (λc3=>W.un .not c2 λc4=>c3 c4 v rz) v λc5 w h5=>W.dgrd e false (λc6=>W.pick d c5 (.bool false) λc7=>c6 c7 w rz) w λc8 x h6=>W.pick e (.bool true) c8 λf=>W.dgrd f false (λc9=>W.faddr 1 a λd0=>c9 d0 x rz) x λd1 l h7=>W.dgrd f false (λd2=>dl [] 25 d1 l λd3 d4=>d2 d3 l d4) l λd5 y h8=>W.dgrd f false (λd6=>wb .lss 2 d5 (.ZO 0) λd7=>d6 d7 y rz) y λd8 z h9=>W.pick f (.bool true) d8 λc=>W.dgrd c false (λd9=>W.faddr 0 a λe0=>d9 e0 z rz) z λe1 m i0=>W.dgrd c false (λe2=>dl [] 30 e1 m λe3 e4=>e2 e3 m e4) m λe5 A i1=>W.dgrd c false (λe6=>wb .neq 3 e5 (.ZO 1) λe7=>e6 e7 A rz) A λe8 B i2=>W.dgrd c false (λe9=>e9 e8 B rz) B λg C i3=>W.dgrd g true (λf0=>W.faddr 1 a λf1=>f0 f1 C rz) C λf2 n i4=>W.dgrd g true (λf3=>dl [] 34 f2 n λf4 f5=>f3 f4 n f5) n λf6 D i5=>W.dgrd g true (λf7=>wb .neq 2 f6 (.ZO 0) λf8=>f7 f8 D rz) D λf9 E i6=>W.dgrd c false (λg0=>W.pick g f9 (.bool false) λg1=>g0 g1 E rz) E λg2 F i7=>W.pick c (.bool true) g2 λg3=>wk g3 (Q (.bool false) F) (W.loop (ja Q) [a,(.ZO 0)] F)
def jO(f:AV)(L:SH)(Q:R):Prop:=rF f L λa d=>aC 0 a d λg=>wb .eql 3 g (.ZO 2) λb=>wg b false (W.faddr 0 a) d λh e=>wg b false (wl h e) e λi j=>wg b false (wb .eql 3 i (.ZO 3)) j λk c=>W.pick b (.bool true) k λl=>(true=true)∧(aN 0 a [] 1 c λm n=>wd [] 2 (.fn 154 []) [m] c (rT Q c a l n))
theorem rU(t0:AV)(L:SH)(Q:R)(h:jO t0 L Q):af Tryz.prog 143 [t0] L Q:=
 fs [] [(5,[1,4])] [(0,[1])] [(2,[0,1,3,0,8,24,63,127,255,255,767,1791,4095,8191,16383,32767,65535,131071,262143,524287,1048575,2097151,4194303,8388607,16777215,33554431,67108863,134217727,268435455,536870911,1073741823,2147483647,4294967295,8589934591,17179869183,34359738367,68719476735,137438953471])] Tryz.func143 h
def tL(i:AV)(L:SH)(Q:R):Prop:=rF i L λb e=>aC 0 b e λj=>wb .eql 3 j (.ZO 0) λc=>wg c true (W.faddr 1 b) e λk f=>wg c true (wl k f) f λl m=>wg c true (wb .eql 2 l (.ZO 0)) m λn o=>W.pick c n (.bool false) λd=>wg d true (W.faddr 2 b) o λp g=>wg d true (wl p g) g λq r=>wg d true (wb .eql 9 q (.str [])) r λs t=>W.pick d s (.bool false) λa=>wg a true (W.faddr 3 b) t λu h=>wg a true (wl u h) h λv w=>wg a true (W.len v) w λx y=>wg a true (wb .eql 3 x (.ZO 0)) y λz A=>W.pick a z (.bool false) λB=>Q B A
theorem E4(t0:AV)(L:SH)(Q:R)(h:tL t0 L Q):af Tryz.prog 144 [t0] L Q:=
 fs [] [] [(0,[1])] [] Tryz.func144 h
def rV(Q:R)(d a:AV)(e:SH):Prop:=wg a true (W.faddr 10 d) e λf b=>wg a true (wl f b) b λg c=>W.grd a true (λh=>wc (.fn 87 []) [g] c λi j=>h i j) c λk l=>W.pick a k (.bool false) λm=>Q m l
def fx(Q:R)(g:SH)(a:AV):Prop:=aC 0 a g λl=>wb .geq 3 l (.ZO 2) λe=>wg e true (W.faddr 0 a) g λm h=>wg e true (wl m h) h λn o=>wg e true (wb .leq 3 n (.ZO 8)) o λp q=>W.pick e p (.bool false) λr=>W.un .not r λc=>wg c true (W.faddr 9 a) q λs i=>wg c true (wl s i) i λt u=>wg c true (W.len t) u λv w=>wg c true (wb .gtr 3 v (.ZO 0)) w λx y=>W.pick c x (.bool false) λb=>wg b false (W.faddr 0 a) y λz j=>wg b false (wl z j) j λA B=>wg b false (wb .neq 3 A (.ZO 2)) B λC D=>bJ b false C D λd E=>wg d true (W.faddr 10 a) E λF k=>wg d true (wl F k) k λG H=>wg d true (W.len G) H λI J=>wg d true (wb .gtr 3 I (.ZO 0)) J λM N=>wg b false (W.pick d M (.bool false)) N λO f=>W.pick b (.bool true) O λP=>wk P (Q (.bool false) f) (aC 9 a f λS=>wc (.fn 87 []) [S] f (rV Q a))
def fy(Q:R)(h:SH)(a:AV):Prop:=aC 0 a h λq=>wb .eql 3 q (.ZO 1) λe=>wg e false (W.faddr 0 a) h λr i=>wg e false (wl r i) i λs t=>wg e false (wb .eql 3 s (.ZO 2)) t λu v=>W.pick e (.bool true) u λf=>wg f false (W.faddr 0 a) v λw j=>wg f false (wl w j) j λx y=>wg f false (wb .eql 3 x (.ZO 3)) y λz A=>W.pick f (.bool true) z λg=>wg g false (W.faddr 0 a) A λB k=>wg g false (wl B k) k λC D=>wg g false (wb .eql 3 C (.ZO 14)) D λE F=>W.pick g (.bool true) E λb=>wg b true (W.faddr 5 a) F λG l=>wg b true (cp 4 G l) l λH m=>W.grd b true (λI=>wc (.fn 143 []) [H] m λJ M=>I J M) m λN O=>wg b true (W.un .not N) O λP S=>W.pick b P (.bool false) λc=>bJ c false b S λT U=>wg c false (W.un .not T) U λV X=>bJ c false V X λd Y=>wg d true (W.faddr 5 a) Y λZ n=>wg d true (cp 4 Z n) n λa0 o=>W.grd d true (λa1=>wc (.fn 144 []) [a0] o λa2 a3=>a1 a2 a3) o λa4 a5=>wg d true (W.un .not a4) a5 λa6 a7=>wg c false (W.pick d a6 (.bool false)) a7 λa8 p=>W.pick c (.bool true) a8 λa9=>wk a9 (Q (.bool false) p) ((fx Q p a))
def fB(Q:R)(f:SH)(c:AV):Prop:=aC 4 c f λo=>W.len o λp=>wb .gtr 3 p (.ZO 1) λd=>wg d false (W.faddr 0 c) f λq g=>wg d false (wl q g) g λr s=>wg d false (wb .neq 3 r (.ZO 1)) s λt u=>bJ d false t u λe v=>wg e true (W.faddr 4 c) v λw h=>wg e true (wl w h) h λx y=>wg e true (W.len x) y λz A=>wg e true (wb .gtr 3 z (.ZO 0)) A λB C=>wg d false (W.pick e B (.bool false)) C λD E=>W.pick d (.bool true) D λa=>wg a false (W.faddr 4 c) E λF i=>wg a false (wl F i) i λG H=>wg a false (W.len G) H λI J=>wg a false (wb .eql 3 I (.ZO 1)) J λM N=>bJ a false M N λb O=>wg b true (W.faddr 4 c) O λP j=>wg b true (wl P j) j λS k=>wg b true (W.idx 4 S (.ZO 0) k) k λT l=>wg b true (cp 4 T l) l λU m=>W.grd b true (λV=>wc (.fn 143 []) [U] m λX Y=>V X Y) m λZ a0=>wg b true (W.un .not Z) a0 λa1 a2=>wg a false (W.pick b a1 (.bool false)) a2 λa3 n=>W.pick a (.bool true) a3 λa4=>wk a4 (Q (.bool false) n) ((fy Q n c))
def fC(Q:R)(e:SH)(b:AV):Prop:=aC 0 b e λk=>wb .eql 3 k (.ZO 15) λc=>wg c true (W.faddr 3 b) e λl f=>wg c true (wl l f) f λm g=>W.grd c true (λn=>wc (.fn 86 []) [m] g λo p=>n o p) g λq r=>wg c true (W.un .not q) r λs t=>W.pick c s (.bool false) λa=>wg a false (W.faddr 0 b) t λu h=>wg a false (wl u h) h λv w=>wg a false (wb .neq 3 v (.ZO 15)) w λx y=>bJ a false x y λd z=>wg d true (W.faddr 3 b) z λA i=>wg d true (wl A i) i λB C=>wg d true (wb .neq 9 B (.str [])) C λD E=>wg a false (W.pick d D (.bool false)) E λF j=>W.pick a (.bool true) F λG=>wk G (Q (.bool false) j) ((fB Q j b))
def fD(Q:R)(h:SH)(a:AV):Prop:=aC 0 a h λp=>wb .eql 3 p (.ZO 2) λe=>wg e false (W.faddr 0 a) h λq i=>wg e false (wl q i) i λr s=>wg e false (wb .eql 3 r (.ZO 3)) s λt u=>W.pick e (.bool true) t λf=>wg f false (W.faddr 0 a) u λv j=>wg f false (wl v j) j λw x=>wg f false (wb .eql 3 w (.ZO 7)) x λy z=>W.pick f (.bool true) y λg=>wg g false (W.faddr 0 a) z λA k=>wg g false (wl A k) k λB C=>wg g false (wb .eql 3 B (.ZO 8)) C λD E=>W.pick g (.bool true) D λb=>wg b true (W.faddr 2 a) E λF l=>wg b true (wl F l) l λG H=>wg b true (wb .neq 9 G (.str [])) H λI J=>W.pick b I (.bool false) λc=>bJ c false b J λM N=>wg c false (W.un .not M) N λO P=>bJ c false O P λd S=>wg d true (W.faddr 2 a) S λT m=>wg d true (wl T m) m λU n=>W.grd d true (λV=>wc (.fn 86 []) [U] n λX Y=>V X Y) n λZ a0=>wg d true (W.un .not Z) a0 λa1 a2=>wg c false (W.pick d a1 (.bool false)) a2 λa3 o=>W.pick c (.bool true) a3 λa4=>wk a4 (Q (.bool false) o) ((fC Q o a))
def jP(f:AV)(L:SH)(Q:R):Prop:=rF f L λb c=>aC 0 b c λg=>wb .lss 3 g (.ZO 1) λa=>wg a false (W.faddr 0 b) c λh d=>wg a false (wl h d) d λi j=>wg a false (wb .gtr 3 i (.ZO 15)) j λk e=>W.pick a (.bool true) k λl=>wk l (Q (.bool false) e) ((fD Q e b))
theorem rW(t0:AV)(L:SH)(Q:R)(h:jP t0 L Q):af Tryz.prog 121 [t0] L Q:=
 fs [] [] [(0,[1])] [] Tryz.func121 h
def qJ(Q:R)(b:Kn)(c d e:AV)(a:SH):Prop:=W.un .not e λf=>wk f (Q (.bool false) a) (wb .add 3 c (.ZO 1) λg=>b [d,g] a)
def iC(Q:R)(d:Vs)(a:SH)(e:Kn):Prop:=RV 0 3 d λb c=>W.len b λf=>wb .lss 3 c f λg=>wk g (ma 11 b c a λh=>wc (.fn 121 []) [h] a (qJ Q e c b)) (Q (.bool true) a)
def jb(a:AV)(L:SH)(Q:R):Prop:=W.loop (iC Q) [a,(.ZO 0)] L
theorem qK(t0:AV)(L:SH)(Q:R)(h:jb t0 L Q):af Tryz.prog 87 [t0] L Q:=
 fs [] [(2,[0,3])] [] [] Tryz.func87 h
def fE(Q:R)(e:SH)(b:AV):Prop:=aC 4 b e λi=>wb .gtr 2 i (.ZO (-9223372036854775808)) λa=>wg a true (W.faddr 4 b) e λj f=>wg a true (wl j f) f λk l=>wg a true (wb .eql 2 k (.ZO 0)) l λm n=>bJ a true m n λc o=>wg c false (W.faddr 0 b) o λp g=>wg c false (wl p g) g λq r=>wg c false (wb .eql 3 q (.ZO 1)) r λs t=>wg a true (W.pick c (.bool true) s) t λu v=>bJ a true u v λd w=>wg d false (W.faddr 0 b) w λx h=>wg d false (wl x h) h λy z=>wg d false (wb .eql 3 y (.ZO 2)) z λA B=>wg a true (W.pick d (.bool true) A) B λC D=>W.pick a C (.bool false) λE=>Q E D
def fF(Q:R)(e:SH)(b:AV):Prop:=aC 0 b e λk=>wb .eql 3 k (.ZO 5) λc=>wg c true (W.faddr 5 b) e λl f=>wg c true (wl l f) f λm g=>W.grd c true (λn=>wc (.fn 86 []) [m] g λo p=>n o p) g λq r=>wg c true (W.un .not q) r λs t=>W.pick c s (.bool false) λa=>wg a false (W.faddr 0 b) t λu h=>wg a false (wl u h) h λv w=>wg a false (wb .neq 3 v (.ZO 5)) w λx y=>bJ a false x y λd z=>wg d true (W.faddr 5 b) z λA i=>wg d true (wl A i) i λB C=>wg d true (wb .neq 9 B (.str [])) C λD E=>wg a false (W.pick d D (.bool false)) E λF j=>W.pick a (.bool true) F λG=>wk G (Q (.bool false) j) ((fE Q j b))
def jQ(o:AV)(L:SH)(Q:R):Prop:=rF o L λa g=>aC 0 a g λp=>wb .lss 3 p (.ZO 1) λd=>wg d false (W.faddr 0 a) g λq h=>wg d false (wl q h) h λr s=>wg d false (wb .gtr 3 r (.ZO 6)) s λt u=>W.pick d (.bool true) t λc=>wg c false (W.faddr 2 a) u λv i=>wg c false (wl v i) i λw j=>W.grd c false (λx=>wc (.fn 86 []) [w] j λy z=>x y z) j λA B=>wg c false (W.un .not A) B λC D=>W.pick c (.bool true) C λe=>wg e false (W.faddr 3 a) D λE k=>wg e false (wl E k) k λF G=>wg e false (wb .lss 3 F (.ZO 0)) G λH I=>W.pick e (.bool true) H λb=>wg b false (W.faddr 0 a) I λJ l=>wg b false (wl J l) l λM N=>wg b false (wb .neq 3 M (.ZO 1)) N λO P=>bJ b false O P λf S=>wg f true (W.faddr 3 a) S λT m=>wg f true (wl T m) m λU V=>wg f true (wb .neq 3 U (.ZO 0)) V λX Y=>wg b false (W.pick f X (.bool false)) Y λZ n=>W.pick b (.bool true) Z λa0=>wk a0 (Q (.bool false) n) ((fF Q n a))
theorem rX(t0:AV)(L:SH)(Q:R)(h:jQ t0 L Q):af Tryz.prog 85 [t0] L Q:=
 fs [] [] [(0,[1])] [] Tryz.func85 h
def Dl(Q:R)(b:Kn)(c d e:AV)(a:SH):Prop:=W.un .not e λf=>wk f (Q (.bool false) a) (wb .add 3 c (.ZO 1) λg=>b [d,g] a)
def Dm(Q:R)(b:Kn)(c d e f g:AV)(a:SH):Prop:=W.un .not g λh=>wk h (Q (.bool false) a) (wb .add 3 c (.ZO 1) λi=>b [d,e,f,i] a)
def Dn(Q:R)(e:Kn)(f g h i:AV)(j:SH):Prop:=W.un .not i λa=>wg a false (W.faddr 3 f) j λk b=>wg a false (wl k b) b λl c=>W.grd a false (λm=>wc (.fn 87 []) [l] c λn o=>m n o) c λp q=>wg a false (W.un .not p) q λr d=>W.pick a (.bool true) r λs=>wk s (Q (.bool false) d) (wb .add 3 g (.ZO 1) λt=>e [h,t] d)
def oO(Q:R)(f:Kn)(g:Vs)(a:SH)(h:Kn):Prop:=ug 1 4 5 6 g λd e b c=>aC 2 b a λi=>W.len i λj=>wb .lss 3 c j λk=>wk k (aC 2 b a λl=>tH 1 l c a λm=>wc (.fn 86 []) [m] a (Dm Q h c d e b)) (aC 0 b a λn=>wc (.fn 86 []) [n] a (Dn Q f b e d))
def Do(Q:R)(d:Kn)(a:SH)(b c:AV):Prop:=aC 1 b a λe=>ma 4 e c a λf=>rE [(.str []),(.ZO 0),.nils,.nils] 4 f a λg h=>W.loop (oO Q d) [b,c,g,(.ZO 0)] h
def oP(Q:R)(d:Vs)(a:SH)(e:Kn):Prop:=RV 1 4 d λb c=>aC 1 b a λf=>W.len f λg=>wb .lss 3 c g λh=>wk h ((Do Q e a b c)) (aC 1 b a λi=>W.len i λj=>wb .gtr 3 j (.ZO 0) λk=>Q k a)
def oQ(Q:R)(d:Vs)(a:SH)(e:Kn):Prop:=RV 1 3 d λb c=>aC 0 b a λf=>W.len f λg=>wb .lss 3 c g λh=>wk h (aC 0 b a λi=>ma 6 i c a λj=>wc (.fn 85 []) [j] a (Dl Q e c b)) (W.loop (oP Q) [b,(.ZO 0)] a)
def qL(a:AV)(L:SH)(Q:R):Prop:=rF a L λb c=>W.loop (oQ Q) [b,(.ZO 0)] c
theorem Dp(t0:AV)(L:SH)(Q:R)(h:qL t0 L Q):af Tryz.prog 54 [t0] L Q:=
 fs [] [(2,[1,3]),(11,[1,4,5,6]),(7,[1,4])] [(0,[1]),(9,[5])] [] Tryz.func54 h
def ge(Q:R)(e:Vs)(a:SH)(f:Kn):Prop:=tI 0 1 5 e λc d b=>W.len c λg=>wb .lss 3 b g λh=>wk h (tH 1 c b a λi=>wb .eql 9 i d λj=>wk j (Q b a) (wb .add 3 b (.ZO 1) λk=>f [c,d,k] a)) (Q (.ZO (-1)) a)
def og(a b:AV)(L:SH)(Q:R):Prop:=W.loop (ge Q) [a,b,(.ZO 0)] L
theorem qM(t0 t1:AV)(L:SH)(Q:R)(h:og t0 t1 L Q):af Tryz.prog 90 [t0,t1] L Q:=
 fs [] [(2,[0,1,5])] [] [] Tryz.func90 h
def oR(Q:R)(e:Vs)(a:SH)(f:Kn):Prop:=tI 0 1 5 e λc d b=>W.len c λg=>wb .lss 3 b g λh=>wk h (fb 6 2 c b a λi=>wb .eql 9 i d λj=>wk j (Q b a) (wb .add 3 b (.ZO 1) λk=>f [c,d,k] a)) (Q (.ZO (-1)) a)
def qN(a b:AV)(L:SH)(Q:R):Prop:=W.loop (oR Q) [a,b,(.ZO 0)] L
theorem Dq(t0 t1:AV)(L:SH)(Q:R)(h:qN t0 t1 L Q):af Tryz.prog 88 [t0,t1] L Q:=
 fs [] [(2,[0,1,5])] [] [] Tryz.func88 h
def kY(Q:R)(e:Vs)(a:SH)(f:Kn):Prop:=tI 0 1 5 e λc d b=>W.len c λg=>wb .lss 3 b g λh=>wk h (fb 4 0 c b a λi=>wb .eql 9 i d λj=>wk j (Q b a) (wb .add 3 b (.ZO 1) λk=>f [c,d,k] a)) (Q (.ZO (-1)) a)
def mF(a b:AV)(L:SH)(Q:R):Prop:=W.loop (kY Q) [a,b,(.ZO 0)] L
theorem yY(t0 t1:AV)(L:SH)(Q:R)(h:mF t0 t1 L Q):af Tryz.prog 89 [t0,t1] L Q:=
 fs [] [(2,[0,1,5])] [] [] Tryz.func89 h
def Dr(Q:R)(b:AV)(a:SH):Prop:=wb .geq 3 b (.ZO 0) λc=>wk c (Q (.ZO 7) a) (Q (.ZO 0) a)
def Ds(Q:R)(b:Vs)(a:SH):Prop:=tI 3 7 56 b λc d e=>wk e (aC 0 c a λf=>fb 6 0 f d a λg=>Q g a) (Q (.ZO 9) a)
def Dt(a:Kn)(b:SH)(c d e:AV):Prop:=wb .eql 3 c (.ZO 4) λf=>wk f (a [d,e,f] b) (wb .eql 3 c (.ZO 5) λg=>wk g (a [d,e,g] b) (wb .eql 3 c (.ZO 6) λh=>a [d,e,h] b))
def Du(Q:R)(a:SH)(b c d:AV):Prop:=wb .eql 3 b (.ZO 2) λg=>wk g (Q (.ZO 1) a) (W.join (Ds Q) λe=>wb .eql 3 b (.ZO 3) λf=>wk f (e [c,d,f] a) ((Dt e a b c d)))
def Dv(Q:R)(a:SH)(b c:AV):Prop:=aC 0 b a λe=>fb 6 0 e c a λd=>wb .eql 3 d (.ZO 1) λf=>wk f (aC 0 b a λg=>fb 6 3 g c a λh=>wb .neq 3 h (.ZO 0) λi=>wk i (Q (.ZO 2) a) (Q (.ZO 1) a)) ((Du Q a d b c))
def Dw(Q:R)(d b c:AV)(a:SH):Prop:=wb .lss 3 c (.ZO 0) λe=>wk e (aC 1 b a λf=>wc (.fn 89 []) [f,d] a (Dr Q)) ((Dv Q a b c))
def qO(l d e:AV)(L:SH)(Q:R):Prop:=rF l L λc m=>wb .geq 3 d (.ZO 0) λb=>bJ b true d m λn o=>wg b true (W.faddr 1 c) o λp g=>wg b true (wl p g) g λq r=>wg b true (W.len q) r λs t=>wg b true (wb .lss 3 n s) t λu v=>W.pick b u (.bool false) λa=>wg a true (W.faddr 1 c) v λw h=>wg a true (wl w h) h λx y=>bJ a true d y λz i=>wg a true (W.idx 4 x z i) i λA B=>wg a true (W.faddr 2 A) B λC j=>wg a true (wl C j) j λD E=>bJ a true e E λF k=>W.grd a true (λG=>wc (.fn 90 []) [D,F] k λH I=>G H I) k λJ M=>wg a true (wb .geq 3 J (.ZO 0)) M λN f=>W.pick a N (.bool false) λO=>wk O (Q (.ZO 8) f) (aC 0 c f λP=>wc (.fn 88 []) [P,e] f (Dw Q e c))
theorem Dx(t0 t1 t2:AV)(L:SH)(Q:R)(h:qO t0 t1 t2 L Q):af Tryz.prog 145 [t0,t1,t2] L Q:=
 fs [(18,[3,7,56])] [] [(0,[3])] [] Tryz.func145 h
def GK(Q:R)(d:SH)(e f b:AV):Prop:=wb .neq 3 b e λa=>bJ a true b d λg h=>bJ a true f h λi j=>wg a true (wb .neq 3 g i) j λk c=>W.pick a k (.bool false) λl=>wk l (Q (.ZO 6) c) (Q (.ZO 0) c)
def GL(Q:R)(c d a:AV)(b:SH):Prop:=wb .eql 3 a (.ZO 0) λe=>wk e (Q (.ZO 5) b) ((GK Q b c d a))
def oh(b c d e f:AV)(L:SH)(Q:R):Prop:=rF b L λg a=>cp 2 g a λh=>wc (.fn 145 []) [h,c,d] a (GL Q e f)
theorem tM(t0 t1 t2 t3 t4:AV)(L:SH)(Q:R)(h:oh t0 t1 t2 t3 t4 L Q):af Tryz.prog 124 [t0,t1,t2,t3,t4] L Q:=
 fs [] [] [(0,[5])] [] Tryz.func124 h
def E5(b:Kn)(c d e f a:AV)(g:SH):Prop:=W.ext 0 a λh=>W.ext 1 a λi=>wb .add 3 c h λj=>W.mnx true d i λk=>wb .add 3 e (.ZO 1) λl=>b [f,j,k,l] g
def qP(Q:R)(f:Vs)(a:SH)(g:Kn):Prop:=ug 1 4 5 6 f λb d e c=>aC 3 b a λh=>W.len h λi=>wb .lss 3 c i λj=>wk j (aC 3 b a λk=>ma 4 k c a λl=>wc (.fn 146 []) [l] a (E5 g d e c b)) (wb .add 3 e (.ZO 1) λm=>Q (.tup [d,m]) a)
def tN(a:AV)(L:SH)(Q:R):Prop:=rF a L λb c=>W.loop (qP Q) [b,(.ZO 1),(.ZO 0),(.ZO 0)] c
theorem E6(t0:AV)(L:SH)(Q:R)(h:tN t0 L Q):af Tryz.prog 146 [t0] L Q:=
 fs [] [(3,[1,4,5,6])] [(0,[1])] [] Tryz.func146 h
def E7(a:Kn)(b:SH)(c d e f g:AV)(h:SH)(i:Ns):Prop:=wn [] i [] b.names λk=>wb .add 3 c (.ZO 1) λj=>a [d,e,f,g,j] h
def E8(g:Kn)(a:SH)(c d e f:AV):Prop:=(true=true)∧(dr [] 0 2 c a λh b=>aN 3 d [rm 0 b] 3 a λi l=>di [rm 0 b] 5 4 i e a λj m=>dr [rm 0 b] 6 4 j a λk n=>wd [] 7 (.fn 147 []) [h,f,k] a (E7 g a e f c d))
def qQ(Q:R)(g:Vs)(b:SH)(h:Kn):Prop:=Jd 1 3 5 7 8 g λi j c d e=>aC 3 c b λk=>W.len k λl=>wb .lss 3 e l λa=>bJ a true d b λm n=>wg a true (wb .eql 74 m (.ZO 0)) n λo f=>W.pick a o (.bool false) λp=>wk p ((E8 h f j c e i)) (Q d f)
def jR(Q:R)(a:Vs)(b:SH):Prop:=ug 1 3 5 7 a λc d e f=>W.loop (qQ Q) [c,d,e,f,(.ZO 0)] b
def E9(e:Kn)(a:SH)(b f c d:AV):Prop:=wb .eql 3 f (.ZO 3) λg=>wk g (cp 2 c a λh=>aC 2 d a λi=>wc (.fn 124 []) [h,b,i,(.ZO 2),(.ZO 2)] a λj k=>e [b,c,d,j] k) (e [b,c,d,(.ZO 0)] a)
def tO(g c h:AV)(L:SH)(Q:R):Prop:=W.box g L λi j=>W.box h j λk l=>W.frz1 i l λd m=>W.frz1 k m λb a=>W.join (jR Q) λe=>aC 0 b a λf=>wb .eql 3 f (.ZO 2) λn=>wk n (cp 2 d a λo=>aC 2 b a λp=>wc (.fn 124 []) [o,c,p,(.ZO 8),(.ZO 1)] a λq r=>e [c,d,b,q] r) ((E9 e a c f d b))
theorem Fa(t0 t1 t2:AV)(L:SH)(Q:R)(h:tO t0 t1 t2 L Q):af Tryz.prog 147 [t0,t1,t2] L Q:=
 fs [(6,[1,3,5,7])] [(8,[1,3,5,7,8])] [(0,[3,5])] [(10,[0,0,0,4,0,28,60,127,255])] Tryz.func147 h
def GM(Q:R)(d e f c:AV)(g:SH):Prop:=W.ext 0 c λh=>W.ext 1 c λi=>wb .gtr 3 h (.ZO 24) λb=>bJ b false i g λj k=>wg b false (wb .gtr 3 j (.ZO 6)) k λl a=>W.pick b (.bool true) l λm=>wk m (Q (.ZO 2) a) (cp 2 e a λn=>cp 4 f a λo=>wc (.fn 147 []) [n,d,o] a λp q=>Q p q)
def GN(Q:R)(c b d e:AV)(a:SH):Prop:=W.un .not e λf=>wk f (Q (.ZO 3) a) (cp 4 b a λg=>wc (.fn 146 []) [g] a (GM Q c d b))
def yZ(c d e:AV)(L:SH)(Q:R):Prop:=W.box c L λf g=>W.box e g λh i=>W.frz1 f i λj k=>W.frz1 h k λa b=>cp 4 a b λl=>wc (.fn 143 []) [l] b (GN Q d a j)
theorem GO(t0 t1 t2:AV)(L:SH)(Q:R)(h:yZ t0 t1 t2 L Q):af Tryz.prog 125 [t0,t1,t2] L Q:=
 fs [] [] [(0,[3,5])] [] Tryz.func125 h
def oS(a:AV)(L:SH)(Q:R):Prop:=wk a (Q (.ZO 7) L) (Q (.ZO 0) L)
theorem Bq(t0:AV)(L:SH)(Q:R)(h:oS t0 L Q):af Tryz.prog 126 [t0] L Q:=
 fs [] [] [] [] Tryz.func126 h
def Fb(a b:AV)(L:SH)(Q:R):Prop:=wb .neq 74 a (.ZO 0) λc=>wk c (Q a L) (Q b L)
theorem Ko(t0 t1:AV)(L:SH)(Q:R)(h:Fb t0 t1 L Q):af Tryz.prog 123 [t0,t1] L Q:=
 fs [] [] [] [] Tryz.func123 h
def Fc(a:Kn)(b:SH)(c d e f:AV)(g:SH)(h:Ns):Prop:=wn [] h [] b.names λk=>wb .add 3 c f λi=>wb .add 3 d (.ZO 1) λj=>a [e,i,j] g
def Fd(g:Kn)(h:SH)(i b c:AV)(d e:Fp)(j:AV)(a:SH)(k:Ns):Prop:=wn [] k [] h.names λf=>wb .add 3 i j λl=>di [rc 6 f,rm 5 d,rm 3 e] 10 11 b c a λm o=>aN 10 m [rc 6 f,rm 5 d,rm 3 e] 12 a λn p=>wd [] 13 (.fn 57 []) [n] a (Fc g a l c b)
def qR(Q:R)(e:Vs)(a:SH)(f:Kn):Prop:=tI 0 3 4 e λb d c=>W.len b λg=>wb .lss 3 c g λh=>wk h ((true=true)∧(di [] 3 11 b c a λi j=>aN 9 i [] 5 a λk l=>wd [] 6 (.fn 57 []) [k] a (Fd f a d b c l j))) (Q d a)
def tP(a:AV)(L:SH)(Q:R):Prop:=W.len a λb=>W.loop (qR Q) [a,b,(.ZO 0)] L
theorem Fe(t0:AV)(L:SH)(Q:R)(h:tP t0 L Q):af Tryz.prog 57 [t0] L Q:=
 fs [] [(3,[0,3,4])] [] [(5,[0,0,0,6,14,30,62,127,0,0,768,1792,3840,8062,16383,32767])] Tryz.func57 h
end
section
set_option maxRecDepth 100000
def gA(c:Int):Bool:=(decide (97≤c)&&decide (c≤122))||(decide (65≤c)&&decide (c≤90))
def Br(c:Int):Bool:=decide (48≤c)&&decide (c≤57)
def ii(c:Int):Bool:=gA c||Br c||decide (c=95)
theorem HA(c:Int):az Tryz.prog 118 [.int .u8 c] (.bool (gA c)):=by
 refine oN _ _ _ ?_;unfold jM
 repeat' (first|refine st ?_|refine sb λnb_ hnb_=>?_|refine s2 (λh=>?_) λh=>?_|fail)
 all_goals (refine⟨?_,rfl⟩;simp_all[gA]<;>omega)
theorem Qd(c:Int):az Tryz.prog 142 [.int .u8 c] (.bool (Br c)):=by
 refine qH _ _ _ ?_;unfold lV
 repeat' (first|refine st ?_|refine sb λnb_ hnb_=>?_|refine s2 (λh=>?_) λh=>?_|fail)
 all_goals (refine⟨?_,rfl⟩;simp_all[Br]<;>omega)
theorem Qe(c:Int):az Tryz.prog 120 [.int .u8 c] (.bool (ii c)):=by
 refine qI _ _ _ ?_;unfold lW
 repeat' (first|refine st ?_|(refine pf 118 ?_;refine pm (HA _) ?_)|(refine pf 142 ?_;refine pm (Qd _) ?_)|refine sb λnb_ hnb_=>?_|refine s2 (λh=>?_) λh=>?_|fail)
 all_goals (refine⟨?_,rfl⟩;simp_all[ii]<;>omega)
def oU:List bC:=[[118,97,114],[118,111,108,97,116,105,108,101],[109,117,116,101,120],[114,119,108,111,99,107],[99,111,110,100],[102,117,116,117,114,101],[116,104,114,101,97,100],[105,102],[101,108,115,101],[119,104,105,108,101],[108,111,99,107],[114,101,97,100],[119,114,105,116,101],[116,114,97,110,115,97,99,116,105,111,110],[97,116,111,109,105,99],[119,97,105,116],[110,111,116,105,102,121],[110,111,116,105,102,121,97,108,108],[115,112,97,119,110],[106,111,105,110],[115,101,116],[103,101,116]]
theorem Sb:az Tryz.prog 141 [] (.lst (oU.map av)):=by
 refine af.fz (kX _ _ ?_);unfold ig
 repeat' (first|refine st ?_|refine sb λnb_ hnb_=>?_|refine s2 (λh=>?_) λh=>?_|fail)
 exact⟨_,[],aG.all (Fz.sls (l:=oU) (f:=av) rp rfl ZN rfl),rfl,rfl⟩
def IA(s:bC):Bool:=oU.any λx=>decide (x=s)
theorem UG(s:bC):az Tryz.prog 119 [.str s] (.bool (IA s)):=by
 refine jN _ _ _ ?_;unfold gy
 repeat' (first|refine st ?_|(refine pf 141 ?_;refine pm (Sb) ?_)|refine sb λnb_ hnb_=>?_|refine s2 (λh=>?_) λh=>?_|fail)
 refine fH oU (λx=>decide (x=s)) (λi=>[.str s,.lst (oU.map av),.ZO i]) ZN rfl (λi h1 hd hi hno nx hn=>?_) (λi h1 hd hno nx=>?_)
 all_goals unfold fP
 ·have hx:=ay (f:=av) h1
  repeat' (first|refine st ?_|refine sb λnb_ hnb_=>?_|refine s2 (λh=>?_) λh=>?_|fail)
  ·exact⟨by rw[IA,MY h1 h],rfl⟩
  ·exact hn h
 ·repeat' (first|refine st ?_|refine sb λnb_ hnb_=>?_|refine s2 (λh=>?_) λh=>?_|fail)
  exact⟨by rw[IA,PB hno],rfl⟩
def eE(s:bC):Bool:=decide (1≤(s.length:Int))&&decide ((s.length:Int)≤12)&&gA (s.getD 0 0).toNat&&!IA s&&s.all λc=>ii c.toNat
theorem N1(s:bC)(hs:s.length<2^62):az Tryz.prog 86 [.str s] (.bool (eE s)):=by
 refine iP _ _ _ ?_;unfold gz;generalize hQ:(λ(u:AV) (K:SH)=>u=AV.bool (eE s)∧K=[])=Q;have hq:Q (.bool (eE s)) []:=by subst hQ;exact⟨rfl,rfl⟩
 clear hQ;by_cases h0:0<s.length
 ·have d1:decide ((s.length:Int)<1)=false:=by simpa using(by omega:(1:Int)≤s.length)
  repeat' (first|refine st ?_|refine MZ (i:=0) ?_ h0|(refine pf 118 ?_;refine pm (HA _) ?_)|(refine pf 119 ?_;refine pm (UG _) ?_)|refine sb λnb_ hnb_=>?_|refine s2 (λh=>?_) λh=>?_|fail)
  all_goals first
   |(refine Eq.mp (congrArg (λb=>Q (AV.bool b) []) ?_) hq;simp_all[eE]<;>omega;done)
   |skip
  refine fH s (λc=>!ii c.toNat) (λi=>[.str s,.ZO i]) hs rfl (λi h1 hd hi hno nx hn=>?_) (λi h1 hd hno nx=>?_)
  all_goals unfold iO
  ·repeat' (first|refine st ?_|refine MZ ?_|(refine pf 120 ?_;refine pm (Qe _) ?_)|refine sb λnb_ hnb_=>?_|refine s2 (λh=>?_) λh=>?_|fail)
   ·refine Eq.mp (congrArg (λb=>Q (AV.bool b) []) ?_) hq;have:(s.all λc=>ii c.toNat)=false:=PC h1 (by simpa[List.getD,h1]using h);simp[eE,this]
   ·exact hn (by simpa[List.getD,h1]using h)
  ·repeat' (first|refine st ?_|refine sb λnb_ hnb_=>?_|refine s2 (λh=>?_) λh=>?_|fail)
   refine Eq.mp (congrArg (λb=>Q (AV.bool b) []) ?_) hq;have:(s.all λc=>ii c.toNat)=true:=Yo.2 λx hx=>by simpa using hno x hx
   simp_all[eE]<;>omega
 ·have d1:decide ((s.length:Int)<1)=true:=by simpa using(by omega:(s.length:Int)<1)
  repeat' (first|refine st ?_|refine sb λnb_ hnb_=>?_|refine s2 (λh=>?_) λh=>?_|fail)
  refine Eq.mp (congrArg (λb=>Q (AV.bool b) []) ?_) hq;simp_all[eE]
end
structure Ff(c:bA)(l:List bA):Prop where
 lo:1≤c.size
 hi:c.size≤4
 fits:c.size≤l.length
 eq:∀k:Nat,(k:Int)<c.size→l[k]? =some ⟨c.name,k,c.size,false,c.init⟩
inductive dQ:List bA→List bC→Prop where
 |nil:dQ [] []
 |one (c:bA) (l:List bA) (ns:List bC):c.size=0→c.index=0→dQ l ns→dQ (c::l) (c.name::ns)
 |arr (c:bA) (l:List bA) (ns:List bC):c.size≠0→Ff c (c::l)→dQ (l.drop (c.size.toNat-1)) ns→dQ (c::l) (c.name::ns)
theorem dQ.nil_iff{ns:List bC}:dQ [] ns↔ns=[]:=⟨λh=>by cases h;rfl,λh=>by subst h;exact .nil⟩
theorem dQ.one_iff{c:bA}{l:List bA}{ns:List bC}(h0:c.size=0):dQ (c::l) ns↔c.index=0∧∃n2,ns=c.name::n2∧dQ l n2:=by
 constructor
 ·intro h;cases h with
  |one _ _ n2 _ h2 h3=>exact⟨h2,n2,rfl,h3⟩
  |arr _ _ n2 h1=>exact absurd h0 h1
 ·rintro⟨h2,n2,rfl,h3⟩;exact .one _ _ _ h0 h2 h3
theorem dQ.arr_iff{c:bA}{l:List bA}{ns:List bC}(h0:c.size≠0):dQ (c::l) ns↔Ff c (c::l)∧∃n2,ns=c.name::n2∧dQ (l.drop (c.size.toNat-1)) n2:=by
 constructor
 ·intro h;cases h with
  |one _ _ n2 h1=>exact absurd h1 h0
  |arr _ _ n2 _ h2 h3=>exact⟨h2,n2,rfl,h3⟩
 ·rintro⟨h2,n2,rfl,h3⟩;exact .arr _ _ _ h0 h2 h3
def gT(l:List bA)(i:Nat)(acc:List bC):Prop:=i≤l.length∧acc.length≤i∧∀ns,dQ l ns↔∃n2,ns=acc++n2∧dQ (l.drop i) n2
theorem gT.zero(l:List bA):gT l 0 []:=⟨YK _,X7 _,λns=>by simp⟩
theorem gT.step{l:List bA}{i:Nat}{acc:List bC}(h:gT l i acc)(hi:i<l.length)(h0:l[i].size=0)(h1:l[i].index=0):gT l (i+1) (acc++[l[i].name]):=by
 refine⟨hi,by have:=h.2.1;simp;omega,λns=>?_⟩;rw[h.2.2 ns,Zg hi];constructor
 ·rintro⟨n2,rfl,h2⟩;obtain⟨_,n3,rfl,h3⟩:=(dQ.one_iff h0).1 h2;exact⟨n3,ZM,h3⟩
 ·rintro⟨n3,rfl,h3⟩;exact⟨l[i].name::n3,ZM,(dQ.one_iff h0).2 ⟨h1,n3,rfl,h3⟩⟩
theorem gT.jump{l:List bA}{i:Nat}{acc:List bC}(h:gT l i acc)(hi:i<l.length)(h0:l[i].size≠0)(hb:Ff l[i] (l.drop i)):gT l (i+l[i].size.toNat) (acc++[l[i].name]):=by
 have hl:=hb.lo;have hf:=hb.fits;rw[ZA]at hf;refine⟨ZJ,by have:=h.2.1;simp;omega,λns=>?_⟩;rw[h.2.2 ns];rw[Zg hi]at hb ⊢;have e:(l.drop (i+1)).drop (l[i].size.toNat-1)=l.drop (i+l[i].size.toNat):=by rw[List.drop_drop];congr 1;omega
 constructor
 ·rintro⟨n2,rfl,h2⟩;obtain⟨_,n3,rfl,h3⟩:=(dQ.arr_iff h0).1 h2;exact⟨n3,ZM,e▸h3⟩
 ·rintro⟨n3,rfl,h3⟩;exact⟨l[i].name::n3,ZM,(dQ.arr_iff h0).2 ⟨hb,n3,rfl,e▸h3⟩⟩
theorem gT.done{l:List bA}{i:Nat}{acc:List bC}(h:gT l i acc)(hi:l.length≤i):dQ l acc:=by rw[h.2.2 acc,List.drop_eq_nil_of_le hi];exact⟨[],ZM,.nil⟩
theorem gT.no1{l:List bA}{i:Nat}{acc:List bC}(h:gT l i acc)(hi:i<l.length)(h0:l[i].size=0)(h1:l[i].index≠0):∀ns,¬dQ l ns:=λns hn=>by rw[h.2.2 ns,Zg hi]at hn;obtain⟨n2,_,h2⟩:=hn;exact h1 ((dQ.one_iff h0).1 h2).1
theorem gT.no2{l:List bA}{i:Nat}{acc:List bC}(h:gT l i acc)(hi:i<l.length)(h0:l[i].size≠0)(hb:¬Ff l[i] (l.drop i)):∀ns,¬dQ l ns:=λns hn=>by rw[h.2.2 ns]at hn;rw[Zg hi]at hn hb;obtain⟨n2,_,h2⟩:=hn;exact hb ((dQ.arr_iff h0).1 h2).1
theorem dQ.uniq{l:List bA}{a b:List bC}(h:dQ l a):dQ l b→a=b:=by
 induction h generalizing b with
 |nil=>intro h2;rw[dQ.nil_iff.1 h2]
 |one c l ns h0 h1 _ ih=>intro h2;obtain⟨_,n2,rfl,h3⟩:=(dQ.one_iff h0).1 h2;rw[ih h3]
 |arr c l ns h0 h1 _ ih=>intro h2;obtain⟨_,n2,rfl,h3⟩:=(dQ.arr_iff h0).1 h2;rw[ih h3]
theorem dQ.len{l:List bA}{a:List bC}(h:dQ l a):a.length≤l.length:=by
 induction h with
 |nil=>exact X7 _
 |one c l ns h0 h1 _ ih=>simpa using ih
 |arr c l ns h0 h1 _ ih=>rw[ZA]at ih;simp only[Ys];omega
def oV(w:aO)(ns:List bC):List bC:=ns++w.locks.map cq.name++w.conds.map db.name++w.futures++w.threads
def GP(n:Nat):Int→Int→List cQ→Prop
 |_,_,[]=>True
 |t,x,s::l=>t≤s.thread∧s.thread<n∧s.stmt=(if t<s.thread then 0 else x)∧GP n s.thread (s.stmt+1) l
structure Kq(w:aO):Prop where
 c12:w.cells.length≤12
 l4:w.locks.length≤4
 d2:w.conds.length≤2
 f2:w.futures.length≤2
 s60:w.sites.length≤60
 t1:1≤w.threads.length
 t4:w.threads.length≤4
 names:∃ns,dQ w.cells ns∧(∀s∈oV w ns,eE s=true)∧(oV w ns).Nodup
 mtx:∀c∈w.conds,J5 w c.mutex false=true
 sites:GP w.threads.length 0 0 w.sites
section
set_option maxRecDepth 100000
set_option maxHeartbeats 1000000
theorem Fg{α:Type}(S:α→List AV×SH)(m:α→Nat)(G:α→Prop){B:List AV→SH→W.Kn→Prop}{vs:List AV}{L:SH}(a0:α)(h0:G a0)(hz:aG vs L (S a0).1 (S a0).2)
  (h:∀a,G a→∀nx:W.Kn,(∀a',G a'→m a'<m a→∀vs' L',aG vs' L' (S a').1 (S a').2→nx vs' L')→B (S a).1 (S a).2 nx):W.loop B vs L:=by
 refine⟨λn vs L=>∃a,G a∧m a=n∧vs=(S a).1∧L=(S a).2,⟨m a0,_,_,hz,a0,h0,rfl,rfl,rfl⟩,?_⟩;rintro n vs L ⟨a,ha,rfl,rfl,rfl⟩;exact h a ha _ λa' g1 g2 vs' L' g3=>⟨m a',_,_,g2,g3,a',g1,rfl,rfl,rfl⟩
theorem Sc{K:AV→Prop}(x y:bA)(h:K (.bool (nZ (x≠y)))):W.bin Tryz.prog Fl .neq 126 (.agg x.enc) (.agg y.enc) K:=by
 rw[fp];refine⟨.bool (nZ (x≠y)),?_,h⟩;have hF:Fl 126=some [9,3,3,4,2]:=by kernel_rfl
 have hi:Tryz.prog.underlying 3=some (.int .i64):=by kernel_rfl
 have hj:Tryz.prog.underlying 2=some (.int .i64):=by kernel_rfl
 have hb:Tryz.prog.underlying 4=some .bool:=by kernel_rfl
 have hs:Tryz.prog.underlying 9=some .string:=by kernel_rfl
 obtain⟨a1,a2,a3,a4,a5⟩:=x;obtain⟨b1,b2,b3,b4,b5⟩:=y;have he:nZ ((⟨a1,a2,a3,a4,a5⟩:bA)≠⟨b1,b2,b3,b4,b5⟩)=!(decide (a1=b1)&&decide (a2=b2)&&decide (a3=b3)&&decide (a4=b4)&&decide (a5=b5)):=by
  cases hd:(decide (a1=b1)&&decide (a2=b2)&&decide (a3=b3)&&decide (a4=b4)&&decide (a5=b5))with
  |true=>exact jK λhh=>hh (by simpa[and_assoc]using hd)
  |false=>
   refine kW λhh=>?_
   rw[bA.mk.injEq]at hh;obtain⟨h1,h2,h3,h4,h5⟩:=hh;simp[h1,h2,h3,h4,h5]at hd
 rw[he];simp only[iu,bA.enc,hF,YW,HP,Cc,hi,hj,hb,hs,if_true];by_cases h1:a1=b1<;>by_cases h2:a2=b2<;>by_cases h3:a3=b3<;>by_cases h4:a4=b4<;>by_cases h5:a5=b5<;>simp[h1,h2,h3,h4,h5]
theorem N2{K:AV→Prop}(x y:bA)(h:K (.bool (nZ (x≠y)))):wb .neq 126 (.agg x.enc) (.agg y.enc) K:=nK (Sc x y h)
section
variable {l:List bA} {Q:R} {nm:bC} {sz ini:Int} {i nb bs bw:Nat} {n1:W.Kn} (hl:l.length≤12) (h1:1≤sz) (h4:sz≤4) (hf:sz≤(l.length-i:Nat))
 (hno:¬Ff ⟨nm,0,sz,false,ini⟩ (l.drop i)→∀L,Q (.tup [.nils,.bool false]) L) (x:AV) (X Y:Blk)
 (hgo:Ff ⟨nm,0,sz,false,ini⟩ (l.drop i)→∀ix,n1 [.lst (l.map bA.enc),x,.ZO ((i+sz.toNat:Nat):Int)] [(nb,X),(bs,Y),(bw,⟨5,[[.str nm,.ZO ix,.ZO sz,.bool false,.ZO ini]]⟩)])
include hl h1 h4 hf hno hgo
theorem WG(ix:Int):W.loop (el Q n1) [.lst (l.map bA.enc),x,.ZO (i:Int),.ptr bw 0 0,.ZO sz,.ZO 0] [(nb,X),(bs,Y),(bw,⟨5,[[.str nm,.ZO ix,.ZO sz,.bool false,.ZO ini]]⟩)]:=by
 obtain⟨m,rfl⟩:=Int.eq_ofNat_of_zero_le (show 0≤sz by omega);refine Fg (α:=Nat×Int) (λa=>([.lst (l.map bA.enc),x,.ZO (i:Int),.ptr bw 0 0,.ZO (m:Int),.ZO (a.1:Int)],[(nb,X),(bs,Y),(bw,⟨5,[[.str nm,.ZO a.2,.ZO (m:Int),.bool false,.ZO ini]]⟩)])) (λa=>m-a.1) (λa=>a.1≤m∧∀j,j<a.1→l[i+j]? =some ⟨nm,j,m,false,ini⟩) (0,ix) ⟨Nat.zero_le _,λj h=>absurd h (Nat.not_lt_zero _)⟩ (.refl _ _) ?_;rintro⟨k,y⟩ ⟨hk,hG⟩ nx hnx;unfold el;dsimp only at *;rcases Nat.lt_or_ge k m with h|h
 ·have d1:decide ((k:Int)<(m:Int))=true:=bE h;have hw1:IntKind.i64.wrap ((k:Int)+1)=((k+1:Nat):Int):=aA h ZJ;have hw2:IntKind.i64.wrap ((i:Int)+(k:Int))=((i+k:Nat):Int):=by rw[YU _ ZJ];omega
  have hik:i+k<l.length:=by omega
  have hx:=ay (f:=bA.enc) hik;have hxe:l[i+k]? =some l[i+k]:=X6 hik;generalize l[i+k]=c at hx hxe;have hne:nZ (c≠⟨nm,k,m,false,ini⟩)=true→∀L,Q (.tup [.nils,.bool false]) L:=λhd=>hno λhb=>by have h2:=hb.eq k (by show(k:Int)<(m:Int);omega);rw[YY,hxe]at h2;cases h2;exact jm.1 hd rfl
  have hye:nZ (c≠⟨nm,k,m,false,ini⟩)=false→∀j,j<k+1→l[i+j]? =some ⟨nm,j,m,false,ini⟩:=λhd j hj=>by
   rcases X9 j k with g|g
   ·exact hG j g
   ·have e:j=k:=by omega
    subst e;rw[hxe];by_cases hc:c=⟨nm,j,m,false,ini⟩
    ·rw[hc]
    ·rw[kW hc]at hd;cases hd
  repeat' (first|refine st ?_|refine N2 c ⟨nm,k,m,false,ini⟩ ?_|refine sb λnb_ hnb_=>?_|refine s2 (λh=>?_) λh=>?_|fail)
  ·exact hne ZK _
  ·exact hnx (k+1,k) ⟨by dsimp only;omega,hye ZK⟩ (by dsimp only;omega) _ _ (.refl _ _)
 ·have d1:decide ((k:Int)<(m:Int))=false:=bI h;have hw2:IntKind.i64.wrap ((i:Int)+(m:Int))=((i+m:Nat):Int):=by rw[YU _ ZJ];omega
  obtain rfl:k=m:=by omega
  repeat' (first|refine st ?_|refine sb λnb_ hnb_=>?_|refine s2 (λh=>?_) λh=>?_|fail)
  exact hgo ⟨h1,h4,by rw[ZA];omega,λj hj=>by rw[YY];exact hG j (by simpa using hj)⟩ y
end
theorem tQ (l : List bA) (hl : l.length ≤ 12) {Q : R} (hy : ∀ ns L v, dQ l ns → Fz L v (.lst (ns.map av)) → Q (.tup [v, .bool true]) L) (hn : (∀ ns, ¬ dQ l ns) → ∀ L, Q (.tup [.nils, .bool false]) L) :
    eU (.lst (l.map bA.enc)) [] Q:=by
  unfold eU;refine Fg (α:=Nat×List bC×Option Nat) (λa=>([.lst (l.map bA.enc),ao a.2.2 a.2.1.length,.ZO (a.1:Int)],ae a.2.2 1 (a.2.1.map av))) (λa=>l.length-a.1) (λa=>gT l a.1 a.2.1∧(a.2.2=none→a.2.1=[])) (0,[],none) ⟨.zero l,λ_=>rfl⟩ (aG.drop (K:=[]) (.refl _) rfl ((iV.cons (.refl _) (.cons .nile (.cons (.refl _) .nil))).at_.2)) ?_;rintro⟨i,acc,o⟩ ⟨hV,ho⟩ nx hnx;unfold gQ;dsimp only at *;have hva:=hV.2.1;rcases Nat.lt_or_ge i l.length with h|h
  · have hx:=ay (f:=bA.enc) h
    have d1:decide ((i:Int)<(l.length:Int))=true:=bE h;have hw1:IntKind.i64.wrap ((i:Int)+1)=((i+1:Nat):Int):=aA h ZJ;have hw2:IntKind.i64.wrap ((l.length:Int)-(i:Int))=((l.length-i:Nat):Int):=by rw[YU _ ZJ];omega
    have hs0:l[i].size=0→l[i].index≠0→∀ns,¬dQ l ns:=hV.no1 h;have hs1:l[i].size=0→l[i].index=0→gT l (i+1) (acc++[l[i].name]):=hV.step h;have hs2:l[i].size≠0→¬Ff l[i] (l.drop i)→∀ns,¬dQ l ns:=hV.no2 h;have hs3:l[i].size≠0→Ff l[i] (l.drop i)→gT l (i+l[i].size.toNat) (acc++[l[i].name]):=hV.jump h;have hgo:∀j nb_ L',gT l j (acc++[l[i].name])→i<j→gJ L' [(nb_,⟨1,acc.map av++[[.str l[i].name]]⟩)]→nx [.lst (l.map bA.enc),.sl nb_ 0 (acc.length+1),.ZO (j:Int)] L':=λj nb_ L' h1 h2 h3=>
      hnx (j,acc++[l[i].name],some nb_) ⟨h1,nofun⟩ (by have:=h1.1;dsimp only;omega) _ _ (aG.pickE h3 (by simp[ao]) (by simp[ae,av]))
    have hxe:(l.drop i)[0]? =some l[i]:=by rw[YY];exact X6 h
    clear hnx hV;generalize l[i]=c at *;obtain⟨nm,ix,sz,vo,ini⟩:=c;unfold bA.enc at hx;dsimp only at *;have hbe:Ff ⟨nm,ix,sz,vo,ini⟩ (l.drop i)→1≤sz∧sz≤4∧vo=false∧sz≤(l.length-i:Nat):=λhb=>by have h1:=hb.lo;have h2:=hb.eq 0 (by show(0:Int)<sz;have:=hb.lo;dsimp only at this;omega);rw[hxe]at h2;cases h2;exact⟨h1,hb.hi,rfl,by have:=hb.fits;rw[List.length_drop]at this;exact this⟩
    have hbq:Ff ⟨nm,0,sz,false,ini⟩ (l.drop i)→Ff ⟨nm,ix,sz,vo,ini⟩ (l.drop i):=λhb=>by have h2:=hb.eq 0 (by show(0:Int)<sz;have:=hb.lo;dsimp only at this;omega);rw[hxe]at h2;cases h2;exact hb
    repeat' (first|refine st ?_|refine cx mm rp ZM (λe=>by simp[ho e]) ZL ZM (by simp;omega) (by simp;omega) ZL (λnb_ hnb_=>?_)|refine sb λnb_ hnb_=>?_|refine s2 (λh=>?_) λh=>?_|fail)
    all_goals first
      |exact hn (hs0 (of_decide_eq_true ZK) (of_decide_eq_true ZK)) _
      |(refine hgo (i+1) _ _ (hs1 (of_decide_eq_true ZK) ?_) (Nat.lt_succ_self _) rp;clear hgo hn hy hs0 hs1 hs2 hs3 hbe hbq;simp only[ne_eq,decide_eq_false_iff_not,Decidable.not_not]at *;assumption)
      | (refine hn (hs2 (of_decide_eq_false ZK) fun hb => ?_) _
         have hb:=hbe hb;clear hgo hn hy hs0 hs1 hs2 hs3 hbe hbq
         (simp only[decide_eq_true_eq,decide_eq_false_iff_not]at *;simp_all<;>omega))
      |skip
    rename_i h1 h2 h3 h4;subst h4;simp only[decide_eq_false_iff_not]at h h1 h2 h3;refine WG hl ZJ ZJ ZJ (λhb=>hn (hs2 ZJ λhc=>hb ?_)) _ _ _ (λhb y=>hgo _ _ _ (hs3 ZJ (hbq hb)) (by have:=hb.lo;dsimp only at this;omega) rp) ix;have h5:=hc.eq 0 (by show(0:Int)<sz;omega);rw[hxe]at h5;cases h5;exact hc
  · have d1:decide ((i:Int)<(l.length:Int))=false:=bI h
    repeat' (first|refine st ?_|refine sb λnb_ hnb_=>?_|refine s2 (λh=>?_) λh=>?_|fail)
    exact hy acc _ _ (hV.done h) (Fz.slot rfl (λe=>by simp[ho e]) ZN (λ_ _=>rfl) λ_ _ q a a2 h1 h2=>by rw[h1]at h2;cases h2;exact .refl _)
end
section
set_option maxRecDepth 100000
def pG(e:Kn)(a:SH)(b c f g h:AV):Prop:=ma 2 b c a λi=>rE [(.str []),(.bool false)] 2 i a λj d=>aC 0 j d λk=>W.bslice 1 [(.str [])] 1 [(0,k)] d λl m=>W.append 1 16 f l m λn o=>wb .add 3 c (.ZO 1) λp=>e [g,n,b,h,p] o
def pH(e:Kn)(a:SH)(b c f g h:AV):Prop:=ma 2 b c a λi=>rE [(.str []),(.ZO 0)] 2 i a λj d=>aC 0 j d λk=>W.bslice 1 [(.str [])] 1 [(0,k)] d λl m=>W.append 1 16 f l m λn o=>wb .add 3 c (.ZO 1) λp=>e [g,n,b,h,p] o
def pI(Q:R)(f:Kn)(b c g h i j:AV)(k:SH):Prop:=W.un .not j λa=>bJ a false b k λl m=>bJ a false c m λn d=>wg a false (W.look (.bool false) false l n d) d λo e=>W.pick a (.bool true) o λp=>wk p (Q (.bool false) e) (W.mup b c (.bool true) e λq=>wb .add 3 g (.ZO 1) λr=>f [b,h,i,r] q)
def ep(Q:R)(f:Vs)(a:SH)(g:Kn):Prop:=ug 10 51 52 53 f λh c d b=>wb .lss 3 b d λi=>wk i (tH 1 c b a λe=>wc (.fn 102 []) [e] a (pI Q g h e b c d)) (Q (.bool true) a)
def pJ(Q:R)(a:SH)(b e:AV):Prop:=aC 3 b a λf=>W.append 1 16 e f a λg c=>aC 4 b c λh=>W.append 1 16 g h c λd i=>W.mkmap i λj k=>W.len d λl=>W.loop (ep Q) [j,d,l,(.ZO 0)] k
def eu(Q:R)(f:Vs)(a:SH)(g:Kn):Prop:=Jd 2 5 30 31 32 f λb c h d e=>wb .lss 3 e d λi=>wk i ((pH g a h e c b d)) ((pJ Q a b c))
def ew(Q:R)(g:Vs)(a:SH)(h:Kn):Prop:=Jd 2 5 17 18 19 g λb c i d e=>wb .lss 3 e d λj=>wk j ((pG h a i e c b d)) (aC 2 b a λf=>W.len f λk=>W.loop (eu Q) [b,c,f,k,(.ZO 0)] a)
def eV(d e:AV)(L:SH)(Q:R):Prop:=rF d L λa f=>W.append 1 16 .nils e f λg b=>aC 1 a b λc=>W.len c λh=>W.loop (ew Q) [a,g,c,h,(.ZO 0)] b
theorem pK(t0 t1:AV)(L:SH)(Q:R)(h:eV t0 t1 L Q):af Tryz.prog 64 [t0,t1] L Q:=
 fs [] [(4,[2,5,17,18,19]),(9,[2,5,30,31,32]),(17,[10,51,52,53])] [(0,[2]),(5,[7]),(10,[9])] [] Tryz.func64 h
def Dy(Q:R)(f:Kn)(g:SH)(h c i:AV):Prop:=wb .gtr 3 h (.ZO 0) λa=>bJ a true c g λj k=>wg a true (wb .eql 21 j (.int .i32 95)) k λl m=>bJ a true l m λb n=>bJ b false c n λo p=>wg b false (wb .leq 21 (.int .i32 48) o) p λq r=>bJ b false q r λd s=>bJ d true c s λt u=>wg d true (wb .leq 21 t (.int .i32 57)) u λv w=>wg b false (W.pick d v (.bool false)) w λx y=>wg a true (W.pick b (.bool true) x) y λz e=>W.pick a z (.bool false) λA=>wk A (f [i] e) (Q (.bool false) e)
def Dz(Q:R)(e:Kn)(i:SH)(f g:AV):Prop:=W.ext 1 f λj=>W.ext 2 f λa=>wb .leq 21 (.int .i32 97) a λc=>bJ c true a i λk l=>wg c true (wb .leq 21 k (.int .i32 122)) l λm n=>W.pick c m (.bool false) λb=>bJ b false a n λo p=>wg b false (wb .leq 21 (.int .i32 65) o) p λq r=>bJ b false q r λd s=>bJ d true a s λt u=>wg d true (wb .leq 21 t (.int .i32 90)) u λv w=>wg b false (W.pick d v (.bool false)) w λx h=>W.pick b (.bool true) x λy=>wk y (e [g] h) ((Dy Q e h j a g))
def oW(Q:R)(d:Vs)(e:SH)(f:Kn):Prop:=XM 18 d λa=>W.nxt a e λb c=>W.ext 0 b λg=>wk g ((Dz Q f c b a)) (Q (.bool true) c)
def qS(a:AV)(L:SH)(Q:R):Prop:=W.lenS a λf=>wb .lss 3 f (.ZO 1) λb=>bJ b false a L λg h=>wg b false (W.lenS g) h λi j=>wg b false (wb .gtr 3 i (.ZO 12)) j λk l=>W.pick b (.bool true) k λc=>bJ c false a l λm d=>W.grd c false (λn=>wc (.fn 128 []) [m] d λo p=>n o p) d λq e=>W.pick c (.bool true) q λr=>wk r (Q (.bool false) e) (W.rngS a e λs t=>W.loop (oW Q) [s] t)
theorem DA(t0:AV)(L:SH)(Q:R)(h:qS t0 L Q):af Tryz.prog 102 [t0] L Q:=
 fs [] [(4,[18])] [] [] Tryz.func102 h
def jS(Q:R)(e:Vs)(a:SH)(f:Kn):Prop:=tI 0 5 6 e λc d b=>wb .lss 3 b (.ZO 22) λg=>wk g (W.ixA false 22 1 d b λh=>wb .eql 9 c h λi=>wk i (Q (.bool true) a) (wb .add 3 b (.ZO 1) λj=>f [c,d,j] a)) (Q (.bool false) a)
def kZ(a:AV)(L:SH)(Q:R):Prop:=cp 22 (Rq 1) L λb=>W.loop (jS Q) [a,b,(.ZO 0)] L
theorem um(t0:AV)(L:SH)(Q:R)(h:kZ t0 L Q):af Tryz.prog 128 [t0] L Q:=
 fs [] [(2,[0,5,6])] [] [] Tryz.func128 h
end
end Go.Proofs.YtdnpdghlggbklaaGreatDoor.Am
