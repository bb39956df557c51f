/- A part of the proof; the statement is proved in the last part. -/
import Derived.Test.YtdnpdghlggbklaaGreatDoorQsl
set_option linter.unusedSimpArgs false
set_option linter.unusedVariables false
namespace Go.Proofs.YtdnpdghlggbklaaGreatDoor.Am
section
set_option maxRecDepth 100000
set_option maxHeartbeats 1000000
set_option linter.unusedSectionVars false
noncomputable def iX (P:Prop):Bool:=@decide P (Classical.propDecidable P)
theorem kj{P:Prop}(h:P):iX P=true:=@decide_eq_true P (Classical.propDecidable P) h
theorem jo{P:Prop}(h:¬P):iX P=false:=@decide_eq_false P (Classical.propDecidable P) h
theorem fm{P:Prop}:iX P=true↔P:=⟨λh=>@of_decide_eq_true P (Classical.propDecidable P) h,kj⟩
theorem G2(i:bj):ax Tryz.prog 68 [.agg i.enc] (.lst ((bY i).map aj)):=by
 obtain⟨op,ia,ib,ic,n,site⟩:=i;refine af.fz (pB _ _ _ ?_);unfold iE;generalize hQ:(λ(v:AV) (L:SH)=>∃v2 L2,aF [v] L [v2] L2∧v2=AV.lst ((bY ⟨op,ia,ib,ic,n,site⟩).map aj)∧L2=[])=Q;have hq:∀(l:List Int),bY ⟨op,ia,ib,ic,n,site⟩=l→∀v L,Fz L v (.lst (l.map aj))→Q v L:=λl hl v L h=>by subst hQ;exact⟨_,[],aF.all h,by rw[hl],rfl⟩
 clear hQ
 repeat' (first|refine st ?_|refine sb λnb_ hnb_=>?_|refine s2 (λh=>?_) λh=>?_|fail)
 all_goals first
  |exact hq [ia] (by simp_all[bY];done) _ _ (Fz.sls (l:=[ia]) (f:=aj) (.head _) rfl Xv rfl)
  |exact hq [ib] (by simp_all[bY];done) _ _ (Fz.sls (l:=[ib]) (f:=aj) (.head _) rfl Xv rfl)
  |exact hq [ia,ib] (by simp_all[bY];done) _ _ (Fz.sls (l:=[ia,ib]) (f:=aj) (.head _) rfl Xv rfl)
  |exact hq [ia,ic] (by simp_all[bY];done) _ _ (Fz.sls (l:=[ia,ic]) (f:=aj) (.head _) rfl Xv rfl)
  |exact hq [ib,ic] (by simp_all[bY];done) _ _ (Fz.sls (l:=[ib,ic]) (f:=aj) (.head _) rfl Xv rfl)
  |exact hq [ia,ib,ic] (by simp_all[bY];done) _ _ (Fz.sls (l:=[ia,ib,ic]) (f:=aj) (.head _) rfl Xv rfl)
  |exact hq [] (by simp_all[bY];done) _ _ .nils
theorem G3{ins:List bj}{k:Nat}{i:bj}(h:ins[k]? =some i):ax Tryz.prog 108 [.lst (ins.map bj.enc),.Xw k] (.Xw (if i.op=5 then i.a else IntKind.i64.wrap ((k:Int)+1))):=by
 have hx:(ins.map bj.enc)[k]? =some i.enc:=PI h;obtain⟨op,ia,ib,ic,n,site⟩:=i;unfold bj.enc at hx;refine po _ _ _ _ ?_;unfold iD;generalize hQ:(λ(u:AV) (K:SH)=>u=AV.Xw (if op=5 then ia else IntKind.i64.wrap ((k:Int)+1))∧K=[])=Q
 repeat' (first|refine st ?_|refine sb λnb_ hnb_=>?_|refine s2 (λh=>?_) λh=>?_|fail)
 all_goals
  subst hQ;refine⟨?_,rfl⟩;simp_all
structure Oq(ins:List bj):Prop where
 len:ins.length<2^48
 jmp:∀i∈ins,i.op=5→0≤i.a∧i.a<ins.length
 last:∀(k:Nat) (i:bj),ins[k]? =some i→(i.op=28↔k+1=ins.length)
def nxt(ins:List bj)(k:Nat):Nat:=match ins[k]? with
 |some i=>if i.op=5 then i.a.toNat else k+1
 |none=>0
def mT(ins:List bj)(k:Nat):Nat→Nat
 |0=>k
 |t+1=>nxt ins (mT ins k t)
def nv(ins:List bj)(k:Nat):Prop:=∃i,ins[k]? =some i∧i.sil
section
variable {ins:List bj} (hf:Oq ins)
include hf
theorem Ot{k:Nat}(h:nv ins k):nxt ins k<ins.length:=by
 obtain⟨i,hi,hs⟩:=h;have hk:=(List.getElem?_eq_some_iff.1 hi).1;unfold nxt;rw[hi];dsimp only;split
 ·rename_i h5;have:=hf.jmp i (Wo hi) h5;omega
 ·have h1:=hf.last k i hi;have:=hs.2;have:k+1≠ins.length:=λe=>by have:=h1.2 e;omega
  omega
theorem Lx{k:Nat}(h:nv ins k):ax Tryz.prog 108 [.lst (ins.map bj.enc),.Xw k] (.Xw (nxt ins k:Nat)):=by
 have hl:=Ot hf h;obtain⟨i,hi,hs⟩:=h;have h1:=G3 hi;have hk:=(Wt.1 hi).1;have:(if i.op=5 then i.a else IntKind.i64.wrap ((k:Int)+1))=(nxt ins k:Nat):=by
  unfold nxt;rw[hi];dsimp only;split
  ·rename_i h5;have:=hf.jmp i (Wo hi) h5;omega
  ·have:=hf.len;rw[aD hk Xr]
 rw[this]at h1;exact h1
theorem Ou{k:Nat}(h:nv ins k)(h2:pj ins (nxt ins k)):pj ins k:=by
 obtain⟨i,hi,hs⟩:=h;obtain⟨m,hm⟩:=h2;unfold nxt at hm;rw[hi]at hm;dsimp only at hm;split at hm
 ·rename_i h5;have:=hf.jmp i (Wo hi) h5;exact⟨m+1,.jump k m i.a.toNat i hi h5 Xr hm⟩
 ·rename_i h5;exact⟨m+1,.go k m i hi hs h5 hm⟩
theorem Sr{k m:Nat}(h:nv ins k)(h2:J3 ins k m):∃m',m=m'+1∧J3 ins (nxt ins k) m':=by
 obtain⟨i,hi,hs⟩:=h;unfold nxt;rw[hi];dsimp only;cases h2 with
 |ev _ i' hi' hs'=>rw[hi]at hi';cases hi';exact absurd hs hs'
 |go _ m' i' hi' hs' h5 hm=>rw[hi]at hi';cases hi';rw[if_neg h5];exact⟨m',rfl,hm⟩
 |jump _ m' j i' hi' h5 ha hm=>rw[hi]at hi';cases hi';rw[if_pos h5,ha];exact⟨m',rfl,by simpa using hm⟩
theorem G4{k m:Nat}(h:J3 ins k m):∀t,(∀u,u<t→nv ins (mT ins k u))→t≤m∧J3 ins (mT ins k t) (m-t)
 |0,_=>⟨WF _,h⟩
 | t+1,hs=>by
  obtain⟨h1,h2⟩:=G4 h t λu hu=>hs u Xr
  obtain⟨m',h3,h4⟩:=Sr hf (hs t Xr) h2;refine⟨Xr,?_⟩;rw[show m-(t+1)=m' by omega];exact h4
theorem Ov{k t u:Nat}(hs:∀u,u<t→nv ins (mT ins k u))(hu:u<t)(e:mT ins k u=mT ins k t):¬pj ins k:=λ⟨m,hm⟩=>by
 obtain⟨h1,h2⟩:=G4 hf hm t hs;obtain⟨h3,h4⟩:=G4 hf hm u λv hv=>hs v Xr
 rw[e]at h4;have:=h4.uniq h2;omega
theorem IN{k:Nat}:∀t,(∀u,u<t→nv ins (mT ins k u))→pj ins (mT ins k t)→∀u,u≤t→pj ins (mT ins k u)
 |0,_,h,u,hu=>by rw[show u=0 by omega];exact h
 | t+1,hs,h,u,hu=>by
  rcases VO t u with h1|h1
  ·rw[show u=t+1 by omega];exact h
  ·exact IN t (λv hv=>hs v Xr) (Ou hf (hs t Xr) h) u h1
end
def mU(s:List Bool)(ins:List bj)(k:Nat):Nat→List Bool
 |0=>s
 |t+1=>(mU s ins k t).set (mT ins k t) true
theorem jp(s:List Bool)(ins:List bj)(k:Nat):∀t,(mU s ins k t).length=s.length
 |0=>rfl
 |t+1=>by rw[mU,Xk,jp s ins k t]
theorem pC{s:List Bool}{ins:List bj}{k j:Nat}:∀t,(mU s ins k t)[j]? =some true→s[j]? =some true∨∃u,u<t∧mT ins k u=j
 |0,h=>.inl h
 | t+1,h=>by
  rw[mU,Wn]at h;split at h
  ·rename_i e;exact .inr ⟨t,Xr,e⟩
  ·rcases pC t h with h1|⟨u,hu,e⟩
   ·exact .inl h1
   ·exact .inr ⟨u,Xr,e⟩
theorem pD{s:List Bool}{ins:List bj}{k j:Nat}(hj:j<s.length):∀t,(s[j]? =some true∨∃u,u<t∧mT ins k u=j)→(mU s ins k t)[j]? =some true
 | 0,h=>by
  rcases h with h|⟨u,hu,_⟩
  ·exact h
  ·omega
 | t+1,h=>by
  rw[mU,Wn];split
  ·rename_i e;rw[if_pos (by rw[jp];omega)]
  ·rename_i e;refine pD hj t ?_;rcases h with h|⟨u,hu,e2⟩
   ·exact .inl h
   ·refine .inr ⟨u,?_,e2⟩;rcases VO u t with h1|h1
    ·exact h1
    ·rw[show u=t by omega]at e2;exact absurd e2 e
theorem Ke{l:List Bool}{k:Nat}(h:k<l.length):∃b,l[k]? =some b:=⟨l[k],VK h⟩
theorem G5{l:List Bool}{k:Nat}{b:Bool}(h:l[k]? =some b):(l.map aI)[k]? =some [.bool b]:=by rw[VZ,h];rfl
theorem IP(s:List Bool)(ins:List bj)(k t:Nat):((mU s ins k t).map aI).set (mT ins k t) [.bool true]=(mU s ins k (t+1)).map aI:=by rw[mU,WH];rfl
end
section
set_option maxRecDepth 100000
set_option maxHeartbeats 1000000
set_option linter.unusedSectionVars false
structure Uv(ins:List bj)(start:Nat)(g:List Bool)(t:Nat):Prop where
 lt:mT ins start t<ins.length
 sil:∀u,u<t→nv ins (mT ins start u)
 bad:∀u,u<t→g[mT ins start u]? =some false
 inj:∀u v,u<v→v<t→mT ins start u≠mT ins start v
section
variable {ins:List bj} (hf:Oq ins) {b1 b2:Nat} {start:Nat} (hs:start<ins.length) {g s:List Bool} (hg:g.length=ins.length) (hl:s.length=ins.length) (hsg:∀k:Nat,s[k]? =some true→g[k]? =some true) (hgl:∀k:Nat,g[k]? =some true→pj ins k)
theorem Ss{t:Nat}(hf:Oq ins)(hs:start<ins.length)(h:Uv ins start g t):t≤ins.length:=by
 have h1:((List.range t).map (mT ins start)).Nodup:=by
  refine List.pairwise_map.2 ?_;refine(List.nodup_range (n:=t)).imp_of_mem ?_;intro u v hu hv hne e;rcases VO u v with h2|h2
  ·exact h.inj u v h2 (WI.1 hv) e
  ·exact h.inj v u Xr (WI.1 hu) e.symm
 have h2:=NW h1 (n:=ins.length) (by
  intro j hj;obtain⟨u,hu,rfl⟩:=Wm.1 hj;obtain⟨i,hi,_⟩:=h.sil u (WI.1 hu);exact(Wt.1 hi).1)
 simpa using h2
include hf hs hg hl
theorem Ow(n8:W.Kn)(T:Nat)(hw:Uv ins start g T)(he:¬nv ins (mT ins start T)∨g[mT ins start T]? =some true)(sr:List Bool)
  (hn:n8 [.lst (ins.map bj.enc),.sl b1 0 ins.length,.sl b2 0 ins.length,.Xw ins.length,.Xw (start+1:Nat)] [(b2,⟨1,sr.map aI⟩),(b1,⟨1,(mU g ins start T).map aI⟩)]) :
  W.loop (eW n8) [.lst (ins.map bj.enc),.sl b1 0 ins.length,.sl b2 0 ins.length,.Xw start,.Xw ins.length,.Xw start] [(b2,⟨1,sr.map aI⟩),(b1,⟨1,g.map aI⟩)]:=by
 refine DJ (λu:Nat=>([.lst (ins.map bj.enc),.sl b1 0 ins.length,.sl b2 0 ins.length,.Xw (mT ins start u:Nat),.Xw ins.length,.Xw start],[(b2,⟨1,sr.map aI⟩),(b1,⟨1,(mU g ins start u).map aI⟩)])) (λu=>T-u) (λu=>u≤T) 0 (WF _) rfl rfl λu hu nx hnx=>?_
 have hk:mT ins start u<ins.length:=by
  rcases VO u T with h|h
  ·obtain⟨i,hi,_⟩:=hw.sil u h;exact(Wt.1 hi).1
  ·rw[show u=T by omega];exact hw.lt
 have hx:=ay (f:=bj.enc) hk;unfold bj.enc at hx;have hsi:=Bf ins[mT ins start u].op;obtain⟨b,hb⟩:=Ke (l:=mU g ins start u) (k:=mT ins start u) (by rw[jp];omega);have hbm:=G5 hb;have hw1:IntKind.i64.wrap ((start:Int)+1)=((start+1:Nat):Int):=aD hs (by have:=hf.len;omega);have hon:B5 ins[mT ins start u].op=true→b=false→u<T:=λh1 h2=>by
  rcases VO u T with h|h
  ·exact h
  ·exfalso;have e:u=T:=by omega
   subst e;rcases he with he|he
   ·exact he ⟨_,VK hk,by simpa[B5,bj.sil]using h1⟩
   ·rw[pD Xr u (.inl he)]at hb;cases hb;cases h2
 have hoff:u<T→B5 ins[mT ins start u].op=true∧b=false:=λh=>by
  obtain⟨i,hi,h2⟩:=hw.sil u h;rw[VK hk]at hi;cases hi;refine⟨by simpa[B5,bj.sil]using h2,?_⟩;cases b with
  |false=>rfl
  |true=>
   exfalso;rcases pC u hb with h3|⟨v,hv,h3⟩
   ·rw[hw.bad u h]at h3;cases h3
   ·exact hw.inj v u hv h h3
 unfold eW;dsimp only;rcases Nat.lt_or_ge u T with h|h
 ·obtain⟨h1,rfl⟩:=hoff h;have hfo:=Lx hf (hw.sil u h);rw[h1]at hsi
  repeat' (first|refine st ?_|(refine pf 107 ?_;refine pm (hsi) ?_)|(refine pf 108 ?_;refine pm (hfo) ?_)|refine sb λnb_ hnb_=>?_|refine s2 (λh=>?_) λh=>?_|fail)
  have:=hnx (u+1) Xr Xr;rw[←IP]at this;exact this
 ·have e:u=T:=by omega
  subst e;cases h1:B5 ins[mT ins start u].op with
  |false=>
   rw[h1]at hsi
   repeat' (first|refine st ?_|(refine pf 107 ?_;refine pm (hsi) ?_)|refine sb λnb_ hnb_=>?_|refine s2 (λh=>?_) λh=>?_|fail)
   exact hn
  |true=>
   rw[h1]at hsi;cases b with
   |false=>exact absurd (hon h1 rfl) (Nat.lt_irrefl _)
   |true=>
    repeat' (first|refine st ?_|(refine pf 107 ?_;refine pm (hsi) ?_)|refine sb λnb_ hnb_=>?_|refine s2 (λh=>?_) λh=>?_|fail)
    exact hn
include hsg in
theorem St(Q:R)(n8:W.Kn)(hq:¬pj ins start→∀L,Q (.bool false) L)
  (hn:∀T,Uv ins start g T→(¬nv ins (mT ins start T)∨g[mT ins start T]? =some true)→n8 [.lst (ins.map bj.enc),.sl b1 0 ins.length,.sl b2 0 ins.length,.Xw ins.length,.Xw (start+1:Nat)] [(b2,⟨1,(mU s ins start T).map aI⟩),(b1,⟨1,(mU g ins start T).map aI⟩)]) :
  W.loop (eX Q n8) [.lst (ins.map bj.enc),.sl b1 0 ins.length,.sl b2 0 ins.length,.Xw start,.Xw start,.Xw ins.length,.Xw start] [(b2,⟨1,s.map aI⟩),(b1,⟨1,g.map aI⟩)]:=by
 refine DJ (λt:Nat=>([.lst (ins.map bj.enc),.sl b1 0 ins.length,.sl b2 0 ins.length,.Xw start,.Xw (mT ins start t:Nat),.Xw ins.length,.Xw start],[(b2,⟨1,(mU s ins start t).map aI⟩),(b1,⟨1,g.map aI⟩)])) (λt=>ins.length-t) (λt=>Uv ins start g t) 0 ⟨hs,λu hu=>absurd hu (Nat.not_lt_zero _),λu hu=>absurd hu (Nat.not_lt_zero _),λu v _ hv=>absurd hv (Nat.not_lt_zero _)⟩ rfl rfl λt hw nx hnx=>?_
 have hk:=hw.lt;have hx:=ay (f:=bj.enc) hk;unfold bj.enc at hx;have hsi:=Bf ins[mT ins start t].op;obtain⟨b,hb⟩:=Ke (l:=g) (k:=mT ins start t) Xr;have hbm:=G5 hb;obtain⟨c,hc⟩:=Ke (l:=mU s ins start t) (k:=mT ins start t) (by rw[jp];omega);have hcm:=G5 hc;unfold eX;dsimp only;cases h1:B5 ins[mT ins start t].op with
 |false=>
  rw[h1]at hsi;have hno:¬nv ins (mT ins start t):=λ⟨i,hi,h2⟩=>by
   rw[VK hk]at hi;cases hi;have:B5 ins[mT ins start t].op=true:=by simpa[B5,bj.sil]using h2
   rw[h1]at this;cases this
  repeat' (first|refine st ?_|(refine pf 107 ?_;refine pm (hsi) ?_)|refine sb λnb_ hnb_=>?_|refine s2 (λh=>?_) λh=>?_|fail)
  exact Ow hf hs hg hl n8 t hw (.inl hno) _ (hn t hw (.inl hno))
 |true=>
  rw[h1]at hsi;have hsa:nv ins (mT ins start t):=⟨_,VK hk,by simpa[B5,bj.sil]using h1⟩;cases b with
  |true=>
   repeat' (first|refine st ?_|(refine pf 107 ?_;refine pm (hsi) ?_)|refine sb λnb_ hnb_=>?_|refine s2 (λh=>?_) λh=>?_|fail)
   exact Ow hf hs hg hl n8 t hw (.inr hb) _ (hn t hw (.inr hb))
  |false=>
   cases c with
   |true=>
    have:¬pj ins start:=by
     rcases pC t hc with h2|⟨u,hu,h2⟩
     ·rw[hsg _ h2]at hb;cases hb
     ·exact Ov hf hw.sil hu h2
    repeat' (first|refine st ?_|(refine pf 107 ?_;refine pm (hsi) ?_)|refine sb λnb_ hnb_=>?_|refine s2 (λh=>?_) λh=>?_|fail)
    exact hq this _
   |false=>
    have hfo:=Lx hf hsa;have hw2:Uv ins start g (t+1):=⟨Ot hf hsa,λu hu=>by
     rcases VO u t with h|h
     ·exact hw.sil u h
     ·rw[show u=t by omega];exact hsa,λu hu=>by
     rcases VO u t with h|h
     ·exact hw.bad u h
     ·rw[show u=t by omega];exact hb,λu v huv hv e=>by
     rcases VO v t with h|h
     ·exact hw.inj u v huv h e
     ·have h2:v=t:=by omega
      subst h2;rw[pD Xr v (.inr ⟨u,huv,e⟩)]at hc;cases hc⟩
    have hle:=Ss hf hs hw2
    repeat' (first|refine st ?_|(refine pf 107 ?_;refine pm (hsi) ?_)|(refine pf 108 ?_;refine pm (hfo) ?_)|refine sb λnb_ hnb_=>?_|refine s2 (λh=>?_) λh=>?_|fail)
    have:=hnx (t+1) hw2 Xr;rw[←IP]at this;exact this
end
theorem IQ{ins:List bj}(hf:Oq ins):ax Tryz.prog 70 [.lst (ins.map bj.enc)] (.bool (iX (∀k,k<ins.length→pj ins k))):=by
 have hl:=hf.len;refine af.fz (qB _ _ _ ?_);unfold jm;generalize hQ:(λ(v:AV) (L:SH)=>∃v2 L2,aF [v] L [v2] L2∧v2=AV.bool (iX (∀k,k<ins.length→pj ins k))∧L2=[])=Q;have hq:∀b,iX (∀k,k<ins.length→pj ins k)=b→∀L,Q (.bool b) L:=λb hb L=>by subst hQ;exact⟨_,[],aF.all (.refl _),by rw[hb],rfl⟩
 clear hQ
 repeat' (first|refine st ?_|refine sb λnb_ hnb_=>?_|refine s2 (λh=>?_) λh=>?_|fail)
 rename_i b1 _;revert nb_;intro b2 _;have hrep:∀k:Nat,(List.replicate ins.length false)[k]? =some true→pj ins k:=λk h=>by rw[W1]at h;split at h<;>cases h
 refine DJ (α:=Nat×List Bool×List Bool) (λa=>([.lst (ins.map bj.enc),.sl b1 0 ins.length,.sl b2 0 ins.length,.Xw ins.length,.Xw (a.1:Nat)],[(b2,⟨1,a.2.2.map aI⟩),(b1,⟨1,a.2.1.map aI⟩)])) (λa=>ins.length-a.1)
  (λa=>a.1≤ins.length∧a.2.1.length=ins.length∧a.2.2.length=ins.length∧(∀k:Nat,a.2.2[k]? =some true→a.2.1[k]? =some true)∧(∀k:Nat,a.2.1[k]? =some true→pj ins k)∧∀k,k<a.1→pj ins k) (0,List.replicate ins.length false,List.replicate ins.length false)
  ⟨WF _,Xu,Xu,λk h=>h,hrep,λk h=>absurd h (Nat.not_lt_zero _)⟩ Xu (by simp[aI]) ?_
 rintro⟨a,g,s⟩ ⟨h1,h2,h3,h4,h5,h6⟩ nx hnx;dsimp only at h1 h2 h3 h4 h5 h6 ⊢;unfold iC;rcases Nat.lt_or_ge a ins.length with h|h
 ·have hd:=bK h
  repeat' (first|refine st ?_|refine sb λnb_ hnb_=>?_|refine s2 (λh=>?_) λh=>?_|fail)
  refine St hf h h2 h3 h4 Q nx (λhno L=>hq _ (jo λhall=>hno (hall a h)) L) λT hw he=>?_
  have hT:pj ins (mT ins a T):=by
   rcases he with he|he
   ·have hk:=hw.lt;exact⟨0,.ev _ _ (VK hk) λhs=>he ⟨_,VK hk,hs⟩⟩
   ·exact h5 _ he
  have hall:=IN hf T hw.sil hT;refine hnx (a+1,mU g ins a T,mU s ins a T) ⟨h,by rw[jp,h2],by rw[jp,h3],λk hk=>?_,λk hk=>?_,λk hk=>?_⟩ (by show ins.length-(a+1)<ins.length-a;omega)
  ·have hkl:k<s.length:=by have:=(Wt.1 hk).1;rwa [jp]at this
   rcases pC T hk with g1|g1
   ·exact pD Xr T (.inl (h4 k g1))
   ·exact pD Xr T (.inr g1)
  ·rcases pC T hk with g1|⟨u,hu,g1⟩
   ·exact h5 k g1
   ·rw[←g1];exact hall u Xr
  ·rcases VO k a with g1|g1
   ·exact h6 k g1
   ·rw[show k=a by dsimp only at hk;omega];exact hall 0 (Nat.zero_le _)
 ·have hd:=bO h
  repeat' (first|refine st ?_|refine sb λnb_ hnb_=>?_|refine s2 (λh=>?_) λh=>?_|fail)
  exact hq _ (kj λk hk=>h6 k Xr) _
end
section
set_option maxRecDepth 100000
set_option maxHeartbeats 1000000
set_option linter.unusedSectionVars false
structure Fm(w:aM)(t n:Nat)(regs:Int)(k:Nat)(i:bj):Prop where
 lo:1≤i.op
 hi:i.op≤28
 last:i.op=28↔k+1=n
 fin:i.op=28→i.site=-1
 sin:i.op≠28→inB i.site w.sites.length=true
 sth:i.op≠28→(w.sites.getD i.site.toNat default).thread=t
 regs:∀r∈bY i,0≤r∧r<regs
 obj:J2 w i=true
 jmp:IM n i=true
structure IR(w:aM)(t:Nat)(c:gL):Prop where
 r0:0≤c.regs
 r32:c.regs≤32
 ne:0<c.ins.length
 ins:∀(k:Nat) (h:k<c.ins.length),Fm w t c.ins.length c.regs k c.ins[k]
 lans:∀k,k<c.ins.length→pj c.ins k
theorem Fm.fit{w:aM}{t:Nat}{c:gL}(hl:c.ins.length<2^48)(h:∀(k:Nat) (h:k<c.ins.length),Fm w t c.ins.length c.regs k c.ins[k]):Oq c.ins where
 len:=hl
 jmp:=λi hi h5=>by obtain⟨k,hk,rfl⟩:=List.mem_iff_getElem.1 hi;have:=(h k hk).jmp;unfold IM at this;rw[if_pos h5]at this;exact aw.1 this
 last:=λk i hi=>by obtain⟨hk,rfl⟩:=Wt.1 hi;exact(h k hk).last
theorem Mm(i:bj):(bY i).length≤3:=by
 unfold bY
 repeat' split
 all_goals simp
section
variable {w:aM} {t:Nat} {c:gL} {k:Nat} {i:bj} (h0:0≤c.regs) (Q:R) (n45:W.Kn)
 (hno:¬Fm w t c.ins.length c.regs k i→Q (.bool false) [])
 (hgo:(∀r∈bY i,0≤r∧r<c.regs)→J2 w i=true→IM c.ins.length i=true→n45 [.Xw t,.pptr [w.enc] 0 0,.pptr [c.enc] 0 0,.lst (c.ins.map bj.enc),.Xw c.ins.length,.Xw (k+1:Nat)] [])
 (hl:c.ins.length<2^48) (hk:k<c.ins.length)
include h0 hno hgo hl hk
theorem Su(x:AV):dO Q n45 [.Xw t,.pptr [w.enc] 0 0,.pptr [c.enc] 0 0,x,.pptr [i.enc] 0 0,.lst (c.ins.map bj.enc),.Xw c.ins.length,.Xw k] []:=by
 have hr:=G2 i;have ho:=G1 w c.ins.length i;obtain⟨rg,hrg⟩:=Xb h0;have hwr:IntKind.i64.wrap ((k:Int)+1)=((k+1:Nat):Int):=aD hk Xr;unfold dO
 repeat' (first|refine st ?_|(refine pf 68 ?_;refine pm (hr) ?_)|refine sb λnb_ hnb_=>?_|refine s2 (λh=>?_) λh=>?_|fail)
 refine ph (bY i).length (λj=>∀r∈(bY i).take j,0≤r∧r<c.regs) (λj=>[.Xw t,.pptr [w.enc] 0 0,.pptr [c.enc] 0 0,.pptr [i.enc] 0 0,.lst (c.ins.map bj.enc),.Xw c.ins.length,.Xw k,.lst ((bY i).map aj),.Xw (bY i).length,.Xw j]) (by have:=Mm i;omega) Xu Xu (λj hj hd hi hG nx hn=>?_) (λj hj hd hG nx=>?_)
 all_goals unfold fW
 ·have hx:=ay (f:=aj) hj;have hw:=dC (bY i)[j] rg;rw[←hrg]at hw;cases hb:inB (bY i)[j] rg with
  |false=>
   rw[hb]at hw;have:¬Fm w t c.ins.length c.regs k i:=λh=>by have:=h.regs _ (V3 hj);rw[hrg,←aw,hb]at this;cases this
   repeat' (first|refine st ?_|(refine pf 67 ?_;refine pm (hw) ?_)|refine sb λnb_ hnb_=>?_|refine s2 (λh=>?_) λh=>?_|fail)
   exact hno this
  |true=>
   rw[hb]at hw
   repeat' (first|refine st ?_|(refine pf 67 ?_;refine pm (hw) ?_)|refine sb λnb_ hnb_=>?_|refine s2 (λh=>?_) λh=>?_|fail)
   refine hn (Iy hj hG ?_);rw[hrg];exact aw.1 hb
 ·subst hj;rw[List.take_length]at hG;cases hb:(J2 w i&&IM c.ins.length i)with
  |false=>
   rw[hb]at ho;have:¬Fm w t c.ins.length c.regs k i:=λh=>by rw[h.obj,h.jmp]at hb;cases hb
   repeat' (first|refine st ?_|(refine pf 69 ?_;refine pm (ho) ?_)|refine sb λnb_ hnb_=>?_|refine s2 (λh=>?_) λh=>?_|fail)
   exact hno this
  |true=>
   rw[hb]at ho;rw[V5]at hb
   repeat' (first|refine st ?_|(refine pf 69 ?_;refine pm (ho) ?_)|refine sb λnb_ hnb_=>?_|refine s2 (λh=>?_) λh=>?_|fail)
   exact hgo hG hb.1 hb.2
end
theorem DK(w:aM)(t:Nat)(c:gL)(hl:c.ins.length<2^48):ax Tryz.prog 39 [.agg w.enc,.Xw t,.agg c.enc] (.bool (iX (IR w t c))):=by
  refine mS _ _ _ _ _ ?_;unfold gw;generalize hQ:(λ(u:AV) (K:SH)=>u=AV.bool (iX (IR w t c))∧K=[])=Q;have hq:∀b,iX (IR w t c)=b→Q (.bool b) []:=λb hb=>by subst hQ;exact⟨by rw[hb],rfl⟩
  clear hQ;by_cases h0:0≤c.regs∧c.regs≤32∧0<c.ins.length
  · obtain⟨h0,h32,hn0⟩:=h0
    have d1:decide (c.regs<0)=false:=by simpa using h0
    have d2:decide (c.regs > 32)=false:=by simpa using h32
    have d3:decide ((c.ins.length:Int)=0)=false:=decide_eq_false Xr
    repeat' (first|refine st ?_|refine sb λnb_ hnb_=>?_|refine s2 (λh=>?_) λh=>?_|fail)
    refine ph c.ins.length (λk=>∀j (h:j<c.ins.length),j<k→Fm w t c.ins.length c.regs j c.ins[j]) (λk=>[.Xw t,.pptr [w.enc] 0 0,.pptr [c.enc] 0 0,.lst (c.ins.map bj.enc),.Xw c.ins.length,.Xw k]) Xr (λj h hj=>absurd hj (Nat.not_lt_zero _)) Xu (λk hk hd hi hG nx hn=>?_) (λk hk hd hG nx=>?_)
    all_goals unfold fX
    · have hx:=ay (f:=bj.enc) hk
      have hno:¬Fm w t c.ins.length c.regs k c.ins[k]→Q (.bool false) []:=λh=>hq _ (jo λh2=>h (h2.ins k hk))
      have hgo:Fm w t c.ins.length c.regs k c.ins[k]→nx [.Xw t,.pptr [w.enc] 0 0,.pptr [c.enc] 0 0,.lst (c.ins.map bj.enc),.Xw c.ins.length,.Xw (k+1:Nat)] []:=λh=>hn λj hj hjk=>by
        rcases VO j k with g|g
        · exact hG j hj g
        · have e:j=k:=by omega
          subst e;exact h
      generalize c.ins[k]=i at hx hno hgo;have hj4:=λhgo x=>Su (i:=i) (w:=w) (t:=t) (k:=k) h0 Q nx hno hgo hl hk x
      have hs1:IntKind.i64.wrap ((c.ins.length:Int)-1)=((c.ins.length-1:Nat):Int):=by rw[WA _ Xr];omega
      have hw:=dC i.site w.sites.length;obtain⟨op,ia,ib,ic,m,site⟩:=i;have he:bj.enc ⟨op,ia,ib,ic,m,site⟩=[.Xw op,.Xw ia,.Xw ib,.Xw ic,.Xw m,.Xw site]:=rfl;rw[he]at hx hj4;clear he;cases hb:inB site w.sites.length with
      |false=>
        rw[hb]at hw
        repeat' (first|with_reducible refine hj4 (λr1 r2 r3=>?_) _|refine st ?_|(refine pf 67 ?_;refine pm (hw) ?_)|refine sb λnb_ hnb_=>?_|refine s2 (λh=>?_) λh=>?_|fail)
        all_goals first
        | (refine hno fun h9 => ?_
           have g1:=h9.lo;have g2:=h9.hi;have g3:=h9.last;have g4:=h9.fin;have g5:=h9.sin;have g6:=h9.sth
           clear h9 hno hgo hn hG hj4 hq
           (simp only[hb,Wd,decide_eq_true_eq,decide_eq_false_iff_not,ne_eq,Decidable.not_not,decide_eq_decide,imp_false]at *)
           omega)
        | (refine hgo ⟨?_, ?_, ?_, ?_, fun h9 => ?_, fun h9 => ?_, r1, r2, r3⟩
           all_goals clear hno hgo hn hG hj4 hq r1 r2 r3
           all_goals (simp only[hb,Wd,decide_eq_true_eq,decide_eq_false_iff_not,ne_eq,Decidable.not_not,decide_eq_decide,imp_false]at *)
           all_goals omega)
        |trace_state
      |true=>
        rw[hb]at hw;obtain⟨ks,rfl⟩:=Xb (ft hb);have hks:ks<w.sites.length:=by have:=(aw.1 hb).2;omega
        have hx2:=ay (f:=cz.enc) hks;unfold cz.enc at hx2
        repeat' (first|with_reducible refine hj4 (λr1 r2 r3=>?_) _|refine st ?_|(refine pf 67 ?_;refine pm (hw) ?_)|refine sb λnb_ hnb_=>?_|refine s2 (λh=>?_) λh=>?_|fail)
        all_goals first
        | (refine hno fun h9 => ?_
           have g1:=h9.lo;have g2:=h9.hi;have g3:=h9.last;have g4:=h9.fin;have g5:=h9.sin;have g6:=h9.sth
           clear h9 hno hgo hn hG hj4 hq
           (simp only[WP,Xf,VK hks,Xh,hb,imp_true_iff,decide_eq_true_eq,decide_eq_false_iff_not,ne_eq,Decidable.not_not,decide_eq_decide,imp_false]at *)
           omega)
        | (refine hgo ⟨?_, ?_, ?_, ?_, fun h9 => hb, fun h9 => ?_, r1, r2, r3⟩
           all_goals clear hno hgo hn hG hj4 hq r1 r2 r3
           all_goals (simp only[WP,Xf,VK hks,Xh,hb,imp_true_iff,decide_eq_true_eq,decide_eq_false_iff_not,ne_eq,Decidable.not_not,decide_eq_decide,imp_false]at *)
           all_goals omega)
        |trace_state
    · have ha:=IQ (Fm.fit hl λj h=>hG j h Xr)
      repeat' (first|refine st ?_|(refine pf 70 ?_;refine pm (ha) ?_)|refine sb λnb_ hnb_=>?_|refine s2 (λh=>?_) λh=>?_|fail)
      refine hq _ ?_;cases hb:iX (∀k,k<c.ins.length→pj c.ins k)with
      |true=>exact kj ⟨h0,h32,hn0,λj h=>hG j h Xr,fm.1 hb⟩
      |false=>exact jo λh=>by rw[kj h.lans]at hb;cases hb
  · have hno:=hq _ (jo λh=>h0 ⟨h.r0,h.r32,h.ne⟩)
    repeat' (first|refine st ?_|refine sb λnb_ hnb_=>?_|refine s2 (λh=>?_) λh=>?_|fail)
    all_goals first
      |exact hno
      |(exfalso;refine h0 ?_;simp only[decide_eq_true_eq,decide_eq_false_iff_not]at *;omega)
end
section
set_option maxRecDepth 100000
def jq(b:AV)(L:SH)(Q:R):Prop:=wb .geq 5 b (.int .u8 97) λc=>bH c true b L λe f=>wg c true (wb .leq 5 e (.int .u8 122)) f λg h=>W.pick c g (.bool false) λa=>bH a false b h λi j=>wg a false (wb .geq 5 i (.int .u8 65)) j λk l=>bH a false k l λd m=>bH d true b m λn o=>wg d true (wb .leq 5 n (.int .u8 90)) o λp q=>wg a false (W.pick d p (.bool false)) q λr s=>W.pick a (.bool true) r λt=>Q t s
theorem nw(t0:AV)(L:SH)(Q:R)(h:jq t0 L Q):af Tryz.prog 118 [t0] L Q:=
 fs [] [] [] [] Tryz.func118 h
def lf(b:AV)(L:SH)(Q:R):Prop:=wb .geq 5 b (.int .u8 48) λa=>bH a true b L λc d=>wg a true (wb .leq 5 c (.int .u8 57)) d λe f=>W.pick a e (.bool false) λg=>Q g f
theorem pE(t0:AV)(L:SH)(Q:R)(h:lf t0 L Q):af Tryz.prog 142 [t0] L Q:=
 fs [] [] [] [] Tryz.func142 h
def DL(Q:R)(c a:AV)(e:SH):Prop:=bH a false c e λf d=>W.grd a false (λg=>wc (.fn 142 []) [f] d λh i=>g h i) d λj k=>W.pick a (.bool true) j λb=>bH b false c k λl m=>wg b false (wb .eql 5 l (.int .u8 95)) m λn o=>W.pick b (.bool true) n λp=>Q p o
def lg(a:AV)(L:SH)(Q:R):Prop:=wc (.fn 118 []) [a] L (DL Q a)
theorem pF(t0:AV)(L:SH)(Q:R)(h:lg t0 L Q):af Tryz.prog 120 [t0] L Q:=
 fs [] [] [] [] Tryz.func120 h
def gO(L:SH)(Q:R):Prop:=W.bslice 1 [(.str [])] 22 [(0,(.str [118,97,114])),(1,(.str [118,111,108,97,116,105,108,101])),(2,(.str [109,117,116,101,120])),(3,(.str [114,119,108,111,99,107])),(4,(.str [99,111,110,100])),(5,(.str [102,117,116,117,114,101])),(6,(.str [116,104,114,101,97,100])),(7,(.str [105,102])),(8,(.str [101,108,115,101])),(9,(.str [119,104,105,108,101])),(10,(.str [108,111,99,107])),(11,(.str [114,101,97,100])),(12,(.str [119,114,105,116,101])),(13,(.str [116,114,97,110,115,97,99,116,105,111,110])),(14,(.str [97,116,111,109,105,99])),(15,(.str [119,97,105,116])),(16,(.str [110,111,116,105,102,121])),(17,(.str [110,111,116,105,102,121,97,108,108])),(18,(.str [115,112,97,119,110])),(19,(.str [106,111,105,110])),(20,(.str [115,101,116])),(21,(.str [103,101,116]))] L λa b=>Q a b
theorem km(L:SH)(Q:R)(h:gO L Q):af Tryz.prog 141 [] L Q:=
 fs [] [] [] [] Tryz.func141 h
def fB(Q:R)(e:Vs)(a:SH)(f:Kn):Prop:=wq 0 3 4 e λd b c=>W.len b λg=>wb .lss 3 c g λh=>wk h (wo 1 b c a λi=>wb .eql 9 i d λj=>wk j (Q (.bool true) a) (wb .add 3 c (.Xw 1) λk=>f [d,b,k] a)) (Q (.bool false) a)
def sP(Q:R)(a b:AV)(c:SH):Prop:=W.loop (fB Q) [a,b,(.Xw 0)] c
def fY(a:AV)(L:SH)(Q:R):Prop:=wc (.fn 141 []) [] L (sP Q a)
theorem jr(t0:AV)(L:SH)(Q:R)(h:fY t0 L Q):af Tryz.prog 119 [t0] L Q:=
 fs [] [(3,[0,3,4])] [] [] Tryz.func119 h
def B6(Q:R)(b:Kn)(c d e:AV)(a:SH):Prop:=W.un .not e λf=>wk f (Q (.bool false) a) (wb .add 3 c (.Xw 1) λg=>b [d,g] a)
def iu(Q:R)(d:Vs)(c:SH)(e:Kn):Prop:=PV 0 3 d λa b=>W.lenS a λf=>wb .lss 3 b f λg=>wk g (W.ixS a b λh=>wc (.fn 120 []) [h] c (B6 Q e b a)) (Q (.bool true) c)
def fZ(a:AV)(L:SH)(Q:R):Prop:=W.lenS a λh=>wb .lss 3 h (.Xw 1) λc=>bH c false a L λi j=>wg c false (W.lenS i) j λk l=>wg c false (wb .gtr 3 k (.Xw 12)) l λm n=>W.pick c (.bool true) m λb=>bH b false a n λo p=>wg b false (W.ixS o (.Xw 0)) p λq e=>W.grd b false (λr=>wc (.fn 118 []) [q] e λs t=>r s t) e λu v=>wg b false (W.un .not u) v λw x=>W.pick b (.bool true) w λd=>bH d false a x λy f=>W.grd d false (λz=>wc (.fn 119 []) [y] f λA B=>z A B) f λC g=>W.pick d (.bool true) C λD=>wk D (Q (.bool false) g) (W.loop (iu Q) [a,(.Xw 0)] g)
theorem iv(t0:AV)(L:SH)(Q:R)(h:fZ t0 L Q):af Tryz.prog 86 [t0] L Q:=
 fs [] [(4,[0,3])] [] [] Tryz.func86 h
def xy(Q:R)(d:SH)(b:AV):Prop:=wb .geq 3 b (.Xw 6) λa=>bH a true b d λe f=>wg a true (wb .leq 3 e (.Xw 18)) f λg c=>W.pick a g (.bool false) λh=>wk h (Q (.Xw 2) c) (Q (.Xw (-1)) c)
def xz(Q:R)(d:SH)(a:AV):Prop:=wb .geq 3 a (.Xw 3) λb=>bH b true a d λe f=>wg b true (wb .leq 3 e (.Xw 5)) f λg c=>W.pick b g (.bool false) λh=>wk h (Q (.Xw 1) c) ((xy Q c a))
def lQ(a:AV)(L:SH)(Q:R):Prop:=wb .eql 3 a (.Xw 1) λb=>bH b false a L λd e=>wg b false (wb .eql 3 d (.Xw 2)) e λf c=>W.pick b (.bool true) f λg=>wk g (Q (.Xw 0) c) ((xz Q c a))
theorem xA(t0:AV)(L:SH)(Q:R)(h:lQ t0 L Q):af Tryz.prog 154 [t0] L Q:=
 fs [] [] [] [] Tryz.func154 h
def qC(Q:R)(b:Kn)(c d e:AV)(a:SH):Prop:=W.un .not e λf=>wk f (Q (.bool false) a) (wb .add 3 c (.Xw 1) λg=>b [d,g] a)
def iF(Q:R)(d:Vs)(a:SH)(e:Kn):Prop:=PV 1 4 d λb c=>aB 3 b a λf=>W.len f λg=>wb .lss 3 c g λh=>wk h (aB 3 b a λi=>lE 4 i c a λj=>wc (.fn 143 []) [j] a (qC Q e c b)) (Q (.bool true) a)
def qD(Q:R)(G:SH)(a o:AV)(H:Fp)(I:AV)(h:SH)(J:Ns):Prop:=wn [] J [] G.names λM=>aN 3 a [rc 2 M,rm 1 H] 4 h λN g4=>W.len N λO=>wb .neq 3 I O λb=>W.dgrd b false (λP=>P o h rz) h λS p g5=>W.dgrd b false (λT=>W.faddr 2 a λU=>T U p rz) p λV i g6=>W.dgrd b false (λX=>dl [] 10 V i λY Z=>X Y i Z) i λa0 q g7=>W.dgrd b false (λa1=>wb .neq 9 a0 (.str []) λa2=>a1 a2 q rz) q λa3 r g8=>W.dgrd b false (λa4=>wb .neq 4 S a3 λa5=>a4 a5 r rz) r λa6 s g9=>W.pick b (.bool true) a6 λe=>W.dgrd e false (λa7=>a7 o s rz) s λa8 t h0=>W.dgrd e false (λa9=>a9 a8 t rz) t λd u h1=>W.dgrd d true (λb0=>W.faddr 2 a λb1=>b0 b1 u rz) u λb2 j h2=>W.dgrd d true (λb3=>dl [] 18 b2 j λb4 b5=>b3 b4 j b5) j λb6 k h3=>W.dgrd d true (λb7=>wd [] 19 (.fn 86 []) [b6] k λb8 b9 c0=>wn [] c0 [] k.names λc1=>b7 b8 b9 c1) k λc2 v h4=>W.dgrd d true (λc3=>W.un .not c2 λc4=>c3 c4 v rz) v λc5 w h5=>W.dgrd e false (λc6=>W.pick d c5 (.bool false) λc7=>c6 c7 w rz) w λc8 x h6=>W.pick e (.bool true) c8 λf=>W.dgrd f false (λc9=>W.faddr 1 a λd0=>c9 d0 x rz) x λd1 l h7=>W.dgrd f false (λd2=>dl [] 25 d1 l λd3 d4=>d2 d3 l d4) l λd5 y h8=>W.dgrd f false (λd6=>wb .lss 2 d5 (.Xw 0) λd7=>d6 d7 y rz) y λd8 z h9=>W.pick f (.bool true) d8 λc=>W.dgrd c false (λd9=>W.faddr 0 a λe0=>d9 e0 z rz) z λe1 m i0=>W.dgrd c false (λe2=>dl [] 30 e1 m λe3 e4=>e2 e3 m e4) m λe5 A i1=>W.dgrd c false (λe6=>wb .neq 3 e5 (.Xw 1) λe7=>e6 e7 A rz) A λe8 B i2=>W.dgrd c false (λe9=>e9 e8 B rz) B λg C i3=>W.dgrd g true (λf0=>W.faddr 1 a λf1=>f0 f1 C rz) C λf2 n i4=>W.dgrd g true (λf3=>dl [] 34 f2 n λf4 f5=>f3 f4 n f5) n λf6 D i5=>W.dgrd g true (λf7=>wb .neq 2 f6 (.Xw 0) λf8=>f7 f8 D rz) D λf9 E i6=>W.dgrd c false (λg0=>W.pick g f9 (.bool false) λg1=>g0 g1 E rz) E λg2 F i7=>W.pick c (.bool true) g2 λg3=>wk g3 (Q (.bool false) F) (W.loop (iF Q) [a,(.Xw 0)] F)
def jt(f:AV)(L:SH)(Q:R):Prop:=qo f L λa d=>aB 0 a d λg=>wb .eql 3 g (.Xw 2) λb=>wg b false (W.faddr 0 a) d λh e=>wg b false (wl h e) e λi j=>wg b false (wb .eql 3 i (.Xw 3)) j λk c=>W.pick b (.bool true) k λl=>(true=true)∧(aN 0 a [] 1 c λm n=>wd [] 2 (.fn 154 []) [m] c (qD Q c a l n))
theorem qE(t0:AV)(L:SH)(Q:R)(h:jt t0 L Q):af Tryz.prog 143 [t0] L Q:=
 fs [] [(5,[1,4])] [(0,[1])] [(2,[0,1,3,0,8,24,63,127,255,255,767,1791,4095,8191,16383,32767,65535,131071,262143,524287,1048575,2097151,4194303,8388607,16777215,33554431,67108863,134217727,268435455,536870911,1073741823,2147483647,4294967295,8589934591,17179869183,34359738367,68719476735,137438953471])] Tryz.func143 h
def r8(i:AV)(L:SH)(Q:R):Prop:=qo i L λb e=>aB 0 b e λj=>wb .eql 3 j (.Xw 0) λc=>wg c true (W.faddr 1 b) e λk f=>wg c true (wl k f) f λl m=>wg c true (wb .eql 2 l (.Xw 0)) m λn o=>W.pick c n (.bool false) λd=>wg d true (W.faddr 2 b) o λp g=>wg d true (wl p g) g λq r=>wg d true (wb .eql 9 q (.str [])) r λs t=>W.pick d s (.bool false) λa=>wg a true (W.faddr 3 b) t λu h=>wg a true (wl u h) h λv w=>wg a true (W.len v) w λx y=>wg a true (wb .eql 3 x (.Xw 0)) y λz A=>W.pick a z (.bool false) λB=>Q B A
theorem DM(t0:AV)(L:SH)(Q:R)(h:r8 t0 L Q):af Tryz.prog 144 [t0] L Q:=
 fs [] [] [(0,[1])] [] Tryz.func144 h
def qF(Q:R)(d a:AV)(e:SH):Prop:=wg a true (W.faddr 10 d) e λf b=>wg a true (wl f b) b λg c=>W.grd a true (λh=>wc (.fn 87 []) [g] c λi j=>h i j) c λk l=>W.pick a k (.bool false) λm=>Q m l
def eY(Q:R)(g:SH)(a:AV):Prop:=aB 0 a g λl=>wb .geq 3 l (.Xw 2) λe=>wg e true (W.faddr 0 a) g λm h=>wg e true (wl m h) h λn o=>wg e true (wb .leq 3 n (.Xw 8)) o λp q=>W.pick e p (.bool false) λr=>W.un .not r λc=>wg c true (W.faddr 9 a) q λs i=>wg c true (wl s i) i λt u=>wg c true (W.len t) u λv w=>wg c true (wb .gtr 3 v (.Xw 0)) w λx y=>W.pick c x (.bool false) λb=>wg b false (W.faddr 0 a) y λz j=>wg b false (wl z j) j λA B=>wg b false (wb .neq 3 A (.Xw 2)) B λC D=>bH b false C D λd E=>wg d true (W.faddr 10 a) E λF k=>wg d true (wl F k) k λG H=>wg d true (W.len G) H λI J=>wg d true (wb .gtr 3 I (.Xw 0)) J λM N=>wg b false (W.pick d M (.bool false)) N λO f=>W.pick b (.bool true) O λP=>wk P (Q (.bool false) f) (aB 9 a f λS=>wc (.fn 87 []) [S] f (qF Q a))
def eZ(Q:R)(h:SH)(a:AV):Prop:=aB 0 a h λq=>wb .eql 3 q (.Xw 1) λe=>wg e false (W.faddr 0 a) h λr i=>wg e false (wl r i) i λs t=>wg e false (wb .eql 3 s (.Xw 2)) t λu v=>W.pick e (.bool true) u λf=>wg f false (W.faddr 0 a) v λw j=>wg f false (wl w j) j λx y=>wg f false (wb .eql 3 x (.Xw 3)) y λz A=>W.pick f (.bool true) z λg=>wg g false (W.faddr 0 a) A λB k=>wg g false (wl B k) k λC D=>wg g false (wb .eql 3 C (.Xw 14)) D λE F=>W.pick g (.bool true) E λb=>wg b true (W.faddr 5 a) F λG l=>wg b true (bS 4 G l) l λH m=>W.grd b true (λI=>wc (.fn 143 []) [H] m λJ M=>I J M) m λN O=>wg b true (W.un .not N) O λP S=>W.pick b P (.bool false) λc=>bH c false b S λT U=>wg c false (W.un .not T) U λV X=>bH c false V X λd Y=>wg d true (W.faddr 5 a) Y λZ n=>wg d true (bS 4 Z n) n λa0 o=>W.grd d true (λa1=>wc (.fn 144 []) [a0] o λa2 a3=>a1 a2 a3) o λa4 a5=>wg d true (W.un .not a4) a5 λa6 a7=>wg c false (W.pick d a6 (.bool false)) a7 λa8 p=>W.pick c (.bool true) a8 λa9=>wk a9 (Q (.bool false) p) ((eY Q p a))
def fa(Q:R)(f:SH)(c:AV):Prop:=aB 4 c f λo=>W.len o λp=>wb .gtr 3 p (.Xw 1) λd=>wg d false (W.faddr 0 c) f λq g=>wg d false (wl q g) g λr s=>wg d false (wb .neq 3 r (.Xw 1)) s λt u=>bH d false t u λe v=>wg e true (W.faddr 4 c) v λw h=>wg e true (wl w h) h λx y=>wg e true (W.len x) y λz A=>wg e true (wb .gtr 3 z (.Xw 0)) A λB C=>wg d false (W.pick e B (.bool false)) C λD E=>W.pick d (.bool true) D λa=>wg a false (W.faddr 4 c) E λF i=>wg a false (wl F i) i λG H=>wg a false (W.len G) H λI J=>wg a false (wb .eql 3 I (.Xw 1)) J λM N=>bH a false M N λb O=>wg b true (W.faddr 4 c) O λP j=>wg b true (wl P j) j λS k=>wg b true (W.idx 4 S (.Xw 0) k) k λT l=>wg b true (bS 4 T l) l λU m=>W.grd b true (λV=>wc (.fn 143 []) [U] m λX Y=>V X Y) m λZ a0=>wg b true (W.un .not Z) a0 λa1 a2=>wg a false (W.pick b a1 (.bool false)) a2 λa3 n=>W.pick a (.bool true) a3 λa4=>wk a4 (Q (.bool false) n) ((eZ Q n c))
def fb(Q:R)(e:SH)(b:AV):Prop:=aB 0 b e λk=>wb .eql 3 k (.Xw 15) λc=>wg c true (W.faddr 3 b) e λl f=>wg c true (wl l f) f λm g=>W.grd c true (λn=>wc (.fn 86 []) [m] g λo p=>n o p) g λq r=>wg c true (W.un .not q) r λs t=>W.pick c s (.bool false) λa=>wg a false (W.faddr 0 b) t λu h=>wg a false (wl u h) h λv w=>wg a false (wb .neq 3 v (.Xw 15)) w λx y=>bH a false x y λd z=>wg d true (W.faddr 3 b) z λA i=>wg d true (wl A i) i λB C=>wg d true (wb .neq 9 B (.str [])) C λD E=>wg a false (W.pick d D (.bool false)) E λF j=>W.pick a (.bool true) F λG=>wk G (Q (.bool false) j) ((fa Q j b))
def fe(Q:R)(h:SH)(a:AV):Prop:=aB 0 a h λp=>wb .eql 3 p (.Xw 2) λe=>wg e false (W.faddr 0 a) h λq i=>wg e false (wl q i) i λr s=>wg e false (wb .eql 3 r (.Xw 3)) s λt u=>W.pick e (.bool true) t λf=>wg f false (W.faddr 0 a) u λv j=>wg f false (wl v j) j λw x=>wg f false (wb .eql 3 w (.Xw 7)) x λy z=>W.pick f (.bool true) y λg=>wg g false (W.faddr 0 a) z λA k=>wg g false (wl A k) k λB C=>wg g false (wb .eql 3 B (.Xw 8)) C λD E=>W.pick g (.bool true) D λb=>wg b true (W.faddr 2 a) E λF l=>wg b true (wl F l) l λG H=>wg b true (wb .neq 9 G (.str [])) H λI J=>W.pick b I (.bool false) λc=>bH c false b J λM N=>wg c false (W.un .not M) N λO P=>bH c false O P λd S=>wg d true (W.faddr 2 a) S λT m=>wg d true (wl T m) m λU n=>W.grd d true (λV=>wc (.fn 86 []) [U] n λX Y=>V X Y) n λZ a0=>wg d true (W.un .not Z) a0 λa1 a2=>wg c false (W.pick d a1 (.bool false)) a2 λa3 o=>W.pick c (.bool true) a3 λa4=>wk a4 (Q (.bool false) o) ((fb Q o a))
def ju(f:AV)(L:SH)(Q:R):Prop:=qo f L λb c=>aB 0 b c λg=>wb .lss 3 g (.Xw 1) λa=>wg a false (W.faddr 0 b) c λh d=>wg a false (wl h d) d λi j=>wg a false (wb .gtr 3 i (.Xw 15)) j λk e=>W.pick a (.bool true) k λl=>wk l (Q (.bool false) e) ((fe Q e b))
theorem qG(t0:AV)(L:SH)(Q:R)(h:ju t0 L Q):af Tryz.prog 121 [t0] L Q:=
 fs [] [] [(0,[1])] [] Tryz.func121 h
def pG(Q:R)(b:Kn)(c d e:AV)(a:SH):Prop:=W.un .not e λf=>wk f (Q (.bool false) a) (wb .add 3 c (.Xw 1) λg=>b [d,g] a)
def hZ(Q:R)(d:Vs)(a:SH)(e:Kn):Prop:=PV 0 3 d λb c=>W.len b λf=>wb .lss 3 c f λg=>wk g (lE 11 b c a λh=>wc (.fn 121 []) [h] a (pG Q e c b)) (Q (.bool true) a)
def iG(a:AV)(L:SH)(Q:R):Prop:=W.loop (hZ Q) [a,(.Xw 0)] L
theorem pH(t0:AV)(L:SH)(Q:R)(h:iG t0 L Q):af Tryz.prog 87 [t0] L Q:=
 fs [] [(2,[0,3])] [] [] Tryz.func87 h
def ff(Q:R)(e:SH)(b:AV):Prop:=aB 4 b e λi=>wb .gtr 2 i (.Xw (-9223372036854775808)) λa=>wg a true (W.faddr 4 b) e λj f=>wg a true (wl j f) f λk l=>wg a true (wb .eql 2 k (.Xw 0)) l λm n=>bH a true m n λc o=>wg c false (W.faddr 0 b) o λp g=>wg c false (wl p g) g λq r=>wg c false (wb .eql 3 q (.Xw 1)) r λs t=>wg a true (W.pick c (.bool true) s) t λu v=>bH a true u v λd w=>wg d false (W.faddr 0 b) w λx h=>wg d false (wl x h) h λy z=>wg d false (wb .eql 3 y (.Xw 2)) z λA B=>wg a true (W.pick d (.bool true) A) B λC D=>W.pick a C (.bool false) λE=>Q E D
def fg(Q:R)(e:SH)(b:AV):Prop:=aB 0 b e λk=>wb .eql 3 k (.Xw 5) λc=>wg c true (W.faddr 5 b) e λl f=>wg c true (wl l f) f λm g=>W.grd c true (λn=>wc (.fn 86 []) [m] g λo p=>n o p) g λq r=>wg c true (W.un .not q) r λs t=>W.pick c s (.bool false) λa=>wg a false (W.faddr 0 b) t λu h=>wg a false (wl u h) h λv w=>wg a false (wb .neq 3 v (.Xw 5)) w λx y=>bH a false x y λd z=>wg d true (W.faddr 5 b) z λA i=>wg d true (wl A i) i λB C=>wg d true (wb .neq 9 B (.str [])) C λD E=>wg a false (W.pick d D (.bool false)) E λF j=>W.pick a (.bool true) F λG=>wk G (Q (.bool false) j) ((ff Q j b))
def jv(o:AV)(L:SH)(Q:R):Prop:=qo o L λa g=>aB 0 a g λp=>wb .lss 3 p (.Xw 1) λd=>wg d false (W.faddr 0 a) g λq h=>wg d false (wl q h) h λr s=>wg d false (wb .gtr 3 r (.Xw 6)) s λt u=>W.pick d (.bool true) t λc=>wg c false (W.faddr 2 a) u λv i=>wg c false (wl v i) i λw j=>W.grd c false (λx=>wc (.fn 86 []) [w] j λy z=>x y z) j λA B=>wg c false (W.un .not A) B λC D=>W.pick c (.bool true) C λe=>wg e false (W.faddr 3 a) D λE k=>wg e false (wl E k) k λF G=>wg e false (wb .lss 3 F (.Xw 0)) G λH I=>W.pick e (.bool true) H λb=>wg b false (W.faddr 0 a) I λJ l=>wg b false (wl J l) l λM N=>wg b false (wb .neq 3 M (.Xw 1)) N λO P=>bH b false O P λf S=>wg f true (W.faddr 3 a) S λT m=>wg f true (wl T m) m λU V=>wg f true (wb .neq 3 U (.Xw 0)) V λX Y=>wg b false (W.pick f X (.bool false)) Y λZ n=>W.pick b (.bool true) Z λa0=>wk a0 (Q (.bool false) n) ((fg Q n a))
theorem qH(t0:AV)(L:SH)(Q:R)(h:jv t0 L Q):af Tryz.prog 85 [t0] L Q:=
 fs [] [] [(0,[1])] [] Tryz.func85 h
def B7(Q:R)(b:Kn)(c d e:AV)(a:SH):Prop:=W.un .not e λf=>wk f (Q (.bool false) a) (wb .add 3 c (.Xw 1) λg=>b [d,g] a)
def B8(Q:R)(b:Kn)(c d e f g:AV)(a:SH):Prop:=W.un .not g λh=>wk h (Q (.bool false) a) (wb .add 3 c (.Xw 1) λi=>b [d,e,f,i] a)
def B9(Q:R)(e:Kn)(f g h i:AV)(j:SH):Prop:=W.un .not i λa=>wg a false (W.faddr 3 f) j λk b=>wg a false (wl k b) b λl c=>W.grd a false (λm=>wc (.fn 87 []) [l] c λn o=>m n o) c λp q=>wg a false (W.un .not p) q λr d=>W.pick a (.bool true) r λs=>wk s (Q (.bool false) d) (wb .add 3 g (.Xw 1) λt=>e [h,t] d)
def nz(Q:R)(f:Kn)(g:Vs)(a:SH)(h:Kn):Prop:=wu 1 4 5 6 g λd e b c=>aB 2 b a λi=>W.len i λj=>wb .lss 3 c j λk=>wk k (aB 2 b a λl=>wo 1 l c a λm=>wc (.fn 86 []) [m] a (B8 Q h c d e b)) (aB 0 b a λn=>wc (.fn 86 []) [n] a (B9 Q f b e d))
def Ca(Q:R)(d:Kn)(a:SH)(b c:AV):Prop:=aB 1 b a λe=>lE 4 e c a λf=>o6 [(.str []),(.Xw 0),.nils,.nils] 4 f a λg h=>W.loop (nz Q d) [b,c,g,(.Xw 0)] h
def nA(Q:R)(d:Vs)(a:SH)(e:Kn):Prop:=PV 1 4 d λb c=>aB 1 b a λf=>W.len f λg=>wb .lss 3 c g λh=>wk h ((Ca Q e a b c)) (aB 1 b a λi=>W.len i λj=>wb .gtr 3 j (.Xw 0) λk=>Q k a)
def nB(Q:R)(d:Vs)(a:SH)(e:Kn):Prop:=PV 1 3 d λb c=>aB 0 b a λf=>W.len f λg=>wb .lss 3 c g λh=>wk h (aB 0 b a λi=>lE 6 i c a λj=>wc (.fn 85 []) [j] a (B7 Q e c b)) (W.loop (nA Q) [b,(.Xw 0)] a)
def pI(a:AV)(L:SH)(Q:R):Prop:=qo a L λb c=>W.loop (nB Q) [b,(.Xw 0)] c
theorem Cb(t0:AV)(L:SH)(Q:R)(h:pI t0 L Q):af Tryz.prog 54 [t0] L Q:=
 fs [] [(2,[1,3]),(11,[1,4,5,6]),(7,[1,4])] [(0,[1]),(9,[5])] [] Tryz.func54 h
def fI(Q:R)(e:Vs)(a:SH)(f:Kn):Prop:=wq 0 1 5 e λc d b=>W.len c λg=>wb .lss 3 b g λh=>wk h (wo 1 c b a λi=>wb .eql 9 i d λj=>wk j (Q b a) (wb .add 3 b (.Xw 1) λk=>f [c,d,k] a)) (Q (.Xw (-1)) a)
def mV(a b:AV)(L:SH)(Q:R):Prop:=W.loop (fI Q) [a,b,(.Xw 0)] L
theorem pJ(t0 t1:AV)(L:SH)(Q:R)(h:mV t0 t1 L Q):af Tryz.prog 90 [t0,t1] L Q:=
 fs [] [(2,[0,1,5])] [] [] Tryz.func90 h
def nC(Q:R)(e:Vs)(a:SH)(f:Kn):Prop:=wq 0 1 5 e λc d b=>W.len c λg=>wb .lss 3 b g λh=>wk h (eB 6 2 c b a λi=>wb .eql 9 i d λj=>wk j (Q b a) (wb .add 3 b (.Xw 1) λk=>f [c,d,k] a)) (Q (.Xw (-1)) a)
def pK(a b:AV)(L:SH)(Q:R):Prop:=W.loop (nC Q) [a,b,(.Xw 0)] L
theorem Cc(t0 t1:AV)(L:SH)(Q:R)(h:pK t0 t1 L Q):af Tryz.prog 88 [t0,t1] L Q:=
 fs [] [(2,[0,1,5])] [] [] Tryz.func88 h
def ko(Q:R)(e:Vs)(a:SH)(f:Kn):Prop:=wq 0 1 5 e λc d b=>W.len c λg=>wb .lss 3 b g λh=>wk h (eB 4 0 c b a λi=>wb .eql 9 i d λj=>wk j (Q b a) (wb .add 3 b (.Xw 1) λk=>f [c,d,k] a)) (Q (.Xw (-1)) a)
def lR(a b:AV)(L:SH)(Q:R):Prop:=W.loop (ko Q) [a,b,(.Xw 0)] L
theorem xB(t0 t1:AV)(L:SH)(Q:R)(h:lR t0 t1 L Q):af Tryz.prog 89 [t0,t1] L Q:=
 fs [] [(2,[0,1,5])] [] [] Tryz.func89 h
def Cd(Q:R)(b:AV)(a:SH):Prop:=wb .geq 3 b (.Xw 0) λc=>wk c (Q (.Xw 7) a) (Q (.Xw 0) a)
def Ce(Q:R)(b:Vs)(a:SH):Prop:=wq 3 7 56 b λc d e=>wk e (aB 0 c a λf=>eB 6 0 f d a λg=>Q g a) (Q (.Xw 9) a)
def Cf(a:Kn)(b:SH)(c d e:AV):Prop:=wb .eql 3 c (.Xw 4) λf=>wk f (a [d,e,f] b) (wb .eql 3 c (.Xw 5) λg=>wk g (a [d,e,g] b) (wb .eql 3 c (.Xw 6) λh=>a [d,e,h] b))
def Cg(Q:R)(a:SH)(b c d:AV):Prop:=wb .eql 3 b (.Xw 2) λg=>wk g (Q (.Xw 1) a) (W.join (Ce Q) λe=>wb .eql 3 b (.Xw 3) λf=>wk f (e [c,d,f] a) ((Cf e a b c d)))
def Ch(Q:R)(a:SH)(b c:AV):Prop:=aB 0 b a λe=>eB 6 0 e c a λd=>wb .eql 3 d (.Xw 1) λf=>wk f (aB 0 b a λg=>eB 6 3 g c a λh=>wb .neq 3 h (.Xw 0) λi=>wk i (Q (.Xw 2) a) (Q (.Xw 1) a)) ((Cg Q a d b c))
def Ci(Q:R)(d b c:AV)(a:SH):Prop:=wb .lss 3 c (.Xw 0) λe=>wk e (aB 1 b a λf=>wc (.fn 89 []) [f,d] a (Cd Q)) ((Ch Q a b c))
def pL(l d e:AV)(L:SH)(Q:R):Prop:=qo l L λc m=>wb .geq 3 d (.Xw 0) λb=>bH b true d m λn o=>wg b true (W.faddr 1 c) o λp g=>wg b true (wl p g) g λq r=>wg b true (W.len q) r λs t=>wg b true (wb .lss 3 n s) t λu v=>W.pick b u (.bool false) λa=>wg a true (W.faddr 1 c) v λw h=>wg a true (wl w h) h λx y=>bH a true d y λz i=>wg a true (W.idx 4 x z i) i λA B=>wg a true (W.faddr 2 A) B λC j=>wg a true (wl C j) j λD E=>bH a true e E λF k=>W.grd a true (λG=>wc (.fn 90 []) [D,F] k λH I=>G H I) k λJ M=>wg a true (wb .geq 3 J (.Xw 0)) M λN f=>W.pick a N (.bool false) λO=>wk O (Q (.Xw 8) f) (aB 0 c f λP=>wc (.fn 88 []) [P,e] f (Ci Q e c))
theorem Cj(t0 t1 t2:AV)(L:SH)(Q:R)(h:pL t0 t1 t2 L Q):af Tryz.prog 145 [t0,t1,t2] L Q:=
 fs [(18,[3,7,56])] [] [(0,[3])] [] Tryz.func145 h
def Fn(Q:R)(d:SH)(e f b:AV):Prop:=wb .neq 3 b e λa=>bH a true b d λg h=>bH a true f h λi j=>wg a true (wb .neq 3 g i) j λk c=>W.pick a k (.bool false) λl=>wk l (Q (.Xw 6) c) (Q (.Xw 0) c)
def Fo(Q:R)(c d a:AV)(b:SH):Prop:=wb .eql 3 a (.Xw 0) λe=>wk e (Q (.Xw 5) b) ((Fn Q b c d a))
def mW(b c d e f:AV)(L:SH)(Q:R):Prop:=qo b L λg a=>bS 2 g a λh=>wc (.fn 145 []) [h,c,d] a (Fo Q e f)
theorem r9(t0 t1 t2 t3 t4:AV)(L:SH)(Q:R)(h:mW t0 t1 t2 t3 t4 L Q):af Tryz.prog 124 [t0,t1,t2,t3,t4] L Q:=
 fs [] [] [(0,[5])] [] Tryz.func124 h
def DN(b:Kn)(c d e f a:AV)(g:SH):Prop:=W.ext 0 a λh=>W.ext 1 a λi=>wb .add 3 c h λj=>W.mnx true d i λk=>wb .add 3 e (.Xw 1) λl=>b [f,j,k,l] g
def pM(Q:R)(f:Vs)(a:SH)(g:Kn):Prop:=wu 1 4 5 6 f λb d e c=>aB 3 b a λh=>W.len h λi=>wb .lss 3 c i λj=>wk j (aB 3 b a λk=>lE 4 k c a λl=>wc (.fn 146 []) [l] a (DN g d e c b)) (wb .add 3 e (.Xw 1) λm=>Q (.tup [d,m]) a)
def sa(a:AV)(L:SH)(Q:R):Prop:=qo a L λb c=>W.loop (pM Q) [b,(.Xw 1),(.Xw 0),(.Xw 0)] c
theorem DO(t0:AV)(L:SH)(Q:R)(h:sa t0 L Q):af Tryz.prog 146 [t0] L Q:=
 fs [] [(3,[1,4,5,6])] [(0,[1])] [] Tryz.func146 h
def DP(a:Kn)(b:SH)(c d e f g:AV)(h:SH)(i:Ns):Prop:=wn [] i [] b.names λk=>wb .add 3 c (.Xw 1) λj=>a [d,e,f,g,j] h
def DQ(g:Kn)(a:SH)(c d e f:AV):Prop:=(true=true)∧(dr [] 0 2 c a λh b=>aN 3 d [rm 0 b] 3 a λi l=>di [rm 0 b] 5 4 i e a λj m=>dr [rm 0 b] 6 4 j a λk n=>wd [] 7 (.fn 147 []) [h,f,k] a (DP g a e f c d))
def pN(Q:R)(g:Vs)(b:SH)(h:Kn):Prop:=HE 1 3 5 7 8 g λi j c d e=>aB 3 c b λk=>W.len k λl=>wb .lss 3 e l λa=>bH a true d b λm n=>wg a true (wb .eql 74 m (.Xw 0)) n λo f=>W.pick a o (.bool false) λp=>wk p ((DQ h f j c e i)) (Q d f)
def jw(Q:R)(a:Vs)(b:SH):Prop:=wu 1 3 5 7 a λc d e f=>W.loop (pN Q) [c,d,e,f,(.Xw 0)] b
def DR(e:Kn)(a:SH)(b f c d:AV):Prop:=wb .eql 3 f (.Xw 3) λg=>wk g (bS 2 c a λh=>aB 2 d a λi=>wc (.fn 124 []) [h,b,i,(.Xw 2),(.Xw 2)] a λj k=>e [b,c,d,j] k) (e [b,c,d,(.Xw 0)] a)
def sd(g c h:AV)(L:SH)(Q:R):Prop:=W.box g L λi j=>W.box h j λk l=>W.frz1 i l λd m=>W.frz1 k m λb a=>W.join (jw Q) λe=>aB 0 b a λf=>wb .eql 3 f (.Xw 2) λn=>wk n (bS 2 d a λo=>aB 2 b a λp=>wc (.fn 124 []) [o,c,p,(.Xw 8),(.Xw 1)] a λq r=>e [c,d,b,q] r) ((DR e a c f d b))
theorem DS(t0 t1 t2:AV)(L:SH)(Q:R)(h:sd t0 t1 t2 L Q):af Tryz.prog 147 [t0,t1,t2] L Q:=
 fs [(6,[1,3,5,7])] [(8,[1,3,5,7,8])] [(0,[3,5])] [(10,[0,0,0,4,0,28,60,127,255])] Tryz.func147 h
def Fq(Q:R)(d e f c:AV)(g:SH):Prop:=W.ext 0 c λh=>W.ext 1 c λi=>wb .gtr 3 h (.Xw 24) λb=>bH b false i g λj k=>wg b false (wb .gtr 3 j (.Xw 6)) k λl a=>W.pick b (.bool true) l λm=>wk m (Q (.Xw 2) a) (bS 2 e a λn=>bS 4 f a λo=>wc (.fn 147 []) [n,d,o] a λp q=>Q p q)
def Fs(Q:R)(c b d e:AV)(a:SH):Prop:=W.un .not e λf=>wk f (Q (.Xw 3) a) (bS 4 b a λg=>wc (.fn 146 []) [g] a (Fq Q c d b))
def xC(c d e:AV)(L:SH)(Q:R):Prop:=W.box c L λf g=>W.box e g λh i=>W.frz1 f i λj k=>W.frz1 h k λa b=>bS 4 a b λl=>wc (.fn 143 []) [l] b (Fs Q d a j)
theorem Ft(t0 t1 t2:AV)(L:SH)(Q:R)(h:xC t0 t1 t2 L Q):af Tryz.prog 125 [t0,t1,t2] L Q:=
 fs [] [] [(0,[3,5])] [] Tryz.func125 h
def nD(a:AV)(L:SH)(Q:R):Prop:=wk a (Q (.Xw 7) L) (Q (.Xw 0) L)
theorem Ab(t0:AV)(L:SH)(Q:R)(h:nD t0 L Q):af Tryz.prog 126 [t0] L Q:=
 fs [] [] [] [] Tryz.func126 h
def DT(a b:AV)(L:SH)(Q:R):Prop:=wb .neq 74 a (.Xw 0) λc=>wk c (Q a L) (Q b L)
theorem IS(t0 t1:AV)(L:SH)(Q:R)(h:DT t0 t1 L Q):af Tryz.prog 123 [t0,t1] L Q:=
 fs [] [] [] [] Tryz.func123 h
def DU(a:Kn)(b:SH)(c d e f:AV)(g:SH)(h:Ns):Prop:=wn [] h [] b.names λk=>wb .add 3 c f λi=>wb .add 3 d (.Xw 1) λj=>a [e,i,j] g
def DV(g:Kn)(h:SH)(i b c:AV)(d e:Fp)(j:AV)(a:SH)(k:Ns):Prop:=wn [] k [] h.names λf=>wb .add 3 i j λl=>di [rc 6 f,rm 5 d,rm 3 e] 10 11 b c a λm o=>aN 10 m [rc 6 f,rm 5 d,rm 3 e] 12 a λn p=>wd [] 13 (.fn 57 []) [n] a (DU g a l c b)
def pO(Q:R)(e:Vs)(a:SH)(f:Kn):Prop:=wq 0 3 4 e λb d c=>W.len b λg=>wb .lss 3 c g λh=>wk h ((true=true)∧(di [] 3 11 b c a λi j=>aN 9 i [] 5 a λk l=>wd [] 6 (.fn 57 []) [k] a (DV f a d b c l j))) (Q d a)
def sf(a:AV)(L:SH)(Q:R):Prop:=W.len a λb=>W.loop (pO Q) [a,b,(.Xw 0)] L
theorem DW(t0:AV)(L:SH)(Q:R)(h:sf t0 L Q):af Tryz.prog 57 [t0] L Q:=
 fs [] [(3,[0,3,4])] [] [(5,[0,0,0,6,14,30,62,127,0,0,768,1792,3840,8062,16383,32767])] Tryz.func57 h
end
section
set_option maxRecDepth 100000
def ga(c:Int):Bool:=(decide (97≤c)&&decide (c≤122))||(decide (65≤c)&&decide (c≤90))
def Ac(c:Int):Bool:=decide (48≤c)&&decide (c≤57)
def gP(c:Int):Bool:=ga c||Ac c||decide (c=95)
theorem Ge(c:Int):ax Tryz.prog 118 [.int .u8 c] (.bool (ga c)):=by
 refine nw _ _ _ ?_;unfold jq
 repeat' (first|refine st ?_|refine sb λnb_ hnb_=>?_|refine s2 (λh=>?_) λh=>?_|fail)
 all_goals (refine⟨?_,rfl⟩;simp_all[ga]<;>omega)
theorem Ox(c:Int):ax Tryz.prog 142 [.int .u8 c] (.bool (Ac c)):=by
 refine pE _ _ _ ?_;unfold lf
 repeat' (first|refine st ?_|refine sb λnb_ hnb_=>?_|refine s2 (λh=>?_) λh=>?_|fail)
 all_goals (refine⟨?_,rfl⟩;simp_all[Ac]<;>omega)
theorem Oy(c:Int):ax Tryz.prog 120 [.int .u8 c] (.bool (gP c)):=by
 refine pF _ _ _ ?_;unfold lg
 repeat' (first|refine st ?_|(refine pf 118 ?_;refine pm (Ge _) ?_)|(refine pf 142 ?_;refine pm (Ox _) ?_)|refine sb λnb_ hnb_=>?_|refine s2 (λh=>?_) λh=>?_|fail)
 all_goals (refine⟨?_,rfl⟩;simp_all[gP]<;>omega)
def nE:List aZ:=[[118,97,114],[118,111,108,97,116,105,108,101],[109,117,116,101,120],[114,119,108,111,99,107],[99,111,110,100],[102,117,116,117,114,101],[116,104,114,101,97,100],[105,102],[101,108,115,101],[119,104,105,108,101],[108,111,99,107],[114,101,97,100],[119,114,105,116,101],[116,114,97,110,115,97,99,116,105,111,110],[97,116,111,109,105,99],[119,97,105,116],[110,111,116,105,102,121],[110,111,116,105,102,121,97,108,108],[115,112,97,119,110],[106,111,105,110],[115,101,116],[103,101,116]]
theorem Qa:ax Tryz.prog 141 [] (.lst (nE.map aq)):=by
 refine af.fz (km _ _ ?_);unfold gO
 repeat' (first|refine st ?_|refine sb λnb_ hnb_=>?_|refine s2 (λh=>?_) λh=>?_|fail)
 exact⟨_,[],aF.all (Fz.sls (l:=nE) (f:=aq) rp rfl Xv rfl),rfl,rfl⟩
def G6(s:aZ):Bool:=nE.any λx=>decide (x=s)
theorem Sv(s:aZ):ax Tryz.prog 119 [.str s] (.bool (G6 s)):=by
 refine jr _ _ _ ?_;unfold fY
 repeat' (first|refine st ?_|(refine pf 141 ?_;refine pm (Qa) ?_)|refine sb λnb_ hnb_=>?_|refine s2 (λh=>?_) λh=>?_|fail)
 refine fi nE (λx=>decide (x=s)) (λi=>[.str s,.lst (nE.map aq),.Xw i]) Xv rfl (λi h1 hd hi hno nx hn=>?_) (λi h1 hd hno nx=>?_)
 all_goals unfold fB
 ·have hx:=ay (f:=aq) h1
  repeat' (first|refine st ?_|refine sb λnb_ hnb_=>?_|refine s2 (λh=>?_) λh=>?_|fail)
  ·exact⟨by rw[G6,Ll h1 h],rfl⟩
  ·exact hn h
 ·repeat' (first|refine st ?_|refine sb λnb_ hnb_=>?_|refine s2 (λh=>?_) λh=>?_|fail)
  exact⟨by rw[G6,NU hno],rfl⟩
def ef(s:aZ):Bool:=decide (1≤(s.length:Int))&&decide ((s.length:Int)≤12)&&ga (s.getD 0 0).toNat&&!G6 s&&s.all λc=>gP c.toNat
theorem Mn(s:aZ)(hs:s.length<2^62):ax Tryz.prog 86 [.str s] (.bool (ef s)):=by
 refine iv _ _ _ ?_;unfold fZ;generalize hQ:(λ(u:AV) (K:SH)=>u=AV.bool (ef s)∧K=[])=Q;have hq:Q (.bool (ef s)) []:=by subst hQ;exact⟨rfl,rfl⟩
 clear hQ;by_cases h0:0<s.length
 ·have d1:decide ((s.length:Int)<1)=false:=by simpa using(by omega:(1:Int)≤s.length)
  repeat' (first|refine st ?_|refine Lm (i:=0) ?_ h0|(refine pf 118 ?_;refine pm (Ge _) ?_)|(refine pf 119 ?_;refine pm (Sv _) ?_)|refine sb λnb_ hnb_=>?_|refine s2 (λh=>?_) λh=>?_|fail)
  all_goals first
   |(refine Eq.mp (congrArg (λb=>Q (AV.bool b) []) ?_) hq;simp_all[ef]<;>omega;done)
   |skip
  refine fi s (λc=>!gP c.toNat) (λi=>[.str s,.Xw i]) hs rfl (λi h1 hd hi hno nx hn=>?_) (λi h1 hd hno nx=>?_)
  all_goals unfold iu
  ·repeat' (first|refine st ?_|refine Lm ?_|(refine pf 120 ?_;refine pm (Oy _) ?_)|refine sb λnb_ hnb_=>?_|refine s2 (λh=>?_) λh=>?_|fail)
   ·refine Eq.mp (congrArg (λb=>Q (AV.bool b) []) ?_) hq;have:(s.all λc=>gP c.toNat)=false:=NV h1 (by simpa[List.getD,h1]using h);simp[ef,this]
   ·exact hn (by simpa[List.getD,h1]using h)
  ·repeat' (first|refine st ?_|refine sb λnb_ hnb_=>?_|refine s2 (λh=>?_) λh=>?_|fail)
   refine Eq.mp (congrArg (λb=>Q (AV.bool b) []) ?_) hq;have:(s.all λc=>gP c.toNat)=true:=V0.2 λx hx=>by simpa using hno x hx
   simp_all[ef]<;>omega
 ·have d1:decide ((s.length:Int)<1)=true:=by simpa using(by omega:(s.length:Int)<1)
  repeat' (first|refine st ?_|refine sb λnb_ hnb_=>?_|refine s2 (λh=>?_) λh=>?_|fail)
  refine Eq.mp (congrArg (λb=>Q (AV.bool b) []) ?_) hq;simp_all[ef]
end
structure DX(c:aV)(l:List aV):Prop where
 lo:1≤c.size
 hi:c.size≤4
 fits:c.size≤l.length
 eq:∀k:Nat,(k:Int)<c.size→l[k]? =some ⟨c.name,k,c.size,false,c.init⟩
inductive dG:List aV→List aZ→Prop where
 |nil:dG [] []
 |one (c:aV) (l:List aV) (ns:List aZ):c.size=0→c.index=0→dG l ns→dG (c::l) (c.name::ns)
 |arr (c:aV) (l:List aV) (ns:List aZ):c.size≠0→DX c (c::l)→dG (l.drop (c.size.toNat-1)) ns→dG (c::l) (c.name::ns)
theorem dG.nil_iff{ns:List aZ}:dG [] ns↔ns=[]:=⟨λh=>by cases h;rfl,λh=>by subst h;exact .nil⟩
theorem dG.one_iff{c:aV}{l:List aV}{ns:List aZ}(h0:c.size=0):dG (c::l) ns↔c.index=0∧∃n2,ns=c.name::n2∧dG l n2:=by
 constructor
 ·intro h;cases h with
  |one _ _ n2 _ h2 h3=>exact⟨h2,n2,rfl,h3⟩
  |arr _ _ n2 h1=>exact absurd h0 h1
 ·rintro⟨h2,n2,rfl,h3⟩;exact .one _ _ _ h0 h2 h3
theorem dG.arr_iff{c:aV}{l:List aV}{ns:List aZ}(h0:c.size≠0):dG (c::l) ns↔DX c (c::l)∧∃n2,ns=c.name::n2∧dG (l.drop (c.size.toNat-1)) n2:=by
 constructor
 ·intro h;cases h with
  |one _ _ n2 h1=>exact absurd h1 h0
  |arr _ _ n2 _ h2 h3=>exact⟨h2,n2,rfl,h3⟩
 ·rintro⟨h2,n2,rfl,h3⟩;exact .arr _ _ _ h0 h2 h3
def gB(l:List aV)(i:Nat)(acc:List aZ):Prop:=i≤l.length∧acc.length≤i∧∀ns,dG l ns↔∃n2,ns=acc++n2∧dG (l.drop i) n2
theorem gB.zero(l:List aV):gB l 0 []:=⟨WF _,VL _,λns=>by simp⟩
theorem gB.step{l:List aV}{i:Nat}{acc:List aZ}(h:gB l i acc)(hi:i<l.length)(h0:l[i].size=0)(h1:l[i].index=0):gB l (i+1) (acc++[l[i].name]):=by
 refine⟨hi,by have:=h.2.1;simp;omega,λns=>?_⟩;rw[h.2.2 ns,W6 hi];constructor
 ·rintro⟨n2,rfl,h2⟩;obtain⟨_,n3,rfl,h3⟩:=(dG.one_iff h0).1 h2;exact⟨n3,Xu,h3⟩
 ·rintro⟨n3,rfl,h3⟩;exact⟨l[i].name::n3,Xu,(dG.one_iff h0).2 ⟨h1,n3,rfl,h3⟩⟩
theorem gB.jump{l:List aV}{i:Nat}{acc:List aZ}(h:gB l i acc)(hi:i<l.length)(h0:l[i].size≠0)(hb:DX l[i] (l.drop i)):gB l (i+l[i].size.toNat) (acc++[l[i].name]):=by
 have hl:=hb.lo;have hf:=hb.fits;rw[Xg]at hf;refine⟨Xr,by have:=h.2.1;simp;omega,λns=>?_⟩;rw[h.2.2 ns];rw[W6 hi]at hb ⊢;have e:(l.drop (i+1)).drop (l[i].size.toNat-1)=l.drop (i+l[i].size.toNat):=by rw[List.drop_drop];congr 1;omega
 constructor
 ·rintro⟨n2,rfl,h2⟩;obtain⟨_,n3,rfl,h3⟩:=(dG.arr_iff h0).1 h2;exact⟨n3,Xu,e▸h3⟩
 ·rintro⟨n3,rfl,h3⟩;exact⟨l[i].name::n3,Xu,(dG.arr_iff h0).2 ⟨hb,n3,rfl,e▸h3⟩⟩
theorem gB.done{l:List aV}{i:Nat}{acc:List aZ}(h:gB l i acc)(hi:l.length≤i):dG l acc:=by rw[h.2.2 acc,List.drop_eq_nil_of_le hi];exact⟨[],Xu,.nil⟩
theorem gB.no1{l:List aV}{i:Nat}{acc:List aZ}(h:gB l i acc)(hi:i<l.length)(h0:l[i].size=0)(h1:l[i].index≠0):∀ns,¬dG l ns:=λns hn=>by rw[h.2.2 ns,W6 hi]at hn;obtain⟨n2,_,h2⟩:=hn;exact h1 ((dG.one_iff h0).1 h2).1
theorem gB.no2{l:List aV}{i:Nat}{acc:List aZ}(h:gB l i acc)(hi:i<l.length)(h0:l[i].size≠0)(hb:¬DX l[i] (l.drop i)):∀ns,¬dG l ns:=λns hn=>by rw[h.2.2 ns]at hn;rw[W6 hi]at hn hb;obtain⟨n2,_,h2⟩:=hn;exact hb ((dG.arr_iff h0).1 h2).1
theorem dG.uniq{l:List aV}{a b:List aZ}(h:dG l a):dG l b→a=b:=by
 induction h generalizing b with
 |nil=>intro h2;rw[dG.nil_iff.1 h2]
 |one c l ns h0 h1 _ ih=>intro h2;obtain⟨_,n2,rfl,h3⟩:=(dG.one_iff h0).1 h2;rw[ih h3]
 |arr c l ns h0 h1 _ ih=>intro h2;obtain⟨_,n2,rfl,h3⟩:=(dG.arr_iff h0).1 h2;rw[ih h3]
theorem dG.len{l:List aV}{a:List aZ}(h:dG l a):a.length≤l.length:=by
 induction h with
 |nil=>exact VL _
 |one c l ns h0 h1 _ ih=>simpa using ih
 |arr c l ns h0 h1 _ ih=>rw[Xg]at ih;simp only[V8];omega
def nF(w:aM)(ns:List aZ):List aZ:=ns++w.locks.map bV.name++w.conds.map cI.name++w.futures++w.threads
def Fu(n:Nat):Int→Int→List cz→Prop
 |_,_,[]=>True
 |t,x,s::l=>t≤s.thread∧s.thread<n∧s.stmt=(if t<s.thread then 0 else x)∧Fu n s.thread (s.stmt+1) l
structure IT(w:aM):Prop where
 c12:w.cells.length≤12
 l4:w.locks.length≤4
 d2:w.conds.length≤2
 f2:w.futures.length≤2
 s60:w.sites.length≤60
 t1:1≤w.threads.length
 t4:w.threads.length≤4
 names:∃ns,dG w.cells ns∧(∀s∈nF w ns,ef s=true)∧(nF w ns).Nodup
 mtx:∀c∈w.conds,Iz w c.mutex false=true
 sites:Fu w.threads.length 0 0 w.sites
section
set_option maxRecDepth 100000
set_option maxHeartbeats 1000000
theorem DY{α:Type}(S:α→List AV×SH)(m:α→Nat)(G:α→Prop){B:List AV→SH→W.Kn→Prop}{vs:List AV}{L:SH}(a0:α)(h0:G a0)(hz:aF vs L (S a0).1 (S a0).2)
  (h:∀a,G a→∀nx:W.Kn,(∀a',G a'→m a'<m a→∀vs' L',aF vs' L' (S a').1 (S a').2→nx vs' L')→B (S a).1 (S a).2 nx):W.loop B vs L:=by
 refine⟨λn vs L=>∃a,G a∧m a=n∧vs=(S a).1∧L=(S a).2,⟨m a0,_,_,hz,a0,h0,rfl,rfl,rfl⟩,?_⟩;rintro n vs L ⟨a,ha,rfl,rfl,rfl⟩;exact h a ha _ λa' g1 g2 vs' L' g3=>⟨m a',_,_,g2,g3,a',g1,rfl,rfl,rfl⟩
theorem Qb{K:AV→Prop}(x y:aV)(h:K (.bool (iX (x≠y)))):W.bin Tryz.prog Fl .neq 126 (.agg x.enc) (.agg y.enc) K:=by
 rw[eU];refine⟨.bool (iX (x≠y)),?_,h⟩;have hF:Fl 126=some [9,3,3,4,2]:=by kernel_rfl
 have hi:Tryz.prog.underlying 3=some (.int .i64):=by kernel_rfl
 have hj:Tryz.prog.underlying 2=some (.int .i64):=by kernel_rfl
 have hb:Tryz.prog.underlying 4=some .bool:=by kernel_rfl
 have hs:Tryz.prog.underlying 9=some .string:=by kernel_rfl
 obtain⟨a1,a2,a3,a4,a5⟩:=x;obtain⟨b1,b2,b3,b4,b5⟩:=y;have he:iX ((⟨a1,a2,a3,a4,a5⟩:aV)≠⟨b1,b2,b3,b4,b5⟩)=!(decide (a1=b1)&&decide (a2=b2)&&decide (a3=b3)&&decide (a4=b4)&&decide (a5=b5)):=by
  cases hd:(decide (a1=b1)&&decide (a2=b2)&&decide (a3=b3)&&decide (a4=b4)&&decide (a5=b5))with
  |true=>exact jo λhh=>hh (by simpa[and_assoc]using hd)
  |false=>
   refine kj λhh=>?_
   rw[aV.mk.injEq]at hh;obtain⟨h1,h2,h3,h4,h5⟩:=hh;simp[h1,h2,h3,h4,h5]at hd
 rw[he];simp only[gY,aV.enc,hF,Wy,Gp,AZ,hi,hj,hb,hs,if_true];by_cases h1:a1=b1<;>by_cases h2:a2=b2<;>by_cases h3:a3=b3<;>by_cases h4:a4=b4<;>by_cases h5:a5=b5<;>simp[h1,h2,h3,h4,h5]
theorem Mo{K:AV→Prop}(x y:aV)(h:K (.bool (iX (x≠y)))):wb .neq 126 (.agg x.enc) (.agg y.enc) K:=mE (Qb x y h)
section
variable {l:List aV} {Q:R} {nm:aZ} {sz ini:Int} {i nb bs bw:Nat} {n1:W.Kn} (hl:l.length≤12) (h1:1≤sz) (h4:sz≤4) (hf:sz≤(l.length-i:Nat))
 (hno:¬DX ⟨nm,0,sz,false,ini⟩ (l.drop i)→∀L,Q (.tup [.nils,.bool false]) L) (x:AV) (X Y:Blk)
 (hgo:DX ⟨nm,0,sz,false,ini⟩ (l.drop i)→∀ix,n1 [.lst (l.map aV.enc),x,.Xw ((i+sz.toNat:Nat):Int)] [(nb,X),(bs,Y),(bw,⟨5,[[.str nm,.Xw ix,.Xw sz,.bool false,.Xw ini]]⟩)])
include hl h1 h4 hf hno hgo
theorem Uw(ix:Int):W.loop (dV Q n1) [.lst (l.map aV.enc),x,.Xw (i:Int),.ptr bw 0 0,.Xw sz,.Xw 0] [(nb,X),(bs,Y),(bw,⟨5,[[.str nm,.Xw ix,.Xw sz,.bool false,.Xw ini]]⟩)]:=by
 obtain⟨m,rfl⟩:=Int.eq_ofNat_of_zero_le (show 0≤sz by omega);refine DY (α:=Nat×Int) (λa=>([.lst (l.map aV.enc),x,.Xw (i:Int),.ptr bw 0 0,.Xw (m:Int),.Xw (a.1:Int)],[(nb,X),(bs,Y),(bw,⟨5,[[.str nm,.Xw a.2,.Xw (m:Int),.bool false,.Xw ini]]⟩)])) (λa=>m-a.1) (λa=>a.1≤m∧∀j,j<a.1→l[i+j]? =some ⟨nm,j,m,false,ini⟩) (0,ix) ⟨Nat.zero_le _,λj h=>absurd h (Nat.not_lt_zero _)⟩ (.refl _ _) ?_;rintro⟨k,y⟩ ⟨hk,hG⟩ nx hnx;unfold dV;dsimp only at *;rcases Nat.lt_or_ge k m with h|h
 ·have d1:decide ((k:Int)<(m:Int))=true:=bK h;have hw1:IntKind.i64.wrap ((k:Int)+1)=((k+1:Nat):Int):=aD h Xr;have hw2:IntKind.i64.wrap ((i:Int)+(k:Int))=((i+k:Nat):Int):=by rw[WA _ Xr];omega
  have hik:i+k<l.length:=by omega
  have hx:=ay (f:=aV.enc) hik;have hxe:l[i+k]? =some l[i+k]:=VK hik;generalize l[i+k]=c at hx hxe;have hne:iX (c≠⟨nm,k,m,false,ini⟩)=true→∀L,Q (.tup [.nils,.bool false]) L:=λhd=>hno λhb=>by have h2:=hb.eq k (by show(k:Int)<(m:Int);omega);rw[WB,hxe]at h2;cases h2;exact fm.1 hd rfl
  have hye:iX (c≠⟨nm,k,m,false,ini⟩)=false→∀j,j<k+1→l[i+j]? =some ⟨nm,j,m,false,ini⟩:=λhd j hj=>by
   rcases VO j k with g|g
   ·exact hG j g
   ·have e:j=k:=by omega
    subst e;rw[hxe];by_cases hc:c=⟨nm,j,m,false,ini⟩
    ·rw[hc]
    ·rw[kj hc]at hd;cases hd
  repeat' (first|refine st ?_|refine Mo c ⟨nm,k,m,false,ini⟩ ?_|refine sb λnb_ hnb_=>?_|refine s2 (λh=>?_) λh=>?_|fail)
  ·exact hne Xs _
  ·exact hnx (k+1,k) ⟨by dsimp only;omega,hye Xs⟩ (by dsimp only;omega) _ _ (.refl _ _)
 ·have d1:decide ((k:Int)<(m:Int))=false:=bO h;have hw2:IntKind.i64.wrap ((i:Int)+(m:Int))=((i+m:Nat):Int):=by rw[WA _ Xr];omega
  obtain rfl:k=m:=by omega
  repeat' (first|refine st ?_|refine sb λnb_ hnb_=>?_|refine s2 (λh=>?_) λh=>?_|fail)
  exact hgo ⟨h1,h4,by rw[Xg];omega,λj hj=>by rw[WB];exact hG j (by simpa using hj)⟩ y
end
theorem sg (l : List aV) (hl : l.length ≤ 12) {Q : R} (hy : ∀ ns L v, dG l ns → Fz L v (.lst (ns.map aq)) → Q (.tup [v, .bool true]) L) (hn : (∀ ns, ¬ dG l ns) → ∀ L, Q (.tup [.nils, .bool false]) L) :
    eE (.lst (l.map aV.enc)) [] Q:=by
  unfold eE;refine DY (α:=Nat×List aZ×Option Nat) (λa=>([.lst (l.map aV.enc),am a.2.2 a.2.1.length,.Xw (a.1:Int)],ae a.2.2 1 (a.2.1.map aq))) (λa=>l.length-a.1) (λa=>gB l a.1 a.2.1∧(a.2.2=none→a.2.1=[])) (0,[],none) ⟨.zero l,λ_=>rfl⟩ (aF.drop (K:=[]) (.refl _) rfl ((iU.cons (.refl _) (.cons .nile (.cons (.refl _) .nil))).at_.2)) ?_;rintro⟨i,acc,o⟩ ⟨hV,ho⟩ nx hnx;unfold gy;dsimp only at *;have hva:=hV.2.1;rcases Nat.lt_or_ge i l.length with h|h
  · have hx:=ay (f:=aV.enc) h
    have d1:decide ((i:Int)<(l.length:Int))=true:=bK h;have hw1:IntKind.i64.wrap ((i:Int)+1)=((i+1:Nat):Int):=aD h Xr;have hw2:IntKind.i64.wrap ((l.length:Int)-(i:Int))=((l.length-i:Nat):Int):=by rw[WA _ Xr];omega
    have hs0:l[i].size=0→l[i].index≠0→∀ns,¬dG l ns:=hV.no1 h;have hs1:l[i].size=0→l[i].index=0→gB l (i+1) (acc++[l[i].name]):=hV.step h;have hs2:l[i].size≠0→¬DX l[i] (l.drop i)→∀ns,¬dG l ns:=hV.no2 h;have hs3:l[i].size≠0→DX l[i] (l.drop i)→gB l (i+l[i].size.toNat) (acc++[l[i].name]):=hV.jump h;have hgo:∀j nb_ L',gB l j (acc++[l[i].name])→i<j→gq L' [(nb_,⟨1,acc.map aq++[[.str l[i].name]]⟩)]→nx [.lst (l.map aV.enc),.sl nb_ 0 (acc.length+1),.Xw (j:Int)] L':=λj nb_ L' h1 h2 h3=>
      hnx (j,acc++[l[i].name],some nb_) ⟨h1,nofun⟩ (by have:=h1.1;dsimp only;omega) _ _ (aF.pickE h3 (by simp[am]) (by simp[ae,aq]))
    have hxe:(l.drop i)[0]? =some l[i]:=by rw[WB];exact VK h
    clear hnx hV;generalize l[i]=c at *;obtain⟨nm,ix,sz,vo,ini⟩:=c;unfold aV.enc at hx;dsimp only at *;have hbe:DX ⟨nm,ix,sz,vo,ini⟩ (l.drop i)→1≤sz∧sz≤4∧vo=false∧sz≤(l.length-i:Nat):=λhb=>by have h1:=hb.lo;have h2:=hb.eq 0 (by show(0:Int)<sz;have:=hb.lo;dsimp only at this;omega);rw[hxe]at h2;cases h2;exact⟨h1,hb.hi,rfl,by have:=hb.fits;rw[List.length_drop]at this;exact this⟩
    have hbq:DX ⟨nm,0,sz,false,ini⟩ (l.drop i)→DX ⟨nm,ix,sz,vo,ini⟩ (l.drop i):=λhb=>by have h2:=hb.eq 0 (by show(0:Int)<sz;have:=hb.lo;dsimp only at this;omega);rw[hxe]at h2;cases h2;exact hb
    repeat' (first|refine st ?_|refine cm mm rp Xu (λe=>by simp[ho e]) Xt Xu (by simp;omega) (by simp;omega) Xt (λnb_ hnb_=>?_)|refine sb λnb_ hnb_=>?_|refine s2 (λh=>?_) λh=>?_|fail)
    all_goals first
      |exact hn (hs0 (of_decide_eq_true Xs) (of_decide_eq_true Xs)) _
      |(refine hgo (i+1) _ _ (hs1 (of_decide_eq_true Xs) ?_) (Nat.lt_succ_self _) rp;clear hgo hn hy hs0 hs1 hs2 hs3 hbe hbq;simp only[ne_eq,decide_eq_false_iff_not,Decidable.not_not]at *;assumption)
      | (refine hn (hs2 (of_decide_eq_false Xs) fun hb => ?_) _
         have hb:=hbe hb;clear hgo hn hy hs0 hs1 hs2 hs3 hbe hbq
         (simp only[decide_eq_true_eq,decide_eq_false_iff_not]at *;simp_all<;>omega))
      |skip
    rename_i h1 h2 h3 h4;subst h4;simp only[decide_eq_false_iff_not]at h h1 h2 h3;refine Uw hl Xr Xr Xr (λhb=>hn (hs2 Xr λhc=>hb ?_)) _ _ _ (λhb y=>hgo _ _ _ (hs3 Xr (hbq hb)) (by have:=hb.lo;dsimp only at this;omega) rp) ix;have h5:=hc.eq 0 (by show(0:Int)<sz;omega);rw[hxe]at h5;cases h5;exact hc
  · have d1:decide ((i:Int)<(l.length:Int))=false:=bO h
    repeat' (first|refine st ?_|refine sb λnb_ hnb_=>?_|refine s2 (λh=>?_) λh=>?_|fail)
    exact hy acc _ _ (hV.done h) (Fz.slot rfl (λe=>by simp[ho e]) Xv (λ_ _=>rfl) λ_ _ q a a2 h1 h2=>by rw[h1]at h2;cases h2;exact .refl _)
end
section
set_option maxRecDepth 100000
def ov(e:Kn)(a:SH)(b c f g h:AV):Prop:=lE 2 b c a λi=>o6 [(.str []),(.bool false)] 2 i a λj d=>aB 0 j d λk=>W.bslice 1 [(.str [])] 1 [(0,k)] d λl m=>W.append 1 16 f l m λn o=>wb .add 3 c (.Xw 1) λp=>e [g,n,b,h,p] o
def oz(e:Kn)(a:SH)(b c f g h:AV):Prop:=lE 2 b c a λi=>o6 [(.str []),(.Xw 0)] 2 i a λj d=>aB 0 j d λk=>W.bslice 1 [(.str [])] 1 [(0,k)] d λl m=>W.append 1 16 f l m λn o=>wb .add 3 c (.Xw 1) λp=>e [g,n,b,h,p] o
def oA(Q:R)(f:Kn)(b c g h i j:AV)(k:SH):Prop:=W.un .not j λa=>bH a false b k λl m=>bH a false c m λn d=>wg a false (W.look (.bool false) false l n d) d λo e=>W.pick a (.bool true) o λp=>wk p (Q (.bool false) e) (W.mup b c (.bool true) e λq=>wb .add 3 g (.Xw 1) λr=>f [b,h,i,r] q)
def dW(Q:R)(f:Vs)(a:SH)(g:Kn):Prop:=wu 10 51 52 53 f λh c d b=>wb .lss 3 b d λi=>wk i (wo 1 c b a λe=>wc (.fn 102 []) [e] a (oA Q g h e b c d)) (Q (.bool true) a)
def oC(Q:R)(a:SH)(b e:AV):Prop:=aB 3 b a λf=>W.append 1 16 e f a λg c=>aB 4 b c λh=>W.append 1 16 g h c λd i=>W.mkmap i λj k=>W.len d λl=>W.loop (dW Q) [j,d,l,(.Xw 0)] k
def dX(Q:R)(f:Vs)(a:SH)(g:Kn):Prop:=HE 2 5 30 31 32 f λb c h d e=>wb .lss 3 e d λi=>wk i ((oz g a h e c b d)) ((oC Q a b c))
def dY(Q:R)(g:Vs)(a:SH)(h:Kn):Prop:=HE 2 5 17 18 19 g λb c i d e=>wb .lss 3 e d λj=>wk j ((ov h a i e c b d)) (aB 2 b a λf=>W.len f λk=>W.loop (dX Q) [b,c,f,k,(.Xw 0)] a)
def eF(d e:AV)(L:SH)(Q:R):Prop:=qo d L λa f=>W.append 1 16 .nils e f λg b=>aB 1 a b λc=>W.len c λh=>W.loop (dY Q) [a,g,c,h,(.Xw 0)] b
theorem oD(t0 t1:AV)(L:SH)(Q:R)(h:eF t0 t1 L Q):af Tryz.prog 64 [t0,t1] L Q:=
 fs [] [(4,[2,5,17,18,19]),(9,[2,5,30,31,32]),(17,[10,51,52,53])] [(0,[2]),(5,[7]),(10,[9])] [] Tryz.func64 h
def Ck(Q:R)(f:Kn)(g:SH)(h c i:AV):Prop:=wb .gtr 3 h (.Xw 0) λa=>bH a true c g λj k=>wg a true (wb .eql 21 j (.int .i32 95)) k λl m=>bH a true l m λb n=>bH b false c n λo p=>wg b false (wb .leq 21 (.int .i32 48) o) p λq r=>bH b false q r λd s=>bH d true c s λt u=>wg d true (wb .leq 21 t (.int .i32 57)) u λv w=>wg b false (W.pick d v (.bool false)) w λx y=>wg a true (W.pick b (.bool true) x) y λz e=>W.pick a z (.bool false) λA=>wk A (f [i] e) (Q (.bool false) e)
def Cl(Q:R)(e:Kn)(i:SH)(f g:AV):Prop:=W.ext 1 f λj=>W.ext 2 f λa=>wb .leq 21 (.int .i32 97) a λc=>bH c true a i λk l=>wg c true (wb .leq 21 k (.int .i32 122)) l λm n=>W.pick c m (.bool false) λb=>bH b false a n λo p=>wg b false (wb .leq 21 (.int .i32 65) o) p λq r=>bH b false q r λd s=>bH d true a s λt u=>wg d true (wb .leq 21 t (.int .i32 90)) u λv w=>wg b false (W.pick d v (.bool false)) w λx h=>W.pick b (.bool true) x λy=>wk y (e [g] h) ((Ck Q e h j a g))
def nG(Q:R)(d:Vs)(e:SH)(f:Kn):Prop:=Vt 18 d λa=>W.nxt a e λb c=>W.ext 0 b λg=>wk g ((Cl Q f c b a)) (Q (.bool true) c)
def pP(a:AV)(L:SH)(Q:R):Prop:=W.lenS a λf=>wb .lss 3 f (.Xw 1) λb=>bH b false a L λg h=>wg b false (W.lenS g) h λi j=>wg b false (wb .gtr 3 i (.Xw 12)) j λk l=>W.pick b (.bool true) k λc=>bH c false a l λm d=>W.grd c false (λn=>wc (.fn 128 []) [m] d λo p=>n o p) d λq e=>W.pick c (.bool true) q λr=>wk r (Q (.bool false) e) (W.rngS a e λs t=>W.loop (nG Q) [s] t)
theorem Cm(t0:AV)(L:SH)(Q:R)(h:pP t0 L Q):af Tryz.prog 102 [t0] L Q:=
 fs [] [(4,[18])] [] [] Tryz.func102 h
def jx(Q:R)(e:Vs)(a:SH)(f:Kn):Prop:=wq 0 5 6 e λc d b=>wb .lss 3 b (.Xw 22) λg=>wk g (W.ixA false 22 1 d b λh=>wb .eql 9 c h λi=>wk i (Q (.bool true) a) (wb .add 3 b (.Xw 1) λj=>f [c,d,j] a)) (Q (.bool false) a)
def kp(a:AV)(L:SH)(Q:R):Prop:=bS 22 (Pm 1) L λb=>W.loop (jx Q) [a,b,(.Xw 0)] L
theorem sQ(t0:AV)(L:SH)(Q:R)(h:kp t0 L Q):af Tryz.prog 128 [t0] L Q:=
 fs [] [(2,[0,5,6])] [] [] Tryz.func128 h
end
end Go.Proofs.YtdnpdghlggbklaaGreatDoor.Am
