/- A part of the proof; the statement is proved in the last part. -/
import Derived.Test.YtenbpcngcicamaaGreatDoorQbj
set_option linter.unusedSimpArgs false
set_option linter.unusedVariables false
namespace Go.Proofs.YtenbpcngcicamaaGreatDoor.Am
section
set_option maxRecDepth 100000
set_option maxHeartbeats 1000000
theorem dD(i:Int)(n:Nat):az Tryz.prog 50 [.W6 i,.W6 n] (.bool (inB i n)):=by
 refine xy _ _ _ _ ?_;unfold lS;generalize hQ:(λ(u:AV) (K:SH)=>u=AV.bool (inB i n)∧K=[])=Q
 repeat' (first|refine st ?_|refine sb λnb_ hnb_=>?_|refine s2 (λh=>?_) λh=>?_|fail)
 all_goals
  subst hQ;refine⟨?_,rfl⟩;simp_all[inB]<;>omega
def BT(op:Int):Bool:=decide (1≤op)&&decide (op≤5)
theorem A0(op:Int):az Tryz.prog 81 [.W6 op] (.bool (BT op)):=by
 refine qA _ _ _ ?_;unfold ji;generalize hQ:(λ(u:AV) (K:SH)=>u=AV.bool (BT op)∧K=[])=Q
 repeat' (first|refine st ?_|refine sb λnb_ hnb_=>?_|refine s2 (λh=>?_) λh=>?_|fail)
 all_goals
  subst hQ;refine⟨?_,rfl⟩;simp_all[BT]<;>omega
section
variable (w:aM)
theorem Ix(i:Int):az Tryz.prog 79 [.agg w.enc,.W6 i] (.bool (K9 w i)):=by
 have hw:=dD i w.cells.length;refine qz _ _ _ _ ?_;unfold jh K9;cases h1:inB i w.cells.length with
 |false=>
  rw[h1]at hw
  repeat' (first|refine st ?_|(refine pf 50 ?_;refine pm (hw) ?_)|refine sb λnb_ hnb_=>?_|refine s2 (λh=>?_) λh=>?_|fail)
  exact⟨rfl,rfl⟩
 |true=>
  rw[h1]at hw;have hx:=dJ (f:=aY.enc) h1;obtain⟨k,rfl⟩:=WH (fw h1);unfold aY.enc at hx;rw[Wy]at hx
  repeat' (first|refine st ?_|(refine pf 50 ?_;refine pm (hw) ?_)|refine sb λnb_ hnb_=>?_|refine s2 (λh=>?_) λh=>?_|fail)
  exact⟨rfl,rfl⟩
theorem JS(i n:Int):az Tryz.prog 80 [.agg w.enc,.W6 i,.W6 n] (.bool (JF w i n)):=by
 have hw:=dD i w.cells.length;refine sU _ _ _ _ _ ?_;unfold kg;generalize hQ:(λ(u:AV) (K:SH)=>u=AV.bool (JF w i n)∧K=[])=Q;have hq:∀b,JF w i n=b→Q (.bool b) []:=λb hb=>by subst hQ;exact⟨by rw[hb],rfl⟩
 clear hQ;cases h1:inB i w.cells.length with
 |false=>
  rw[h1]at hw
  repeat' (first|refine st ?_|(refine pf 50 ?_;refine pm (hw) ?_)|refine sb λnb_ hnb_=>?_|refine s2 (λh=>?_) λh=>?_|fail)
  exact hq _ (by simp[JF,h1])
 |true=>
  rw[h1]at hw;have hx:=dJ (f:=aY.enc) h1;obtain⟨k,rfl⟩:=WH (fw h1);unfold aY.enc at hx;rw[Wy]at hx
  repeat' (first|refine st ?_|(refine pf 50 ?_;refine pm (hw) ?_)|refine sb λnb_ hnb_=>?_|refine s2 (λh=>?_) λh=>?_|fail)
  all_goals exact hq _ (by simp_all[JF])
theorem FV(i:Int)(rw_:Bool):az Tryz.prog 48 [.agg w.enc,.W6 i,.bool rw_] (.bool (Ik w i rw_)):=by
 have hw:=dD i w.locks.length;refine xx _ _ _ _ _ ?_;unfold lR Ik;cases h1:inB i w.locks.length with
 |false=>
  rw[h1]at hw
  repeat' (first|refine st ?_|(refine pf 50 ?_;refine pm (hw) ?_)|refine sb λnb_ hnb_=>?_|refine s2 (λh=>?_) λh=>?_|fail)
  exact⟨rfl,rfl⟩
 |true=>
  rw[h1]at hw;obtain⟨k,rfl⟩:=WH (fw h1);have hk:k<w.locks.length:=by have:=(ax.1 h1).2;omega
  have hx:=aw (f:=bZ.enc) hk;unfold bZ.enc at hx
  repeat' (first|refine st ?_|(refine pf 50 ?_;refine pm (hw) ?_)|refine sb λnb_ hnb_=>?_|refine s2 (λh=>?_) λh=>?_|fail)
  refine⟨congrArg AV.bool ?_,rfl⟩;rw[Wy,WM,Vk hk];simp only[WY,Bool.true_and];generalize w.locks[k].rw=r;cases r<;>cases rw_<;>rfl
end
def Iy(n:Nat)(i:bj):Bool:=if i.op=5 then inB i.a n else if i.op=10 then inB i.b n else true
theorem NZ(n a:Int):(O1 n a).2=decide (n=4∨n=5):=by
 unfold O1
 repeat' split
 all_goals simp_all
theorem LZ(n a b:Int):(Df n a b).2=decide (6≤n∧n≤18):=by
 by_cases h:6≤n∧n≤18
 ·rw[decide_eq_true h];have:n=6∨n=7∨n=8∨n=9∨n=10∨n=11∨n=12∨n=13∨n=14∨n=15∨n=16∨n=17∨n=18:=by omega
  unfold Df;rcases this with rfl|rfl|rfl|rfl|rfl|rfl|rfl|rfl|rfl|rfl|rfl|rfl|rfl<;>rfl
 ·rw[decide_eq_false h];unfold Df;rw[if_neg W1,if_neg W1,if_neg W1,if_neg W1,if_neg W1,if_neg W1,if_neg W1,if_neg W1,if_neg W1,if_neg W1,if_neg W1,if_neg W1,if_neg W1]
theorem GL(w:aM)(n:Nat)(i:bj):az Tryz.prog 52 [.agg w.enc,.W6 n,.agg i.enc] (.bool (JG w i&&Iy n i)):=by
 obtain⟨op,ia,ib,ic,m,site⟩:=i;refine lg _ _ _ _ _ ?_;unfold fG;have h1:=dD ia n;have h2:=dD ib n;have hc:=dD ia w.conds.length;have ht:=dD ia w.threads.length;have hf:=dD ia w.futures.length;have hg:=dD ib w.futures.length;have hu:=Iu m 0;have hbn:=FT m 0 0;unfold GH at hu hbn;rw[NZ]at hu;rw[LZ]at hbn;have hs:=Ix w;have ha:=JS w;have hl:=FV w;generalize hQ:(λ(u:AV) (K:SH)=>u=AV.bool (JG w ⟨op,ia,ib,ic,m,site⟩&&Iy n ⟨op,ia,ib,ic,m,site⟩)∧K=[])=Q;have hq:∀b:Bool,(JG w ⟨op,ia,ib,ic,m,site⟩&&Iy n ⟨op,ia,ib,ic,m,site⟩)=b→Q (.bool b) []:=λb hb=>by subst hb;subst hQ;exact⟨rfl,rfl⟩
 clear hQ
 repeat' (first|refine st ?_|(refine pf 50 ?_;refine pm (h1) ?_)|(refine pf 50 ?_;refine pm (h2) ?_)|(refine pf 50 ?_;refine pm (hc) ?_)|(refine pf 50 ?_;refine pm (ht) ?_)|(refine pf 50 ?_;refine pm (hf) ?_)|(refine pf 50 ?_;refine pm (hg) ?_)|(refine pf 77 ?_;refine pm (hu) ?_)|(refine pf 78 ?_;refine pm (hbn) ?_)|(refine pf 79 ?_;refine pm (hs _) ?_)|(refine pf 80 ?_;refine pm (ha _ _) ?_)|(refine pf 48 ?_;refine pm (hl _ _) ?_)|refine sb λnb_ hnb_=>?_|refine s2 (λh=>?_) λh=>?_|fail)
 all_goals
  refine hq _ ?_;simp only[decide_eq_true_eq,decide_eq_false_iff_not]at *;unfold JG Iy
  first
   |(subst_vars;rfl)
   |(subst_vars;simp;done)
   |(simp_all;done)
end
section
section
variable {L:SH} {K:AV→Prop} {KL:R} {KS:SH→Prop}
theorem PL(h:∀b,b∉L.names→KL (.mp b) ((b,⟨0,[]⟩)::L)):W.mkmap L KL:=⟨h⟩
theorem N0{z v:AV}{ok:Bool}{b:Nat}{s:List UInt8}{x:Blk}(hm:(b,x)∈L)(h1:x.rows.all vQ=true)(h2:W0.found z ok (gl s x.rows 0)=v)(k:K v):W.look z ok (.mp b) (.str s) L K:=⟨x,hm,h1,by rw[h2];exact k⟩
theorem T4{v:AV}{b:Nat}{s:List UInt8}{x:Blk}{rows:List (List AV)}{L':SH}(hu:Cq b x ⟨x.size,rows⟩ L L')(h1:x.rows.all vQ=true)(h2:v.konst=true)(h3:W0.putR s v x.rows=rows)(k:KS L'):W.mup (.mp b) (.str s) v L KS:=⟨x,L',h1,h2,by rw[h3];exact hu,k⟩
theorem R3{s:List UInt8}(h:∀b,b∉L.names→KL (.it b) ((b,⟨0,[[.str s,.W6 0]]⟩)::L)):W.rngS (.str s) L KL:=⟨s,rfl,h⟩
theorem L4{b n:Nat}{s:List UInt8}{k:IntKind}{pos:Int}(hm:(b,(⟨n,[[.str s,.int k pos]]⟩:Blk))∈L)(h:¬pos<s.length)(hk:KL (.tup [.bool false]) L):W.nxt (.it b) L KL:=⟨_,s,k,pos,hm,rfl,by rw[if_neg h];exact hk⟩
theorem T5{b n:Nat}{s:List UInt8}{k:IntKind}{pos:Nat}{L':SH}(hm:(b,(⟨n,[[.str s,.int k (pos:Int)]]⟩:Blk))∈L)(h:pos<s.length)(hu:Cq b ⟨n,[[.str s,.int k (pos:Int)]]⟩ ⟨n,[[.str s,.W6 ((pos+(Utf8.decode ⟨s.toArray⟩ pos).2:Nat):Int)]]⟩ L L')
  (hk:KL (.tup [.bool true,.W6 (pos:Int),.int .i32 (Utf8.decode ⟨s.toArray⟩ pos).1]) L'):W.nxt (.it b) L KL:=⟨_,s,k,pos,hm,rfl,by
 rw[if_pos W1];simp only[Wy];exact⟨L',hu,hk⟩⟩
end
theorem Dw{α:Type}(S:α→List AV×SH)(m:α→Nat)(G:α→Prop){B:List AV→SH→W.Kn→Prop}{vs:List AV}{L:SH}(a0:α)(h0:G a0)(hv:vs=(S a0).1)(hL:L=(S a0).2)
  (h:∀a,G a→∀nx:W.Kn,(∀a',G a'→m a'<m a→nx (S a').1 (S a').2)→B (S a).1 (S a).2 nx):W.loop B vs L:=
 Pa S m G a0 h0 hv hL λa ha=>h a ha _ λa' h1 h2=>⟨a',h1,h2,.refl _ _⟩
end
section
set_option maxRecDepth 100000
set_option maxHeartbeats 1000000
set_option linter.unusedSectionVars false
noncomputable def mU (P:Prop):Bool:=@decide P (Classical.propDecidable P)
theorem kh{P:Prop}(h:P):mU P=true:=@decide_eq_true P (Classical.propDecidable P) h
theorem jk{P:Prop}(h:¬P):mU P=false:=@decide_eq_false P (Classical.propDecidable P) h
theorem ki{P:Prop}:mU P=true↔P:=⟨λh=>@of_decide_eq_true P (Classical.propDecidable P) h,kh⟩
theorem GM(i:bj):az Tryz.prog 51 [.agg i.enc] (.lst ((bS i).map aj)):=by
 obtain⟨op,ia,ib,ic,n,site⟩:=i;refine af.fz (pz _ _ _ ?_);unfold iB;generalize hQ:(λ(v:AV) (L:SH)=>∃v2 L2,aG [v] L [v2] L2∧v2=AV.lst ((bS ⟨op,ia,ib,ic,n,site⟩).map aj)∧L2=[])=Q;have hq:∀(l:List Int),bS ⟨op,ia,ib,ic,n,site⟩=l→∀v L,Fz L v (.lst (l.map aj))→Q v L:=λl hl v L h=>by subst hQ;exact⟨_,[],aG.all h,by rw[hl],rfl⟩
 clear hQ
 repeat' (first|refine st ?_|refine sb λnb_ hnb_=>?_|refine s2 (λh=>?_) λh=>?_|fail)
 all_goals first
  |exact hq [ia] (by simp_all[bS];done) _ _ (Fz.sls (l:=[ia]) (f:=aj) (.head _) rfl W5 rfl)
  |exact hq [ib] (by simp_all[bS];done) _ _ (Fz.sls (l:=[ib]) (f:=aj) (.head _) rfl W5 rfl)
  |exact hq [ia,ib] (by simp_all[bS];done) _ _ (Fz.sls (l:=[ia,ib]) (f:=aj) (.head _) rfl W5 rfl)
  |exact hq [ia,ic] (by simp_all[bS];done) _ _ (Fz.sls (l:=[ia,ic]) (f:=aj) (.head _) rfl W5 rfl)
  |exact hq [ib,ic] (by simp_all[bS];done) _ _ (Fz.sls (l:=[ib,ic]) (f:=aj) (.head _) rfl W5 rfl)
  |exact hq [ia,ib,ic] (by simp_all[bS];done) _ _ (Fz.sls (l:=[ia,ib,ic]) (f:=aj) (.head _) rfl W5 rfl)
  |exact hq [] (by simp_all[bS];done) _ _ .nils
theorem GN{ins:List bj}{k:Nat}{i:bj}(h:ins[k]? =some i):az Tryz.prog 82 [.lst (ins.map bj.enc),.W6 k] (.W6 (if i.op=5 then i.a else IntKind.i64.wrap ((k:Int)+1))):=by
 have hx:(ins.map bj.enc)[k]? =some i.enc:=Pi h;obtain⟨op,ia,ib,ic,n,site⟩:=i;unfold bj.enc at hx;refine pn _ _ _ _ ?_;unfold iA;generalize hQ:(λ(u:AV) (K:SH)=>u=AV.W6 (if op=5 then ia else IntKind.i64.wrap ((k:Int)+1))∧K=[])=Q
 repeat' (first|refine st ?_|refine sb λnb_ hnb_=>?_|refine s2 (λh=>?_) λh=>?_|fail)
 all_goals
  subst hQ;refine⟨?_,rfl⟩;simp_all
structure N1(ins:List bj):Prop where
 len:ins.length<2^48
 jmp:∀i∈ins,i.op=5→0≤i.a∧i.a<ins.length
 last:∀(k:Nat) (i:bj),ins[k]? =some i→(i.op=28↔k+1=ins.length)
def nxt(ins:List bj)(k:Nat):Nat:=match ins[k]? with
 |some i=>if i.op=5 then i.a.toNat else k+1
 |none=>0
def mV(ins:List bj)(k:Nat):Nat→Nat
 |0=>k
 |t+1=>nxt ins (mV ins k t)
def nz(ins:List bj)(k:Nat):Prop:=∃i,ins[k]? =some i∧i.sil
section
variable {ins:List bj} (hf:N1 ins)
include hf
theorem N2{k:Nat}(h:nz ins k):nxt ins k<ins.length:=by
 obtain⟨i,hi,hs⟩:=h;have hk:=(List.getElem?_eq_some_iff.1 hi).1;unfold nxt;rw[hi];dsimp only;split
 ·rename_i h5;have:=hf.jmp i (V0 hi) h5;omega
 ·have h1:=hf.last k i hi;have:=hs.2;have:k+1≠ins.length:=λe=>by have:=h1.2 e;omega
  omega
theorem Li{k:Nat}(h:nz ins k):az Tryz.prog 82 [.lst (ins.map bj.enc),.W6 k] (.W6 (nxt ins k:Nat)):=by
 have hl:=N2 hf h;obtain⟨i,hi,hs⟩:=h;have h1:=GN hi;have hk:=(V4.1 hi).1;have:(if i.op=5 then i.a else IntKind.i64.wrap ((k:Int)+1))=(nxt ins k:Nat):=by
  unfold nxt;rw[hi];dsimp only;split
  ·rename_i h5;have:=hf.jmp i (V0 hi) h5;omega
  ·have:=hf.len;rw[aD hk W1]
 rw[this]at h1;exact h1
theorem N3{k:Nat}(h:nz ins k)(h2:pi ins (nxt ins k)):pi ins k:=by
 obtain⟨i,hi,hs⟩:=h;obtain⟨m,hm⟩:=h2;unfold nxt at hm;rw[hi]at hm;dsimp only at hm;split at hm
 ·rename_i h5;have:=hf.jmp i (V0 hi) h5;exact⟨m+1,.jump k m i.a.toNat i hi h5 W1 hm⟩
 ·rename_i h5;exact⟨m+1,.go k m i hi hs h5 hm⟩
theorem R4{k m:Nat}(h:nz ins k)(h2:JH ins k m):∃m',m=m'+1∧JH ins (nxt ins k) m':=by
 obtain⟨i,hi,hs⟩:=h;unfold nxt;rw[hi];dsimp only;cases h2 with
 |ev _ i' hi' hs'=>rw[hi]at hi';cases hi';exact absurd hs hs'
 |go _ m' i' hi' hs' h5 hm=>rw[hi]at hi';cases hi';rw[if_neg h5];exact⟨m',rfl,hm⟩
 |jump _ m' j i' hi' h5 ha hm=>rw[hi]at hi';cases hi';rw[if_pos h5,ha];exact⟨m',rfl,by simpa using hm⟩
theorem GO{k m:Nat}(h:JH ins k m):∀t,(∀u,u<t→nz ins (mV ins k u))→t≤m∧JH ins (mV ins k t) (m-t)
 |0,_=>⟨VX _,h⟩
 | t+1,hs=>by
  obtain⟨h1,h2⟩:=GO h t λu hu=>hs u W1
  obtain⟨m',h3,h4⟩:=R4 hf (hs t W1) h2;refine⟨W1,?_⟩;rw[show m-(t+1)=m' by omega];exact h4
theorem N4{k t u:Nat}(hs:∀u,u<t→nz ins (mV ins k u))(hu:u<t)(e:mV ins k u=mV ins k t):¬pi ins k:=λ⟨m,hm⟩=>by
 obtain⟨h1,h2⟩:=GO hf hm t hs;obtain⟨h3,h4⟩:=GO hf hm u λv hv=>hs v W1
 rw[e]at h4;have:=h4.uniq h2;omega
theorem Iz{k:Nat}:∀t,(∀u,u<t→nz ins (mV ins k u))→pi ins (mV ins k t)→∀u,u≤t→pi ins (mV ins k u)
 |0,_,h,u,hu=>by rw[show u=0 by omega];exact h
 | t+1,hs,h,u,hu=>by
  rcases Vp t u with h1|h1
  ·rw[show u=t+1 by omega];exact h
  ·exact Iz t (λv hv=>hs v W1) (N3 hf (hs t W1) h) u h1
end
def mW(s:List Bool)(ins:List bj)(k:Nat):Nat→List Bool
 |0=>s
 |t+1=>(mW s ins k t).set (mV ins k t) true
theorem jl(s:List Bool)(ins:List bj)(k:Nat):∀t,(mW s ins k t).length=s.length
 |0=>rfl
 |t+1=>by rw[mW,List.length_set,jl s ins k t]
theorem pB{s:List Bool}{ins:List bj}{k j:Nat}:∀t,(mW s ins k t)[j]? =some true→s[j]? =some true∨∃u,u<t∧mV ins k u=j
 |0,h=>.inl h
 | t+1,h=>by
  rw[mW,Wf]at h;split at h
  ·rename_i e;exact .inr ⟨t,W1,e⟩
  ·rcases pB t h with h1|⟨u,hu,e⟩
   ·exact .inl h1
   ·exact .inr ⟨u,W1,e⟩
theorem pC{s:List Bool}{ins:List bj}{k j:Nat}(hj:j<s.length):∀t,(s[j]? =some true∨∃u,u<t∧mV ins k u=j)→(mW s ins k t)[j]? =some true
 | 0,h=>by
  rcases h with h|⟨u,hu,_⟩
  ·exact h
  ·omega
 | t+1,h=>by
  rw[mW,Wf];split
  ·rename_i e;rw[if_pos (by rw[jl];omega)]
  ·rename_i e;refine pC hj t ?_;rcases h with h|⟨u,hu,e2⟩
   ·exact .inl h
   ·refine .inr ⟨u,?_,e2⟩;rcases Vp u t with h1|h1
    ·exact h1
    ·rw[show u=t by omega]at e2;exact absurd e2 e
theorem JT{l:List Bool}{k:Nat}(h:k<l.length):∃b,l[k]? =some b:=⟨l[k],Vk h⟩
theorem GP{l:List Bool}{k:Nat}{b:Bool}(h:l[k]? =some b):(l.map aT)[k]? =some [.bool b]:=by rw[VA,h];rfl
theorem IA(s:List Bool)(ins:List bj)(k t:Nat):((mW s ins k t).map aT).set (mV ins k t) [.bool true]=(mW s ins k (t+1)).map aT:=by rw[mW,Wh];rfl
end
section
set_option maxRecDepth 100000
set_option maxHeartbeats 1000000
set_option linter.unusedSectionVars false
structure T6(ins:List bj)(start:Nat)(g:List Bool)(t:Nat):Prop where
 lt:mV ins start t<ins.length
 sil:∀u,u<t→nz ins (mV ins start u)
 bad:∀u,u<t→g[mV ins start u]? =some false
 inj:∀u v,u<v→v<t→mV ins start u≠mV ins start v
section
variable {ins:List bj} (hf:N1 ins) {b1 b2:Nat} {start:Nat} (hs:start<ins.length) {g s:List Bool} (hg:g.length=ins.length) (hl:s.length=ins.length) (hsg:∀k:Nat,s[k]? =some true→g[k]? =some true) (hgl:∀k:Nat,g[k]? =some true→pi ins k)
theorem R5{t:Nat}(hf:N1 ins)(hs:start<ins.length)(h:T6 ins start g t):t≤ins.length:=by
 have h1:((List.range t).map (mV ins start)).Nodup:=by
  refine List.pairwise_map.2 ?_;refine(List.nodup_range (n:=t)).imp_of_mem ?_;intro u v hu hv hne e;rcases Vp u v with h2|h2
  ·exact h.inj u v h2 (Wi.1 hv) e
  ·exact h.inj v u W1 (Wi.1 hu) e.symm
 have h2:=Ny h1 (n:=ins.length) (by
  intro j hj;obtain⟨u,hu,rfl⟩:=VY.1 hj;obtain⟨i,hi,_⟩:=h.sil u (Wi.1 hu);exact(V4.1 hi).1)
 simpa using h2
include hf hs hg hl
theorem N5(n8:W.Kn)(T:Nat)(hw:T6 ins start g T)(he:¬nz ins (mV ins start T)∨g[mV ins start T]? =some true)(sr:List Bool)
  (hn:n8 [.lst (ins.map bj.enc),.sl b1 0 ins.length,.sl b2 0 ins.length,.W6 ins.length,.W6 (start+1:Nat)] [(b2,⟨1,sr.map aT⟩),(b1,⟨1,(mW g ins start T).map aT⟩)]) :
  W.loop (eY n8) [.lst (ins.map bj.enc),.sl b1 0 ins.length,.sl b2 0 ins.length,.W6 start,.W6 ins.length,.W6 start] [(b2,⟨1,sr.map aT⟩),(b1,⟨1,g.map aT⟩)]:=by
 refine Dw (λu:Nat=>([.lst (ins.map bj.enc),.sl b1 0 ins.length,.sl b2 0 ins.length,.W6 (mV ins start u:Nat),.W6 ins.length,.W6 start],[(b2,⟨1,sr.map aT⟩),(b1,⟨1,(mW g ins start u).map aT⟩)])) (λu=>T-u) (λu=>u≤T) 0 (VX _) rfl rfl λu hu nx hnx=>?_
 have hk:mV ins start u<ins.length:=by
  rcases Vp u T with h|h
  ·obtain⟨i,hi,_⟩:=hw.sil u h;exact(V4.1 hi).1
  ·rw[show u=T by omega];exact hw.lt
 have hx:=aw (f:=bj.enc) hk;unfold bj.enc at hx;have hsi:=A0 ins[mV ins start u].op;obtain⟨b,hb⟩:=JT (l:=mW g ins start u) (k:=mV ins start u) (by rw[jl];omega);have hbm:=GP hb;have hw1:IntKind.i64.wrap ((start:Int)+1)=((start+1:Nat):Int):=aD hs (by have:=hf.len;omega);have hon:BT ins[mV ins start u].op=true→b=false→u<T:=λh1 h2=>by
  rcases Vp u T with h|h
  ·exact h
  ·exfalso;have e:u=T:=by omega
   subst e;rcases he with he|he
   ·exact he ⟨_,Vk hk,by simpa[BT,bj.sil]using h1⟩
   ·rw[pC W1 u (.inl he)]at hb;cases hb;cases h2
 have hoff:u<T→BT ins[mV ins start u].op=true∧b=false:=λh=>by
  obtain⟨i,hi,h2⟩:=hw.sil u h;rw[Vk hk]at hi;cases hi;refine⟨by simpa[BT,bj.sil]using h2,?_⟩;cases b with
  |false=>rfl
  |true=>
   exfalso;rcases pB u hb with h3|⟨v,hv,h3⟩
   ·rw[hw.bad u h]at h3;cases h3
   ·exact hw.inj v u hv h h3
 unfold eY;dsimp only;rcases Nat.lt_or_ge u T with h|h
 ·obtain⟨h1,rfl⟩:=hoff h;have hfo:=Li hf (hw.sil u h);rw[h1]at hsi
  repeat' (first|refine st ?_|(refine pf 81 ?_;refine pm (hsi) ?_)|(refine pf 82 ?_;refine pm (hfo) ?_)|refine sb λnb_ hnb_=>?_|refine s2 (λh=>?_) λh=>?_|fail)
  have:=hnx (u+1) W1 W1;rw[←IA]at this;exact this
 ·have e:u=T:=by omega
  subst e;cases h1:BT ins[mV ins start u].op with
  |false=>
   rw[h1]at hsi
   repeat' (first|refine st ?_|(refine pf 81 ?_;refine pm (hsi) ?_)|refine sb λnb_ hnb_=>?_|refine s2 (λh=>?_) λh=>?_|fail)
   exact hn
  |true=>
   rw[h1]at hsi;cases b with
   |false=>exact absurd (hon h1 rfl) (Nat.lt_irrefl _)
   |true=>
    repeat' (first|refine st ?_|(refine pf 81 ?_;refine pm (hsi) ?_)|refine sb λnb_ hnb_=>?_|refine s2 (λh=>?_) λh=>?_|fail)
    exact hn
include hsg in
theorem R6(Q:R)(n8:W.Kn)(hq:¬pi ins start→∀L,Q (.bool false) L)
  (hn:∀T,T6 ins start g T→(¬nz ins (mV ins start T)∨g[mV ins start T]? =some true)→n8 [.lst (ins.map bj.enc),.sl b1 0 ins.length,.sl b2 0 ins.length,.W6 ins.length,.W6 (start+1:Nat)] [(b2,⟨1,(mW s ins start T).map aT⟩),(b1,⟨1,(mW g ins start T).map aT⟩)]) :
  W.loop (eZ Q n8) [.lst (ins.map bj.enc),.sl b1 0 ins.length,.sl b2 0 ins.length,.W6 start,.W6 start,.W6 ins.length,.W6 start] [(b2,⟨1,s.map aT⟩),(b1,⟨1,g.map aT⟩)]:=by
 refine Dw (λt:Nat=>([.lst (ins.map bj.enc),.sl b1 0 ins.length,.sl b2 0 ins.length,.W6 start,.W6 (mV ins start t:Nat),.W6 ins.length,.W6 start],[(b2,⟨1,(mW s ins start t).map aT⟩),(b1,⟨1,g.map aT⟩)])) (λt=>ins.length-t) (λt=>T6 ins start g t) 0 ⟨hs,λu hu=>absurd hu (Nat.not_lt_zero _),λu hu=>absurd hu (Nat.not_lt_zero _),λu v _ hv=>absurd hv (Nat.not_lt_zero _)⟩ rfl rfl λt hw nx hnx=>?_
 have hk:=hw.lt;have hx:=aw (f:=bj.enc) hk;unfold bj.enc at hx;have hsi:=A0 ins[mV ins start t].op;obtain⟨b,hb⟩:=JT (l:=g) (k:=mV ins start t) W1;have hbm:=GP hb;obtain⟨c,hc⟩:=JT (l:=mW s ins start t) (k:=mV ins start t) (by rw[jl];omega);have hcm:=GP hc;unfold eZ;dsimp only;cases h1:BT ins[mV ins start t].op with
 |false=>
  rw[h1]at hsi;have hno:¬nz ins (mV ins start t):=λ⟨i,hi,h2⟩=>by
   rw[Vk hk]at hi;cases hi;have:BT ins[mV ins start t].op=true:=by simpa[BT,bj.sil]using h2
   rw[h1]at this;cases this
  repeat' (first|refine st ?_|(refine pf 81 ?_;refine pm (hsi) ?_)|refine sb λnb_ hnb_=>?_|refine s2 (λh=>?_) λh=>?_|fail)
  exact N5 hf hs hg hl n8 t hw (.inl hno) _ (hn t hw (.inl hno))
 |true=>
  rw[h1]at hsi;have hsa:nz ins (mV ins start t):=⟨_,Vk hk,by simpa[BT,bj.sil]using h1⟩;cases b with
  |true=>
   repeat' (first|refine st ?_|(refine pf 81 ?_;refine pm (hsi) ?_)|refine sb λnb_ hnb_=>?_|refine s2 (λh=>?_) λh=>?_|fail)
   exact N5 hf hs hg hl n8 t hw (.inr hb) _ (hn t hw (.inr hb))
  |false=>
   cases c with
   |true=>
    have:¬pi ins start:=by
     rcases pB t hc with h2|⟨u,hu,h2⟩
     ·rw[hsg _ h2]at hb;cases hb
     ·exact N4 hf hw.sil hu h2
    repeat' (first|refine st ?_|(refine pf 81 ?_;refine pm (hsi) ?_)|refine sb λnb_ hnb_=>?_|refine s2 (λh=>?_) λh=>?_|fail)
    exact hq this _
   |false=>
    have hfo:=Li hf hsa;have hw2:T6 ins start g (t+1):=⟨N2 hf hsa,λu hu=>by
     rcases Vp u t with h|h
     ·exact hw.sil u h
     ·rw[show u=t by omega];exact hsa,λu hu=>by
     rcases Vp u t with h|h
     ·exact hw.bad u h
     ·rw[show u=t by omega];exact hb,λu v huv hv e=>by
     rcases Vp v t with h|h
     ·exact hw.inj u v huv h e
     ·have h2:v=t:=by omega
      subst h2;rw[pC W1 v (.inr ⟨u,huv,e⟩)]at hc;cases hc⟩
    have hle:=R5 hf hs hw2
    repeat' (first|refine st ?_|(refine pf 81 ?_;refine pm (hsi) ?_)|(refine pf 82 ?_;refine pm (hfo) ?_)|refine sb λnb_ hnb_=>?_|refine s2 (λh=>?_) λh=>?_|fail)
    have:=hnx (t+1) hw2 W1;rw[←IA]at this;exact this
end
theorem IB{ins:List bj}(hf:N1 ins):az Tryz.prog 53 [.lst (ins.map bj.enc)] (.bool (mU (∀k,k<ins.length→pi ins k))):=by
 have hl:=hf.len;refine af.fz (qE _ _ _ ?_);unfold jj;generalize hQ:(λ(v:AV) (L:SH)=>∃v2 L2,aG [v] L [v2] L2∧v2=AV.bool (mU (∀k,k<ins.length→pi ins k))∧L2=[])=Q;have hq:∀b,mU (∀k,k<ins.length→pi ins k)=b→∀L,Q (.bool b) L:=λb hb L=>by subst hQ;exact⟨_,[],aG.all (.refl _),by rw[hb],rfl⟩
 clear hQ
 repeat' (first|refine st ?_|refine sb λnb_ hnb_=>?_|refine s2 (λh=>?_) λh=>?_|fail)
 rename_i b1 _;revert nb_;intro b2 _;have hrep:∀k:Nat,(List.replicate ins.length false)[k]? =some true→pi ins k:=λk h=>by rw[Wv]at h;split at h<;>cases h
 refine Dw (α:=Nat×List Bool×List Bool) (λa=>([.lst (ins.map bj.enc),.sl b1 0 ins.length,.sl b2 0 ins.length,.W6 ins.length,.W6 (a.1:Nat)],[(b2,⟨1,a.2.2.map aT⟩),(b1,⟨1,a.2.1.map aT⟩)])) (λa=>ins.length-a.1)
  (λa=>a.1≤ins.length∧a.2.1.length=ins.length∧a.2.2.length=ins.length∧(∀k:Nat,a.2.2[k]? =some true→a.2.1[k]? =some true)∧(∀k:Nat,a.2.1[k]? =some true→pi ins k)∧∀k,k<a.1→pi ins k) (0,List.replicate ins.length false,List.replicate ins.length false)
  ⟨VX _,W4,W4,λk h=>h,hrep,λk h=>absurd h (Nat.not_lt_zero _)⟩ W4 (by simp[aT]) ?_
 rintro⟨a,g,s⟩ ⟨h1,h2,h3,h4,h5,h6⟩ nx hnx;dsimp only at h1 h2 h3 h4 h5 h6 ⊢;unfold iz;rcases Nat.lt_or_ge a ins.length with h|h
 ·have hd:=bI h
  repeat' (first|refine st ?_|refine sb λnb_ hnb_=>?_|refine s2 (λh=>?_) λh=>?_|fail)
  refine R6 hf h h2 h3 h4 Q nx (λhno L=>hq _ (jk λhall=>hno (hall a h)) L) λT hw he=>?_
  have hT:pi ins (mV ins a T):=by
   rcases he with he|he
   ·have hk:=hw.lt;exact⟨0,.ev _ _ (Vk hk) λhs=>he ⟨_,Vk hk,hs⟩⟩
   ·exact h5 _ he
  have hall:=Iz hf T hw.sil hT;refine hnx (a+1,mW g ins a T,mW s ins a T) ⟨h,by rw[jl,h2],by rw[jl,h3],λk hk=>?_,λk hk=>?_,λk hk=>?_⟩ (by show ins.length-(a+1)<ins.length-a;omega)
  ·have hkl:k<s.length:=by have:=(V4.1 hk).1;rwa [jl]at this
   rcases pB T hk with g1|g1
   ·exact pC W1 T (.inl (h4 k g1))
   ·exact pC W1 T (.inr g1)
  ·rcases pB T hk with g1|⟨u,hu,g1⟩
   ·exact h5 k g1
   ·rw[←g1];exact hall u W1
  ·rcases Vp k a with g1|g1
   ·exact h6 k g1
   ·rw[show k=a by dsimp only at hk;omega];exact hall 0 (Nat.zero_le _)
 ·have hd:=bO h
  repeat' (first|refine st ?_|refine sb λnb_ hnb_=>?_|refine s2 (λh=>?_) λh=>?_|fail)
  exact hq _ (kh λk hk=>h6 k W1) _
end
end Go.Proofs.YtenbpcngcicamaaGreatDoor.Am
