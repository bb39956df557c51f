/- A part of the proof; the statement is proved in the last part. -/
import Derived.Test.YtdnpdghlggbklaaGreatDoorQtk
set_option linter.unusedSimpArgs false
set_option linter.unusedVariables false
namespace Go.Proofs.YtdnpdghlggbklaaGreatDoor.Am
section
set_option maxRecDepth 100000
set_option maxHeartbeats 1000000
theorem dN(i:Int)(n:Nat):az Tryz.prog 67 [.ZO i,.ZO n] (.bool (inB i n)):=by
 refine yU _ _ _ _ ?_;unfold mD;generalize hQ:(λ(u:AV) (K:SH)=>u=AV.bool (inB i n)∧K=[])=Q
 repeat' (first|refine st ?_|refine sb λnb_ hnb_=>?_|refine s2 (λh=>?_) λh=>?_|fail)
 all_goals
  subst hQ;refine⟨?_,rfl⟩;simp_all[inB]<;>omega
def Dj(op:Int):Bool:=decide (1≤op)&&decide (op≤5)
theorem Cq(op:Int):az Tryz.prog 107 [.ZO op] (.bool (Dj op)):=by
 refine rN _ _ _ ?_;unfold jI;generalize hQ:(λ(u:AV) (K:SH)=>u=AV.bool (Dj op)∧K=[])=Q
 repeat' (first|refine st ?_|refine sb λnb_ hnb_=>?_|refine s2 (λh=>?_) λh=>?_|fail)
 all_goals
  subst hQ;refine⟨?_,rfl⟩;simp_all[Dj]<;>omega
section
variable (w:aO)
theorem Kh(i:Int):az Tryz.prog 105 [.agg w.enc,.ZO i] (.bool (M2 w i)):=by
 have hw:=dN i w.cells.length;refine rM _ _ _ _ ?_;unfold jH M2;cases h1:inB i w.cells.length with
 |false=>
  rw[h1]at hw
  repeat' (first|refine st ?_|(refine pf 67 ?_;refine pm (hw) ?_)|refine sb λnb_ hnb_=>?_|refine s2 (λh=>?_) λh=>?_|fail)
  exact⟨rfl,rfl⟩
 |true=>
  rw[h1]at hw;have hx:=dU (f:=bA.enc) h1;obtain⟨k,rfl⟩:=Zw (fN h1);unfold bA.enc at hx;rw[Y7]at hx
  repeat' (first|refine st ?_|(refine pf 67 ?_;refine pm (hw) ?_)|refine sb λnb_ hnb_=>?_|refine s2 (λh=>?_) λh=>?_|fail)
  exact⟨rfl,rfl⟩
theorem LL(i n:Int):az Tryz.prog 106 [.agg w.enc,.ZO i,.ZO n] (.bool (LB w i n)):=by
 have hw:=dN i w.cells.length;refine uk _ _ _ _ _ ?_;unfold kV;generalize hQ:(λ(u:AV) (K:SH)=>u=AV.bool (LB w i n)∧K=[])=Q;have hq:∀b,LB w i n=b→Q (.bool b) []:=λb hb=>by subst hQ;exact⟨by rw[hb],rfl⟩
 clear hQ;cases h1:inB i w.cells.length with
 |false=>
  rw[h1]at hw
  repeat' (first|refine st ?_|(refine pf 67 ?_;refine pm (hw) ?_)|refine sb λnb_ hnb_=>?_|refine s2 (λh=>?_) λh=>?_|fail)
  exact hq _ (by simp[LB,h1])
 |true=>
  rw[h1]at hw;have hx:=dU (f:=bA.enc) h1;obtain⟨k,rfl⟩:=Zw (fN h1);unfold bA.enc at hx;rw[Y7]at hx
  repeat' (first|refine st ?_|(refine pf 67 ?_;refine pm (hw) ?_)|refine sb λnb_ hnb_=>?_|refine s2 (λh=>?_) λh=>?_|fail)
  all_goals exact hq _ (by simp_all[LB])
theorem Hz(i:Int)(rw_:Bool):az Tryz.prog 65 [.agg w.enc,.ZO i,.bool rw_] (.bool (J5 w i rw_)):=by
 have hw:=dN i w.locks.length;refine yT _ _ _ _ _ ?_;unfold mC J5;cases h1:inB i w.locks.length with
 |false=>
  rw[h1]at hw
  repeat' (first|refine st ?_|(refine pf 67 ?_;refine pm (hw) ?_)|refine sb λnb_ hnb_=>?_|refine s2 (λh=>?_) λh=>?_|fail)
  exact⟨rfl,rfl⟩
 |true=>
  rw[h1]at hw;obtain⟨k,rfl⟩:=Zw (fN h1);have hk:k<w.locks.length:=by have:=(ax.1 h1).2;omega
  have hx:=ay (f:=cq.enc) hk;unfold cq.enc at hx
  repeat' (first|refine st ?_|(refine pf 67 ?_;refine pm (hw) ?_)|refine sb λnb_ hnb_=>?_|refine s2 (λh=>?_) λh=>?_|fail)
  refine⟨congrArg AV.bool ?_,rfl⟩;rw[Y7,Ze,X6 hk];simp only[Zr,Bool.true_and];generalize w.locks[k].rw=r;cases r<;>cases rw_<;>rfl
end
def Ki(n:Nat)(i:bq):Bool:=if i.op=5 then inB i.a n else if i.op=10 then inB i.b n else true
theorem P6(n a:Int):(NP n a).2=decide (n=4∨n=5):=by
 unfold NP
 repeat' split
 all_goals simp_all
theorem NY(n a b:Int):(yr n a b).2=decide (6≤n∧n≤18):=by
 by_cases h:6≤n∧n≤18
 ·rw[decide_eq_true h];have:n=6∨n=7∨n=8∨n=9∨n=10∨n=11∨n=12∨n=13∨n=14∨n=15∨n=16∨n=17∨n=18:=by omega
  unfold yr;rcases this with rfl|rfl|rfl|rfl|rfl|rfl|rfl|rfl|rfl|rfl|rfl|rfl|rfl<;>rfl
 ·rw[decide_eq_false h];unfold yr;rw[if_neg ZJ,if_neg ZJ,if_neg ZJ,if_neg ZJ,if_neg ZJ,if_neg ZJ,if_neg ZJ,if_neg ZJ,if_neg ZJ,if_neg ZJ,if_neg ZJ,if_neg ZJ,if_neg ZJ]
theorem Iv(w:aO)(n:Nat)(i:bq):az Tryz.prog 69 [.agg w.enc,.ZO n,.agg i.enc] (.bool (LC w i&&Ki n i)):=by
 obtain⟨op,ia,ib,ic,m,site⟩:=i;refine lU _ _ _ _ _ ?_;unfold gb;have h1:=dN ia n;have h2:=dN ib n;have hc:=dN ia w.conds.length;have ht:=dN ia w.threads.length;have hf:=dN ia w.futures.length;have hg:=dN ib w.futures.length;have hu:=Ke m 0;have hbn:=Hw m 0 0;unfold Ir at hu hbn;rw[P6]at hu;rw[NY]at hbn;have hs:=Kh w;have ha:=LL w;have hl:=Hz w;generalize hQ:(λ(u:AV) (K:SH)=>u=AV.bool (LC w ⟨op,ia,ib,ic,m,site⟩&&Ki n ⟨op,ia,ib,ic,m,site⟩)∧K=[])=Q;have hq:∀b:Bool,(LC w ⟨op,ia,ib,ic,m,site⟩&&Ki n ⟨op,ia,ib,ic,m,site⟩)=b→Q (.bool b) []:=λb hb=>by subst hb;subst hQ;exact⟨rfl,rfl⟩
 clear hQ
 repeat' (first|refine st ?_|(refine pf 67 ?_;refine pm (h1) ?_)|(refine pf 67 ?_;refine pm (h2) ?_)|(refine pf 67 ?_;refine pm (hc) ?_)|(refine pf 67 ?_;refine pm (ht) ?_)|(refine pf 67 ?_;refine pm (hf) ?_)|(refine pf 67 ?_;refine pm (hg) ?_)|(refine pf 103 ?_;refine pm (hu) ?_)|(refine pf 104 ?_;refine pm (hbn) ?_)|(refine pf 105 ?_;refine pm (hs _) ?_)|(refine pf 106 ?_;refine pm (ha _ _) ?_)|(refine pf 65 ?_;refine pm (hl _ _) ?_)|refine sb λnb_ hnb_=>?_|refine s2 (λh=>?_) λh=>?_|fail)
 all_goals
  refine hq _ ?_;simp only[decide_eq_true_eq,decide_eq_false_iff_not]at *;unfold LC Ki
  first
   |(subst_vars;rfl)
   |(subst_vars;simp;done)
   |(simp_all;done)
end
section
section
variable {L:SH} {K:AV→Prop} {KL:R} {KS:SH→Prop}
theorem Sa(h:∀b,b∉L.names→KL (.mp b) ((b,⟨0,[]⟩)::L)):W.mkmap L KL:=⟨h⟩
theorem P7{z v:AV}{ok:Bool}{b:Nat}{s:List UInt8}{x:Blk}(hm:(b,x)∈L)(h1:x.rows.all xz=true)(h2:W0.found z ok (gN s x.rows 0)=v)(k:K v):W.look z ok (.mp b) (.str s) L K:=⟨x,hm,h1,by rw[h2];exact k⟩
theorem WC{v:AV}{b:Nat}{s:List UInt8}{x:Blk}{rows:List (List AV)}{L':SH}(hu:DQ b x ⟨x.size,rows⟩ L L')(h1:x.rows.all xz=true)(h2:v.konst=true)(h3:W0.putR s v x.rows=rows)(k:KS L'):W.mup (.mp b) (.str s) v L KS:=⟨x,L',h1,h2,by rw[h3];exact hu,k⟩
theorem UB{s:List UInt8}(h:∀b,b∉L.names→KL (.it b) ((b,⟨0,[[.str s,.ZO 0]]⟩)::L)):W.rngS (.str s) L KL:=⟨s,rfl,h⟩
theorem NZ{b n:Nat}{s:List UInt8}{k:IntKind}{pos:Int}(hm:(b,(⟨n,[[.str s,.int k pos]]⟩:Blk))∈L)(h:¬pos<s.length)(hk:KL (.tup [.bool false]) L):W.nxt (.it b) L KL:=⟨_,s,k,pos,hm,rfl,by rw[if_neg h];exact hk⟩
theorem WE{b n:Nat}{s:List UInt8}{k:IntKind}{pos:Nat}{L':SH}(hm:(b,(⟨n,[[.str s,.int k (pos:Int)]]⟩:Blk))∈L)(h:pos<s.length)(hu:DQ b ⟨n,[[.str s,.int k (pos:Int)]]⟩ ⟨n,[[.str s,.ZO ((pos+(Utf8.decode ⟨s.toArray⟩ pos).2:Nat):Int)]]⟩ L L')
  (hk:KL (.tup [.bool true,.ZO (pos:Int),.int .i32 (Utf8.decode ⟨s.toArray⟩ pos).1]) L'):W.nxt (.it b) L KL:=⟨_,s,k,pos,hm,rfl,by
 rw[if_pos ZJ];simp only[Y7];exact⟨L',hu,hk⟩⟩
end
theorem EZ{α:Type}(S:α→List AV×SH)(m:α→Nat)(G:α→Prop){B:List AV→SH→W.Kn→Prop}{vs:List AV}{L:SH}(a0:α)(h0:G a0)(hv:vs=(S a0).1)(hL:L=(S a0).2)
  (h:∀a,G a→∀nx:W.Kn,(∀a',G a'→m a'<m a→nx (S a').1 (S a').2)→B (S a).1 (S a).2 nx):W.loop B vs L:=
 Rz S m G a0 h0 hv hL λa ha=>h a ha _ λa' h1 h2=>⟨a',h1,h2,.refl _ _⟩
end
end Go.Proofs.YtdnpdghlggbklaaGreatDoor.Am
