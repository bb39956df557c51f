/- A part of the proof; the statement is proved in the last part. -/
import Derived.Test.YtdnpdghlggbklaaGreatDoorQsk
set_option linter.unusedSimpArgs false
set_option linter.unusedVariables false
namespace Go.Proofs.YtdnpdghlggbklaaGreatDoor.Am
section
set_option maxRecDepth 100000
set_option maxHeartbeats 1000000
theorem dC(i:Int)(n:Nat):ax Tryz.prog 67 [.Xw i,.Xw n] (.bool (inB i n)):=by
 refine xx _ _ _ _ ?_;unfold lP;generalize hQ:(λ(u:AV) (K:SH)=>u=AV.bool (inB i n)∧K=[])=Q
 repeat' (first|refine st ?_|refine sb λnb_ hnb_=>?_|refine s2 (λh=>?_) λh=>?_|fail)
 all_goals
  subst hQ;refine⟨?_,rfl⟩;simp_all[inB]<;>omega
def B5(op:Int):Bool:=decide (1≤op)&&decide (op≤5)
theorem Bf(op:Int):ax Tryz.prog 107 [.Xw op] (.bool (B5 op)):=by
 refine qx _ _ _ ?_;unfold jl;generalize hQ:(λ(u:AV) (K:SH)=>u=AV.bool (B5 op)∧K=[])=Q
 repeat' (first|refine st ?_|refine sb λnb_ hnb_=>?_|refine s2 (λh=>?_) λh=>?_|fail)
 all_goals
  subst hQ;refine⟨?_,rfl⟩;simp_all[B5]<;>omega
section
variable (w:aM)
theorem IL(i:Int):ax Tryz.prog 105 [.agg w.enc,.Xw i] (.bool (Lo w i)):=by
 have hw:=dC i w.cells.length;refine qw _ _ _ _ ?_;unfold jk Lo;cases h1:inB i w.cells.length with
 |false=>
  rw[h1]at hw
  repeat' (first|refine st ?_|(refine pf 67 ?_;refine pm (hw) ?_)|refine sb λnb_ hnb_=>?_|refine s2 (λh=>?_) λh=>?_|fail)
  exact⟨rfl,rfl⟩
 |true=>
  rw[h1]at hw;have hx:=dK (f:=aV.enc) h1;obtain⟨k,rfl⟩:=Xb (ft h1);unfold aV.enc at hx;rw[WP]at hx
  repeat' (first|refine st ?_|(refine pf 67 ?_;refine pm (hw) ?_)|refine sb λnb_ hnb_=>?_|refine s2 (λh=>?_) λh=>?_|fail)
  exact⟨rfl,rfl⟩
theorem Kd(i n:Int):ax Tryz.prog 106 [.agg w.enc,.Xw i,.Xw n] (.bool (J1 w i n)):=by
 have hw:=dC i w.cells.length;refine sO _ _ _ _ _ ?_;unfold ki;generalize hQ:(λ(u:AV) (K:SH)=>u=AV.bool (J1 w i n)∧K=[])=Q;have hq:∀b,J1 w i n=b→Q (.bool b) []:=λb hb=>by subst hQ;exact⟨by rw[hb],rfl⟩
 clear hQ;cases h1:inB i w.cells.length with
 |false=>
  rw[h1]at hw
  repeat' (first|refine st ?_|(refine pf 67 ?_;refine pm (hw) ?_)|refine sb λnb_ hnb_=>?_|refine s2 (λh=>?_) λh=>?_|fail)
  exact hq _ (by simp[J1,h1])
 |true=>
  rw[h1]at hw;have hx:=dK (f:=aV.enc) h1;obtain⟨k,rfl⟩:=Xb (ft h1);unfold aV.enc at hx;rw[WP]at hx
  repeat' (first|refine st ?_|(refine pf 67 ?_;refine pm (hw) ?_)|refine sb λnb_ hnb_=>?_|refine s2 (λh=>?_) λh=>?_|fail)
  all_goals exact hq _ (by simp_all[J1])
theorem Gd(i:Int)(rw_:Bool):ax Tryz.prog 65 [.agg w.enc,.Xw i,.bool rw_] (.bool (Iz w i rw_)):=by
 have hw:=dC i w.locks.length;refine xw _ _ _ _ _ ?_;unfold lO Iz;cases h1:inB i w.locks.length with
 |false=>
  rw[h1]at hw
  repeat' (first|refine st ?_|(refine pf 67 ?_;refine pm (hw) ?_)|refine sb λnb_ hnb_=>?_|refine s2 (λh=>?_) λh=>?_|fail)
  exact⟨rfl,rfl⟩
 |true=>
  rw[h1]at hw;obtain⟨k,rfl⟩:=Xb (ft h1);have hk:k<w.locks.length:=by have:=(aw.1 h1).2;omega
  have hx:=ay (f:=bV.enc) hk;unfold bV.enc at hx
  repeat' (first|refine st ?_|(refine pf 67 ?_;refine pm (hw) ?_)|refine sb λnb_ hnb_=>?_|refine s2 (λh=>?_) λh=>?_|fail)
  refine⟨congrArg AV.bool ?_,rfl⟩;rw[WP,Xf,VK hk];simp only[Xh,Bool.true_and];generalize w.locks[k].rw=r;cases r<;>cases rw_<;>rfl
end
def IM(n:Nat)(i:bj):Bool:=if i.op=5 then inB i.a n else if i.op=10 then inB i.b n else true
theorem On(n a:Int):(Pn n a).2=decide (n=4∨n=5):=by
 unfold Pn
 repeat' split
 all_goals simp_all
theorem Mk(n a b:Int):(Dr n a b).2=decide (6≤n∧n≤18):=by
 by_cases h:6≤n∧n≤18
 ·rw[decide_eq_true h];have:n=6∨n=7∨n=8∨n=9∨n=10∨n=11∨n=12∨n=13∨n=14∨n=15∨n=16∨n=17∨n=18:=by omega
  unfold Dr;rcases this with rfl|rfl|rfl|rfl|rfl|rfl|rfl|rfl|rfl|rfl|rfl|rfl|rfl<;>rfl
 ·rw[decide_eq_false h];unfold Dr;rw[if_neg Xr,if_neg Xr,if_neg Xr,if_neg Xr,if_neg Xr,if_neg Xr,if_neg Xr,if_neg Xr,if_neg Xr,if_neg Xr,if_neg Xr,if_neg Xr,if_neg Xr]
theorem G1(w:aM)(n:Nat)(i:bj):ax Tryz.prog 69 [.agg w.enc,.Xw n,.agg i.enc] (.bool (J2 w i&&IM n i)):=by
 obtain⟨op,ia,ib,ic,m,site⟩:=i;refine ld _ _ _ _ _ ?_;unfold fH;have h1:=dC ia n;have h2:=dC ib n;have hc:=dC ia w.conds.length;have ht:=dC ia w.threads.length;have hf:=dC ia w.futures.length;have hg:=dC ib w.futures.length;have hu:=II m 0;have hbn:=Gb m 0 0;unfold GX at hu hbn;rw[On]at hu;rw[Mk]at hbn;have hs:=IL w;have ha:=Kd w;have hl:=Gd w;generalize hQ:(λ(u:AV) (K:SH)=>u=AV.bool (J2 w ⟨op,ia,ib,ic,m,site⟩&&IM n ⟨op,ia,ib,ic,m,site⟩)∧K=[])=Q;have hq:∀b:Bool,(J2 w ⟨op,ia,ib,ic,m,site⟩&&IM n ⟨op,ia,ib,ic,m,site⟩)=b→Q (.bool b) []:=λb hb=>by subst hb;subst hQ;exact⟨rfl,rfl⟩
 clear hQ
 repeat' (first|refine st ?_|(refine pf 67 ?_;refine pm (h1) ?_)|(refine pf 67 ?_;refine pm (h2) ?_)|(refine pf 67 ?_;refine pm (hc) ?_)|(refine pf 67 ?_;refine pm (ht) ?_)|(refine pf 67 ?_;refine pm (hf) ?_)|(refine pf 67 ?_;refine pm (hg) ?_)|(refine pf 103 ?_;refine pm (hu) ?_)|(refine pf 104 ?_;refine pm (hbn) ?_)|(refine pf 105 ?_;refine pm (hs _) ?_)|(refine pf 106 ?_;refine pm (ha _ _) ?_)|(refine pf 65 ?_;refine pm (hl _ _) ?_)|refine sb λnb_ hnb_=>?_|refine s2 (λh=>?_) λh=>?_|fail)
 all_goals
  refine hq _ ?_;simp only[decide_eq_true_eq,decide_eq_false_iff_not]at *;unfold J2 IM
  first
   |(subst_vars;rfl)
   |(subst_vars;simp;done)
   |(simp_all;done)
end
section
section
variable {L:SH} {K:AV→Prop} {KL:R} {KS:SH→Prop}
theorem P9(h:∀b,b∉L.names→KL (.mp b) ((b,⟨0,[]⟩)::L)):W.mkmap L KL:=⟨h⟩
theorem Oo{z v:AV}{ok:Bool}{b:Nat}{s:List UInt8}{x:Blk}(hm:(b,x)∈L)(h1:x.rows.all vN=true)(h2:W0.found z ok (gv s x.rows 0)=v)(k:K v):W.look z ok (.mp b) (.str s) L K:=⟨x,hm,h1,by rw[h2];exact k⟩
theorem Ut{v:AV}{b:Nat}{s:List UInt8}{x:Blk}{rows:List (List AV)}{L':SH}(hu:CC b x ⟨x.size,rows⟩ L L')(h1:x.rows.all vN=true)(h2:v.konst=true)(h3:W0.putR s v x.rows=rows)(k:KS L'):W.mup (.mp b) (.str s) v L KS:=⟨x,L',h1,h2,by rw[h3];exact hu,k⟩
theorem Sq{s:List UInt8}(h:∀b,b∉L.names→KL (.it b) ((b,⟨0,[[.str s,.Xw 0]]⟩)::L)):W.rngS (.str s) L KL:=⟨s,rfl,h⟩
theorem Ml{b n:Nat}{s:List UInt8}{k:IntKind}{pos:Int}(hm:(b,(⟨n,[[.str s,.int k pos]]⟩:Blk))∈L)(h:¬pos<s.length)(hk:KL (.tup [.bool false]) L):W.nxt (.it b) L KL:=⟨_,s,k,pos,hm,rfl,by rw[if_neg h];exact hk⟩
theorem Uu{b n:Nat}{s:List UInt8}{k:IntKind}{pos:Nat}{L':SH}(hm:(b,(⟨n,[[.str s,.int k (pos:Int)]]⟩:Blk))∈L)(h:pos<s.length)(hu:CC b ⟨n,[[.str s,.int k (pos:Int)]]⟩ ⟨n,[[.str s,.Xw ((pos+(Utf8.decode ⟨s.toArray⟩ pos).2:Nat):Int)]]⟩ L L')
  (hk:KL (.tup [.bool true,.Xw (pos:Int),.int .i32 (Utf8.decode ⟨s.toArray⟩ pos).1]) L'):W.nxt (.it b) L KL:=⟨_,s,k,pos,hm,rfl,by
 rw[if_pos Xr];simp only[WP];exact⟨L',hu,hk⟩⟩
end
theorem DJ{α:Type}(S:α→List AV×SH)(m:α→Nat)(G:α→Prop){B:List AV→SH→W.Kn→Prop}{vs:List AV}{L:SH}(a0:α)(h0:G a0)(hv:vs=(S a0).1)(hL:L=(S a0).2)
  (h:∀a,G a→∀nx:W.Kn,(∀a',G a'→m a'<m a→nx (S a').1 (S a').2)→B (S a).1 (S a).2 nx):W.loop B vs L:=
 Px S m G a0 h0 hv hL λa ha=>h a ha _ λa' h1 h2=>⟨a',h1,h2,.refl _ _⟩
end
end Go.Proofs.YtdnpdghlggbklaaGreatDoor.Am
