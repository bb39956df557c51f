/- A part of the proof; the statement is proved in the last part. -/
import Derived.Test.YtdnpdghlggbklaaGreatDoorQtD
set_option linter.unusedSimpArgs false
set_option linter.unusedVariables false
namespace Go.Proofs.YtdnpdghlggbklaaGreatDoor.Am
section
set_option maxRecDepth 100000
theorem Ri(d:Nat)(hU:dy d)(hU0:dy 0)(hd9:d≤5):Rd (d+1):=by
 intro bm bt t a th le se tx at_ lo o ar k ht ha ho hk hd;refine af.fz (kj _ _ _ _ ?_);unfold gH;generalize hQ:(λ(v:AV) (L:SH)=>∃v2 L2,aG [v] L [v2] L2∧∃(v:AV) (a':Nat) (th' le':Int) (se' tx' at' lo':Bool) (o':Option Nat) (ar':List bC),v2=v∧Rc (d+1) v∧a'≤t.length∧(o'=none→ar'=[])∧k≤ar'.length∧L2=(bm,dx bt th' le' se' tx' at' lo' o' k)::(bt,aR t a')::ae o' 1 (ar'.map av))=Q;have hb:cB (d+1)=10*cB d:=by simp only[cB,Nat.pow_succ];omega
 have hb1:100≤cB d:=by unfold cB;have:1≤10^d:=Nat.one_le_pow _ _ ZN;omega
 have hb2:cB d≤2^30:=by unfold cB;have:10^d≤10^5:=Nat.pow_le_pow_right ZN hd9;omega
 have hb0:cB 0=100:=by decide
 have hq:QS Q bm bt k t (10*cB d):=λx v a' th' le' se' tx' at' lo' o' ar' L L1 L2 L3 h1 h2 h3 h4 h5 h6 h7 h8=>by subst hQ;exact⟨_,_,Gs h1 h2 h3 h4,_,a',th',le',se',tx',at',lo',o',ar',rfl,⟨x,rfl,ZJ⟩,h6,h7,h8,rfl⟩
 clear hQ hb;have e1:IntKind.i64.wrap (((d+1:Nat):Int)-1)=(d:Int):=by rw[YU _ ZJ];omega
 have dp:decide ((0:Int)<((d+1:Nat):Int))=true:=by simp
 have hw:10*cB d≤10*cB d:=X7 _;have hw1:100≤10*cB d:=by omega
 unfold dx mX
 repeat' (first|refine st ?_|((with_reducible refine bz 34 ?_);(refine fW ht ZK rp (λr_ a_ hr_ ha_=>?_)))|refine sb λnb_ hnb_=>?_|fail)
 have hr:r_<18:=by omega
 generalize hLL:IntKind.i64.wrap (le-1)=le2;have key:∀ns:Bool,fh Q ((bt,aR t a_)::(nb_,⟨11,[fi]⟩)::(bm,dx bt th le2 se tx at_ lo o k)::ae o 1 (ar.map av)) (.ptr bm 0 0) (.ZO ((d+1:Nat):Int)) (r_:Int) (.ptr nb_ 0 0) (.bool ns):=by
  intro ns;have hcases:r_<4∨r_=4∨r_=5∨r_=6∨r_=7∨r_=8∨r_=9∨r_=10∨r_=11∨r_=12∨r_=13∨r_=14∨r_=15∨r_=16∨r_=17:=by omega
  rcases hcases with h4|rfl|rfl|rfl|rfl|rfl|rfl|rfl|rfl|rfl|rfl|rfl|rfl|rfl|rfl
  ·exact Ts (d:=0) (r:=r_) hq ht ha_ ho hk h4 hw1
  ·exact Tt (d:=0) (r:=0) hq ht ha_ ho hk hw1
  ·exact Tu (d:=0) (r:=0) hq ht ha_ ho hk hw1
  ·exact Xl (r:=0) hq ht ha_ ho hk hU hd hb1 hb2 hw e1 dp
  ·exact Xm (r:=0) hq ht ha_ ho hk hU hd hb1 hb2 hw e1 dp
  ·exact Xn (r:=0) hq ht ha_ ho hk hU hd hb1 hb2 hw e1 dp
  ·exact Xo (r:=0) hq ht ha_ ho hk hU hd hb1 hb2 hw e1 dp
  ·exact Vh (r:=0) hq ht ha_ ho hk hU hd hb1 hb2 hw e1 dp
  ·exact Vi (r:=0) hq ht ha_ ho hk hU hd hb1 hb2 hw e1 dp
  ·exact Vj (r:=0) hq ht ha_ ho hk hU hd hb1 hb2 hw e1 dp hU0 hb0
  ·exact Vk (r:=0) hq ht ha_ ho hk hU hd hb1 hb2 hw e1 dp
  ·exact Vl (r:=0) hq ht ha_ ho hk hU hd hb1 hb2 hw e1 dp
  ·exact Vm (r:=0) hq ht ha_ ho hk hU hd hb1 hb2 hw e1 dp
  ·exact Rg (d:=0) (r:=0) hq ht ha_ ho hk hw1
  ·exact Rh (d:=0) (r:=0) hq ht ha_ ho hk hw1
 cases tx<;>rcases Bool.eq_false_or_eq_true (decide (0<le2))with h0|h0
 all_goals
  rw[h0]
  repeat' (first|refine st ?_|refine sb λnb_ hnb_=>?_|fail)
  exact key _
theorem Xp{Q:R}{bm bt nb k r a w d:Nat}{t:List UInt8}{th le:Int}{se tx at_ lo:Bool}{o:Option Nat}{ar:List bC}{ns:Bool}(hq:QS Q bm bt k t w)(ht:t.length<2^40)(ha:a≤t.length)(ho:o=none→ar=[])(hk:k≤ar.length)(h6:6≤r)(h15:r≤15)(hns:ns=false)(hw:100≤w):fh Q ((bt,aR t a)::(nb,⟨11,[fi]⟩)::(bm,dx bt th le se tx at_ lo o k)::ae o 1 (ar.map av)) (.ptr bm 0 0) (.ZO ((0:Nat):Int)) r (.ptr nb 0 0) (.bool ns):=by
 have hE0:=cj 0 ZN;have hE1:=cj 1 ZN;unfold fh dx mX QS fi at *;subst hns;have hcases:r=6∨r=7∨r=8∨r=9∨r=10∨r=11∨r=12∨r=13∨r=14∨r=15:=by omega
 rcases hcases with rfl|rfl|rfl|rfl|rfl|rfl|rfl|rfl|rfl|rfl
 all_goals
  repeat' (first|refine st ?_|((with_reducible refine bz 97 ?_);(first|(refine cH hE1 ZL ht ZK rp rp (λx_ a_ hx_ ha_=>?_))|(refine cH hE0 ZL ht ZK rp rp (λx_ a_ hx_ ha_=>?_))))|(refine pf 36 ?_;refine pm (cG _ _) ?_)|refine sb λnb_ hnb_=>?_|fail)
  exact hq (cF _ _) _ _ _ _ _ _ _ _ _ _ _ _ _ _ rp rp rp (.refl _) sz ZK ZK ZK
theorem Vn:Rd 0:=by
 intro bm bt t a th le se tx at_ lo o ar k ht ha ho hk hd;refine af.fz (kj _ _ _ _ ?_);unfold gH;generalize hQ:(λ(v:AV) (L:SH)=>∃v2 L2,aG [v] L [v2] L2∧∃(v:AV) (a':Nat) (th' le':Int) (se' tx' at' lo':Bool) (o':Option Nat) (ar':List bC),v2=v∧Rc 0 v∧a'≤t.length∧(o'=none→ar'=[])∧k≤ar'.length∧L2=(bm,dx bt th' le' se' tx' at' lo' o' k)::(bt,aR t a')::ae o' 1 (ar'.map av))=Q;have hb0:cB 0=100:=by decide
 have hq:QS Q bm bt k t (100):=λx v a' th' le' se' tx' at' lo' o' ar' L L1 L2 L3 h1 h2 h3 h4 h5 h6 h7 h8=>by subst hQ;exact⟨_,_,Gs h1 h2 h3 h4,_,a',th',le',se',tx',at',lo',o',ar',rfl,⟨x,rfl,ZJ⟩,h6,h7,h8,rfl⟩
 clear hQ;have hw1:100≤100:=X7 _;unfold dx mX
 repeat' (first|refine st ?_|((with_reducible refine bz 34 ?_);(refine fW ht ZK rp (λr_ a_ hr_ ha_=>?_)))|refine sb λnb_ hnb_=>?_|fail)
 have hr:r_<18:=by omega
 generalize hLL:IntKind.i64.wrap (le-1)=le2;have key:fh Q ((bt,aR t a_)::(nb_,⟨11,[fi]⟩)::(bm,dx bt th le2 se tx at_ lo o k)::ae o 1 (ar.map av)) (.ptr bm 0 0) (.ZO ((0:Nat):Int)) (r_:Int) (.ptr nb_ 0 0) (.bool false):=by
  have hcases:r_<4∨r_=4∨r_=5∨(6≤r_∧r_≤15)∨r_=16∨r_=17:=by omega
  rcases hcases with h4|rfl|rfl|h4|rfl|rfl
  ·exact Ts (d:=0) (r:=r_) hq ht ha_ ho hk h4 hw1
  ·exact Tt (d:=0) (r:=0) hq ht ha_ ho hk hw1
  ·exact Tu (d:=0) (r:=0) hq ht ha_ ho hk hw1
  ·exact Xp (d:=0) hq ht ha_ ho hk h4.1 h4.2 rfl hw1
  ·exact Rg (d:=0) (r:=0) hq ht ha_ ho hk hw1
  ·exact Rh (d:=0) (r:=0) hq ht ha_ ho hk hw1
 exact key
theorem Mp:dy 0:=I9 0 Vn
theorem Vo:dy 1:=I9 1 (Ri 0 Mp Mp ZN)
theorem Vp:dy 2:=I9 2 (Ri 1 Vo Mp ZN)
end
end Go.Proofs.YtdnpdghlggbklaaGreatDoor.Am
