/- A part of the proof; the statement is proved in the last part. -/
import Derived.Test.YtdnpdghlggbklaaGreatDoorQsC
set_option linter.unusedSimpArgs false
set_option linter.unusedVariables false
namespace Go.Proofs.YtdnpdghlggbklaaGreatDoor.Am
section
set_option maxRecDepth 100000
theorem Pc(d:Nat)(hU:dg d)(hU0:dg 0)(hd9:d≤5):O7 (d+1):=by
 intro bm bt t a th le se tx at_ lo o ar k ht ha ho hk hd;refine af.fz (jJ _ _ _ _ ?_);unfold gm;generalize hQ:(λ(v:AV) (L:SH)=>∃v2 L2,aF [v] L [v2] L2∧∃(v:AV) (a':Nat) (th' le':Int) (se' tx' at' lo':Bool) (o':Option Nat) (ar':List aZ),v2=v∧O6 (d+1) v∧a'≤t.length∧(o'=none→ar'=[])∧k≤ar'.length∧L2=(bm,df bt th' le' se' tx' at' lo' o' k)::(bt,aO t a')::ae o' 1 (ar'.map aq))=Q;have hb:cq (d+1)=10*cq d:=by simp only[cq,Nat.pow_succ];omega
 have hb1:100≤cq d:=by unfold cq;have:1≤10^d:=Nat.one_le_pow _ _ Xv;omega
 have hb2:cq d≤2^30:=by unfold cq;have:10^d≤10^5:=Nat.pow_le_pow_right Xv hd9;omega
 have hb0:cq 0=100:=by decide
 have hq:QS Q bm bt k t (10*cq d):=λx v a' th' le' se' tx' at' lo' o' ar' L L1 L2 L3 h1 h2 h3 h4 h5 h6 h7 h8=>by subst hQ;exact⟨_,_,E3 h1 h2 h3 h4,_,a',th',le',se',tx',at',lo',o',ar',rfl,⟨x,rfl,Xr⟩,h6,h7,h8,rfl⟩
 clear hQ hb;have e1:IntKind.i64.wrap (((d+1:Nat):Int)-1)=(d:Int):=by rw[WA _ Xr];omega
 have dp:decide ((0:Int)<((d+1:Nat):Int))=true:=by simp
 have hw:10*cq d≤10*cq d:=VL _;have hw1:100≤10*cq d:=by omega
 unfold df me
 repeat' (first|refine st ?_|((with_reducible refine aY 34 ?_);(refine fC ht Xs rp (λr_ a_ hr_ ha_=>?_)))|refine sb λnb_ hnb_=>?_|fail)
 have hr:r_<18:=by omega
 generalize hLL:IntKind.i64.wrap (le-1)=le2;have key:∀ns:Bool,eN Q ((bt,aO t a_)::(nb_,⟨11,[eO]⟩)::(bm,df bt th le2 se tx at_ lo o k)::ae o 1 (ar.map aq)) (.ptr bm 0 0) (.Xw ((d+1:Nat):Int)) (r_:Int) (.ptr nb_ 0 0) (.bool ns):=by
  intro ns;have hcases:r_<4∨r_=4∨r_=5∨r_=6∨r_=7∨r_=8∨r_=9∨r_=10∨r_=11∨r_=12∨r_=13∨r_=14∨r_=15∨r_=16∨r_=17:=by omega
  rcases hcases with h4|rfl|rfl|rfl|rfl|rfl|rfl|rfl|rfl|rfl|rfl|rfl|rfl|rfl|rfl
  ·exact Rg (d:=0) (r:=r_) hq ht ha_ ho hk h4 hw1
  ·exact Rh (d:=0) (r:=0) hq ht ha_ ho hk hw1
  ·exact Ri (d:=0) (r:=0) hq ht ha_ ho hk hw1
  ·exact U1 (r:=0) hq ht ha_ ho hk hU hd hb1 hb2 hw e1 dp
  ·exact U2 (r:=0) hq ht ha_ ho hk hU hd hb1 hb2 hw e1 dp
  ·exact U3 (r:=0) hq ht ha_ ho hk hU hd hb1 hb2 hw e1 dp
  ·exact U4 (r:=0) hq ht ha_ ho hk hU hd hb1 hb2 hw e1 dp
  ·exact S5 (r:=0) hq ht ha_ ho hk hU hd hb1 hb2 hw e1 dp
  ·exact S6 (r:=0) hq ht ha_ ho hk hU hd hb1 hb2 hw e1 dp
  ·exact S7 (r:=0) hq ht ha_ ho hk hU hd hb1 hb2 hw e1 dp hU0 hb0
  ·exact S8 (r:=0) hq ht ha_ ho hk hU hd hb1 hb2 hw e1 dp
  ·exact S9 (r:=0) hq ht ha_ ho hk hU hd hb1 hb2 hw e1 dp
  ·exact Ta (r:=0) hq ht ha_ ho hk hU hd hb1 hb2 hw e1 dp
  ·exact Pa (d:=0) (r:=0) hq ht ha_ ho hk hw1
  ·exact Pb (d:=0) (r:=0) hq ht ha_ ho hk hw1
 cases tx<;>rcases Bool.eq_false_or_eq_true (decide (0<le2))with h0|h0
 all_goals
  rw[h0]
  repeat' (first|refine st ?_|refine sb λnb_ hnb_=>?_|fail)
  exact key _
theorem U5{Q:R}{bm bt nb k r a w d:Nat}{t:List UInt8}{th le:Int}{se tx at_ lo:Bool}{o:Option Nat}{ar:List aZ}{ns:Bool}(hq:QS Q bm bt k t w)(ht:t.length<2^40)(ha:a≤t.length)(ho:o=none→ar=[])(hk:k≤ar.length)(h6:6≤r)(h15:r≤15)(hns:ns=false)(hw:100≤w):eN Q ((bt,aO t a)::(nb,⟨11,[eO]⟩)::(bm,df bt th le se tx at_ lo o k)::ae o 1 (ar.map aq)) (.ptr bm 0 0) (.Xw ((0:Nat):Int)) r (.ptr nb 0 0) (.bool ns):=by
 have hE0:=ca 0 Xv;have hE1:=ca 1 Xv;unfold eN df me QS eO at *;subst hns;have hcases:r=6∨r=7∨r=8∨r=9∨r=10∨r=11∨r=12∨r=13∨r=14∨r=15:=by omega
 rcases hcases with rfl|rfl|rfl|rfl|rfl|rfl|rfl|rfl|rfl|rfl
 all_goals
  repeat' (first|refine st ?_|((with_reducible refine aY 97 ?_);(first|(refine cC hE1 Xt ht Xs rp rp (λx_ a_ hx_ ha_=>?_))|(refine cC hE0 Xt ht Xs rp rp (λx_ a_ hx_ ha_=>?_))))|(refine pf 36 ?_;refine pm (cB _ _) ?_)|refine sb λnb_ hnb_=>?_|fail)
  exact hq (cy _ _) _ _ _ _ _ _ _ _ _ _ _ _ _ _ rp rp rp (.refl _) sz Xs Xs Xs
theorem Tb:O7 0:=by
 intro bm bt t a th le se tx at_ lo o ar k ht ha ho hk hd;refine af.fz (jJ _ _ _ _ ?_);unfold gm;generalize hQ:(λ(v:AV) (L:SH)=>∃v2 L2,aF [v] L [v2] L2∧∃(v:AV) (a':Nat) (th' le':Int) (se' tx' at' lo':Bool) (o':Option Nat) (ar':List aZ),v2=v∧O6 0 v∧a'≤t.length∧(o'=none→ar'=[])∧k≤ar'.length∧L2=(bm,df bt th' le' se' tx' at' lo' o' k)::(bt,aO t a')::ae o' 1 (ar'.map aq))=Q;have hb0:cq 0=100:=by decide
 have hq:QS Q bm bt k t (100):=λx v a' th' le' se' tx' at' lo' o' ar' L L1 L2 L3 h1 h2 h3 h4 h5 h6 h7 h8=>by subst hQ;exact⟨_,_,E3 h1 h2 h3 h4,_,a',th',le',se',tx',at',lo',o',ar',rfl,⟨x,rfl,Xr⟩,h6,h7,h8,rfl⟩
 clear hQ;have hw1:100≤100:=VL _;unfold df me
 repeat' (first|refine st ?_|((with_reducible refine aY 34 ?_);(refine fC ht Xs rp (λr_ a_ hr_ ha_=>?_)))|refine sb λnb_ hnb_=>?_|fail)
 have hr:r_<18:=by omega
 generalize hLL:IntKind.i64.wrap (le-1)=le2;have key:eN Q ((bt,aO t a_)::(nb_,⟨11,[eO]⟩)::(bm,df bt th le2 se tx at_ lo o k)::ae o 1 (ar.map aq)) (.ptr bm 0 0) (.Xw ((0:Nat):Int)) (r_:Int) (.ptr nb_ 0 0) (.bool false):=by
  have hcases:r_<4∨r_=4∨r_=5∨(6≤r_∧r_≤15)∨r_=16∨r_=17:=by omega
  rcases hcases with h4|rfl|rfl|h4|rfl|rfl
  ·exact Rg (d:=0) (r:=r_) hq ht ha_ ho hk h4 hw1
  ·exact Rh (d:=0) (r:=0) hq ht ha_ ho hk hw1
  ·exact Ri (d:=0) (r:=0) hq ht ha_ ho hk hw1
  ·exact U5 (d:=0) hq ht ha_ ho hk h4.1 h4.2 rfl hw1
  ·exact Pa (d:=0) (r:=0) hq ht ha_ ho hk hw1
  ·exact Pb (d:=0) (r:=0) hq ht ha_ ho hk hw1
 exact key
theorem KG:dg 0:=HB 0 Tb
theorem Tc:dg 1:=HB 1 (Pc 0 KG KG Xv)
theorem Td:dg 2:=HB 2 (Pc 1 Tc KG Xv)
end
end Go.Proofs.YtdnpdghlggbklaaGreatDoor.Am
