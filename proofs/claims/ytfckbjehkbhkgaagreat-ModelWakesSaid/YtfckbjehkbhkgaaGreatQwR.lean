/- part -/
import Derived.Test.YtfckbjehkbhkgaaGreatQwQ
set_option linter.all false
set_option maxRecDepth 100000
set_option maxHeartbeats 0
namespace Go.Proofs.YtfckbjehkbhkgaaGreat.Am
def aab{x:AV}{A B j:Prop}(h:wk x A j)(u:j->B):wk x A B:=by unfold wk at h ⊢;exact⟨h.h.imp_right λg=>⟨g.1,u g.2⟩⟩
def S7(d:Nat)(hU:eY d)(hU0:eY 0)(hd9:d<=5):S2 (d+1):=by
 intro bm bt t a th le se tx at_ lo o ar k E ha M N Z;refine ac.fz (kZ _ _ _ _ ?_);refine vw ?_;generalize hQ:(λ(v:AV) (L:SH)=>∃v2 L2,ax [v] L [v2] L2/\∃(v:AV) (a':Nat) (th' le':Int) (se' tx' at' lo':Bool) (o':Option Nat) (S:List bU),v2=v/\S1 (d+1) v/\a'<=t.length/\(o'=none->S=[])/\k<=S.length/\L2=(bm,bV bt th' le' se' tx' at' lo' o' k)::(bt,az t a')::ab o' 1 (S.map ay))=Q;have hb:dw (d+1)=10*dw d:=by simp only[dw,Nat.pow_succ];omega
 have B:100<=dw d:=by unfold dw;have:1<=10^d:=Nat.one_le_pow _ _ acR;omega
 have u:dw d<=2^30:=by unfold dw;have:10^d<=10^5:=Nat.pow_le_pow_right acR hd9;omega
 have hb0:dw 0=100:=by decide
 have G:QS Q bm bt k t (10*dw d):=λx v a' th' le' se' tx' at' lo' o' S L L1 L2 L3 h1 h2 h3 h4 h5 h6 h7 h8=>by subst hQ;exact⟨_,_,D6 h1 h2 h3 h4,_,a',th',le',se',tx',at',lo',o',S,rfl,⟨x,rfl,acN⟩,h6,h7,h8,rfl⟩
 clear hQ hb;have e1:IntKind.i64.wrap (((d+1:Nat):Int)-1)=(d:Int):=by rw[abg _ acN];omega
 have dp:decide ((0:Int)<((d+1:Nat):Int))=true:=by simp
 have Y:10*dw d<=10*dw d:=Fd _;have O:100<=10*dw d:=by omega
 unfold bV nQ
 repeat' (first|refine sx ?_|((with_reducible refine aN 92 ?_);(refine ij E acO rp (λD a_ hr_ j=>?_)))|refine sb λnb_ hnb_=>?_|fail)
 have hr:D<18:=by omega
 generalize hLL:IntKind.i64.wrap (le-1)=le2;have key:∀ns:Bool,gI Q ((bt,az t a_)::(nb_,⟨11,[gJ]⟩)::(bm,bV bt th le2 se tx at_ lo o k)::ab o 1 (ar.map ay)) (.ptr bm 0 0) (.acU ((d+1:Nat):Int)) (D:Int) (.ptr nb_ 0 0) (.bool ns):=by
  intro ns;have hcases:D<4\/D=4\/D=5\/D=6\/D=7\/D=8\/D=9\/D=10\/D=11\/D=12\/D=13\/D=14\/D=15\/D=16\/D=17:=by omega
  rcases hcases with h4|rfl|rfl|rfl|rfl|rfl|rfl|rfl|rfl|rfl|rfl|rfl|rfl|rfl|rfl
  .exact Wc (d:=0) (r:=D) G E j M N h4 O
  .exact Wd (d:=0) (r:=0) G E j M N O
  .exact We (d:=0) (r:=0) G E j M N O
  .exact Z7 (r:=0) G E j M N hU Z B u Y e1 dp
  .exact Z8 (r:=0) G E j M N hU Z B u Y e1 dp
  .exact Z9 (r:=0) G E j M N hU Z B u Y e1 dp
  .exact aaa (r:=0) G E j M N hU Z B u Y e1 dp
  .exact X3 (r:=0) G E j M N hU Z B u Y e1 dp
  .exact X4 (r:=0) G E j M N hU Z B u Y e1 dp
  .exact X5 (r:=0) G E j M N hU Z B u Y e1 dp hU0 hb0
  .exact X6 (r:=0) G E j M N hU Z B u Y e1 dp
  .exact X7 (r:=0) G E j M N hU Z B u Y e1 dp
  .exact X8 (r:=0) G E j M N hU Z B u Y e1 dp
  .exact S5 (d:=0) (r:=0) G E j M N O
  .exact S6 (d:=0) (r:=0) G E j M N O
 cases tx<;>rcases Bool.eq_false_or_eq_true (decide (0<le2))with h0|h0
 all_goals
  rw[h0]
  repeat' (first|refine sy ?_|intro)
  exact aab (key _) λh=>NP h
def aac{Q:R}{M bt O k r a w d:Nat}{t:List UInt8}{th le:Int}{se tx at_ Y:Bool}{o:Option Nat}{ar:List bU}{N:Bool}(Z:QS Q M bt k t w)(ht:t.length<2^63)(ha:a<=t.length)(ho:o=none->ar=[])(hk:k<=ar.length)(h6:6<=r)(h15:r<=15)(B:N=false)(hw:100<=w):gI Q ((bt,az t a)::(O,⟨11,[gJ]⟩)::(M,bV bt th le se tx at_ Y o k)::ab o 1 (ar.map ay)) (.ptr M 0 0) (.acU ((0:Nat):Int)) r (.ptr O 0 0) (.bool N):=by
 have G:=cW 0 acR;have E:=cW 1 acR;unfold gI bV nQ QS gJ at *;subst B;have j:r=6\/r=7\/r=8\/r=9\/r=10\/r=11\/r=12\/r=13\/r=14\/r=15:=by omega
 rcases j with rfl|rfl|rfl|rfl|rfl|rfl|rfl|rfl|rfl|rfl
 all_goals
  repeat' (first|refine sy ?_|((with_reducible refine aN 187 ?_);(first|(refine dN E acP ht acO rp rp (λS a_ u D=>?_))|(refine dN G acP ht acO rp rp (λS a_ u D=>?_))))|(refine pf 130 ?_;refine pm (dM _ _) ?_)|intro)
  exact Z (dH _ _) _ _ _ _ _ _ _ _ _ _ _ _ _ _ rp rp rp (.refl _) sz acO acO acO
def X9:S2 0:=by
 intro bm bt t a th le se tx at_ lo o ar k Y ha ho hk hd;refine ac.fz (kZ _ _ _ _ ?_);refine vw ?_;generalize hQ:(λ(v:AV) (L:SH)=>∃v2 L2,ax [v] L [v2] L2/\∃(v:AV) (a':Nat) (M S:Int) (N G Z O:Bool) (o':Option Nat) (B:List bU),v2=v/\S1 0 v/\a'<=t.length/\(o'=none->B=[])/\k<=B.length/\L2=(bm,bV bt M S N G Z O o' k)::(bt,az t a')::ab o' 1 (B.map ay))=Q;have hb0:dw 0=100:=by decide
 have hq:QS Q bm bt k t (100):=λx v a' M S N G Z O o' B L L1 L2 L3 h1 h2 h3 h4 h5 h6 h7 h8=>by subst hQ;exact⟨_,_,D6 h1 h2 h3 h4,_,a',M,S,N,G,Z,O,o',B,rfl,⟨x,rfl,acN⟩,h6,h7,h8,rfl⟩
 clear hQ;have j:100<=100:=Fd _;unfold bV nQ
 repeat' (first|refine sx ?_|((with_reducible refine aN 92 ?_);(refine ij Y acO rp (λD a_ hr_ u=>?_)))|refine sb λnb_ hnb_=>?_|fail)
 have hr:D<18:=by omega
 generalize hLL:IntKind.i64.wrap (le-1)=le2;have key:gI Q ((bt,az t a_)::(nb_,⟨11,[gJ]⟩)::(bm,bV bt th le2 se tx at_ lo o k)::ab o 1 (ar.map ay)) (.ptr bm 0 0) (.acU ((0:Nat):Int)) (D:Int) (.ptr nb_ 0 0) (.bool false):=by
  have E:D<4\/D=4\/D=5\/(6<=D/\D<=15)\/D=16\/D=17:=by omega
  rcases E with h4|rfl|rfl|h4|rfl|rfl
  .exact Wc (d:=0) (r:=D) hq Y u ho hk h4 j
  .exact Wd (d:=0) (r:=0) hq Y u ho hk j
  .exact We (d:=0) (r:=0) hq Y u ho hk j
  .exact aac (d:=0) hq Y u ho hk h4.1 h4.2 rfl j
  .exact S5 (d:=0) (r:=0) hq Y u ho hk j
  .exact S6 (d:=0) (r:=0) hq Y u ho hk j
 exact aab key λh=>NP h
def M8:eY 0:=IK 0 X9
def Ya:eY 1:=IK 1 (S7 0 M8 M8 acR)
def Yb:eY 2:=IK 2 (S7 1 Ya M8 acR)
