/- A part of the proof; the statement is proved in the last part. -/
import Derived.Test.YtbofdbhnbodbiaaGreatDoorQvO
set_option linter.all false
set_option maxRecDepth 100000
set_option maxHeartbeats 20000000
namespace Go.Proofs.YtbofdbhnbodbiaaGreatDoor.Am
def Rw{x:AV}{A B j:Prop}(h:wk x A j)(u:j->B):wk x A B:=by unfold wk at h ⊢;exact⟨h.h.imp_right λg=>⟨g.1,u g.2⟩⟩
def Lf(d:Nat)(hU:dF d)(hU0:dF 0)(hd9:d<=5):La (d+1):=by
 intro bm bt t a th le se tx at_ lo o ar k E ha M N Z;refine ac.fz (jn _ _ _ _ ?_);refine vw ?_;generalize hQ:(λ(v:AV) (L:SH)=>∃v2 L2,az [v] L [v2] L2/\∃(v:AV) (a':Nat) (th' le':Int) (se' tx' at' lo':Bool) (o':Option Nat) (S:List bu),v2=v/\K9 (d+1) v/\a'<=t.length/\(o'=none->S=[])/\k<=S.length/\L2=(bm,bI bt th' le' se' tx' at' lo' o' k)::(bt,aY t a')::ab o' 1 (S.map au))=Q;have hb:cy (d+1)=10*cy d:=by simp only[cy,Nat.pow_succ];omega
 have B:100<=cy d:=by unfold cy;have:1<=10^d:=Nat.one_le_pow _ _ Ue;omega
 have u:cy d<=2^30:=by unfold cy;have:10^d<=10^5:=Nat.pow_le_pow_right Ue hd9;omega
 have hb0:cy 0=100:=by decide
 have G:QS Q bm bt k t (10*cy d):=λx v a' th' le' se' tx' at' lo' o' S L L1 L2 L3 h1 h2 h3 h4 h5 h6 h7 h8=>by subst hQ;exact⟨_,_,zM h1 h2 h3 h4,_,a',th',le',se',tx',at',lo',o',S,rfl,⟨x,rfl,Ua⟩,h6,h7,h8,rfl⟩
 clear hQ hb;have e1:IntKind.i64.wrap (((d+1:Nat):Int)-1)=(d:Int):=by rw[Te _ Ua];omega
 have dp:decide ((0:Int)<((d+1:Nat):Int))=true:=by simp
 have Y:10*cy d<=10*cy d:=Fd _;have O:100<=10*cy d:=by omega
 unfold bI lz
 repeat' (first|refine st ?_|((with_reducible refine bb 56 ?_);(refine fL E Ub rp (λD a_ hr_ j=>?_)))|refine sb λnb_ hnb_=>?_|fail)
 have hr:D<18:=by omega
 generalize hLL:IntKind.i64.wrap (le-1)=le2;have key:∀ns:Bool,fb Q ((bt,aY t a_)::(nb_,⟨11,[fe]⟩)::(bm,bI bt th le2 se tx at_ lo o k)::ab o 1 (ar.map au)) (.ptr bm 0 0) (.Uf ((d+1:Nat):Int)) (D:Int) (.ptr nb_ 0 0) (.bool ns):=by
  intro ns;have hcases:D<4\/D=4\/D=5\/D=6\/D=7\/D=8\/D=9\/D=10\/D=11\/D=12\/D=13\/D=14\/D=15\/D=16\/D=17:=by omega
  rcases hcases with h4|rfl|rfl|rfl|rfl|rfl|rfl|rfl|rfl|rfl|rfl|rfl|rfl|rfl|rfl
  .exact Nu (d:=0) (r:=D) G E j M N h4 O
  .exact Nv (d:=0) (r:=0) G E j M N O
  .exact Nw (d:=0) (r:=0) G E j M N O
  .exact Rs (r:=0) G E j M N hU Z B u Y e1 dp
  .exact Rt (r:=0) G E j M N hU Z B u Y e1 dp
  .exact Ru (r:=0) G E j M N hU Z B u Y e1 dp
  .exact Rv (r:=0) G E j M N hU Z B u Y e1 dp
  .exact Pd (r:=0) G E j M N hU Z B u Y e1 dp
  .exact Pe (r:=0) G E j M N hU Z B u Y e1 dp
  .exact Pf (r:=0) G E j M N hU Z B u Y e1 dp hU0 hb0
  .exact Pg (r:=0) G E j M N hU Z B u Y e1 dp
  .exact Ph (r:=0) G E j M N hU Z B u Y e1 dp
  .exact Pi (r:=0) G E j M N hU Z B u Y e1 dp
  .exact Ld (d:=0) (r:=0) G E j M N O
  .exact Le (d:=0) (r:=0) G E j M N O
 cases tx<;>rcases Bool.eq_false_or_eq_true (decide (0<le2))with h0|h0
 all_goals
  rw[h0]
  repeat' (first|refine st ?_|refine sb λnb_ hnb_=>?_|fail)
  exact Rw (key _) λh=>GU h
def Rx{Q:R}{bm bt N k r a w d:Nat}{t:List UInt8}{th le:Int}{se tx at_ Z:Bool}{o:Option Nat}{ar:List bu}{M:Bool}(hq:QS Q bm bt k t w)(ht:t.length<2^40)(ha:a<=t.length)(ho:o=none->ar=[])(hk:k<=ar.length)(h6:6<=r)(h15:r<=15)(B:M=false)(hw:100<=w):fb Q ((bt,aY t a)::(N,⟨11,[fe]⟩)::(bm,bI bt th le se tx at_ Z o k)::ab o 1 (ar.map au)) (.ptr bm 0 0) (.Uf ((0:Nat):Int)) r (.ptr N 0 0) (.bool M):=by
 have G:=cb 0 Ue;have E:=cb 1 Ue;unfold fb bI lz QS fe at *;subst B;have j:r=6\/r=7\/r=8\/r=9\/r=10\/r=11\/r=12\/r=13\/r=14\/r=15:=by omega
 rcases j with rfl|rfl|rfl|rfl|rfl|rfl|rfl|rfl|rfl|rfl
 all_goals
  repeat' (first|refine st ?_|((with_reducible refine bb 141 ?_);(first|(refine cL E Uc ht Ub rp rp (λS a_ u D=>?_))|(refine cL G Uc ht Ub rp rp (λS a_ u D=>?_))))|(refine pf 58 ?_;refine pm (cK _ _) ?_)|refine sb λY O=>?_|fail)
  exact hq (cI _ _) _ _ _ _ _ _ _ _ _ _ _ _ _ _ rp rp rp (.refl _) sz Ub Ub Ub
def Pj:La 0:=by
 intro bm bt t a th le se tx at_ lo o ar k Y ha ho hk hd;refine ac.fz (jn _ _ _ _ ?_);refine vw ?_;generalize hQ:(λ(v:AV) (L:SH)=>∃v2 L2,az [v] L [v2] L2/\∃(v:AV) (a':Nat) (M S:Int) (N G Z O:Bool) (o':Option Nat) (B:List bu),v2=v/\K9 0 v/\a'<=t.length/\(o'=none->B=[])/\k<=B.length/\L2=(bm,bI bt M S N G Z O o' k)::(bt,aY t a')::ab o' 1 (B.map au))=Q;have hb0:cy 0=100:=by decide
 have hq:QS Q bm bt k t (100):=λx v a' M S N G Z O o' B L L1 L2 L3 h1 h2 h3 h4 h5 h6 h7 h8=>by subst hQ;exact⟨_,_,zM h1 h2 h3 h4,_,a',M,S,N,G,Z,O,o',B,rfl,⟨x,rfl,Ua⟩,h6,h7,h8,rfl⟩
 clear hQ;have j:100<=100:=Fd _;unfold bI lz
 repeat' (first|refine st ?_|((with_reducible refine bb 56 ?_);(refine fL Y Ub rp (λD a_ hr_ u=>?_)))|refine sb λnb_ hnb_=>?_|fail)
 have hr:D<18:=by omega
 generalize hLL:IntKind.i64.wrap (le-1)=le2;have key:fb Q ((bt,aY t a_)::(nb_,⟨11,[fe]⟩)::(bm,bI bt th le2 se tx at_ lo o k)::ab o 1 (ar.map au)) (.ptr bm 0 0) (.Uf ((0:Nat):Int)) (D:Int) (.ptr nb_ 0 0) (.bool false):=by
  have E:D<4\/D=4\/D=5\/(6<=D/\D<=15)\/D=16\/D=17:=by omega
  rcases E with h4|rfl|rfl|h4|rfl|rfl
  .exact Nu (d:=0) (r:=D) hq Y u ho hk h4 j
  .exact Nv (d:=0) (r:=0) hq Y u ho hk j
  .exact Nw (d:=0) (r:=0) hq Y u ho hk j
  .exact Rx (d:=0) hq Y u ho hk h4.1 h4.2 rfl j
  .exact Ld (d:=0) (r:=0) hq Y u ho hk j
  .exact Le (d:=0) (r:=0) hq Y u ho hk j
 exact Rw key λh=>GU h
def Gn:dF 0:=C3 0 Pj
def Pk:dF 1:=C3 1 (Lf 0 Gn Gn Ue)
def Pm:dF 2:=C3 2 (Lf 1 Pk Gn Ue)
end Go.Proofs.YtbofdbhnbodbiaaGreatDoor.Am
