/- part -/
import Derived.Test.YtfcfhjadaknphaaGreatDoorQxo
import Derived.Test.YtfcfhjadaknphaaGreatDoorQxp
set_option linter.all false
set_option maxRecDepth 100000
set_option maxHeartbeats 0
namespace Go.Proofs.YtfcfhjadaknphaaGreatDoor.Am
def VL{x:AV}{A B j:Prop}(h:wk x A j)(u:j->B):wk x A B:=by unfold wk at h ⊢;exact⟨h.h.imp_right λg=>⟨g.1,u g.2⟩⟩
def OF(d:Nat)(hU:eH d)(hU0:eH 0)(hd9:d<=5):OA (d+1):=by
 intro bm bt t a th le se tx at_ lo o ar k E ha M O hd;refine ac.fz (kM _ _ _ _ ?_);refine vw ?_;generalize hQ:(λ(v:AV) (L:SH)=>∃v2 L2,aE [v] L [v2] L2/\∃(v:AV) (a':Nat) (th' le':Int) (se' tx' at' lo':Bool) (o':Option Nat) (Y:List aO),v2=v/\Oz (d+1) v/\a'<=t.length/\(o'=none->Y=[])/\k<=Y.length/\L2=(bm,bY bt th' le' se' tx' at' lo' o' k)::(bt,bE t a')::ab o' 1 (Y.map av))=Q;have hb:cV (d+1)=10*cV d:=by simp only[cV,Nat.pow_succ];omega
 have B:100<=cV d:=by unfold cV;have:1<=10^d:=Nat.one_le_pow _ _ YG;omega
 have u:cV d<=2^30:=by unfold cV;have:10^d<=10^5:=Nat.pow_le_pow_right YG hd9;omega
 have hb0:cV 0=100:=by decide
 have G:QS Q bm bt k t (10*cV d):=λx v a' th' le' se' tx' at' lo' o' Y L L1 L2 L3 h1 h2 h3 h4 h5 h6 h7 h8=>by subst hQ;exact⟨_,_,B1 h1 h2 h3 h4,_,a',th',le',se',tx',at',lo',o',Y,rfl,⟨x,rfl,YC⟩,h6,h7,h8,rfl⟩
 clear hQ hb;have e1:IntKind.i64.wrap (((d+1:Nat):Int)-1)=(d:Int):=by rw[WY _ YC];omega
 have dp:decide ((0:Int)<((d+1:Nat):Int))=true:=by simp
 have Z:10*cV d<=10*cV d:=Fd _;have S:100<=10*cV d:=by omega
 unfold bY mY
 repeat' (first|refine sx ?_|((with_reducible refine aU 22 ?_);(refine g9 E YD rp (λD a_ hr_ j=>?_)))|refine sb λnb_ hnb_=>?_|fail)
 have hr:D<18:=by omega
 generalize hLL:IntKind.i64.wrap (le-1)=le2;have key:∀ns:Bool,gv Q ((bt,bE t a_)::(nb_,⟨11,[gw]⟩)::(bm,bY bt th le2 se tx at_ lo o k)::ab o 1 (ar.map av)) (.ptr bm 0 0) (.YJ ((d+1:Nat):Int)) (D:Int) (.ptr nb_ 0 0) (.bool ns):=by
  intro ns;have hcases:D<4\/D=4\/D=5\/D=6\/D=7\/D=8\/D=9\/D=10\/D=11\/D=12\/D=13\/D=14\/D=15\/D=16\/D=17:=by omega
  rcases hcases with h4|rfl|rfl|rfl|rfl|rfl|rfl|rfl|rfl|rfl|rfl|rfl|rfl|rfl|rfl
  .exact Rx (d:=0) (r:=D) G E j M O h4 S
  .exact Ry (d:=0) (r:=0) G E j M O S
  .exact Rz (d:=0) (r:=0) G E j M O S
  .exact VH (r:=0) G E j M O hU hd B u Z e1 dp
  .exact VI (r:=0) G E j M O hU hd B u Z e1 dp
  .exact VJ (r:=0) G E j M O hU hd B u Z e1 dp
  .exact VK (r:=0) G E j M O hU hd B u Z e1 dp
  .exact Tn (r:=0) G E j M O hU hd B u Z e1 dp
  .exact To (r:=0) G E j M O hU hd B u Z e1 dp
  .exact Tp (r:=0) G E j M O hU hd B u Z e1 dp hU0 hb0
  .exact Tq (r:=0) G E j M O hU hd B u Z e1 dp
  .exact Ts (r:=0) G E j M O hU hd B u Z e1 dp
  .exact Tt (r:=0) G E j M O hU hd B u Z e1 dp
  .exact OD (d:=0) (r:=0) G E j M O S
  .exact OE (d:=0) (r:=0) G E j M O S
 cases tx<;>rcases Bool.eq_false_or_eq_true (decide (0<le2))with h0|h0
 all_goals
  rw[h0]
  repeat' (first|refine sy ?_|intro)
  exact VL (key _) λh=>Ke h
def VM{Q:R}{bm bt O k r a w d:Nat}{t:List UInt8}{th le:Int}{se tx at_ Y:Bool}{o:Option Nat}{ar:List aO}{M:Bool}(Z:QS Q bm bt k t w)(ht:t.length<2^63)(ha:a<=t.length)(ho:o=none->ar=[])(hk:k<=ar.length)(h6:6<=r)(h15:r<=15)(B:M=false)(hw:100<=w):gv Q ((bt,bE t a)::(O,⟨11,[gw]⟩)::(bm,bY bt th le se tx at_ Y o k)::ab o 1 (ar.map av)) (.ptr bm 0 0) (.YJ ((0:Nat):Int)) r (.ptr O 0 0) (.bool M):=by
 have G:=cM 0 YG;have E:=cM 1 YG;unfold gv bY mY QS gw at *;subst B;have j:r=6\/r=7\/r=8\/r=9\/r=10\/r=11\/r=12\/r=13\/r=14\/r=15:=by omega
 rcases j with rfl|rfl|rfl|rfl|rfl|rfl|rfl|rfl|rfl|rfl
 all_goals
  repeat' (first|refine sy ?_|((with_reducible refine aU 86 ?_);(first|(refine db E YE ht YD rp rp (λS a_ u D=>?_))|(refine db G YE ht YD rp rp (λS a_ u D=>?_))))|(refine pf 25 ?_;refine pm (da _ _) ?_)|intro)
  exact Z (cP _ _) _ _ _ _ _ _ _ _ _ _ _ _ _ _ rp rp rp (.refl _) sz YD YD YD
def Tu:OA 0:=by
 intro bm bt t a th le se tx at_ lo o ar k Z ha ho hk hd;refine ac.fz (kM _ _ _ _ ?_);refine vw ?_;generalize hQ:(λ(v:AV) (L:SH)=>∃v2 L2,aE [v] L [v2] L2/\∃(v:AV) (a':Nat) (M Y:Int) (O G at' S:Bool) (o':Option Nat) (B:List aO),v2=v/\Oz 0 v/\a'<=t.length/\(o'=none->B=[])/\k<=B.length/\L2=(bm,bY bt M Y O G at' S o' k)::(bt,bE t a')::ab o' 1 (B.map av))=Q;have hb0:cV 0=100:=by decide
 have hq:QS Q bm bt k t (100):=λx v a' M Y O G at' S o' B L L1 L2 L3 h1 h2 h3 h4 h5 h6 h7 h8=>by subst hQ;exact⟨_,_,B1 h1 h2 h3 h4,_,a',M,Y,O,G,at',S,o',B,rfl,⟨x,rfl,YC⟩,h6,h7,h8,rfl⟩
 clear hQ;have j:100<=100:=Fd _;unfold bY mY
 repeat' (first|refine sx ?_|((with_reducible refine aU 22 ?_);(refine g9 Z YD rp (λD a_ hr_ u=>?_)))|refine sb λnb_ hnb_=>?_|fail)
 have hr:D<18:=by omega
 generalize hLL:IntKind.i64.wrap (le-1)=le2;have key:gv Q ((bt,bE t a_)::(nb_,⟨11,[gw]⟩)::(bm,bY bt th le2 se tx at_ lo o k)::ab o 1 (ar.map av)) (.ptr bm 0 0) (.YJ ((0:Nat):Int)) (D:Int) (.ptr nb_ 0 0) (.bool false):=by
  have E:D<4\/D=4\/D=5\/(6<=D/\D<=15)\/D=16\/D=17:=by omega
  rcases E with h4|rfl|rfl|h4|rfl|rfl
  .exact Rx (d:=0) (r:=D) hq Z u ho hk h4 j
  .exact Ry (d:=0) (r:=0) hq Z u ho hk j
  .exact Rz (d:=0) (r:=0) hq Z u ho hk j
  .exact VM (d:=0) hq Z u ho hk h4.1 h4.2 rfl j
  .exact OD (d:=0) (r:=0) hq Z u ho hk j
  .exact OE (d:=0) (r:=0) hq Z u ho hk j
 exact VL key λh=>Ke h
def Jy:eH 0:=FI 0 Tu
def Tv:eH 1:=FI 1 (OF 0 Jy Jy YG)
def Tw:eH 2:=FI 2 (OF 1 Tv Jy YG)
section
def FO(e:ae):Bool:=decide (e.op=0)&&decide (e.n=0)&&decide (e.name=[])&&decide (e.l.length=0)
theorem OY(x:ae):ao Tryz.prog 179 [.agg x.row] (.bool (FO x)):=by
 refine AN _ _ _ ?_;refine vw ?_
 repeat' (first|refine sy ?_|refine s2 ?_ ?_|intro)
 all_goals (refine⟨?_,rfl⟩;simp_all[FO]<;>omega)
def VY(op:Int):Bool:=decide (op<1)||decide (15<op)
def Wz(op:Int):Bool:=decide (op=2)||decide (op=3)||decide (op=7)||decide (op=8)
def VZ(op:Int)(name:aO):Bool:=(Wz op&&decide (name≠[]))||(!Wz op&&!cY name)
def VN(op:Int)(arg:aO):Bool:=(decide (op=15)&&!cY arg)||(decide (op≠15)&&decide (arg≠[]))
def RC(op:Int)(index:List ae):Bool:=decide (1<(index.length:Int))||(decide (op≠1)&&decide (0<(index.length:Int)))||(decide ((index.length:Int)=1)&&!index.all Cl)
def WA(op:Int):Bool:=decide (op=1)||decide (op=2)||decide (op=3)||decide (op=14)
def TK(op:Int)(e:ae):Bool:=(WA op&&!Cl e)||(!WA op&&!FO e)
def Qy(op:Int)(nb ne:Nat):Bool:=(!(decide (2<=op)&&decide (op<=8))&&decide (0<(nb:Int)))||(decide (op≠2)&&decide (0<(ne:Int)))
def Qz(op:Int)(name arg:aO)(index:List ae)(e:ae)(nb ne:Nat):Bool:=!VY op&&(!VZ op name&&(!VN op arg&&(!RC op index&&(!TK op e&&!Qy op nb ne))))
mutual
def kU:aa->Bool
 |.mk op _ name arg index e body els=>Qz op name arg index e body.length els.length&&shSs body&&shSs els
def shSs:List aa->Bool
 |[]=>true
 |x::l=>kU x&&shSs l
end
theorem zK:∀l:List aa,shSs l=l.all kU
 |[]=>rfl
 |x::l=>by rw[shSs,zK l];rfl
theorem TL(x:aa):kU x=(Qz x.op x.name x.arg x.index x.expr x.body.length x.els.length&&x.body.all kU&&x.els.all kU):=by cases x;rw[kU,zK,zK];rfl
theorem kR(l:List aa)(S:l.length<2^40)(h:∀i (G:i<l.length),ao Tryz.prog 136 [.agg l[i].row] (.bool (kU l[i]))):ao Tryz.prog 93 [.lst (l.map aa.enc)] (.bool (l.all kU)):=by
 refine pZ _ _ _ ?_;refine vw ?_;refine cF l (λy=>!kU y) (λi=>[.lst (l.map aa.enc),.YJ i]) YC rfl (λi u M G j B E=>?_) (λi u M j B=>?_)
 all_goals refine vw ?_
 .have O:=DI u;have Y:=h i u
  repeat' (first|refine sy ?_|refine s2 (λh=>?_) λh=>?_|intro)
  .exact⟨by rw[pL u (by simpa using h)],rfl⟩
  .exact E h
 .repeat' (first|refine sy ?_|refine s2 ?_ ?_|intro)
  exact⟨by rw[W2.2 λy D=>by simpa using j y D],rfl⟩
section
variable (op line:Int) (name arg:aO) (index:List ae) (e:ae) (body els:List aa) (Q:R)
abbrev OZ:AV:=(.pptr [[.YJ op,.YJ line,.str name,.str arg,.lst (index.map ae.enc),.YJ e.op,.YJ e.n,.str e.name,.lst (e.l.map ae.enc),.lst (body.map aa.enc),.lst (els.map aa.enc)]] 0 0)
theorem TM(D:ao Tryz.prog 93 [.lst (body.map aa.enc)] (.bool (body.all kU)))(u:ao Tryz.prog 93 [.lst (els.map aa.enc)] (.bool (els.all kU)))
  (j:Q (.bool (!Qy op body.length els.length&&(body.all kU&&els.all kU))) []):rv Q [] (OZ op line name arg index e body els):=by
 refine vw ?_;generalize M:body.all kU=B at *;generalize G:els.all kU=E at *
 repeat' (first|refine sy ?_|refine s2 ?_ ?_|intro)
 all_goals
  refine Eq.mp (congrArg (λb=>Q (AV.bool b) []) ?_) j;simp_all only[Qy,Yx,Bool.not_false,X8,Yb,Yy,Yt,Bool.or_true,Bool.or_false,Bool.true_or,Bool.false_or]
theorem TN(G:ao Tryz.prog 93 [.lst (body.map aa.enc)] (.bool (body.all kU)))(E:ao Tryz.prog 93 [.lst (els.map aa.enc)] (.bool (els.all kU)))
  (D:e.wt<2^40) (j:Q (.bool (!TK op e&&(!Qy op body.length els.length&&(body.all kU&&els.all kU)))) []):ry Q [] (OZ op line name arg index e body els):=by
 have O:=mc _ e (Fd _) D;have M:=OY e;unfold ae.row at O M;have u:=TM op line name arg index e body els Q G E;refine vw ?_;unfold TK at j;generalize Cl e=A at *;generalize FO e=B at *
 repeat' (first|with_reducible refine u ?_|refine sy ?_|refine s2 ?_ ?_|intro)
 all_goals
  refine Eq.mp (congrArg (λb=>Q (AV.bool b) []) ?_) j;simp_all[WA]
theorem TO(O:ao Tryz.prog 93 [.lst (body.map aa.enc)] (.bool (body.all kU)))(M:ao Tryz.prog 93 [.lst (els.map aa.enc)] (.bool (els.all kU)))
  (D:e.wt<2^40) (G:ae.wts index<2^40) (j:Q (.bool (!RC op index&&(!TK op e&&(!Qy op body.length els.length&&(body.all kU&&els.all kU))))) []):rA Q [] (OZ op line name arg index e body els):=by
 have u:=TN op line name arg index e body els Q O M D;refine vw ?_;by_cases E:index.length=1
 .obtain⟨i,rfl⟩:=List.length_eq_one_iff.1 E;have S:=mc _ i (Fd _) (by simp only[ae.wts]at G;omega);unfold ae.row at S;have B:=GO (l:=[i]) (i:=0) YF;have Y:[i].all Cl=Cl i:=by simp
  unfold RC at j;rw[Y]at j;generalize Cl i=A at *
  repeat' (first|with_reducible refine u ?_|refine sy ?_|refine s2 ?_ ?_|intro)
  all_goals
   refine Eq.mp (congrArg (λb=>Q (AV.bool b) []) ?_) j;simp_all
 .have Z:decide ((index.length:Int)=1)=false:=by simpa using(by omega:¬(index.length:Int)=1)
  repeat' (first|with_reducible refine u ?_|refine sy ?_|refine s2 ?_ ?_|intro)
  all_goals
   refine Eq.mp (congrArg (λb=>Q (AV.bool b) []) ?_) j;simp_all only[RC,Yx,Bool.not_false,X8,Yb,Yy,Yt,Bool.or_true,Bool.or_false,Bool.true_or,Bool.false_or]
theorem TP(G:ao Tryz.prog 93 [.lst (body.map aa.enc)] (.bool (body.all kU)))(E:ao Tryz.prog 93 [.lst (els.map aa.enc)] (.bool (els.all kU)))
  (B:e.wt<2^40) (D:ae.wts index<2^40) (M:arg.length<2^40) (j:Q (.bool (!VN op arg&&(!RC op index&&(!TK op e&&(!Qy op body.length els.length&&(body.all kU&&els.all kU)))))) []):rB Q [] (OZ op line name arg index e body els):=by
 have u:=TO op line name arg index e body els Q G E B D;have O:=ii arg YC;refine vw ?_;unfold VN at j;generalize cY arg=A at *
 repeat' (first|with_reducible refine u ?_|refine sy ?_|refine s2 ?_ ?_|intro)
 all_goals
  refine Eq.mp (congrArg (λb=>Q (AV.bool b) []) ?_) j;simp_all
theorem TQ(G:ao Tryz.prog 93 [.lst (body.map aa.enc)] (.bool (body.all kU)))(E:ao Tryz.prog 93 [.lst (els.map aa.enc)] (.bool (els.all kU)))
  (B:e.wt<2^40) (D:ae.wts index<2^40) (M:arg.length<2^40) (O:name.length<2^40) (j:Q (.bool (!VZ op name&&(!VN op arg&&(!RC op index&&(!TK op e&&(!Qy op body.length els.length&&(body.all kU&&els.all kU))))))) []):rC Q [] (OZ op line name arg index e body els):=by
 have u:=TP op line name arg index e body els Q G E B D M;have S:=ii name YC;refine vw ?_;unfold VZ at j;generalize cY name=A at *
 repeat' (first|with_reducible refine u ?_|refine sy ?_|refine s2 ?_ ?_|intro)
 all_goals
  refine Eq.mp (congrArg (λb=>Q (AV.bool b) []) ?_) j;simp_all[Wz]
end
theorem zo(x:aa)(S:x.wt<2^40)
  (O:ao Tryz.prog 93 [.lst (x.body.map aa.enc)] (.bool (x.body.all kU))) (M:ao Tryz.prog 93 [.lst (x.els.map aa.enc)] (.bool (x.els.all kU))) :
  ao Tryz.prog 136 [.agg x.row] (.bool (kU x)):=by
 have G:=x.wt_eq;refine rD _ _ _ ?_;refine vw ?_;have D:kU x=(!VY x.op&&(!VZ x.op x.name&&(!VN x.op x.arg&&(!RC x.op x.index&&(!TK x.op x.expr&&(!Qy x.op x.body.length x.els.length&&(x.body.all kU&&x.els.all kU))))))):=by rw[TL,Qz];simp only[Bool.and_assoc]
 generalize B:(λ(u:AV) (K:SH)=>u=AV.bool (kU x)/\K=[])=Q;have j:Q (.bool (kU x)) []:=by subst B;exact⟨rfl,rfl⟩
 clear B;rw[D]at j;clear D;have E:=TQ x.op x.line x.name x.arg x.index x.expr x.body x.els Q O M YC YC YC YC;unfold aa.row
 repeat' (first|with_reducible refine E ?_|refine sy ?_|refine s2 ?_ ?_|intro)
 all_goals
  refine Eq.mp (congrArg (λb=>Q (AV.bool b) []) ?_) j;simp_all only[VY,Yx,Bool.not_false,X8,Yb,Yy,Yt,Bool.or_true,Bool.or_false,Bool.true_or,Bool.false_or]
theorem Dm:∀(k:Nat) (x:aa),x.wt<=k->k<2^40->ao Tryz.prog 136 [.agg x.row] (.bool (kU x)):=by
 intro k
 induction k with
 |zero=>intro x h;have:=x.wt_eq;omega
 |succ k u=>intro x D E;have B:=x.wt_eq;have M:=aa.wts_len x.body;have G:=aa.wts_len x.els;refine zo x YC (kR _ YC λi j=>u _ (by have:=aa.wts_get _ i j;omega) YC) (kR _ YC λi j=>u _ (by have:=aa.wts_get _ i j;omega) YC)
theorem B6(l:List aa)(u:aa.wts l<2^40):ao Tryz.prog 93 [.lst (l.map aa.enc)] (.bool (l.all kU)):=
 kR l (by have:=aa.wts_len l;omega) λi j=>Dm _ _ (Fd _) (by have:=aa.wts_get l i j;omega)
end
def WB(d:aA):Bool:=decide (d.kind<1)||decide (6<d.kind)||!cY d.name||decide (d.size<0)||(decide (d.kind≠1)&&decide (d.size≠0))
def WC(d:aA):Bool:=(decide (d.kind=5)&&!cY d.on)||(decide (d.kind≠5)&&decide (d.on≠[]))
def V0(d:aA):Bool:=decide (-9223372036854775808<d.init)&&(decide (d.init=0)||decide (d.kind=1)||decide (d.kind=2))
def RD(d:aA):Bool:=!WB d&&(!WC d&&V0 d)
def Dn(d:aA)(E:d.wt<2^40):ao Tryz.prog 91 [.agg d.enc] (.bool (RD d)):=by
 have O:=ii d.name (by unfold aA.wt at E;omega);have M:=ii d.on (by unfold aA.wt at E;omega);have z0:∀Q:R,Q (.bool (V0 d)) []->rF Q [] (.pptr [d.enc] 0 0):=λQ j=>by
  refine vw ?_
  repeat' (first|refine sy ?_|refine s2 ?_ ?_|intro)
  all_goals
   refine Eq.mp (congrArg (λb=>Q (AV.bool b) []) ?_) j;simp_all only[V0,Yx,Bool.not_false,X8,Yb,Yy,Yt,Bool.or_true,Bool.or_false,Bool.true_or,Bool.false_or]
 have D:∀Q:R,Q (.bool (!WC d&&V0 d)) []->rG Q [] (.pptr [d.enc] 0 0):=λQ j=>by
  have B:=z0 Q;refine vw ?_;unfold WC at j;clear z0;generalize cY d.on=A at *
  repeat' (first|with_reducible refine B ?_|refine sy ?_|refine s2 ?_ ?_|intro)
  all_goals
   refine Eq.mp (congrArg (λb=>Q (AV.bool b) []) ?_) j;simp_all
 refine rH _ _ _ ?_;refine vw ?_;generalize G:(λ(u:AV) (K:SH)=>u=AV.bool (RD d)/\K=[])=Q;have j:Q (.bool (RD d)) []:=by subst G;exact⟨rfl,rfl⟩
 clear G;have B:=D Q;unfold RD WB at j;clear z0 D;generalize cY d.name=A at *
 repeat' (first|with_reducible refine B ?_|refine sy ?_|refine s2 ?_ ?_|intro)
 all_goals
  refine Eq.mp (congrArg (λb=>Q (AV.bool b) []) ?_) j;simp_all
def QA(t:aj):Bool:=t.locals.all cY&&(cY t.name&&t.body.all kU)
def Pj(p:aY):Bool:=p.decls.all RD&&(p.threads.all QA&&decide (0<(p.threads.length:Int)))
def Ma(p:aY)(hw:p.wt<2^40):ao Tryz.prog 46 [.agg p.enc] (.bool (Pj p)):=by
 have hl1:=p.decls_len;have hl2:=p.threads_len;refine yM _ _ _ ?_;refine vw ?_;generalize hQ:(λ(u:AV) (K:SH)=>u=AV.bool (Pj p)/\K=[])=Q;have M:Q (.bool (Pj p)) []:=by subst hQ;exact⟨rfl,rfl⟩
 clear hQ
 repeat' (first|refine sy ?_|refine s2 (λh=>?_) λh=>?_|intro)
 refine cF p.decls (λy=>!RD y) (λi=>[.pptr [p.enc] 0 0,.YJ i]) YC rfl (λi D Z hi E nx hn=>?_) (λi D Z E nx=>?_)
 all_goals refine vw ?_
 .have hx:=aq (f:=aA.enc) D;have hc:=Dn p.decls[i] (by have:=p.decl_wt D;omega)
  repeat' (first|refine sy ?_|refine s2 (λh=>?_) λh=>?_|intro)
  .refine Eq.mp (congrArg (λb=>Q (AV.bool b) []) ?_) M;rw[Pj,pL D (by simpa using h),Yb]
  .exact hn h
 .repeat' (first|refine sy ?_|refine s2 (λh=>?_) λh=>?_|intro)
  have e1:p.decls.all RD=true:=W2.2 λy S=>by simpa using E y S
  unfold Pj at M;rw[e1,X8]at M;clear E;refine cF p.threads (λy=>!QA y) (λi=>[.pptr [p.enc] 0 0,.YJ i]) YC rfl (λi D Z hi E nx hn=>?_) (λi D Z E nx=>?_)
  all_goals refine vw ?_
  .have hx:=aq (f:=aj.enc) D;have hwt:=p.thread_wt D;have Y:=λj (hj:j<(p.threads[i]).locals.length)=>(p.threads[i]).local_len hj
   have hll:(p.threads[i]).locals.length<2^40:=by have:(p.threads[i]).locals.length<=(p.threads[i]).wt:=(by unfold aj.wt;omega);omega
   have hnm:=ii (p.threads[i]).name (by have:(p.threads[i]).name.length<(p.threads[i]).wt:=(by unfold aj.wt;omega);omega);have hbd:=B6 (p.threads[i]).body (by have:aa.wts (p.threads[i]).body<(p.threads[i]).wt:=(by unfold aj.wt;omega);omega);have O:QA p.threads[i]=false->p.threads.all QA=false:=pL D;generalize p.threads[i]=t at *
   repeat' (first|refine sy ?_|refine s2 (λh=>?_) λh=>?_|intro)
   refine cF t.locals (λy=>!cY y) (λj=>[.pptr [p.enc] 0 0,.YJ i,.pptr [t.enc] 0 0,.YJ j]) YC rfl (λj D Z hi2 G nx2 hn2=>?_) (λj D Z G nx2=>?_)
   all_goals refine vw ?_
   .have hx2:=aq (f:=av) D;have hc:=ii t.locals[j] (by have:=Y j D;omega)
    repeat' (first|refine sy ?_|refine s2 (λh=>?_) λh=>?_|intro)
    .refine Eq.mp (congrArg (λb=>Q (AV.bool b) []) ?_) M;rw[O (by rw[QA,pL D (by simpa using h),Yb]),Yb]
    .exact hn2 h
   .have e2:t.locals.all cY=true:=W2.2 λy S=>by simpa using G y S
    have e3:QA t=(cY t.name&&t.body.all kU):=by rw[QA,e2,X8]
    rw[e3]at O hn;clear e3;generalize cY t.name=A at *;generalize t.body.all kU=B at *
    repeat' (first|refine sy ?_|refine s2 ?_ ?_|intro)
    all_goals first
     |exact hn (by simp_all)
     |(refine Eq.mp (congrArg (λb=>Q (AV.bool b) []) ?_) M;rw[O (by simp_all),Yb])
  .repeat' (first|refine sy ?_|refine s2 ?_ ?_|intro)
   have e2:p.threads.all QA=true:=W2.2 λy S=>by simpa using E y S
   rw[e2,X8]at M;exact M
def cH(l:List aA)(s:aO):Int:=iy (λx=>decide (x.name=s)) l 0
def dV(l:List aj)(s:aO):Int:=iy (λx=>decide (x.name=s)) l 0
def i4(l:List aA)(s:aO)(E:l.length<2^62):ao Tryz.prog 94 [.lst (l.map aA.enc),.str s] (.YJ (cH l s)):=by
 refine yN _ _ _ _ ?_;refine vw ?_;refine cF l (λx=>decide (x.name=s)) (λi=>[.lst (l.map aA.enc),.str s,.YJ i]) E rfl (λi u G O j B D=>?_) (λi u G j B=>?_)
 all_goals refine vw ?_
 .have M:=aq (f:=aA.enc) u
  repeat' (first|refine sy ?_|refine s2 (λh=>?_) λh=>?_|intro)
  .exact⟨by rw[cH,jg u j h],rfl⟩
  .exact D h
 .repeat' (first|refine sy ?_|refine s2 ?_ ?_|intro)
  exact⟨by rw[cH,eU j],rfl⟩
def lR(l:List aj)(s:aO)(E:l.length<2^62):ao Tryz.prog 95 [.lst (l.map aj.enc),.str s] (.YJ (dV l s)):=by
 refine uR _ _ _ _ ?_;refine vw ?_;refine cF l (λx=>decide (x.name=s)) (λi=>[.lst (l.map aj.enc),.str s,.YJ i]) E rfl (λi u G O j B D=>?_) (λi u G j B=>?_)
 all_goals refine vw ?_
 .have M:=aq (f:=aj.enc) u
  repeat' (first|refine sy ?_|refine s2 (λh=>?_) λh=>?_|intro)
  .exact⟨by rw[dV,jg u j h],rfl⟩
  .exact D h
 .repeat' (first|refine sy ?_|refine s2 ?_ ?_|intro)
  exact⟨by rw[dV,eU j],rfl⟩
def VO(b:Bool):Int:=if b then 7 else 0
def cD(b:Bool):ao Tryz.prog 141 [.bool b] (.YJ (VO b)):=by
 refine wS _ _ _ ?_;refine vw ?_;cases b
 all_goals
  repeat' (first|refine sy ?_|refine s2 ?_ ?_|intro)
  exact⟨rfl,rfl⟩
def V1(a b:Int):Int:=if a≠0 then a else b
def iG(a b:Int):ao Tryz.prog 138 [.YJ a,.YJ b] (.YJ (V1 a b)):=by
 refine Ha _ _ _ _ ?_;refine vw ?_
 repeat' (first|refine sy ?_|refine s2 ?_ ?_|intro)
 all_goals (refine⟨?_,rfl⟩;simp_all[V1])
def O0:∀(k:Nat) (l:List aa),aa.wts l<=k->k<2^40->ao Tryz.prog 49 [.lst (l.map aa.enc)] (.YJ (aa.cnts l:Nat)):=by
 intro k
 induction k using Nat.strongRecOn with
 |_ k E=>
  intro l hl hk;have G:=aa.wts_len l;have B:=aa.cnts_wt l;refine AX _ _ _ ?_;refine vw ?_
  repeat' (first|refine sy ?_|refine s2 ?_ ?_|intro)
  refine cS l.length (λ_=>True) (λi=>[.lst (l.map aa.enc),.YJ ((l.length+((l.take i).map aa.cnt).sum:Nat):Int),.YJ i]) YC trivial YF (λi j Y hi _ M u=>?_) (λi j Y _ M=>?_)
  all_goals refine vw ?_
  .have Z:=DI j;have O:=aa.wts_get l i j;have S:=(l[i]).wt_eq;have c1:=E _ YC l[i].body (Fd _) YC;have c2:=E _ YC l[i].els (Fd _) YC;have hs:=qv (f:=aa.cnt) l i j;have D:=(l[i]).cnt_eq;rw[aa.cnts_eq]at B;have e1:=jY (a:=l.length+((l.take i).map aa.cnt).sum) (b:=aa.cnts l[i].body) YC;have e2:=jY (a:=l.length+((l.take i).map aa.cnt).sum+aa.cnts l[i].body) (b:=aa.cnts l[i].els) YC
   repeat' (first|refine sy ?_|refine s2 ?_ ?_|intro)
   have u:=u trivial;rw[l8 j,D]at u;simpa[XG]using u
  .repeat' (first|refine sy ?_|refine s2 ?_ ?_|intro)
   refine⟨?_,rfl⟩;rw[j,XT,<-aa.cnts_eq]
