/- A part of the proof; the statement is proved in the last part. -/
import Derived.Test.YtenbpcngcicamaaGreatDoorQcw
set_option linter.unusedSimpArgs false
set_option linter.unusedVariables false
namespace Go.Proofs.YtenbpcngcicamaaGreatDoor.Am
section
set_option maxRecDepth 100000
set_option maxHeartbeats 4000000
theorem Lj{b N off m m2 k:Nat}{kd:IntKind}{out:List bn}{v:AV}{L:SH}{g:Nat×Blk}{KS:SH→Fp→Prop}(hk:k<out.length)(hL:L=g::ah (some b) 6 (out.map bn.enc))(hN:N=out.length)(f:bn→bn)(he:∀i:bn,i.enc.set off v=(f i).enc)(ho:off<6)(hv:v.cells? =some [v])(h1:v.one=true)
  (kk:∀(out2:List bn) (r:Fp),out2.length=out.length→KS (g::ah (some b) 6 (out2.map bn.enc)) r):di [] m 6 (aq (some b) N) (.int kd (k:Int)) L λx r=>W.faddr off x λy=>ds [] m2 1 y v L KS:=by
 subst hN hL;refine Rr (Gt (dE (sO (yY (TK (Gt ?_)))) hk (.tail _ (.head _)) rfl));refine AT (x:=⟨6,out.map bn.enc⟩) (r:=out[k].enc) (x':=⟨6,(out.set k (f out[k])).map bn.enc⟩) (.there _ (.here _)) (az hk) hv h1 (by rw[Wj];exact ho) ?_ (sO (kk _ _ W7));rw[Wk,Wj,he]
theorem Vh{b N m m2 k:Nat}{kd:IntKind}{n:Int}{out:List bn}{L:SH}{g:Nat×Blk}{KS:SH→Fp→Prop}(hL:L=g::ah (some b) 6 (out.map bn.enc))(hN:N=out.length)(hk:k<out.length)
  (kk:∀(out2:List bn) (r:Fp),out2.length=out.length→KS (g::ah (some b) 6 (out2.map bn.enc)) r):di [] m 6 (aq (some b) N) (.int kd (k:Int)) L λx r=>W.faddr 2 x λy=>ds [] m2 1 y (.W9 n) L KS:=
 Lj hk hL hN (λi=>{i with b:=n}) (λ_=>rfl) W8 rfl rfl kk
theorem Vi{b N m m2 k:Nat}{kd:IntKind}{n:Int}{out:List bn}{L:SH}{g:Nat×Blk}{KS:SH→Fp→Prop}(hL:L=g::ah (some b) 6 (out.map bn.enc))(hN:N=out.length)(hk:k<out.length)
  (kk:∀(out2:List bn) (r:Fp),out2.length=out.length→KS (g::ah (some b) 6 (out2.map bn.enc)) r):di [] m 6 (aq (some b) N) (.int kd (k:Int)) L λx r=>W.faddr 1 x λy=>ds [] m2 1 y (.W9 n) L KS:=
 Lj hk hL hN (λi=>{i with a:=n}) (λ_=>rfl) W8 rfl rfl kk
theorem SA(bg:Nat)(w:aN)(loc:List bj)(v:AV)(site next:Int)(s:bj)(hl:w.conds.length<2^62):
  ai Tryz.prog 69 [.ptr bg 0 0,.str s] [(bg,gm w loc v site next)] λu K=>∃n:Int,u=.W9 n∧K=[(bg,gm w loc v site next)]:=by
 refine yq _ _ _ _ ?_;unfold ms;refine me w.conds.length (λi=>[.ptr bg 0 0,.str s,.W9 i]) hl rfl (λi h1 hd hi nx hn=>?_) (λi h1 hd nx=>?_)
 all_goals unfold kL
 ·have hx:=az (f:=cX.enc) h1;unfold gm at *
  repeat' (first|refine st ?_|refine sb λnb_ hnb_=>?_|refine s2 (λh=>?_) λh=>?_|fail)
  all_goals first|exact⟨_,rfl,rfl⟩|exact hn
 ·unfold gm at *
  repeat' (first|refine st ?_|refine sb λnb_ hnb_=>?_|refine s2 (λh=>?_) λh=>?_|fail)
  exact⟨_,rfl,rfl⟩
section
variable {w:aN} {loc:List bj} (hw:WQ w) (hlo:loc.length<2^40)
include hw hlo
theorem OD(x:ab)(hx:x.wt<2^29)(h1:x.op=1):mv 66 [.agg x.row] w loc (au.wts x.index+x.expr.wt+1):=by
 intro bg o out site next h0 hl
 have hwe:=x.wt_eq;rw[h1,show zv 1 x.expr.op=z0 x.expr.op from rfl]at hwe;have ve:=λd=>Cx hw hlo _ x.expr d (Vo _) W4
 have vi:=λ(i:Nat) (h:i<x.index.length) d=>Cx hw hlo _ x.index[i] d (Vo _) (by have:=au.wts_get0 x.index i h;omega);have gi:=au.wts_get0 x.index;have hxi:=λ(i:Nat) (h:i<x.index.length)=>De h;have ha:=IX loc x.name W4;have hc:=FZ w x.name (by have:=hw.c;omega);refine ai.fz (rW _ _ _ _ ?_);unfold j4;generalize hQ:(λ(v:AV) (L:SH)=>∃v2 L2,aI [v] L [v2] L2∧∃(o':Option Nat) (out':List bn) (site' next':Int),_)=Q;have fin:=AI hQ;clear hQ;unfold ab.row au.row at *;by_cases p:x.index.length=0
 ·have d1:decide ((0:Int)<(x.index.length:Int))=false:=decide_eq_false W4;clear vi gi hxi
  repeat' (first|refine st ?_|((with_reducible refine aZ 70 ?_);(refine db (ve _) rp rp om an om (λo_ out_ s_ n_ ho_ hl_ hm_=>?_)))|(refine pf 64 ?_;refine pm (ha) ?_)|(refine pf 105 ?_;refine pm (hc) ?_)|((with_reducible refine aZ 20 ?_);(refine dD rp rp om an om (λb_ out_ hl_=>?_)))|((with_reducible refine ef 20 ?_);refine ng ?_;refine dD rp rp om an om (λb_ out_ hl_ ks_=>?_))|refine sb λnb_ hnb_=>?_|refine s2 (λh=>?_) λh=>?_|fail)
  all_goals exact fin _ _ _ _ _ _ (.one (.here _) (.slotl .last)) om an om om
 ·have d1:decide ((0:Int)<(x.index.length:Int))=true:=decide_eq_true W4;have p0:0<x.index.length:=by omega
  have v0:=vi 0 p0;have g0:=gi 0 p0;have x0:=hxi 0 p0;obtain⟨b,hb,hcb⟩:=hw.q;have e3:x.name=[113]:=by
   by_cases g:x.name=[113]
   ·exact g
   ·unfold zi at hwe;rw[if_neg (by rintro(h|h);exact p h;exact g h)]at hwe;omega
  rw[e3,hcb]at hc;rw[e3];have hxc:=az (f:=bb.enc) hb;clear vi gi hxi;generalize x.index[0]=a at *
  repeat' (first|refine st ?_|((with_reducible refine aZ 70 ?_);(refine db (v0 _) rp rp om an om (λo_ out_ s_ n_ ho_ hl_ hm_=>?_)))|((with_reducible refine aZ 70 ?_);(refine db (ve _) rp rp om an om (λo_ out_ s_ n_ ho_ hl_ hm_=>?_)))|(refine pf 105 ?_;refine pm (hc) ?_)|((with_reducible refine aZ 20 ?_);(refine dD rp rp om an om (λb_ out_ hl_=>?_)))|refine sb λnb_ hnb_=>?_|refine s2 (λh=>?_) λh=>?_|fail)
  exact fin _ _ _ _ _ _ (.one (.here _) (.slotl .last)) om an om om
theorem Kb(x:ab){kb ke:Nat}(hx:x.wt<2^29)(h1:x.op=2∨x.op=3)(hB:mv 19 [.lst (x.body.map ab.enc)] w loc kb)(hE:mv 19 [.lst (x.els.map ab.enc)] w loc ke):mv 67 [.agg x.row] w loc (x.expr.wt+kb+ke+2):=by
 intro bg o out site next h0 hl
 have hwe:=x.wt_eq;have hz:zv x.op x.expr.op=z0 x.expr.op:=if_pos W4;have ve:=λd=>Cx hw hlo _ x.expr d (Vo _) W4
 refine ai.fz (oX _ _ _ _ ?_);unfold ii;generalize hQ:(λ(v:AV) (L:SH)=>∃v2 L2,aI [v] L [v2] L2∧∃(o':Option Nat) (out':List bn) (site' next':Int),_)=Q;have fin:=AI hQ;clear hQ;unfold ab.row au.row at *;clear hwe hz hx;generalize x.op=op at *;have h9:decide (op=3)=true∨decide (op=3)=false:=by cases decide (op=3)<;>simp
 have e9:decide ((x.els.length:Int)=0)=true∨decide ((x.els.length:Int)=0)=false:=by cases decide ((x.els.length:Int)=0)<;>simp
 clear h1;rcases h9 with h9|h9
 ·repeat' (first|refine Vh W6 om om (λout_ r_ hp_=>?_)|refine Vi W6 om om (λout_ r_ hp_=>?_)|refine st ?_|refine G9 ?_|((with_reducible refine ef 70 ?_);refine ng ?_;refine db (ve _) rp rp om an om (λo_ out_ s_ n_ ho_ hl_ hm_ ks_=>?_))|((with_reducible refine aZ 20 ?_);(refine dD rp rp om an om (λb_ out_ hl_=>?_)))|((with_reducible refine aZ 19 ?_);(refine qi hB rp rp om om om (λb_ out_ s_ n_ hl_ hm_=>?_)))|refine sb λnb_ hnb_=>?_|fail)
  exact fin _ _ _ _ _ _ (.one (.here _) (.slotl .last)) om an om om
 rcases e9 with e9|e9
 ·repeat' (first|refine Vh W6 om om (λout_ r_ hp_=>?_)|refine Vi W6 om om (λout_ r_ hp_=>?_)|refine st ?_|refine G9 ?_|((with_reducible refine ef 70 ?_);refine ng ?_;refine db (ve _) rp rp om an om (λo_ out_ s_ n_ ho_ hl_ hm_ ks_=>?_))|((with_reducible refine aZ 20 ?_);(refine dD rp rp om an om (λb_ out_ hl_=>?_)))|((with_reducible refine aZ 19 ?_);(refine qi hB rp rp om om om (λb_ out_ s_ n_ hl_ hm_=>?_)))|refine sb λnb_ hnb_=>?_|fail)
  exact fin _ _ _ _ _ _ (.one (.here _) (.slotl .last)) om an om om
 ·repeat' (first|refine Vh W6 om om (λout_ r_ hp_=>?_)|refine Vi W6 om om (λout_ r_ hp_=>?_)|refine st ?_|refine G9 ?_|((with_reducible refine ef 70 ?_);refine ng ?_;refine db (ve _) rp rp om an om (λo_ out_ s_ n_ ho_ hl_ hm_ ks_=>?_))|((with_reducible refine aZ 20 ?_);(refine dD rp rp om an om (λb_ out_ hl_=>?_)))|((with_reducible refine aZ 19 ?_);(refine qi hB rp rp om om om (λb_ out_ s_ n_ hl_ hm_=>?_)))|((with_reducible refine aZ 19 ?_);(refine qi hE rp rp om om om (λb_ out_ s_ n_ hl_ hm_=>?_)))|refine sb λnb_ hnb_=>?_|fail)
  exact fin _ _ _ _ _ _ (.one (.here _) (.slotl .last)) om an om om
omit hw hlo in
theorem OE(x:ab){kb:Nat}{f l ob:Int}(hB:mv 19 [.lst (x.body.map ab.enc)] w loc kb):mv 68 [.agg x.row,.W9 f,.W9 l,.W9 ob] w loc (kb+2):=by
 intro bg o out site next h0 hl
 refine ai.fz (rZ _ _ _ _ _ _ _ ?_);unfold j5;generalize hQ:(λ(v:AV) (L:SH)=>∃v2 L2,aI [v] L [v2] L2∧∃(o':Option Nat) (out':List bn) (site' next':Int),_)=Q;have fin:=AI hQ;clear hQ;unfold ab.row at *
 repeat' (first|refine st ?_|((with_reducible refine aZ 20 ?_);(refine dD rp rp om an om (λb_ out_ hl_=>?_)))|((with_reducible refine aZ 19 ?_);(refine qi hB rp rp om om om (λb_ out_ s_ n_ hl_ hm_=>?_)))|refine sb λnb_ hnb_=>?_|fail)
 exact fin _ _ _ _ _ _ (.one (.here _) (.slotl .last)) om an om om
theorem SB(x:ab){kb ke:Nat}(hx:x.wt<2^29)(hB:mv 19 [.lst (x.body.map ab.enc)] w loc kb)(hE:mv 19 [.lst (x.els.map ab.enc)] w loc ke):mv 44 [.agg x.row] w loc (au.wts x.index+x.expr.wt+kb+ke+2):=by
 intro bg o out site next h0 hl
 have hwe:=x.wt_eq;have c1:=Mn w.locks x.name (by have:=hw.l;omega);have c2:=IX w.threads x.name (by have:=hw.t;omega);have c3:=IX w.futures x.name (by have:=hw.f;omega);have c4:=IX w.futures x.arg (by have:=hw.f;omega);have c5:=IX loc x.name W4;have cc:=λ(v:AV) (site next:Int)=>SA bg w loc v site next x.name (by have:=hw.d;omega)
 have ve:=λ(h:x.op=14) d=>Cx hw hlo _ x.expr d (Vo _) (by rw[h,show zv 14 x.expr.op=z0 x.expr.op from rfl]at hwe;omega);have va:=OD hw hlo x hx;have vb:=λh=>Kb hw hlo x hx h hB hE
 have vr:=λ(f l ob:Int)=>OE x (f:=f) (l:=l) (ob:=ob) hB;refine ai.fz (yN _ _ _ _ ?_);unfold mt;generalize hQ:(λ(v:AV) (L:SH)=>∃v2 L2,aI [v] L [v2] L2∧∃(o':Option Nat) (out':List bn) (site' next':Int),_)=Q;have fin:=AI hQ;clear hQ;clear hB hE hwe hx;obtain⟨op,line,name,arg,index,e,body,els⟩:=x;unfold ab.row au.row at *;dsimp only[ab.op,ab.line,ab.name,ab.arg,ab.index,ab.expr,ab.body,ab.els]at *
 repeat' (first|refine st ?_|((with_reducible refine aZ 66 ?_);(refine db (va (of_decide_eq_true W5)) rp rp om an om (λo_ out_ s_ n_ ho_ hl_ hm_=>?_)))|((with_reducible refine aZ 67 ?_);(refine db (vb (by first|exact .inl (of_decide_eq_true W5)|exact .inr (of_decide_eq_true W5))) rp rp om an om (λo_ out_ s_ n_ ho_ hl_ hm_=>?_)))|((with_reducible refine ef 68 ?_);refine ng ?_;refine db (vr _ _ _) rp rp om an om (λo_ out_ s_ n_ ho_ hl_ hm_ ks_=>?_))|((with_reducible refine aZ 68 ?_);(refine db (vr _ _ _) rp rp om an om (λo_ out_ s_ n_ ho_ hl_ hm_=>?_)))|((with_reducible refine aZ 69 ?_);(refine kq (cc _ _ _) rp ?_;rintro _ _ ⟨n_,rfl,rfl⟩;dsimp only[List.cons_append,List.nil_append]))|((with_reducible refine ef 69 ?_);refine ng ?_;refine kq (cc _ _ _) rp ?_;rintro _ _ ⟨n_,rfl,rfl⟩ ks_;dsimp only[List.cons_append,List.nil_append])|(refine pf 42 ?_;refine pm (c1) ?_)|(refine pf 64 ?_;refine pm (c2) ?_)|(refine pf 64 ?_;refine pm (c3) ?_)|(refine pf 64 ?_;refine pm (c4) ?_)|(refine pf 64 ?_;refine pm (c5) ?_)|((with_reducible refine aZ 70 ?_);(refine db (ve (of_decide_eq_true W5) _) rp rp om an om (λo_ out_ s_ n_ ho_ hl_ hm_=>?_)))|((with_reducible refine aZ 20 ?_);(refine dD rp rp om an om (λb_ out_ hl_=>?_)))|((with_reducible refine ef 20 ?_);refine ng ?_;refine dD rp rp om an om (λb_ out_ hl_ ks_=>?_))|refine sb λnb_ hnb_=>?_|refine s2 (λh=>?_) λh=>?_|fail)
 all_goals exact fin _ _ _ _ _ _ (.one (.here _) (.slotl .last)) om an om om
end
end
mutual
def Kd(t:Nat):Nat→ab→List cM
 |n,.mk _ line _ _ _ _ body els=>⟨t,n,line⟩::(sitL t (n+1) body++sitL t (n+1+ab.cnts body) els)
def sitL(t:Nat):Nat→List ab→List cM
 |_,[]=>[]
 |n,x::l=>Kd t n x++sitL t (n+1+x.cnt) l
end
theorem Qa(t n:Nat)(x:ab):Kd t n x=⟨t,n,x.line⟩::(sitL t (n+1) x.body++sitL t (n+1+ab.cnts x.body) x.els):=by cases x;rw[Kd];rfl
mutual
theorem OF(t:Nat):∀(n:Nat) (x:ab),(Kd t n x).length=1+x.cnt
 |n,.mk a b c d e f body els=>by rw[Kd];simp only[VL,Vy,sitL_len t _ body,sitL_len t _ els,ab.cnt];omega
theorem sitL_len(t:Nat):∀(n:Nat) (l:List ab),(sitL t n l).length=ab.cnts l
 |n,[]=>rfl
 |n,x::l=>by rw[sitL];simp only[Vy,OF t _ x,sitL_len t _ l,ab.cnts]
end
theorem ab.cnts_append:∀l m:List ab,ab.cnts (l++m)=ab.cnts l+ab.cnts m
 |[],m=>by simp[ab.cnts]
 |x::l,m=>by simp only[Wz,ab.cnts,ab.cnts_append l m];omega
theorem A7(t:Nat):∀(n:Nat) (l m:List ab),sitL t n (l++m)=sitL t n l++sitL t (n+ab.cnts l) m
 |n,[],m=>by simp[sitL,ab.cnts]
 | n,x::l,m=>by simp only[Wz,sitL,A7 t _ l m,ab.cnts,V4];rw[show n+1+x.cnt+ab.cnts l=n+(1+x.cnt+ab.cnts l) by omega]
def aH.celW(d:aH):List bb:=(List.range (max d.size 1).toNat).map λk=>⟨d.name,(k:Nat),d.size,decide (d.kind=2),d.init⟩
def bT(w:aN)(d:aH):aN:=
 if d.kind=1∨d.kind=2 then {w with cells:=w.cells++d.celW} else
 if d.kind=3∨d.kind=4 then {w with locks:=w.locks++[⟨d.name,decide (d.kind=4)⟩]} else
 if d.kind=5 then {w with conds:=w.conds++[⟨d.name,fV w.locks d.on⟩]} else {w with futures:=w.futures++[d.name]}
def aN.zero:aN:=⟨[],[],[],[],[],[]⟩
def dx(w:aN)(t:aj):aN:={w with threads:=w.threads++[t.name],sites:=w.sites++sitL w.threads.length 0 t.body}
def lC(p:bO):aN:=p.threads.foldl dx (p.decls.foldl bT aN.zero)
theorem vA{α β:Type}{f:β→α→β}{l:List α}{a:β}{i:Nat}(h:i<l.length):(l.take (i+1)).foldl f a=f ((l.take i).foldl f a) l[i]:=by rw[Vw h,List.foldl_append];rfl
section
set_option maxRecDepth 100000
set_option maxHeartbeats 2000000
def UC(t:Nat)(l:List ab):Prop:=∀(o:Option Nat) (out:List cM) (n:Nat),(o=none→out=[])→out.length+ab.cnts l<2^30→n+ab.cnts l<2^30→
 ai Tryz.prog 43 [aq o out.length,.W9 t,.W9 n,.lst (l.map ab.enc)] (ah o 3 (out.map cM.enc)) λu K=>∃(v:AV) (o':Option Nat),u=v∧v=.tup [aq o' (out++sitL t n l).length,.W9 ((n+ab.cnts l:Nat):Int)]∧(o'=none→out++sitL t n l=[])∧K=ah o' 3 ((out++sitL t n l).map cM.enc)
theorem Ke{t n k:Nat}{l:List ab}{o:Option Nat}{out:List cM}{rows:List (List AV)}{L L2:SH}{KL:R}(h:UC t l)(h2:dQ o 3 rows L L2)(hr:rows=out.map cM.enc)(hk:k=out.length)(h0:o=none→out=[])(hl:out.length+ab.cnts l<2^30)(hn:n+ab.cnts l<2^30)
  (hq:∀o':Option Nat,(o'=none→out++sitL t n l=[])→KL (.tup [aq o' (out++sitL t n l).length,.W9 ((n+ab.cnts l:Nat):Int)]) (L2++ah o' 3 ((out++sitL t n l).map cM.enc))):W.callM Tryz.prog 43 [aq o k,.W9 t,.W9 n,.lst (l.map ab.enc)] L KL:=by
 subst hr hk;refine xM (M:=L2) (h o out n h0 hl hn) h2.perm ?_;rintro _ _ ⟨v,o',rfl,rfl,h3,rfl⟩;exact⟨_,VT,hq o' h3⟩
theorem OG(t:Nat):∀(k:Nat) (l:List ab),ab.wts l≤k→k<2^40→UC t l:=by
 intro k
 induction k using Nat.strongRecOn with
 |_ k ih=>
  intro l hl hk o out n h0 h1 h2;have hlen:=ab.wts_len l;refine ai.fz (Eu _ _ _ _ _ _ ?_);unfold sG;generalize hQ:(λ(v:AV) (L:SH)=>∃v2 L2,aI [v] L [v2] L2∧∃(v:AV) (o':Option Nat),_)=Q;have fin:∀o':Option Nat,(o'=none→out++sitL t n l=[])→Q (.tup [aq o' (out++sitL t n l).length,.W9 ((n+ab.cnts l:Nat):Int)]) (ah o' 3 ((out++sitL t n l).map cM.enc)):=λo' h=>by subst hQ;exact⟨_,_,.refl _ _,_,o',rfl,rfl,h,rfl⟩
  clear hQ;refine cg l.length (λi o'=>([aq o' (out++sitL t n (l.take i)).length,.W9 t,.W9 ((n+ab.cnts (l.take i):Nat):Int),.lst (l.map ab.enc),.W9 i],ah o' 3 ((out++sitL t n (l.take i)).map cM.enc))) (λi o'=>o'=none→out++sitL t n (l.take i)=[]) o (by simpa[sitL]using h0) (by simpa[sitL,ab.cnts]using aI.refl _ _) ?_;rintro i o1 hi hG;dsimp only;unfold qg;generalize hnx:(λ(vs':List AV) (L':SH)=>∃j o',i<j∧j≤l.length∧_)=nx;rcases Nat.lt_or_ge i l.length with g1|g1
  ·have hd:=bF g1;have hi1:=aE g1 W4;have hx:=FE g1;have hwi:=ab.wts_get l i g1;have hwe:=(l[i]).wt_eq;have hce:=(l[i]).cnt_eq;have c1:=ih _ W4 l[i].body (Vo _) W4;have c2:=ih _ W4 l[i].els (Vo _) W4;have e1:l=l.take i++(l[i]::l.drop (i+1)):=by rw[List.getElem_cons_drop,List.take_append_drop]
   have e2:ab.cnts l=ab.cnts (l.take i)+(1+l[i].cnt+ab.cnts (l.drop (i+1))):=by
    conv=>lhs;rw[e1]
    rw[ab.cnts_append];rfl
   have e3:sitL t n (l.take (i+1))=sitL t n (l.take i)++Kd t (n+ab.cnts (l.take i)) l[i]:=by rw[Vw g1,A7];simp[sitL]
   have e4:ab.cnts (l.take (i+1))=ab.cnts (l.take i)+(1+l[i].cnt):=by rw[Vw g1,ab.cnts_append];simp[ab.cnts]
   have hn:∀(o':Option Nat) (out':List cM) (m:Nat),out'=out++sitL t n (l.take i)++Kd t (n+ab.cnts (l.take i)) l[i]→m=n+ab.cnts (l.take i)+(1+l[i].cnt)→(o'=none→out'=[])→∀L':SH,gI L' (ah o' 3 (out'.map cM.enc))→nx [aq o' out'.length,.W9 t,.W9 (m:Nat),.lst (l.map ab.enc),.W9 ((i+1:Nat):Int)] L':=by
    intro o' out' m q1 q2 q3 L' q4;subst hnx;refine⟨i+1,o',W4,W4,?_,?_⟩
    ·rw[e3,←V4,←q1];exact q3
    ·rw[e3,←V4,←q1,e4,←Wh,←q2];exact .pick q4 rfl
   clear hnx;have hlo:(out++sitL t n (l.take i)).length=out.length+ab.cnts (l.take i):=by rw[Vy,sitL_len]
   generalize out++sitL t n (l.take i)=OUT at *;generalize hN:n+ab.cnts (l.take i)=N at *;generalize l[i]=x at *;have a1:IntKind.i64.wrap ((N:Int)+1)=((N+1:Nat):Int):=by rw[We _ W4];omega
   have ho':o1=none→OUT.map cM.enc=[]:=λe=>by rw[hG e];rfl
   repeat' (first|refine st ?_|refine cy rp rp W7 (λe=>by first|simp[ho' e]) W6 W7 (by simp;omega) (by simp;omega) W6 (λnb_ hnb_=>?_)|((with_reducible refine aZ 43 ?_);(refine Ke c1 (o:=some _) (out:=OUT++[⟨t,N,x.line⟩]) rp (by rw[List.map_append];rfl) W7 nofun (by simp;omega) W4 (λo_ ho_=>?_);dsimp only[List.cons_append,List.nil_append]))|((with_reducible refine aZ 43 ?_);(refine Ke c2 rp rfl rfl ho_ (by simp[sitL_len];omega) W4 (λo_ ho_=>?_);dsimp only[List.cons_append,List.nil_append]))|refine sb λnb_ hnb_=>?_|refine s2 (λh=>?_) λh=>?_|fail)
   exact hn o_ _ _ (by simp[Qa,V4]) W4 ho_ _ (.slotl rp)
  ·have hd:=bM g1;have:i=l.length:=by omega
   subst this;rw[List.take_length]at *
   repeat' (first|refine st ?_|refine sb λnb_ hnb_=>?_|refine s2 (λh=>?_) λh=>?_|fail)
   exact fin _ hG
end
section
set_option maxRecDepth 100000
set_option maxHeartbeats 2000000
theorem EH(o:Option Nat)(l:List cb)(x:bj)(h0:o=none→l=[])(hl:l.length<2^62):
  ai Tryz.prog 42 [aq o l.length,.str x] (ah o 2 (l.map cb.enc)) λu K=>u=.W9 (fV l x)∧K=ah o 2 (l.map cb.enc):=by
 refine nV _ _ _ _ ?_;unfold jW;generalize hL:ah o 2 (l.map cb.enc)=L;generalize hQ:(λ(u:AV) (K:SH)=>u=AV.W9 (fV l x)∧K=L)=Q;have hq:∀r:Int,r=fV l x→Q (.W9 r) L:=λr h=>by subst hQ h;exact⟨rfl,rfl⟩
 clear hQ;subst hL;cases o with
 |none=>
  have:=h0 rfl;subst this;dsimp only[ah,aq,List.length_nil]at *;refine pq 0 (λ_=>True) (λi=>[.emp,.str x,.W9 i]) W4 trivial rfl (λi h1 hd hi _ nx hn=>by omega) (λi h1 hd _ nx=>?_);unfold fx
  repeat' (first|refine st ?_|refine sb λnb_ hnb_=>?_|refine s2 (λh=>?_) λh=>?_|fail)
  exact hq _ rfl
 |some b1=>
  dsimp only[ah,aq]at *;refine fp l (λy=>decide (y.name=x)) (λi=>[.sl b1 0 l.length,.str x,.W9 i]) hl rfl (λi h1 hd hi hno nx hn=>?_) (λi h1 hd hno nx=>?_)
  all_goals unfold fx
  ·have hx:=az (f:=cb.enc) h1
   repeat' (first|refine st ?_|refine sb λnb_ hnb_=>?_|refine s2 (λh=>?_) λh=>?_|fail)
   ·exact hq _ (by rw[fV,pr h1 hno h])
   ·exact hn h
  ·repeat' (first|refine st ?_|refine sb λnb_ hnb_=>?_|refine s2 (λh=>?_) λh=>?_|fail)
   exact hq _ (by rw[fV,gL hno])
def SC:List AV:=[.nils,.nils,.nils,.nils,.nils,.nils]
def EO(b2 b6:Nat)(oc ol od of ot os:Option Nat)(w:aN):SH:=
 (b6,⟨6,[[aq oc w.cells.length,aq ol w.locks.length,aq od w.conds.length,aq of w.futures.length,aq ot w.threads.length,aq os w.sites.length]]⟩)::(b2,⟨6,[SC]⟩) ::
  (ah oc 5 (w.cells.map bb.enc)++(ah ol 2 (w.locks.map cb.enc)++(ah od 2 (w.conds.map cX.enc)++(ah of 1 (w.futures.map aw)++(ah ot 1 (w.threads.map aw)++ah os 3 (w.sites.map cM.enc))))))
structure Fh(b6:Nat)(oc ol od of ot os:Option Nat)(w:aN):Prop where
 c:oc=none→w.cells=[]
 l:ol=none→w.locks=[]
 d:od=none→w.conds=[]
 f:of=none→w.futures=[]
 t:ot=none→w.threads=[]
 s:os=none→w.sites=[]
 n:∀b,ol=some b→b6≠b
def QR(K:SH→Prop)(b2 b6:Nat)(w:aN):Prop:=∀(oc ol od of ot os:Option Nat) (L':SH) (v0 v1 v2 v3 v4 v5:AV) (r0 r1 r2 r3 r4 r5:List (List AV)),Fh b6 oc ol od of ot os w→
 gI L' ((b6,⟨6,[[v0,v1,v2,v3,v4,v5]]⟩)::(b2,⟨6,[SC]⟩)::(ah oc 5 r0++(ah ol 2 r1++(ah od 2 r2++(ah of 1 r3++(ah ot 1 r4++ah os 3 r5))))))→
 [v0,v1,v2,v3,v4,v5]=[aq oc w.cells.length,aq ol w.locks.length,aq od w.conds.length,aq of w.futures.length,aq ot w.threads.length,aq os w.sites.length]→
 r0=w.cells.map bb.enc→r1=w.locks.map cb.enc→r2=w.conds.map cX.enc→r3=w.futures.map aw→r4=w.threads.map aw→r5=w.sites.map cM.enc→K L'
theorem QR.of{K:SH→Prop}{b2 b6:Nat}{w:aN}(h:∀(oc ol od of ot os:Option Nat) (L':SH),Fh b6 oc ol od of ot os w→gI L' (EO b2 b6 oc ol od of ot os w)→K L'):QR K b2 b6 w:=by intro oc ol od of ot os L' v0 v1 v2 v3 v4 v5 r0 r1 r2 r3 r4 r5 h1 h2 h3 e0 e1 e2 e3 e4 e5;simp only[List.cons.injEq,and_true]at h3;obtain⟨rfl,rfl,rfl,rfl,rfl,rfl⟩:=h3;subst e0 e1 e2 e3 e4 e5;exact h oc ol od of ot os L' h1 h2
section
variable {n18:Kn} {b2 b6 i:Nat} {oc ol od of ot os:Option Nat} {w:aN} {rows tl:List (List AV)}
theorem QT{line size init:Int}{name on:bj}{kind:Int}(hk:kind=1∨kind=2)(hs:size≤1000)(hi1:IntKind.i64.wrap ((i:Int)+1)=((i+1:Nat):Int))(ho:Fh b6 oc ol od of ot os w)(hlen:w.cells.length<2^30)
  (hn:QR (n18 [.pptr [[.lst rows,.lst tl]] 0 0,.ptr b2 0 0,.ptr b6 0 0,.W9 ((i+1:Nat):Int)]) b2 b6 {w with cells:=w.cells++aH.celW ⟨kind,line,name,size,init,on⟩}) :
  W.loop (jX n18) [.pptr [[.lst rows,.lst tl]] 0 0,.ptr b2 0 0,.ptr b6 0 0,.W9 i,.pptr [[.W9 kind,.W9 line,.str name,.W9 size,.W9 init,.str on]] 0 0,.W9 0] (EO b2 b6 oc ol od of ot os w):=by
 generalize hN:(max size 1).toNat=N at *;have hN1:N≤1000:=by omega
 have hcl:aH.celW ⟨kind,line,name,size,init,on⟩=(List.range N).map λk=>⟨name,(k:Nat),size,decide (kind=2),init⟩:=by unfold aH.celW;rw[hN]
 rw[hcl]at hn;obtain⟨WK,hWK⟩:∃f:Nat→aN,f=λk=>{w with cells:=w.cells++(List.range k).map λk=>⟨name,(k:Nat),size,decide (kind=2),init⟩}:=⟨_,rfl⟩
 refine cg (β:=Option Nat×Option Nat×Option Nat×Option Nat×Option Nat×Option Nat) N (λk q=>([.pptr [[.lst rows,.lst tl]] 0 0,.ptr b2 0 0,.ptr b6 0 0,.W9 i,.pptr [[.W9 kind,.W9 line,.str name,.W9 size,.W9 init,.str on]] 0 0,.W9 k],EO b2 b6 q.1 q.2.1 q.2.2.1 q.2.2.2.1 q.2.2.2.2.1 q.2.2.2.2.2 (WK k)))
  (λk q=>Fh b6 q.1 q.2.1 q.2.2.1 q.2.2.2.1 q.2.2.2.2.1 q.2.2.2.2.2 (WK k)) (oc,ol,od,of,ot,os) (by subst hWK;show Fh b6 oc ol od of ot os {w with cells:=w.cells++[]};rw[V5];exact ho) (by subst hWK;show aI _ _ _ (EO b2 b6 oc ol od of ot os {w with cells:=w.cells++[]});rw[V5];exact aI.refl _ _) ?_
 rintro k ⟨oc,ol,od,of,ot,os⟩ hk ho;dsimp only at ho ⊢;unfold jX;generalize hnx:(λ(vs':List AV) (L':SH)=>∃j o',k<j∧j≤N∧_)=nx;rcases Nat.lt_or_ge k N with g1|g1
 ·have hd:=bF g1;have hk1:=aE g1 W4;have hrs:List.range (k+1)=List.range k++[k]:=List.range_succ;have hgo:QR (nx [.pptr [[.lst rows,.lst tl]] 0 0,.ptr b2 0 0,.ptr b6 0 0,.W9 i,.pptr [[.W9 kind,.W9 line,.str name,.W9 size,.W9 init,.str on]] 0 0,.W9 ((k+1:Nat):Int)]) b2 b6 {w with cells:=w.cells++(List.range k).map (λk=>(⟨name,(k:Nat),size,decide (kind=2),init⟩:bb))++[⟨name,(k:Nat),size,decide (kind=2),init⟩]}:=.of λoc2 ol2 od2 of2 ot2 os2 L' q1 q2=>by
   subst hnx;subst hWK;have e:(λk=>({w with cells:=w.cells++(List.range k).map λk=>(⟨name,(k:Nat),size,decide (kind=2),init⟩:bb)}:aN)) (k+1)={w with cells:=w.cells++(List.range k).map (λk=>(⟨name,(k:Nat),size,decide (kind=2),init⟩:bb))++[⟨name,(k:Nat),size,decide (kind=2),init⟩]}:=by show({w with cells:=w.cells++(List.range (k+1)).map (λk=>(⟨name,(k:Nat),size,decide (kind=2),init⟩:bb))}:aN)=_;rw[hrs,Vr,←V4];rfl
   exact⟨k+1,(oc2,ol2,od2,of2,ot2,os2),W4,W4,by rw[e];exact q1,by rw[e];exact aI.pick q2 rfl⟩
  clear hnx;have hCl:(w.cells++(List.range k).map (λk=>(⟨name,(k:Nat),size,decide (kind=2),init⟩:bb))).length<2^31:=by simp;omega
  obtain⟨wc,wl,wd,wf,wt,ws⟩:=w;subst hWK;dsimp only at *;generalize wc++(List.range k).map (λk=>(⟨name,(k:Nat),size,decide (kind=2),init⟩:bb))=C at *;have hC0:oc=none→C.map bb.enc=[]:=λe=>by have hc:=ho.c e;dsimp only at hc;rw[hc];rfl
  unfold EO
  repeat' (first|rw[hN]|refine st ?_|refine cy rp rp W7 (λe=>by first|simp[hC0 e]) W6 W7 (by simp;omega) (by simp;omega) W6 (λnb_ hnb_=>?_)|refine Oo ?_|refine sb λnb_ hnb_=>?_|refine s2 (λh=>?_) λh=>?_|fail)
  exact hgo (some nb_) ol od of ot os _ _ _ _ _ _ _ _ _ _ _ _ _ ⟨nofun,ho.l,ho.d,ho.f,ho.t,ho.s,ho.n⟩ rp (by simp[aq]) (by rw[Vr];rfl) rfl rfl rfl rfl rfl
 ·have hd:=bM g1;have e:k=N:=by omega
  subst e;subst hWK;dsimp only at *;unfold EO
  repeat' (first|rw[hN]|refine st ?_|refine Oo ?_|refine sb λnb_ hnb_=>?_|refine s2 (λh=>?_) λh=>?_|fail)
  exact hn oc ol od of ot os _ _ _ _ _ _ _ _ _ _ _ _ _ ho rp rfl rfl rfl rfl rfl rfl rfl
theorem Qb{o:Option Nat}{l:List cb}{x:bj}{i:Nat}{us:List W.WR}{L L':SH}{KN:AV→SH→List Nat→Prop}(h0:o=none→l=[])(hl:l.length<2^62)(h2:dQ o 2 (l.map cb.enc) L L')(hf:∀z∈us,W.free z ⟨i,[],(ah o 2 (l.map cb.enc)).names,[],true,[]⟩)
  (hk:KN (.W9 (fV l x)) (ah o 2 (l.map cb.enc)++L') (ah o 2 (l.map cb.enc)).names):W.dcallM Tryz.prog us i 42 [aq o l.length,.str x] L KN:=
 ⟨ah o 2 (l.map cb.enc),L',h2.perm,hf,(EH o l x h0 hl).mono λu K ⟨h1,h3⟩=>by subst h1 h3;exact hk⟩
theorem Qc{o:Option Nat}{b6 n i j k:Nat}{rows:List (List AV)}(h:∀b,o=some b→b6≠b):∀z∈[rm i rz,rm j ⟨aa (.ptr b6 0 n),[],[],[]⟩],W.free z ⟨k,[],(ah o 2 rows).names,[],true,[]⟩:=by
 intro z hz;simp only[Vq,VY,or_false]at hz;rcases hz with rfl|rfl
 ·exact⟨nofun,nofun,nofun,nofun,λ_=>rfl⟩
 ·refine⟨nofun,?_,nofun,nofun,λ_=>rfl⟩;intro c hc;have:c=b6:=by simpa[rm,aa]using hc
  subst this;cases o with
  |none=>simp[ah,SH.names]
  |some b=>have:=h b rfl;simpa[ah,SH.names]using this
theorem SD{d:aH}(hr:rows[i]? =some d.enc)(hk:1≤d.kind∧d.kind≤6)(hs:d.size≤1000)(hi1:IntKind.i64.wrap ((i:Int)+1)=((i+1:Nat):Int))(ho:Fh b6 oc ol od of ot os w)(h1:w.cells.length<2^30)(h2:w.locks.length<2^30)(h3:w.conds.length<2^30)(h4:w.futures.length<2^30)
  (hn:QR (n18 [.pptr [[.lst rows,.lst tl]] 0 0,.ptr b2 0 0,.ptr b6 0 0,.W9 ((i+1:Nat):Int)]) b2 b6 (bT w d)) :
  jY n18 (EO b2 b6 oc ol od of ot os w) (.pptr [[.lst rows,.lst tl]] 0 0) (.W9 i) (.ptr b2 0 0) (.ptr b6 0 0):=by
 obtain⟨kind,line,name,size,init,on⟩:=d;have hr':rows[i]? =some [.W9 kind,.W9 line,.str name,.W9 size,.W9 init,.str on]:=hr;clear hr;dsimp only at hk hs;have hl0:ol=none→w.locks.map cb.enc=[]:=λe=>by rw[ho.l e];rfl
 have hd0:od=none→w.conds.map cX.enc=[]:=λe=>by rw[ho.d e];rfl
 have hf0:of=none→w.futures.map aw=[]:=λe=>by rw[ho.f e];rfl
 have hlk:=EH ol w.locks on ho.l W4;have hc:kind=1∨kind=2∨kind=3∨kind=4∨kind=5∨kind=6:=by omega
 unfold jY;rcases hc with rfl|rfl|rfl|rfl|rfl|rfl
 ·have hst:bT w ⟨1,line,name,size,init,on⟩={w with cells:=w.cells++aH.celW ⟨1,line,name,size,init,on⟩}:=by unfold bT;rw[if_pos (.inl rfl)]
  rw[hst]at hn;have hw:=QT (.inl rfl) hs hi1 ho h1 hn;unfold EO at hw ⊢
  repeat' (first|exact hw|refine st ?_|refine sb λnb_ hnb_=>?_|refine s2 (λh=>?_) λh=>?_|fail)
 ·have hst:bT w ⟨2,line,name,size,init,on⟩={w with cells:=w.cells++aH.celW ⟨2,line,name,size,init,on⟩}:=by unfold bT;rw[if_pos (.inr rfl)]
  rw[hst]at hn;have hw:=QT (.inr rfl) hs hi1 ho h1 hn;unfold EO at hw ⊢
  repeat' (first|exact hw|refine st ?_|refine sb λnb_ hnb_=>?_|refine s2 (λh=>?_) λh=>?_|fail)
 ·have hst:bT w ⟨3,line,name,size,init,on⟩={w with locks:=w.locks++[⟨name,decide ((3:Int)=4)⟩]}:=rfl;rw[hst]at hn;unfold EO
  repeat' (first|refine st ?_|refine cy rp rp W7 (λe=>by first|simp[hl0 e]) W6 W7 (by simp;omega) (by simp;omega) W6 (λnb_ hnb_=>?_)|refine sb λnb_ hnb_=>?_|refine s2 (λh=>?_) λh=>?_|fail)
  exact hn oc (some nb_) od of ot os _ _ _ _ _ _ _ _ _ _ _ _ _ ⟨ho.c,nofun,ho.d,ho.f,ho.t,ho.s,λb e=>by cases e;rintro rfl;exact hnb_ (by simp[SH.names])⟩ rp (by simp[aq]) rfl (by rw[Vr];rfl) rfl rfl rfl rfl
 ·have hst:bT w ⟨4,line,name,size,init,on⟩={w with locks:=w.locks++[⟨name,decide ((4:Int)=4)⟩]}:=rfl;rw[hst]at hn;unfold EO
  repeat' (first|refine st ?_|refine cy rp rp W7 (λe=>by first|simp[hl0 e]) W6 W7 (by simp;omega) (by simp;omega) W6 (λnb_ hnb_=>?_)|refine sb λnb_ hnb_=>?_|refine s2 (λh=>?_) λh=>?_|fail)
  exact hn oc (some nb_) od of ot os _ _ _ _ _ _ _ _ _ _ _ _ _ ⟨ho.c,nofun,ho.d,ho.f,ho.t,ho.s,λb e=>by cases e;rintro rfl;exact hnb_ (by simp[SH.names])⟩ rp (by simp[aq]) rfl (by rw[Vr];rfl) rfl rfl rfl rfl
 ·have hst:bT w ⟨5,line,name,size,init,on⟩={w with conds:=w.conds++[⟨name,fV w.locks on⟩]}:=rfl;rw[hst]at hn;unfold EO;rcases ol with _|bl_
  all_goals
   repeat' (first|refine st ?_|refine cy rp rp W7 (λe=>by first|simp[hd0 e]) W6 W7 (by simp;omega) (by simp;omega) W6 (λnb_ hnb_=>?_)|((with_reducible refine ef 42 ?_);refine Qb ho.l W4 rp (Qc ho.n) ?_;dsimp only[Ct,Cu,List.nil_append,List.cons_append])|refine sb λnb_ hnb_=>?_|refine s2 (λh=>?_) λh=>?_|fail)
  ·exact hn oc none (some nb_) of ot os _ _ _ _ _ _ _ _ _ _ _ _ _ ⟨ho.c,ho.l,nofun,ho.f,ho.t,ho.s,ho.n⟩ rp (by simp[aq]) rfl rfl (by rw[Vr];rfl) rfl rfl rfl
  ·exact hn oc (some bl_) (some nb_) of ot os _ _ _ _ _ _ _ _ _ _ _ _ _ ⟨ho.c,ho.l,nofun,ho.f,ho.t,ho.s,ho.n⟩ rp (by simp[aq]) rfl rfl (by rw[Vr];rfl) rfl rfl rfl
 ·have hst:bT w ⟨6,line,name,size,init,on⟩={w with futures:=w.futures++[name]}:=rfl;rw[hst]at hn;unfold EO
  repeat' (first|refine st ?_|refine cy rp rp W7 (λe=>by first|simp[hf0 e]) W6 W7 (by simp;omega) (by simp;omega) W6 (λnb_ hnb_=>?_)|refine sb λnb_ hnb_=>?_|refine s2 (λh=>?_) λh=>?_|fail)
  exact hn oc ol od (some nb_) ot os _ _ _ _ _ _ _ _ _ _ _ _ _ ⟨ho.c,ho.l,ho.d,nofun,ho.t,ho.s,ho.n⟩ rp (by simp[aq]) rfl rfl rfl (by rw[Vr];rfl) rfl rfl
end
end
section
set_option maxRecDepth 100000
theorem SE(o:Option Nat)(l:List bj)(k:Nat)(R:SH)(x:bj)(h0:o=none→l=[])(hk:k≤l.length)(hl:k<2^62):
  ai Tryz.prog 64 [aq o k,.str x] (ah o 1 (l.map aw)++R) λu K=>∃r:Int,u=.W9 r∧K=ah o 1 (l.map aw)++R:=by
 refine pQ _ _ _ _ ?_;unfold m7;generalize hL:ah o 1 (l.map aw)++R=L;generalize hQ:(λ(u:AV) (K:SH)=>∃r:Int,u=AV.W9 r∧K=L)=Q;have hq:∀r:Int,Q (.W9 r) L:=λr=>by subst hQ;exact⟨r,rfl,rfl⟩
 clear hQ;subst hL;cases o with
 |none=>
  have:=h0 rfl;subst this;obtain rfl:k=0:=by simpa using hk
  dsimp only[ah,aq,List.nil_append]at *;refine pq 0 (λ_=>True) (λi=>[.emp,.str x,.W9 i]) W4 trivial rfl (λi h1 hd hi _ nx hn=>by omega) (λi h1 hd _ nx=>?_);unfold fL
  repeat' (first|refine st ?_|refine sb λnb_ hnb_=>?_|refine s2 (λh=>?_) λh=>?_|fail)
  exact hq _
 |some b1=>
  dsimp only[ah,aq,List.cons_append,List.nil_append]at *;refine pq k (λ_=>True) (λi=>[.sl b1 0 k,.str x,.W9 i]) W4 trivial rfl (λi h1 hd hi _ nx hn=>?_) (λi h1 hd _ nx=>?_)
  all_goals unfold fL
  ·have hx:=az (f:=aw) (l:=l) (i:=i) W4
   repeat' (first|refine st ?_|refine sb λnb_ hnb_=>?_|refine s2 (λh=>?_) λh=>?_|fail)
   all_goals first
    |exact hq _
    |exact hn trivial
  ·repeat' (first|refine st ?_|refine sb λnb_ hnb_=>?_|refine s2 (λh=>?_) λh=>?_|fail)
   exact hq _
def dm(bt:Nat)(th le:Int)(se tx at_ lo:Bool)(o:Option Nat)(k:Nat):Blk:=mq bt (.W9 th) (.W9 le) (.bool se) (.bool tx) (.bool at_) (.bool lo) (aq o k)
def S0(f:FuncId)(args:List AV)(d:Nat)(good:AV→Prop):Prop:=∀(bm bt:Nat) (t:List UInt8) (a:Nat) (th le:Int) (se tx at_ lo:Bool) (o:Option Nat) (ar:List bj) (k:Nat),t.length<2^40→a≤t.length→(o=none→ar=[])→k≤ar.length→k+d≤900→
 ai Tryz.prog f (.ptr bm 0 0::args) ((bm,dm bt th le se tx at_ lo o k)::(bt,aP t a)::ah o 1 (ar.map aw)) λu K=>∃(v:AV) (a':Nat) (th' le':Int) (se' tx' at' lo':Bool) (o':Option Nat) (ar':List bj),u=v∧good v∧a'≤t.length∧(o'=none→ar'=[])∧k≤ar'.length∧K=(bm,dm bt th' le' se' tx' at' lo' o' k)::(bt,aP t a')::ah o' 1 (ar'.map aw)
theorem my{b1 b2:Nat}{x1 x2:Blk}{o:Option Nat}{n:Nat}{rows:List (List AV)}{L L1 L2 L3:SH}(h1:eN b1 x1 L L1)(h2:eN b2 x2 L1 L2)(h3:dQ o n rows L2 L3):L.Perm (((b1,x1)::(b2,x2)::ah o n rows)++L3):=
 h1.perm.trans ((h2.perm.trans ((h3.perm).cons _)).cons _)
section
variable {f:FuncId} {args:List AV} {d:Nat} {good:AV→Prop} {bm bt:Nat} {t:List UInt8} {a:Nat} {th le:Int} {se tx at_ lo:Bool} {o:Option Nat} {ar:List bj} {k:Nat} {L L1 L2 L3:SH}
theorem Lk{KL:R}(h:S0 f args d good)(h1:eN bm (dm bt th le se tx at_ lo o k) L L1)(h2:eN bt (aP t a) L1 L2)(h3:dQ o 1 (ar.map aw) L2 L3)(ht:t.length<2^40)(ha:a≤t.length)(ho:o=none→ar=[])(hk:k≤ar.length)(hd:k+d≤900)
  (hq:∀(v:AV) (a':Nat) (th' le':Int) (se' tx' at' lo':Bool) (o':Option Nat) (ar':List bj),good v→a'≤t.length→(o'=none→ar'=[])→k≤ar'.length→KL v ((bm,dm bt th' le' se' tx' at' lo' o' k)::(bt,aP t a')::(ah o' 1 (ar'.map aw)++L3))):W.callM Tryz.prog f (.ptr bm 0 0::args) L KL:=by
 refine Gp (h bm bt t a th le se tx at_ lo o ar k ht ha ho hk hd) (my h1 h2 h3) ?_;rintro _ _ ⟨v,a',th',le',se',tx',at',lo',o',ar',rfl,q1,q2,q3,q4,rfl⟩;exact hq _ a' th' le' se' tx' at' lo' o' ar' q1 q2 q3 q4
theorem OH{i:Nat}{us:List W.WR}{KN:AV→SH→List Nat→Prop}(h:S0 f args d good)(h1:eN bm (dm bt th le se tx at_ lo o k) L L1)(h2:eN bt (aP t a) L1 L2)(h3:dQ o 1 (ar.map aw) L2 L3)(ht:t.length<2^40)(ha:a≤t.length)(ho:o=none→ar=[])(hk:k≤ar.length)(hd:k+d≤900)
  (hf:∀y∈us,W.free y ⟨i,[],SH.names ((bm,dm bt th le se tx at_ lo o k)::(bt,aP t a)::ah o 1 (ar.map aw)),[],true,[]⟩)
  (hq:∀(v:AV) (a':Nat) (th' le':Int) (se' tx' at' lo':Bool) (o':Option Nat) (ar':List bj) (ks:List Nat),good v→a'≤t.length→(o'=none→ar'=[])→k≤ar'.length→KN v ((bm,dm bt th' le' se' tx' at' lo' o' k)::(bt,aP t a')::(ah o' 1 (ar'.map aw)++L3)) ks):W.dcallM Tryz.prog us i f (.ptr bm 0 0::args) L KN:=by
 refine⟨_,L3,my h1 h2 h3,hf,(h bm bt t a th le se tx at_ lo o ar k ht ha ho hk hd).mono ?_⟩;rintro _ _ ⟨v,a',th',le',se',tx',at',lo',o',ar',rfl,q1,q2,q3,q4,rfl⟩;exact hq _ a' th' le' se' tx' at' lo' o' ar' _ q1 q2 q3 q4
theorem EI{v v2:AV}{x1 x2:Blk}{rows:List (List AV)}(h1:eN bm x1 L L1)(h2:eN bt x2 L1 L2)(h3:dQ o 1 rows L2 L3)(hv:Fz L3 v v2):aI [v] L [v2] ((bm,x1)::(bt,x2)::ah o 1 rows):=by
 refine .drop (K:=L3) ((my h1 h2 h3).trans VT) rfl λi a a2 e1 e2=>?_
 match i with
 |0=>cases e1;cases e2;exact hv
 |i+1=>simp at e1
end
def cq(d:Nat):Nat:=100*10^d
def OI(d:Nat)(v:AV):Prop:=∃x:ab,v=.agg x.row∧x.wt≤cq d
def EJ(n:Nat)(v:AV):Prop:=∃l:List ab,v=.lst (l.map ab.enc)∧ab.wts l≤n
def OJ(d:Nat):Prop:=S0 45 [.W9 (d:Int)] d (OI d)
def OK(d:Nat):Prop:=∀n:Nat,n≤10→S0 24 [.W9 (d:Int),.W9 (n:Int)] d (EJ (n*cq d))
def SF(d:Nat):Prop:=∀s:bj,S0 75 [.str s,.W9 (d:Int)] (d+1) (EJ (2*cq d))
theorem EK(l:List ab)(x:ab):ab.wts (l++[x])=ab.wts l+x.wt:=by
 induction l with
 |nil=>simp[ab.wts]
 |cons y l ih=>simp only[Wz,ab.wts,ih];omega
def dq(d:Nat):Prop:=∀n:Nat,n≤10→∀(bm bt:Nat) (t:List UInt8) (a:Nat) (th le:Int) (se tx at_ lo:Bool) (o:Option Nat) (ar:List bj) (k:Nat),t.length<2^40→a≤t.length→(o=none→ar=[])→k≤ar.length→k+d≤900→
 ai Tryz.prog 24 [.ptr bm 0 0,.W9 (d:Int),.W9 (n:Int)] ((bm,dm bt th le se tx at_ lo o k)::(bt,aP t a)::ah o 1 (ar.map aw)) λu K=>∃(a':Nat) (th' le':Int) (se' tx' at' lo':Bool) (o':Option Nat) (ar':List bj) (l:List ab) (ol:Option Nat),u=aq ol l.length∧(ol=none→l=[])∧ab.wts l≤n*cq d∧a'≤t.length∧(o'=none→ar'=[])∧k≤ar'.length∧K=(bm,dm bt th' le' se' tx' at' lo' o' k)::(bt,aP t a')::(ah o' 1 (ar'.map aw)++ah ol 11 (l.map ab.enc))
theorem Ha(d:Nat)(hS:OJ d):dq d:=by
  intro n hn bm bt t a th le se tx at_ lo o ar k ht ha ho hk hd;refine qY _ _ _ _ _ ?_;unfold jR;generalize hQ:(λ(u:AV) (K:SH)=>∃(a':Nat) (th' le':Int) (se' tx' at' lo':Bool) (o':Option Nat) (ar':List bj) (l:List ab) (ol:Option Nat),u=aq ol l.length∧(ol=none→l=[])∧ab.wts l≤n*cq d∧a'≤t.length∧(o'=none→ar'=[])∧k≤ar'.length∧K=(bm,dm bt th' le' se' tx' at' lo' o' k)::(bt,aP t a')::(ah o' 1 (ar'.map aw)++ah ol 11 (l.map ab.enc)))=Q;have hq:∀(l:List ab) (ol:Option Nat) (a':Nat) (th' le':Int) (se' tx' at' lo':Bool) (o':Option Nat) (ar':List bj),(ol=none→l=[])→ab.wts l≤n*cq d→a'≤t.length→(o'=none→ar'=[])→k≤ar'.length→Q (aq ol l.length) ((bm,dm bt th' le' se' tx' at' lo' o' k)::(bt,aP t a')::(ah o' 1 (ar'.map aw)++ah ol 11 (l.map ab.enc))):=λl ol a' th' le' se' tx' at' lo' o' ar' h4 h5 h6 h7 h8=>by subst hQ;exact⟨a',th',le',se',tx',at',lo',o',ar',l,ol,rfl,h4,h5,h6,h7,h8,rfl⟩
  clear hQ;refine cg (β:=Nat×Int×Int×Bool×Bool×Bool×Bool×Option Nat×List bj×Option Nat×List ab) n (λi ⟨a,th,le,se,tx,at_,lo,o,ar,ol,xs⟩=>([.ptr bm 0 0,.W9 d,.W9 n,aq ol i,.W9 i],(bm,dm bt th le se tx at_ lo o k)::(bt,aP t a)::(ah o 1 (ar.map aw)++ah ol 11 (xs.map ab.enc))))
    (λi ⟨a,th,le,se,tx,at_,lo,o,ar,ol,xs⟩=>a≤t.length∧(o=none→ar=[])∧k≤ar.length∧(ol=none→xs=[])∧xs.length=i∧ab.wts xs≤i*cq d) ⟨a,th,le,se,tx,at_,lo,o,ar,none,[]⟩ ⟨ha,ho,hk,λ_=>rfl,rfl,by simp[ab.wts]⟩ ?_ ?_
  · exact aI.vals (.cons (.refl _) (.cons (.refl _) (.cons (.refl _) (.cons .nile (.cons (.refl _) .nil))))) |> λh=>by simpa[aq,ah]using h
  · rintro i ⟨a,th,le,se,tx,at_,lo,o,ar,ol,xs⟩ hi ⟨ha,ho,hk,hol,hxl,hxw⟩
    dsimp only at ha ho hk hol hxl hxw ⊢;unfold iM;generalize hnx:(λ(vs':List AV) (L':SH)=>_)=nx;have hn:∀(a:Nat) (th le:Int) (se tx at_ lo:Bool) (o:Option Nat) (ar:List bj) (nb:Nat) (x:ab) (L':SH),i<n→gI L' ((bm,dm bt th le se tx at_ lo o k)::(bt,aP t a)::(ah o 1 (ar.map aw)++ah (some nb) 11 ((xs++[x]).map ab.enc)))→a≤t.length→(o=none→ar=[])→k≤ar.length→x.wt≤cq d→nx [.ptr bm 0 0,.W9 d,.W9 n,.sl nb 0 (i+1),.W9 ((i+1:Nat):Int)] L':=by intro a th le se tx at_ lo o ar nb x L' q0 q1 q2 q3 q4 q5;subst hnx;refine⟨i+1,⟨a,th,le,se,tx,at_,lo,o,ar,some nb,xs++[x]⟩,W4,W4,⟨q2,q3,q4,nofun,by simp;omega,?_⟩,aI.pick q1 rfl⟩;dsimp only;rw[EK,Nat.add_mul,Nat.one_mul];omega
    clear hnx;subst hxl;have hfin:∀(L:SH) (v:AV),L=(bm,dm bt th le se tx at_ lo o k)::(bt,aP t a)::(ah o 1 (ar.map aw)++ah ol 11 (xs.map ab.enc))→v=aq ol xs.length→Q v L:=by rintro _ _ rfl rfl;exact hq xs ol a th le se tx at_ lo o ar hol (VG hxw (VH _ hi)) ha ho hk
    rcases Vt xs.length n with g|g
    · have hd1:=bF g
      have hi1:=aE g W4;unfold dm mq at hfin ⊢
      repeat' (first|refine st ?_|((with_reducible refine aZ 45 ?_);(refine Lk hS rp rp rp ht W5 W5 W5 hd ?_;rintro _ a_ th_ le_ se_ tx_ at_ lo_ o_ ar_ ⟨x_,rfl,hx_⟩ ha_ ho_ hk_))|refine cy rp rp W7 (λe=>by first|simp[hol e]) W6 W7 (by simp;omega) (by simp;omega) W6 (λnb_ hnb_=>?_)|refine sb λnb_ hnb_=>?_|refine s2 (λh=>?_) λh=>?_|fail)
      all_goals first
        |exact hfin _ _ rfl rfl
        | (have e_ : ah (some nb_) 11 ((xs ++ [x_]).map ab.enc) = [(nb_, ⟨11, xs.map ab.enc ++ [x_.row]⟩)] := by rw [ah, Vr, Vp, V9, ab.enc_row]
           refine hn a_ th_ le_ se_ tx_ at_ lo_ o_ ar_ nb_ x_ _ g ?_ ha_ ho_ hk_ hx_;rw[e_];exact .one (.there _ (.there _ (.here _))) (.one (.there _ (.there _ (.here _))) (.slot (.there _ (.there _ (.here _))) (.one (.here _) (.nil _)))))
    · have hd1:=bM g
      unfold dm mq at hfin ⊢
      repeat' (first|refine st ?_|refine sb λnb_ hnb_=>?_|refine s2 (λh=>?_) λh=>?_|fail)
      exact hfin _ _ rfl rfl
theorem Hb(d:Nat)(hS:dq d):OK d:=by intro n hn bm bt t a th le se tx at_ lo o ar k ht ha ho hk hd;refine ai.fz ((hS n hn bm bt t a th le se tx at_ lo o ar k ht ha ho hk hd).mono ?_);rintro _ _ ⟨a',th',le',se',tx',at',lo',o',ar',l,ol,rfl,h1,h2,h3,h4,h5,rfl⟩;exact⟨_,_,EI (.here _) (.here _) (.here _) (Fz.slot (f:=ab.enc) (g:=ab.enc) rfl (λe=>by simp[h1 e]) W8 (λ_ _=>rfl) λy _ q a a2 h1 h2=>by rw[h1]at h2;cases h2;exact .refl _),_,a',th',le',se',tx',at',lo',o',ar',rfl,⟨l,rfl,h2⟩,h3,h4,h5,rfl⟩
theorem Qd{r:Nat}(h:r<100):IntKind.i64.wrap (1+(r:Int))=((1+r:Nat):Int):=by rw[We _ W4];omega
theorem EJ.le{n m:Nat}{v:AV}(h:EJ n v)(hm:n≤m):EJ m v:=by obtain⟨l,h1,h2⟩:=h;exact⟨l,h1,W4⟩
theorem Qe(d:Nat)(hS:OK d):SF d:=by
 intro s bm bt t a th le se tx at_ lo o ar k ht ha ho hk hd;refine ai.fz (qW _ _ _ _ _ ?_);unfold jQ;generalize hQ:(λ(v:AV) (L:SH)=>∃v2 L2,aI [v] L [v2] L2∧∃(v:AV) (a':Nat) (th' le':Int) (se' tx' at' lo':Bool) (o':Option Nat) (ar':List bj),v2=v∧EJ (2*cq d) v∧a'≤t.length∧(o'=none→ar'=[])∧k≤ar'.length∧L2=(bm,dm bt th' le' se' tx' at' lo' o' k)::(bt,aP t a')::ah o' 1 (ar'.map aw))=Q;have hq:∀(v:AV) (a':Nat) (th' le':Int) (se' tx' at' lo':Bool) (o':Option Nat) (ar':List bj) (L:SH),EJ (2*cq d) v→gI L ((bm,dm bt th' le' se' tx' at' lo' o' k)::(bt,aP t a')::ah o' 1 (ar'.map aw))→a'≤t.length→(o'=none→ar'=[])→k≤ar'.length→Q v L:=λv a' th' le' se' tx' at' lo' o' ar' L h1 h2 h6 h7 h8=>by subst hQ;exact⟨_,_,aI.pick h2 rfl,_,a',th',le',se',tx',at',lo',o',ar',rfl,h1,h6,h7,h8,rfl⟩
 clear hQ;unfold dm mq
 repeat' (first|refine mN (sQ ?_ (Qd W4))|refine st ?_|refine IU (r:=[.str s]) rp W6 rp (by simpa using hk) (λe=>by simp[ho e]) W4 W4 W6 (λnb_ hnb_=>?_)|((with_reducible refine aZ 23 ?_);(refine fF ht W5 rp (λr_ a_ hr_ ha_=>?_)))|refine sb λnb_ hnb_=>?_|refine s2 (λh=>?_) λh=>?_|fail)
 have er:List.take k (ar.map aw)++[[.str s]]=(ar.take k++[s]).map aw:=by rw[Vr,List.map_take];rfl
 rw[er];refine Lk (o:=some nb_) (ar:=ar.take k++[s]) (k:=k+1) (hS (1+r_) W4) rp rp (.here _) ht ha_ nofun (by simp[Wd hk]) W4 ?_;intro v a2 th2 le2 se2 tx2 at2 lo2 o2 ar2 hg ha2 ho2 hk2;rcases o2 with _|b2
 ·exfalso;have:=ho2 rfl;subst this;simp at hk2
 unfold iL dm mq;dsimp only[ah,aq,List.cons_append,List.nil_append];have es:IntKind.i64.wrap (((k+1:Nat):Int)-1)=(k:Int):=by rw[IntWalk.i64_in _ W4];omega
 repeat' (first|refine st ?_|refine Ag ?_ (WI _) rp rfl|refine sb λnb_ hnb_=>?_|refine s2 (λh=>?_) λh=>?_|fail)
 exact hq v a2 th2 le2 se2 tx2 at2 lo2 (some b2) ar2 _ (hg.le (VH _ W4)) (.one (.here _) (.one (.here _) (.one (.here _) (.nil _)))) ha2 nofun W4
end
end Go.Proofs.YtenbpcngcicamaaGreatDoor.Am
