/- A part of the proof; the statement is proved in the last part. -/
import Derived.Test.YtdnpdghlggbklaaGreatDoorQsz
set_option linter.unusedSimpArgs false
set_option linter.unusedVariables false
namespace Go.Proofs.YtdnpdghlggbklaaGreatDoor.Am
section
set_option maxRecDepth 100000
set_option maxHeartbeats 4000000
theorem an{P:Prop}(h:P:=by first|assumption|exact nofun|fail):P:=h
theorem om{P:Prop}(h:P:=by omega):P:=h
def mi(f:FuncId)(args:List AV)(w:aM)(loc:List aZ)(k:Nat):Prop:=∀(bg:Nat) (o:Option Nat) (out:List bj) (site next:Int),(o=none→out=[])→out.length+k<2^30→
 af Tryz.prog f (.ptr bg 0 0::args) ((bg,gp w loc (am o out.length) site next)::ae o 6 (out.map bj.enc)) λu K=>∃(o':Option Nat) (out':List bj) (site' next':Int),u=.tup []∧(o'=none→out'=[])∧out.length≤out'.length∧out'.length≤out.length+k∧K=(bg,gp w loc (am o' out'.length) site' next')::ae o' 6 (out'.map bj.enc)
section
variable {f:FuncId} {args:List AV} {w:aM} {loc:List aZ} {k m bg:Nat} {o:Option Nat} {out:List bj} {site next:Int} {L L1 L2:SH} {KL:R}
theorem cX(h:mi f args w loc k)(h1:eI bg (gp w loc (am o m) site next) L L1)(h2:dM o 6 (out.map bj.enc) L1 L2)(hm:m=out.length)(h0:o=none→out=[])(hl:out.length+k<2^30)
  (hq:∀(o':Option Nat) (out':List bj) (site' next':Int),(o'=none→out'=[])→out.length≤out'.length→out'.length≤out.length+k→KL (.tup []) ((bg,gp w loc (am o' out'.length) site' next')::(L2++ae o' 6 (out'.map bj.enc)))):W.callM Tryz.prog f (.ptr bg 0 0::args) L KL:=by
 subst hm;refine xV (M:=L2) (h bg o out site next h0 hl) (h1.perm.trans (h2.perm.cons _)) ?_;rintro _ _ ⟨o',out',s',n',rfl,h3,h4,h5,rfl⟩;exact⟨_,.cons _ Wf,hq o' out' s' n' h3 h4 h5⟩
theorem qd{b:Nat}(h:mi f args w loc k)(h1:eI bg (gp w loc (am (some b) m) site next) L L1)(h2:dM (some b) 6 (out.map bj.enc) L1 L2)(hm:m=out.length)(hp:0<out.length)(hl:out.length+k<2^30)
  (hq:∀(b':Nat) (out':List bj) (site' next':Int),out.length≤out'.length→out'.length≤out.length+k→KL (.tup []) ((bg,gp w loc (am (some b') out'.length) site' next')::(L2++ae (some b') 6 (out'.map bj.enc)))):W.callM Tryz.prog f (.ptr bg 0 0::args) L KL:=by
 refine cX h h1 h2 hm nofun hl λo' out' s' n' h3 h4 h5=>?_
 rcases o' with _|b'
 ·have:=h3 rfl;subst this;have h6:out.length≤0:=h4;omega
 ·exact hq b' out' s' n' h4 h5
theorem dw{a0 a1 a2 a3 a4 a5:Int}(h1:eI bg (gp w loc (am o m) site next) L L1)(h2:dM o 6 (out.map bj.enc) L1 L2)(hm:m=out.length)(h0:o=none→out=[])(hl:out.length<2^30)
  (hq:∀(b:Nat) (out':List bj),out'.length=out.length+1→KL (.tup []) ((bg,gp w loc (am (some b) out'.length) site next)::(L2++ae (some b) 6 (out'.map bj.enc)))):W.callM Tryz.prog 31 [.ptr bg 0 0,.agg [.Xw a0,.Xw a1,.Xw a2,.Xw a3,.Xw a4,.Xw a5]] L KL:=by
 subst hm;exact SX (i:=⟨a0,a1,a2,a3,a4,a5⟩) h1 h2 h0 hl λb=>hq b _ Xu
theorem AU{Q:R}
  (hQ:(λ(v:AV) (L:SH)=>∃v2 L2,aF [v] L [v2] L2∧∃(o':Option Nat) (out':List bj) (site' next':Int),v2=.tup []∧(o'=none→out'=[])∧out.length≤out'.length∧out'.length≤out.length+k∧L2=(bg,gp w loc (am o' out'.length) site' next')::ae o' 6 (out'.map bj.enc))=Q)
  (o':Option Nat) (out':List bj) (site' next':Int) (j:Nat) (L:SH) (h:gq L ((bg,gp w loc (am o' j) site' next')::ae o' 6 (out'.map bj.enc))) (hj:j=out'.length) (hn:o'=none→out'=[]) (h1:out.length≤out'.length) (h2:out'.length≤out.length+k):Q (.tup []) L:=by
 subst hQ hj;exact⟨_,_,aF.pick h rfl,o',out',site',next',rfl,hn,h1,h2,rfl⟩
theorem mi.mono{k2:Nat}(h:mi f args w loc k)(hk:k≤k2):mi f args w loc k2:=λbg o out site next h0 hl=>(h bg o out site next h0 Xr).mono λu K ⟨o',out',s',n',a,b,c,d,e⟩=>⟨o',out',s',n',a,b,c,Xr,e⟩
theorem HA{K:AV→Prop}(h:K (.Xw (out.length:Int)))(h0:o=none→out=[]:=by assumption):W.len (am o out.length) K:=CF h λe=>by rw[h0 e];rfl
end
theorem SY{op:Int}{name:aZ}{n:Nat}(h:Dt op name n+z0 op<2^50):op≠0∧(n=0→op=1∨op=2)∧(op=3→name=[113]):=by
 unfold Dt z0 z3 at h;refine⟨λe=>?_,λe=>?_,λe=>?_⟩
 ·rw[if_pos e]at h;omega
 ·rw[if_pos e]at h;by_cases g:op=0∨op=1∨op=2
  ·rcases g with g|g|g
   ·rw[if_pos g]at h;omega
   ·exact .inl g
   ·exact .inr g
  ·rw[if_neg g]at h;omega
 ·by_cases g:name=[113]
  ·exact g
  ·rw[if_neg g,if_pos e]at h;omega
theorem Qt:∀(l:List ao) (h:1<l.length),(l[0]'Xr).wt+l[1].wt≤ao.wts l
 |x::y::l,_=>by simp only[ao.wts,List.getElem_cons_zero,List.getElem_cons_succ];omega
structure WQ(w:aM):Prop where
 c:w.cells.length<2^40
 l:w.locks.length<2^40
 d:w.conds.length<2^40
 f:w.futures.length<2^40
 t:w.threads.length<2^40
 q:∃b:Nat,b<w.cells.length∧wY w.cells [113]=b
section
variable {w:aM} {loc:List aZ} (hw:WQ w) (hlo:loc.length<2^40)
include hw hlo
theorem CK:∀(n:Nat) (e:ao) (d:Int),e.wt+z0 e.op≤n→n<2^29→mi 96 [.agg e.row,.Xw d] w loc e.wt:=by
 intro n
 induction n using Nat.strongRecOn with
 |_ n ih=>
 intro e d hn hn2 bg o out site next h0 hl
 have hwe:=e.wt_eq;have kids:∀(i:Nat) (h:i<e.l.length) (d:Int),mi 96 [.agg e.l[i].row,.Xw d] w loc e.l[i].wt:=λi h d=>ih _ (by have:=ao.wts_get0 e.l i h;omega) e.l[i] d (VL _) (by have:=ao.wts_get0 e.l i h;omega)
 have kw:=ao.wts_get0 e.l;have kw2:=Qt e.l;have hx:=λ(i:Nat) (h:i<e.l.length)=>Ds h;obtain⟨b1,b2,b3⟩:=SY (op:=e.op) (name:=e.name) (n:=e.l.length) Xr;have ha:=Jq loc e.name Xr;have hc:=Gm w e.name (by have:=hw.c;omega);refine af.fz (u7 _ _ _ _ _ ?_);unfold kB;generalize hQ:(λ(v:AV) (L:SH)=>∃v2 L2,aF [v] L [v2] L2∧∃(o':Option Nat) (out':List bj) (site' next':Int),_)=Q;have fin:=AU hQ;clear hQ;unfold ao.row;clear ih hn;generalize e.l=l at *;generalize e.op=op at *;generalize e.name=name at *;by_cases p1:op=1
 ·subst p1
  repeat' (first|refine st ?_|((with_reducible refine aY 31 ?_);(refine dw rp rp om an om (λb_ out_ hl_=>?_)))|refine sb λnb_ hnb_=>?_|refine s2 (λh=>?_) λh=>?_|fail)
  exact fin _ _ _ _ _ _ (.one (.here _) (.slotl .last)) om an om om
 by_cases p2:op=2
 ·subst p2
  repeat' (first|refine st ?_|((with_reducible refine aY 31 ?_);(refine dw rp rp om an om (λb_ out_ hl_=>?_)))|((with_reducible refine ee 31 ?_);refine m0 ?_;refine dw rp rp om an om (λb_ out_ hl_ ks_=>?_))|(refine pf 90 ?_;refine pm (ha) ?_)|(refine pf 127 ?_;refine pm (hc) ?_)|refine sb λnb_ hnb_=>?_|refine s2 (λh=>?_) λh=>?_|fail)
  all_goals exact fin _ _ _ _ _ _ (.one (.here _) (.slotl .last)) om an om om
 have d1:decide (op=1)=false:=decide_eq_false p1;have d2:decide (op=2)=false:=decide_eq_false p2;have hl0:0<l.length:=by
  rcases WE l.length with h|h
  ·rcases b2 h with h|h
   ·exact absurd h p1
   ·exact absurd h p2
  ·exact h
 have k0:=kids 0 hl0;have x0:=hx 0 hl0;have g0:=kw 0 hl0;by_cases p3:op=3
 ·subst p3;obtain⟨b,hb,hcb⟩:=hw.q;rw[b3 rfl,hcb]at hc;have e3:=b3 rfl;subst e3;have hxc:=ay (f:=aV.enc) hb;clear kids kw kw2 hx b1 b2 b3;generalize l[0]=a at *
  repeat' (first|refine st ?_|((with_reducible refine aY 96 ?_);(refine cX (k0 _) rp rp om an om (λo_ out_ s_ n_ ho_ hl_ hm_=>?_)))|(refine pf 127 ?_;refine pm (hc) ?_)|((with_reducible refine aY 31 ?_);(refine dw rp rp om an om (λb_ out_ hl_=>?_)))|refine sb λnb_ hnb_=>?_|refine s2 (λh=>?_) λh=>?_|fail)
  exact fin _ _ _ _ _ _ (.one (.here _) (.slotl .last)) om an om om
 have d3:decide (op=3)=false:=decide_eq_false p3;by_cases p4:l.length=1
 ·have d4:decide ((l.length:Int)=1)=true:=decide_eq_true Xr;clear kids kw kw2 hx b1 b2 b3;generalize l[0]=a at *
  repeat' (first|refine st ?_|((with_reducible refine aY 96 ?_);(refine cX (k0 _) rp rp om an om (λo_ out_ s_ n_ ho_ hl_ hm_=>?_)))|((with_reducible refine aY 31 ?_);(refine dw rp rp om an om (λb_ out_ hl_=>?_)))|refine sb λnb_ hnb_=>?_|refine s2 (λh=>?_) λh=>?_|fail)
  exact fin _ _ _ _ _ _ (.one (.here _) (.slotl .last)) om an om om
 ·have d4:decide ((l.length:Int)=1)=false:=decide_eq_false Xr;have hl1:1<l.length:=by omega
  have k1:=kids 1 hl1;have x1:=hx 1 hl1;have g1:=kw2 hl1;clear kids kw kw2 hx b1 b2 b3;generalize l[0]=a at *;generalize l[1]=c at *
  repeat' (first|refine st ?_|((with_reducible refine aY 96 ?_);(refine cX (k0 _) rp rp om an om (λo_ out_ s_ n_ ho_ hl_ hm_=>?_)))|((with_reducible refine aY 96 ?_);(refine cX (k1 _) rp rp om an om (λo_ out_ s_ n_ ho_ hl_ hm_=>?_)))|((with_reducible refine aY 31 ?_);(refine dw rp rp om an om (λb_ out_ hl_=>?_)))|refine sb λnb_ hnb_=>?_|refine s2 (λh=>?_) λh=>?_|fail)
  exact fin _ _ _ _ _ _ (.one (.here _) (.slotl .last)) om an om om
end
end
section
set_option maxRecDepth 100000
set_option maxHeartbeats 4000000
theorem LK{b N off m m2 k:Nat}{kd:IntKind}{out:List bj}{v:AV}{L:SH}{g:Nat×Blk}{KS:SH→Fp→Prop}(hk:k<out.length)(hL:L=g::ae (some b) 6 (out.map bj.enc))(hN:N=out.length)(f:bj→bj)(he:∀i:bj,i.enc.set off v=(f i).enc)(ho:off<6)(hv:v.cells? =some [v])(h1:v.one=true)
  (kk:∀(out2:List bj) (r:Fp),out2.length=out.length→KS (g::ae (some b) 6 (out2.map bj.enc)) r):di [] m 6 (am (some b) N) (.int kd (k:Int)) L λx r=>W.faddr off x λy=>ds [] m2 1 y v L KS:=by
 subst hN hL;refine RK (GP (dx (sJ (zl (T7 (GP ?_)))) hk (.tail _ (.head _)) rfl));refine A9 (x:=⟨6,out.map bj.enc⟩) (r:=out[k].enc) (x':=⟨6,(out.set k (f out[k])).map bj.enc⟩) (.there _ (.here _)) (ay hk) hv h1 (by rw[WG];exact ho) ?_ (sJ (kk _ _ Xu));rw[WH,WG,he]
theorem VE{b N m m2 k:Nat}{kd:IntKind}{n:Int}{out:List bj}{L:SH}{g:Nat×Blk}{KS:SH→Fp→Prop}(hL:L=g::ae (some b) 6 (out.map bj.enc))(hN:N=out.length)(hk:k<out.length)
  (kk:∀(out2:List bj) (r:Fp),out2.length=out.length→KS (g::ae (some b) 6 (out2.map bj.enc)) r):di [] m 6 (am (some b) N) (.int kd (k:Int)) L λx r=>W.faddr 2 x λy=>ds [] m2 1 y (.Xw n) L KS:=
 LK hk hL hN (λi=>{i with b:=n}) (λ_=>rfl) Xv rfl rfl kk
theorem VF{b N m m2 k:Nat}{kd:IntKind}{n:Int}{out:List bj}{L:SH}{g:Nat×Blk}{KS:SH→Fp→Prop}(hL:L=g::ae (some b) 6 (out.map bj.enc))(hN:N=out.length)(hk:k<out.length)
  (kk:∀(out2:List bj) (r:Fp),out2.length=out.length→KS (g::ae (some b) 6 (out2.map bj.enc)) r):di [] m 6 (am (some b) N) (.int kd (k:Int)) L λx r=>W.faddr 1 x λy=>ds [] m2 1 y (.Xw n) L KS:=
 LK hk hL hN (λi=>{i with a:=n}) (λ_=>rfl) Xv rfl rfl kk
theorem SZ(bg:Nat)(w:aM)(loc:List aZ)(v:AV)(site next:Int)(s:aZ)(hl:w.conds.length<2^62):
  af Tryz.prog 95 [.ptr bg 0 0,.str s] [(bg,gp w loc v site next)] λu K=>∃n:Int,u=.Xw n∧K=[(bg,gp w loc v site next)]:=by
 refine yD _ _ _ _ ?_;unfold mf;refine l5 w.conds.length (λi=>[.ptr bg 0 0,.str s,.Xw i]) hl rfl (λi h1 hd hi nx hn=>?_) (λi h1 hd nx=>?_)
 all_goals unfold kC
 ·have hx:=ay (f:=cI.enc) h1;unfold gp at *
  repeat' (first|refine st ?_|refine sb λnb_ hnb_=>?_|refine s2 (λh=>?_) λh=>?_|fail)
  all_goals first|exact⟨_,rfl,rfl⟩|exact hn
 ·unfold gp at *
  repeat' (first|refine st ?_|refine sb λnb_ hnb_=>?_|refine s2 (λh=>?_) λh=>?_|fail)
  exact⟨_,rfl,rfl⟩
section
variable {w:aM} {loc:List aZ} (hw:WQ w) (hlo:loc.length<2^40)
include hw hlo
theorem O1(x:ab)(hx:x.wt<2^29)(h1:x.op=1):mi 92 [.agg x.row] w loc (ao.wts x.index+x.expr.wt+1):=by
 intro bg o out site next h0 hl
 have hwe:=x.wt_eq;rw[h1,show zv 1 x.expr.op=z0 x.expr.op from rfl]at hwe;have ve:=λd=>CK hw hlo _ x.expr d (VL _) Xr
 have vi:=λ(i:Nat) (h:i<x.index.length) d=>CK hw hlo _ x.index[i] d (VL _) (by have:=ao.wts_get0 x.index i h;omega);have gi:=ao.wts_get0 x.index;have hxi:=λ(i:Nat) (h:i<x.index.length)=>Ds h;have ha:=Jq loc x.name Xr;have hc:=Gm w x.name (by have:=hw.c;omega);refine af.fz (rQ _ _ _ _ ?_);unfold jQ;generalize hQ:(λ(v:AV) (L:SH)=>∃v2 L2,aF [v] L [v2] L2∧∃(o':Option Nat) (out':List bj) (site' next':Int),_)=Q;have fin:=AU hQ;clear hQ;unfold ab.row ao.row at *;by_cases p:x.index.length=0
 ·have d1:decide ((0:Int)<(x.index.length:Int))=false:=decide_eq_false Xr;clear vi gi hxi
  repeat' (first|refine st ?_|((with_reducible refine aY 96 ?_);(refine cX (ve _) rp rp om an om (λo_ out_ s_ n_ ho_ hl_ hm_=>?_)))|(refine pf 90 ?_;refine pm (ha) ?_)|(refine pf 127 ?_;refine pm (hc) ?_)|((with_reducible refine aY 31 ?_);(refine dw rp rp om an om (λb_ out_ hl_=>?_)))|((with_reducible refine ee 31 ?_);refine m0 ?_;refine dw rp rp om an om (λb_ out_ hl_ ks_=>?_))|refine sb λnb_ hnb_=>?_|refine s2 (λh=>?_) λh=>?_|fail)
  all_goals exact fin _ _ _ _ _ _ (.one (.here _) (.slotl .last)) om an om om
 ·have d1:decide ((0:Int)<(x.index.length:Int))=true:=decide_eq_true Xr;have p0:0<x.index.length:=by omega
  have v0:=vi 0 p0;have g0:=gi 0 p0;have x0:=hxi 0 p0;obtain⟨b,hb,hcb⟩:=hw.q;have e3:x.name=[113]:=by
   by_cases g:x.name=[113]
   ·exact g
   ·unfold zi at hwe;rw[if_neg (by rintro(h|h);exact p h;exact g h)]at hwe;omega
  rw[e3,hcb]at hc;rw[e3];have hxc:=ay (f:=aV.enc) hb;clear vi gi hxi;generalize x.index[0]=a at *
  repeat' (first|refine st ?_|((with_reducible refine aY 96 ?_);(refine cX (v0 _) rp rp om an om (λo_ out_ s_ n_ ho_ hl_ hm_=>?_)))|((with_reducible refine aY 96 ?_);(refine cX (ve _) rp rp om an om (λo_ out_ s_ n_ ho_ hl_ hm_=>?_)))|(refine pf 127 ?_;refine pm (hc) ?_)|((with_reducible refine aY 31 ?_);(refine dw rp rp om an om (λb_ out_ hl_=>?_)))|refine sb λnb_ hnb_=>?_|refine s2 (λh=>?_) λh=>?_|fail)
  exact fin _ _ _ _ _ _ (.one (.here _) (.slotl .last)) om an om om
theorem KB(x:ab){kb ke:Nat}(hx:x.wt<2^29)(h1:x.op=2∨x.op=3)(hB:mi 30 [.lst (x.body.map ab.enc)] w loc kb)(hE:mi 30 [.lst (x.els.map ab.enc)] w loc ke):mi 93 [.agg x.row] w loc (x.expr.wt+kb+ke+2):=by
 intro bg o out site next h0 hl
 have hwe:=x.wt_eq;have hz:zv x.op x.expr.op=z0 x.expr.op:=if_pos Xr;have ve:=λd=>CK hw hlo _ x.expr d (VL _) Xr
 refine af.fz (oO _ _ _ _ ?_);unfold ii;generalize hQ:(λ(v:AV) (L:SH)=>∃v2 L2,aF [v] L [v2] L2∧∃(o':Option Nat) (out':List bj) (site' next':Int),_)=Q;have fin:=AU hQ;clear hQ;unfold ab.row ao.row at *;clear hwe hz hx;generalize x.op=op at *;have h9:decide (op=3)=true∨decide (op=3)=false:=by cases decide (op=3)<;>simp
 have e9:decide ((x.els.length:Int)=0)=true∨decide ((x.els.length:Int)=0)=false:=by cases decide ((x.els.length:Int)=0)<;>simp
 clear h1;rcases h9 with h9|h9
 ·repeat' (first|refine VE Xt om om (λout_ r_ hp_=>?_)|refine VF Xt om om (λout_ r_ hp_=>?_)|refine st ?_|refine HA ?_|((with_reducible refine ee 96 ?_);refine m0 ?_;refine cX (ve _) rp rp om an om (λo_ out_ s_ n_ ho_ hl_ hm_ ks_=>?_))|((with_reducible refine aY 31 ?_);(refine dw rp rp om an om (λb_ out_ hl_=>?_)))|((with_reducible refine aY 30 ?_);(refine qd hB rp rp om om om (λb_ out_ s_ n_ hl_ hm_=>?_)))|refine sb λnb_ hnb_=>?_|fail)
  exact fin _ _ _ _ _ _ (.one (.here _) (.slotl .last)) om an om om
 rcases e9 with e9|e9
 ·repeat' (first|refine VE Xt om om (λout_ r_ hp_=>?_)|refine VF Xt om om (λout_ r_ hp_=>?_)|refine st ?_|refine HA ?_|((with_reducible refine ee 96 ?_);refine m0 ?_;refine cX (ve _) rp rp om an om (λo_ out_ s_ n_ ho_ hl_ hm_ ks_=>?_))|((with_reducible refine aY 31 ?_);(refine dw rp rp om an om (λb_ out_ hl_=>?_)))|((with_reducible refine aY 30 ?_);(refine qd hB rp rp om om om (λb_ out_ s_ n_ hl_ hm_=>?_)))|refine sb λnb_ hnb_=>?_|fail)
  exact fin _ _ _ _ _ _ (.one (.here _) (.slotl .last)) om an om om
 ·repeat' (first|refine VE Xt om om (λout_ r_ hp_=>?_)|refine VF Xt om om (λout_ r_ hp_=>?_)|refine st ?_|refine HA ?_|((with_reducible refine ee 96 ?_);refine m0 ?_;refine cX (ve _) rp rp om an om (λo_ out_ s_ n_ ho_ hl_ hm_ ks_=>?_))|((with_reducible refine aY 31 ?_);(refine dw rp rp om an om (λb_ out_ hl_=>?_)))|((with_reducible refine aY 30 ?_);(refine qd hB rp rp om om om (λb_ out_ s_ n_ hl_ hm_=>?_)))|((with_reducible refine aY 30 ?_);(refine qd hE rp rp om om om (λb_ out_ s_ n_ hl_ hm_=>?_)))|refine sb λnb_ hnb_=>?_|fail)
  exact fin _ _ _ _ _ _ (.one (.here _) (.slotl .last)) om an om om
omit hw hlo in
theorem O2(x:ab){kb:Nat}{f l ob:Int}(hB:mi 30 [.lst (x.body.map ab.enc)] w loc kb):mi 94 [.agg x.row,.Xw f,.Xw l,.Xw ob] w loc (kb+2):=by
 intro bg o out site next h0 hl
 refine af.fz (rT _ _ _ _ _ _ _ ?_);unfold jR;generalize hQ:(λ(v:AV) (L:SH)=>∃v2 L2,aF [v] L [v2] L2∧∃(o':Option Nat) (out':List bj) (site' next':Int),_)=Q;have fin:=AU hQ;clear hQ;unfold ab.row at *
 repeat' (first|refine st ?_|((with_reducible refine aY 31 ?_);(refine dw rp rp om an om (λb_ out_ hl_=>?_)))|((with_reducible refine aY 30 ?_);(refine qd hB rp rp om om om (λb_ out_ s_ n_ hl_ hm_=>?_)))|refine sb λnb_ hnb_=>?_|fail)
 exact fin _ _ _ _ _ _ (.one (.here _) (.slotl .last)) om an om om
theorem S0(x:ab){kb ke:Nat}(hx:x.wt<2^29)(hB:mi 30 [.lst (x.body.map ab.enc)] w loc kb)(hE:mi 30 [.lst (x.els.map ab.enc)] w loc ke):mi 61 [.agg x.row] w loc (ao.wts x.index+x.expr.wt+kb+ke+2):=by
 intro bg o out site next h0 hl
 have hwe:=x.wt_eq;have c1:=MP w.locks x.name (by have:=hw.l;omega);have c2:=Jq w.threads x.name (by have:=hw.t;omega);have c3:=Jq w.futures x.name (by have:=hw.f;omega);have c4:=Jq w.futures x.arg (by have:=hw.f;omega);have c5:=Jq loc x.name Xr;have cc:=λ(v:AV) (site next:Int)=>SZ bg w loc v site next x.name (by have:=hw.d;omega)
 have ve:=λ(h:x.op=14) d=>CK hw hlo _ x.expr d (VL _) (by rw[h,show zv 14 x.expr.op=z0 x.expr.op from rfl]at hwe;omega);have va:=O1 hw hlo x hx;have vb:=λh=>KB hw hlo x hx h hB hE
 have vr:=λ(f l ob:Int)=>O2 x (f:=f) (l:=l) (ob:=ob) hB;refine af.fz (yY _ _ _ _ ?_);unfold mg;generalize hQ:(λ(v:AV) (L:SH)=>∃v2 L2,aF [v] L [v2] L2∧∃(o':Option Nat) (out':List bj) (site' next':Int),_)=Q;have fin:=AU hQ;clear hQ;clear hB hE hwe hx;obtain⟨op,line,name,arg,index,e,body,els⟩:=x;unfold ab.row ao.row at *;dsimp only[ab.op,ab.line,ab.name,ab.arg,ab.index,ab.expr,ab.body,ab.els]at *
 repeat' (first|refine st ?_|((with_reducible refine aY 92 ?_);(refine cX (va (of_decide_eq_true Xs)) rp rp om an om (λo_ out_ s_ n_ ho_ hl_ hm_=>?_)))|((with_reducible refine aY 93 ?_);(refine cX (vb (by first|exact .inl (of_decide_eq_true Xs)|exact .inr (of_decide_eq_true Xs))) rp rp om an om (λo_ out_ s_ n_ ho_ hl_ hm_=>?_)))|((with_reducible refine ee 94 ?_);refine m0 ?_;refine cX (vr _ _ _) rp rp om an om (λo_ out_ s_ n_ ho_ hl_ hm_ ks_=>?_))|((with_reducible refine aY 94 ?_);(refine cX (vr _ _ _) rp rp om an om (λo_ out_ s_ n_ ho_ hl_ hm_=>?_)))|((with_reducible refine aY 95 ?_);(refine j9 (cc _ _ _) rp ?_;rintro _ _ ⟨n_,rfl,rfl⟩;dsimp only[List.cons_append,List.nil_append]))|((with_reducible refine ee 95 ?_);refine m0 ?_;refine j9 (cc _ _ _) rp ?_;rintro _ _ ⟨n_,rfl,rfl⟩ ks_;dsimp only[List.cons_append,List.nil_append])|(refine pf 59 ?_;refine pm (c1) ?_)|(refine pf 90 ?_;refine pm (c2) ?_)|(refine pf 90 ?_;refine pm (c3) ?_)|(refine pf 90 ?_;refine pm (c4) ?_)|(refine pf 90 ?_;refine pm (c5) ?_)|((with_reducible refine aY 96 ?_);(refine cX (ve (of_decide_eq_true Xs) _) rp rp om an om (λo_ out_ s_ n_ ho_ hl_ hm_=>?_)))|((with_reducible refine aY 31 ?_);(refine dw rp rp om an om (λb_ out_ hl_=>?_)))|((with_reducible refine ee 31 ?_);refine m0 ?_;refine dw rp rp om an om (λb_ out_ hl_ ks_=>?_))|refine sb λnb_ hnb_=>?_|refine s2 (λh=>?_) λh=>?_|fail)
 all_goals exact fin _ _ _ _ _ _ (.one (.here _) (.slotl .last)) om an om om
end
end
mutual
def KC(t:Nat):Nat→ab→List cz
 |n,.mk _ line _ _ _ _ body els=>⟨t,n,line⟩::(sitL t (n+1) body++sitL t (n+1+ab.cnts body) els)
def sitL(t:Nat):Nat→List ab→List cz
 |_,[]=>[]
 |n,x::l=>KC t n x++sitL t (n+1+x.cnt) l
end
theorem Qu(t n:Nat)(x:ab):KC t n x=⟨t,n,x.line⟩::(sitL t (n+1) x.body++sitL t (n+1+ab.cnts x.body) x.els):=by cases x;rw[KC];rfl
mutual
theorem O3(t:Nat):∀(n:Nat) (x:ab),(KC t n x).length=1+x.cnt
 |n,.mk a b c d e f body els=>by rw[KC];simp only[V8,VT,sitL_len t _ body,sitL_len t _ els,ab.cnt];omega
theorem sitL_len(t:Nat):∀(n:Nat) (l:List ab),(sitL t n l).length=ab.cnts l
 |n,[]=>rfl
 |n,x::l=>by rw[sitL];simp only[VT,O3 t _ x,sitL_len t _ l,ab.cnts]
end
theorem ab.cnts_append:∀l m:List ab,ab.cnts (l++m)=ab.cnts l+ab.cnts m
 |[],m=>by simp[ab.cnts]
 |x::l,m=>by simp only[W2,ab.cnts,ab.cnts_append l m];omega
theorem Bl(t:Nat):∀(n:Nat) (l m:List ab),sitL t n (l++m)=sitL t n l++sitL t (n+ab.cnts l) m
 |n,[],m=>by simp[sitL,ab.cnts]
 | n,x::l,m=>by simp only[W2,sitL,Bl t _ l m,ab.cnts,Wq];rw[show n+1+x.cnt+ab.cnts l=n+(1+x.cnt+ab.cnts l) by omega]
def aG.celW(d:aG):List aV:=(List.range (max d.size 1).toNat).map λk=>⟨d.name,(k:Nat),d.size,decide (d.kind=2),d.init⟩
def bW(w:aM)(d:aG):aM:=
 if d.kind=1∨d.kind=2 then {w with cells:=w.cells++d.celW} else
 if d.kind=3∨d.kind=4 then {w with locks:=w.locks++[⟨d.name,decide (d.kind=4)⟩]} else
 if d.kind=5 then {w with conds:=w.conds++[⟨d.name,fT w.locks d.on⟩]} else {w with futures:=w.futures++[d.name]}
def aM.zero:aM:=⟨[],[],[],[],[],[]⟩
def dq(w:aM)(t:ah):aM:={w with threads:=w.threads++[t.name],sites:=w.sites++sitL w.threads.length 0 t.body}
def lj(p:bQ):aM:=p.threads.foldl dq (p.decls.foldl bW aM.zero)
theorem vx{α β:Type}{f:β→α→β}{l:List α}{a:β}{i:Nat}(h:i<l.length):(l.take (i+1)).foldl f a=f ((l.take i).foldl f a) l[i]:=by rw[VV h,List.foldl_append];rfl
section
set_option maxRecDepth 100000
set_option maxHeartbeats 2000000
def UZ(t:Nat)(l:List ab):Prop:=∀(o:Option Nat) (out:List cz) (n:Nat),(o=none→out=[])→out.length+ab.cnts l<2^30→n+ab.cnts l<2^30→
 af Tryz.prog 60 [am o out.length,.Xw t,.Xw n,.lst (l.map ab.enc)] (ae o 3 (out.map cz.enc)) λu K=>∃(v:AV) (o':Option Nat),u=v∧v=.tup [am o' (out++sitL t n l).length,.Xw ((n+ab.cnts l:Nat):Int)]∧(o'=none→out++sitL t n l=[])∧K=ae o' 3 ((out++sitL t n l).map cz.enc)
theorem KD{t n k:Nat}{l:List ab}{o:Option Nat}{out:List cz}{rows:List (List AV)}{L L2:SH}{KL:R}(h:UZ t l)(h2:dM o 3 rows L L2)(hr:rows=out.map cz.enc)(hk:k=out.length)(h0:o=none→out=[])(hl:out.length+ab.cnts l<2^30)(hn:n+ab.cnts l<2^30)
  (hq:∀o':Option Nat,(o'=none→out++sitL t n l=[])→KL (.tup [am o' (out++sitL t n l).length,.Xw ((n+ab.cnts l:Nat):Int)]) (L2++ae o' 3 ((out++sitL t n l).map cz.enc))):W.callM Tryz.prog 60 [am o k,.Xw t,.Xw n,.lst (l.map ab.enc)] L KL:=by
 subst hr hk;refine xV (M:=L2) (h o out n h0 hl hn) h2.perm ?_;rintro _ _ ⟨v,o',rfl,rfl,h3,rfl⟩;exact⟨_,Wf,hq o' h3⟩
theorem O4(t:Nat):∀(k:Nat) (l:List ab),ab.wts l≤k→k<2^40→UZ t l:=by
 intro k
 induction k using Nat.strongRecOn with
 |_ k ih=>
  intro l hl hk o out n h0 h1 h2;have hlen:=ab.wts_len l;refine af.fz (EQ _ _ _ _ _ _ ?_);unfold sB;generalize hQ:(λ(v:AV) (L:SH)=>∃v2 L2,aF [v] L [v2] L2∧∃(v:AV) (o':Option Nat),_)=Q;have fin:∀o':Option Nat,(o'=none→out++sitL t n l=[])→Q (.tup [am o' (out++sitL t n l).length,.Xw ((n+ab.cnts l:Nat):Int)]) (ae o' 3 ((out++sitL t n l).map cz.enc)):=λo' h=>by subst hQ;exact⟨_,_,.refl _ _,_,o',rfl,rfl,h,rfl⟩
  clear hQ;refine cb l.length (λi o'=>([am o' (out++sitL t n (l.take i)).length,.Xw t,.Xw ((n+ab.cnts (l.take i):Nat):Int),.lst (l.map ab.enc),.Xw i],ae o' 3 ((out++sitL t n (l.take i)).map cz.enc))) (λi o'=>o'=none→out++sitL t n (l.take i)=[]) o (by simpa[sitL]using h0) (by simpa[sitL,ab.cnts]using aF.refl _ _) ?_;rintro i o1 hi hG;dsimp only;unfold qb;generalize hnx:(λ(vs':List AV) (L':SH)=>∃j o',i<j∧j≤l.length∧_)=nx;rcases Nat.lt_or_ge i l.length with g1|g1
  ·have hd:=bK g1;have hi1:=aD g1 Xr;have hx:=F1 g1;have hwi:=ab.wts_get l i g1;have hwe:=(l[i]).wt_eq;have hce:=(l[i]).cnt_eq;have c1:=ih _ Xr l[i].body (VL _) Xr;have c2:=ih _ Xr l[i].els (VL _) Xr;have e1:l=l.take i++(l[i]::l.drop (i+1)):=by rw[List.getElem_cons_drop,List.take_append_drop]
   have e2:ab.cnts l=ab.cnts (l.take i)+(1+l[i].cnt+ab.cnts (l.drop (i+1))):=by
    conv=>lhs;rw[e1]
    rw[ab.cnts_append];rfl
   have e3:sitL t n (l.take (i+1))=sitL t n (l.take i)++KC t (n+ab.cnts (l.take i)) l[i]:=by rw[VV g1,Bl];simp[sitL]
   have e4:ab.cnts (l.take (i+1))=ab.cnts (l.take i)+(1+l[i].cnt):=by rw[VV g1,ab.cnts_append];simp[ab.cnts]
   have hn:∀(o':Option Nat) (out':List cz) (m:Nat),out'=out++sitL t n (l.take i)++KC t (n+ab.cnts (l.take i)) l[i]→m=n+ab.cnts (l.take i)+(1+l[i].cnt)→(o'=none→out'=[])→∀L':SH,gq L' (ae o' 3 (out'.map cz.enc))→nx [am o' out'.length,.Xw t,.Xw (m:Nat),.lst (l.map ab.enc),.Xw ((i+1:Nat):Int)] L':=by
    intro o' out' m q1 q2 q3 L' q4;subst hnx;refine⟨i+1,o',Xr,Xr,?_,?_⟩
    ·rw[e3,←Wq,←q1];exact q3
    ·rw[e3,←Wq,←q1,e4,←WC,←q2];exact .pick q4 rfl
   clear hnx;have hlo:(out++sitL t n (l.take i)).length=out.length+ab.cnts (l.take i):=by rw[VT,sitL_len]
   generalize out++sitL t n (l.take i)=OUT at *;generalize hN:n+ab.cnts (l.take i)=N at *;generalize l[i]=x at *;have a1:IntKind.i64.wrap ((N:Int)+1)=((N+1:Nat):Int):=by rw[WA _ Xr];omega
   have ho':o1=none→OUT.map cz.enc=[]:=λe=>by rw[hG e];rfl
   repeat' (first|refine st ?_|refine cm rp rp Xu (λe=>by first|simp[ho' e]) Xt Xu (by simp;omega) (by simp;omega) Xt (λnb_ hnb_=>?_)|((with_reducible refine aY 60 ?_);(refine KD c1 (o:=some _) (out:=OUT++[⟨t,N,x.line⟩]) rp (by rw[List.map_append];rfl) Xu nofun (by simp;omega) Xr (λo_ ho_=>?_);dsimp only[List.cons_append,List.nil_append]))|((with_reducible refine aY 60 ?_);(refine KD c2 rp rfl rfl ho_ (by simp[sitL_len];omega) Xr (λo_ ho_=>?_);dsimp only[List.cons_append,List.nil_append]))|refine sb λnb_ hnb_=>?_|refine s2 (λh=>?_) λh=>?_|fail)
   exact hn o_ _ _ (by simp[Qu,Wq]) Xr ho_ _ (.slotl rp)
  ·have hd:=bO g1;have:i=l.length:=by omega
   subst this;rw[List.take_length]at *
   repeat' (first|refine st ?_|refine sb λnb_ hnb_=>?_|refine s2 (λh=>?_) λh=>?_|fail)
   exact fin _ hG
end
section
set_option maxRecDepth 100000
set_option maxHeartbeats 2000000
theorem E2(o:Option Nat)(l:List bV)(x:aZ)(h0:o=none→l=[])(hl:l.length<2^62):
  af Tryz.prog 59 [am o l.length,.str x] (ae o 2 (l.map bV.enc)) λu K=>u=.Xw (fT l x)∧K=ae o 2 (l.map bV.enc):=by
 refine nO _ _ _ _ ?_;unfold jL;generalize hL:ae o 2 (l.map bV.enc)=L;generalize hQ:(λ(u:AV) (K:SH)=>u=AV.Xw (fT l x)∧K=L)=Q;have hq:∀r:Int,r=fT l x→Q (.Xw r) L:=λr h=>by subst hQ h;exact⟨rfl,rfl⟩
 clear hQ;subst hL;cases o with
 |none=>
  have:=h0 rfl;subst this;dsimp only[ae,am,List.length_nil]at *;refine ph 0 (λ_=>True) (λi=>[.emp,.str x,.Xw i]) Xr trivial rfl (λi h1 hd hi _ nx hn=>by omega) (λi h1 hd _ nx=>?_);unfold fp
  repeat' (first|refine st ?_|refine sb λnb_ hnb_=>?_|refine s2 (λh=>?_) λh=>?_|fail)
  exact hq _ rfl
 |some b1=>
  dsimp only[ae,am]at *;refine fi l (λy=>decide (y.name=x)) (λi=>[.sl b1 0 l.length,.str x,.Xw i]) hl rfl (λi h1 hd hi hno nx hn=>?_) (λi h1 hd hno nx=>?_)
  all_goals unfold fp
  ·have hx:=ay (f:=bV.enc) h1
   repeat' (first|refine st ?_|refine sb λnb_ hnb_=>?_|refine s2 (λh=>?_) λh=>?_|fail)
   ·exact hq _ (by rw[fT,pi h1 hno h])
   ·exact hn h
  ·repeat' (first|refine st ?_|refine sb λnb_ hnb_=>?_|refine s2 (λh=>?_) λh=>?_|fail)
   exact hq _ (by rw[fT,gM hno])
def S1:List AV:=[.nils,.nils,.nils,.nils,.nils,.nils]
def Fa(b2 b6:Nat)(oc ol od of ot os:Option Nat)(w:aM):SH:=
 (b6,⟨6,[[am oc w.cells.length,am ol w.locks.length,am od w.conds.length,am of w.futures.length,am ot w.threads.length,am os w.sites.length]]⟩)::(b2,⟨6,[S1]⟩) ::
  (ae oc 5 (w.cells.map aV.enc)++(ae ol 2 (w.locks.map bV.enc)++(ae od 2 (w.conds.map cI.enc)++(ae of 1 (w.futures.map aq)++(ae ot 1 (w.threads.map aq)++ae os 3 (w.sites.map cz.enc))))))
structure FI(b6:Nat)(oc ol od of ot os:Option Nat)(w:aM):Prop where
 c:oc=none→w.cells=[]
 l:ol=none→w.locks=[]
 d:od=none→w.conds=[]
 f:of=none→w.futures=[]
 t:ot=none→w.threads=[]
 s:os=none→w.sites=[]
 n:∀b,ol=some b→b6≠b
def Re(K:SH→Prop)(b2 b6:Nat)(w:aM):Prop:=∀(oc ol od of ot os:Option Nat) (L':SH) (v0 v1 v2 v3 v4 v5:AV) (r0 r1 r2 r3 r4 r5:List (List AV)),FI b6 oc ol od of ot os w→
 gq L' ((b6,⟨6,[[v0,v1,v2,v3,v4,v5]]⟩)::(b2,⟨6,[S1]⟩)::(ae oc 5 r0++(ae ol 2 r1++(ae od 2 r2++(ae of 1 r3++(ae ot 1 r4++ae os 3 r5))))))→
 [v0,v1,v2,v3,v4,v5]=[am oc w.cells.length,am ol w.locks.length,am od w.conds.length,am of w.futures.length,am ot w.threads.length,am os w.sites.length]→
 r0=w.cells.map aV.enc→r1=w.locks.map bV.enc→r2=w.conds.map cI.enc→r3=w.futures.map aq→r4=w.threads.map aq→r5=w.sites.map cz.enc→K L'
theorem Re.of{K:SH→Prop}{b2 b6:Nat}{w:aM}(h:∀(oc ol od of ot os:Option Nat) (L':SH),FI b6 oc ol od of ot os w→gq L' (Fa b2 b6 oc ol od of ot os w)→K L'):Re K b2 b6 w:=by intro oc ol od of ot os L' v0 v1 v2 v3 v4 v5 r0 r1 r2 r3 r4 r5 h1 h2 h3 e0 e1 e2 e3 e4 e5;simp only[List.cons.injEq,and_true]at h3;obtain⟨rfl,rfl,rfl,rfl,rfl,rfl⟩:=h3;subst e0 e1 e2 e3 e4 e5;exact h oc ol od of ot os L' h1 h2
section
variable {n18:Kn} {b2 b6 i:Nat} {oc ol od of ot os:Option Nat} {w:aM} {rows tl:List (List AV)}
theorem Rf{line size init:Int}{name on:aZ}{kind:Int}(hk:kind=1∨kind=2)(hs:size≤1000)(hi1:IntKind.i64.wrap ((i:Int)+1)=((i+1:Nat):Int))(ho:FI b6 oc ol od of ot os w)(hlen:w.cells.length<2^30)
  (hn:Re (n18 [.pptr [[.lst rows,.lst tl]] 0 0,.ptr b2 0 0,.ptr b6 0 0,.Xw ((i+1:Nat):Int)]) b2 b6 {w with cells:=w.cells++aG.celW ⟨kind,line,name,size,init,on⟩}) :
  W.loop (jM n18) [.pptr [[.lst rows,.lst tl]] 0 0,.ptr b2 0 0,.ptr b6 0 0,.Xw i,.pptr [[.Xw kind,.Xw line,.str name,.Xw size,.Xw init,.str on]] 0 0,.Xw 0] (Fa b2 b6 oc ol od of ot os w):=by
 generalize hN:(max size 1).toNat=N at *;have hN1:N≤1000:=by omega
 have hcl:aG.celW ⟨kind,line,name,size,init,on⟩=(List.range N).map λk=>⟨name,(k:Nat),size,decide (kind=2),init⟩:=by unfold aG.celW;rw[hN]
 rw[hcl]at hn;obtain⟨WK,hWK⟩:∃f:Nat→aM,f=λk=>{w with cells:=w.cells++(List.range k).map λk=>⟨name,(k:Nat),size,decide (kind=2),init⟩}:=⟨_,rfl⟩
 refine cb (β:=Option Nat×Option Nat×Option Nat×Option Nat×Option Nat×Option Nat) N (λk q=>([.pptr [[.lst rows,.lst tl]] 0 0,.ptr b2 0 0,.ptr b6 0 0,.Xw i,.pptr [[.Xw kind,.Xw line,.str name,.Xw size,.Xw init,.str on]] 0 0,.Xw k],Fa b2 b6 q.1 q.2.1 q.2.2.1 q.2.2.2.1 q.2.2.2.2.1 q.2.2.2.2.2 (WK k)))
  (λk q=>FI b6 q.1 q.2.1 q.2.2.1 q.2.2.2.1 q.2.2.2.2.1 q.2.2.2.2.2 (WK k)) (oc,ol,od,of,ot,os) (by subst hWK;show FI b6 oc ol od of ot os {w with cells:=w.cells++[]};rw[Wr];exact ho) (by subst hWK;show aF _ _ _ (Fa b2 b6 oc ol od of ot os {w with cells:=w.cells++[]});rw[Wr];exact aF.refl _ _) ?_
 rintro k ⟨oc,ol,od,of,ot,os⟩ hk ho;dsimp only at ho ⊢;unfold jM;generalize hnx:(λ(vs':List AV) (L':SH)=>∃j o',k<j∧j≤N∧_)=nx;rcases Nat.lt_or_ge k N with g1|g1
 ·have hd:=bK g1;have hk1:=aD g1 Xr;have hrs:List.range (k+1)=List.range k++[k]:=List.range_succ;have hgo:Re (nx [.pptr [[.lst rows,.lst tl]] 0 0,.ptr b2 0 0,.ptr b6 0 0,.Xw i,.pptr [[.Xw kind,.Xw line,.str name,.Xw size,.Xw init,.str on]] 0 0,.Xw ((k+1:Nat):Int)]) b2 b6 {w with cells:=w.cells++(List.range k).map (λk=>(⟨name,(k:Nat),size,decide (kind=2),init⟩:aV))++[⟨name,(k:Nat),size,decide (kind=2),init⟩]}:=.of λoc2 ol2 od2 of2 ot2 os2 L' q1 q2=>by
   subst hnx;subst hWK;have e:(λk=>({w with cells:=w.cells++(List.range k).map λk=>(⟨name,(k:Nat),size,decide (kind=2),init⟩:aV)}:aM)) (k+1)={w with cells:=w.cells++(List.range k).map (λk=>(⟨name,(k:Nat),size,decide (kind=2),init⟩:aV))++[⟨name,(k:Nat),size,decide (kind=2),init⟩]}:=by show({w with cells:=w.cells++(List.range (k+1)).map (λk=>(⟨name,(k:Nat),size,decide (kind=2),init⟩:aV))}:aM)=_;rw[hrs,VQ,←Wq];rfl
   exact⟨k+1,(oc2,ol2,od2,of2,ot2,os2),Xr,Xr,by rw[e];exact q1,by rw[e];exact aF.pick q2 rfl⟩
  clear hnx;have hCl:(w.cells++(List.range k).map (λk=>(⟨name,(k:Nat),size,decide (kind=2),init⟩:aV))).length<2^31:=by simp;omega
  obtain⟨wc,wl,wd,wf,wt,ws⟩:=w;subst hWK;dsimp only at *;generalize wc++(List.range k).map (λk=>(⟨name,(k:Nat),size,decide (kind=2),init⟩:aV))=C at *;have hC0:oc=none→C.map aV.enc=[]:=λe=>by have hc:=ho.c e;dsimp only at hc;rw[hc];rfl
  unfold Fa
  repeat' (first|rw[hN]|refine st ?_|refine cm rp rp Xu (λe=>by first|simp[hC0 e]) Xt Xu (by simp;omega) (by simp;omega) Xt (λnb_ hnb_=>?_)|refine OQ ?_|refine sb λnb_ hnb_=>?_|refine s2 (λh=>?_) λh=>?_|fail)
  exact hgo (some nb_) ol od of ot os _ _ _ _ _ _ _ _ _ _ _ _ _ ⟨nofun,ho.l,ho.d,ho.f,ho.t,ho.s,ho.n⟩ rp (by simp[am]) (by rw[VQ];rfl) rfl rfl rfl rfl rfl
 ·have hd:=bO g1;have e:k=N:=by omega
  subst e;subst hWK;dsimp only at *;unfold Fa
  repeat' (first|rw[hN]|refine st ?_|refine OQ ?_|refine sb λnb_ hnb_=>?_|refine s2 (λh=>?_) λh=>?_|fail)
  exact hn oc ol od of ot os _ _ _ _ _ _ _ _ _ _ _ _ _ ho rp rfl rfl rfl rfl rfl rfl rfl
theorem Qv{o:Option Nat}{l:List bV}{x:aZ}{i:Nat}{us:List W.WR}{L L':SH}{KN:AV→SH→List Nat→Prop}(h0:o=none→l=[])(hl:l.length<2^62)(h2:dM o 2 (l.map bV.enc) L L')(hf:∀z∈us,W.free z ⟨i,[],(ae o 2 (l.map bV.enc)).names,[],true,[]⟩)
  (hk:KN (.Xw (fT l x)) (ae o 2 (l.map bV.enc)++L') (ae o 2 (l.map bV.enc)).names):W.dcallM Tryz.prog us i 59 [am o l.length,.str x] L KN:=
 ⟨ae o 2 (l.map bV.enc),L',h2.perm,hf,(E2 o l x h0 hl).mono λu K ⟨h1,h3⟩=>by subst h1 h3;exact hk⟩
theorem Qw{o:Option Nat}{b6 n i j k:Nat}{rows:List (List AV)}(h:∀b,o=some b→b6≠b):∀z∈[rm i rz,rm j ⟨aa (.ptr b6 0 n),[],[],[]⟩],W.free z ⟨k,[],(ae o 2 rows).names,[],true,[]⟩:=by
 intro z hz;simp only[VN,Wi,or_false]at hz;rcases hz with rfl|rfl
 ·exact⟨nofun,nofun,nofun,nofun,λ_=>rfl⟩
 ·refine⟨nofun,?_,nofun,nofun,λ_=>rfl⟩;intro c hc;have:c=b6:=by simpa[rm,aa]using hc
  subst this;cases o with
  |none=>simp[ae,SH.names]
  |some b=>have:=h b rfl;simpa[ae,SH.names]using this
theorem S2{d:aG}(hr:rows[i]? =some d.enc)(hk:1≤d.kind∧d.kind≤6)(hs:d.size≤1000)(hi1:IntKind.i64.wrap ((i:Int)+1)=((i+1:Nat):Int))(ho:FI b6 oc ol od of ot os w)(h1:w.cells.length<2^30)(h2:w.locks.length<2^30)(h3:w.conds.length<2^30)(h4:w.futures.length<2^30)
  (hn:Re (n18 [.pptr [[.lst rows,.lst tl]] 0 0,.ptr b2 0 0,.ptr b6 0 0,.Xw ((i+1:Nat):Int)]) b2 b6 (bW w d)) :
  jN n18 (Fa b2 b6 oc ol od of ot os w) (.pptr [[.lst rows,.lst tl]] 0 0) (.Xw i) (.ptr b2 0 0) (.ptr b6 0 0):=by
 obtain⟨kind,line,name,size,init,on⟩:=d;have hr':rows[i]? =some [.Xw kind,.Xw line,.str name,.Xw size,.Xw init,.str on]:=hr;clear hr;dsimp only at hk hs;have hl0:ol=none→w.locks.map bV.enc=[]:=λe=>by rw[ho.l e];rfl
 have hd0:od=none→w.conds.map cI.enc=[]:=λe=>by rw[ho.d e];rfl
 have hf0:of=none→w.futures.map aq=[]:=λe=>by rw[ho.f e];rfl
 have hlk:=E2 ol w.locks on ho.l Xr;have hc:kind=1∨kind=2∨kind=3∨kind=4∨kind=5∨kind=6:=by omega
 unfold jN;rcases hc with rfl|rfl|rfl|rfl|rfl|rfl
 ·have hst:bW w ⟨1,line,name,size,init,on⟩={w with cells:=w.cells++aG.celW ⟨1,line,name,size,init,on⟩}:=by unfold bW;rw[if_pos (.inl rfl)]
  rw[hst]at hn;have hw:=Rf (.inl rfl) hs hi1 ho h1 hn;unfold Fa at hw ⊢
  repeat' (first|exact hw|refine st ?_|refine sb λnb_ hnb_=>?_|refine s2 (λh=>?_) λh=>?_|fail)
 ·have hst:bW w ⟨2,line,name,size,init,on⟩={w with cells:=w.cells++aG.celW ⟨2,line,name,size,init,on⟩}:=by unfold bW;rw[if_pos (.inr rfl)]
  rw[hst]at hn;have hw:=Rf (.inr rfl) hs hi1 ho h1 hn;unfold Fa at hw ⊢
  repeat' (first|exact hw|refine st ?_|refine sb λnb_ hnb_=>?_|refine s2 (λh=>?_) λh=>?_|fail)
 ·have hst:bW w ⟨3,line,name,size,init,on⟩={w with locks:=w.locks++[⟨name,decide ((3:Int)=4)⟩]}:=rfl;rw[hst]at hn;unfold Fa
  repeat' (first|refine st ?_|refine cm rp rp Xu (λe=>by first|simp[hl0 e]) Xt Xu (by simp;omega) (by simp;omega) Xt (λnb_ hnb_=>?_)|refine sb λnb_ hnb_=>?_|refine s2 (λh=>?_) λh=>?_|fail)
  exact hn oc (some nb_) od of ot os _ _ _ _ _ _ _ _ _ _ _ _ _ ⟨ho.c,nofun,ho.d,ho.f,ho.t,ho.s,λb e=>by cases e;rintro rfl;exact hnb_ (by simp[SH.names])⟩ rp (by simp[am]) rfl (by rw[VQ];rfl) rfl rfl rfl rfl
 ·have hst:bW w ⟨4,line,name,size,init,on⟩={w with locks:=w.locks++[⟨name,decide ((4:Int)=4)⟩]}:=rfl;rw[hst]at hn;unfold Fa
  repeat' (first|refine st ?_|refine cm rp rp Xu (λe=>by first|simp[hl0 e]) Xt Xu (by simp;omega) (by simp;omega) Xt (λnb_ hnb_=>?_)|refine sb λnb_ hnb_=>?_|refine s2 (λh=>?_) λh=>?_|fail)
  exact hn oc (some nb_) od of ot os _ _ _ _ _ _ _ _ _ _ _ _ _ ⟨ho.c,nofun,ho.d,ho.f,ho.t,ho.s,λb e=>by cases e;rintro rfl;exact hnb_ (by simp[SH.names])⟩ rp (by simp[am]) rfl (by rw[VQ];rfl) rfl rfl rfl rfl
 ·have hst:bW w ⟨5,line,name,size,init,on⟩={w with conds:=w.conds++[⟨name,fT w.locks on⟩]}:=rfl;rw[hst]at hn;unfold Fa;rcases ol with _|bl_
  all_goals
   repeat' (first|refine st ?_|refine cm rp rp Xu (λe=>by first|simp[hd0 e]) Xt Xu (by simp;omega) (by simp;omega) Xt (λnb_ hnb_=>?_)|((with_reducible refine ee 59 ?_);refine Qv ho.l Xr rp (Qw ho.n) ?_;dsimp only[CG,CH,List.nil_append,List.cons_append])|refine sb λnb_ hnb_=>?_|refine s2 (λh=>?_) λh=>?_|fail)
  ·exact hn oc none (some nb_) of ot os _ _ _ _ _ _ _ _ _ _ _ _ _ ⟨ho.c,ho.l,nofun,ho.f,ho.t,ho.s,ho.n⟩ rp (by simp[am]) rfl rfl (by rw[VQ];rfl) rfl rfl rfl
  ·exact hn oc (some bl_) (some nb_) of ot os _ _ _ _ _ _ _ _ _ _ _ _ _ ⟨ho.c,ho.l,nofun,ho.f,ho.t,ho.s,ho.n⟩ rp (by simp[am]) rfl rfl (by rw[VQ];rfl) rfl rfl rfl
 ·have hst:bW w ⟨6,line,name,size,init,on⟩={w with futures:=w.futures++[name]}:=rfl;rw[hst]at hn;unfold Fa
  repeat' (first|refine st ?_|refine cm rp rp Xu (λe=>by first|simp[hf0 e]) Xt Xu (by simp;omega) (by simp;omega) Xt (λnb_ hnb_=>?_)|refine sb λnb_ hnb_=>?_|refine s2 (λh=>?_) λh=>?_|fail)
  exact hn oc ol od (some nb_) ot os _ _ _ _ _ _ _ _ _ _ _ _ _ ⟨ho.c,ho.l,ho.d,nofun,ho.t,ho.s,ho.n⟩ rp (by simp[am]) rfl rfl rfl (by rw[VQ];rfl) rfl rfl
end
end
end Go.Proofs.YtdnpdghlggbklaaGreatDoor.Am
