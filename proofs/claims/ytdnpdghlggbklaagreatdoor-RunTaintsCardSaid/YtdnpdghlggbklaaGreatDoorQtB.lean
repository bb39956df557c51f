/- A part of the proof; the statement is proved in the last part. -/
import Derived.Test.YtdnpdghlggbklaaGreatDoorQtA
set_option linter.unusedSimpArgs false
set_option linter.unusedVariables false
namespace Go.Proofs.YtdnpdghlggbklaaGreatDoor.Am
section
set_option maxRecDepth 100000
set_option maxHeartbeats 4000000
theorem an{P:Prop}(h:P:=by first|assumption|exact nofun|fail):P:=h
theorem om{P:Prop}(h:P:=by omega):P:=h
def nq(f:FuncId)(args:List AV)(w:aO)(loc:List bC)(k:Nat):Prop:=∀(bg:Nat) (o:Option Nat) (out:List bq) (site next:Int),(o=none→out=[])→out.length+k<2^30→
 af Tryz.prog f (.ptr bg 0 0::args) ((bg,gI w loc (ao o out.length) site next)::ae o 6 (out.map bq.enc)) λu K=>∃(o':Option Nat) (out':List bq) (site' next':Int),u=.tup []∧(o'=none→out'=[])∧out.length≤out'.length∧out'.length≤out.length+k∧K=(bg,gI w loc (ao o' out'.length) site' next')::ae o' 6 (out'.map bq.enc)
section
variable {f:FuncId} {args:List AV} {w:aO} {loc:List bC} {k m bg:Nat} {o:Option Nat} {out:List bq} {site next:Int} {L L1 L2:SH} {KL:R}
theorem df(h:nq f args w loc k)(h1:eP bg (gI w loc (ao o m) site next) L L1)(h2:dW o 6 (out.map bq.enc) L1 L2)(hm:m=out.length)(h0:o=none→out=[])(hl:out.length+k<2^30)
  (hq:∀(o':Option Nat) (out':List bq) (site' next':Int),(o'=none→out'=[])→out.length≤out'.length→out'.length≤out.length+k→KL (.tup []) ((bg,gI w loc (ao o' out'.length) site' next')::(L2++ae o' 6 (out'.map bq.enc)))):W.callM Tryz.prog f (.ptr bg 0 0::args) L KL:=by
 subst hm;refine zn (M:=L2) (h bg o out site next h0 hl) (h1.perm.trans (h2.perm.cons _)) ?_;rintro _ _ ⟨o',out',s',n',rfl,h3,h4,h5,rfl⟩;exact⟨_,.cons _ YD,hq o' out' s' n' h3 h4 h5⟩
theorem rl{b:Nat}(h:nq f args w loc k)(h1:eP bg (gI w loc (ao (some b) m) site next) L L1)(h2:dW (some b) 6 (out.map bq.enc) L1 L2)(hm:m=out.length)(hp:0<out.length)(hl:out.length+k<2^30)
  (hq:∀(b':Nat) (out':List bq) (site' next':Int),out.length≤out'.length→out'.length≤out.length+k→KL (.tup []) ((bg,gI w loc (ao (some b') out'.length) site' next')::(L2++ae (some b') 6 (out'.map bq.enc)))):W.callM Tryz.prog f (.ptr bg 0 0::args) L KL:=by
 refine df h h1 h2 hm nofun hl λo' out' s' n' h3 h4 h5=>?_
 rcases o' with _|b'
 ·have:=h3 rfl;subst this;have h6:out.length≤0:=h4;omega
 ·exact hq b' out' s' n' h4 h5
theorem dH{a0 a1 a2 a3 a4 a5:Int}(h1:eP bg (gI w loc (ao o m) site next) L L1)(h2:dW o 6 (out.map bq.enc) L1 L2)(hm:m=out.length)(h0:o=none→out=[])(hl:out.length<2^30)
  (hq:∀(b:Nat) (out':List bq),out'.length=out.length+1→KL (.tup []) ((bg,gI w loc (ao (some b) out'.length) site next)::(L2++ae (some b) 6 (out'.map bq.enc)))):W.callM Tryz.prog 31 [.ptr bg 0 0,.agg [.ZO a0,.ZO a1,.ZO a2,.ZO a3,.ZO a4,.ZO a5]] L KL:=by
 subst hm;exact U8 (i:=⟨a0,a1,a2,a3,a4,a5⟩) h1 h2 h0 hl λb=>hq b _ ZM
theorem B8{Q:R}
  (hQ:(λ(v:AV) (L:SH)=>∃v2 L2,aG [v] L [v2] L2∧∃(o':Option Nat) (out':List bq) (site' next':Int),v2=.tup []∧(o'=none→out'=[])∧out.length≤out'.length∧out'.length≤out.length+k∧L2=(bg,gI w loc (ao o' out'.length) site' next')::ae o' 6 (out'.map bq.enc))=Q)
  (o':Option Nat) (out':List bq) (site' next':Int) (j:Nat) (L:SH) (h:gJ L ((bg,gI w loc (ao o' j) site' next')::ae o' 6 (out'.map bq.enc))) (hj:j=out'.length) (hn:o'=none→out'=[]) (h1:out.length≤out'.length) (h2:out'.length≤out.length+k):Q (.tup []) L:=by
 subst hQ hj;exact⟨_,_,aG.pick h rfl,o',out',site',next',rfl,hn,h1,h2,rfl⟩
theorem nq.mono{k2:Nat}(h:nq f args w loc k)(hk:k≤k2):nq f args w loc k2:=λbg o out site next h0 hl=>(h bg o out site next h0 ZJ).mono λu K ⟨o',out',s',n',a,b,c,d,e⟩=>⟨o',out',s',n',a,b,c,ZJ,e⟩
theorem I8{K:AV→Prop}(h:K (.ZO (out.length:Int)))(h0:o=none→out=[]:=by assumption):W.len (ao o out.length) K:=DV h λe=>by rw[h0 e];rfl
end
theorem Va{op:Int}{name:bC}{n:Nat}(h:EJ op name n+z0 op<2^50):op≠0∧(n=0→op=1∨op=2)∧(op=3→name=[113]):=by
 unfold EJ z0 z3 at h;refine⟨λe=>?_,λe=>?_,λe=>?_⟩
 ·rw[if_pos e]at h;omega
 ·rw[if_pos e]at h;by_cases g:op=0∨op=1∨op=2
  ·rcases g with g|g|g
   ·rw[if_pos g]at h;omega
   ·exact .inl g
   ·exact .inr g
  ·rw[if_neg g]at h;omega
 ·by_cases g:name=[113]
  ·exact g
  ·rw[if_neg g,if_pos e]at h;omega
theorem SD:∀(l:List aq) (h:1<l.length),(l[0]'ZJ).wt+l[1].wt≤aq.wts l
 |x::y::l,_=>by simp only[aq.wts,List.getElem_cons_zero,List.getElem_cons_succ];omega
structure WQ(w:aO):Prop where
 c:w.cells.length<2^40
 l:w.locks.length<2^40
 d:w.conds.length<2^40
 f:w.futures.length<2^40
 t:w.threads.length<2^40
 q:∃b:Nat,b<w.cells.length∧yu w.cells [113]=b
section
variable {w:aO} {loc:List bC} (hw:WQ w) (hlo:loc.length<2^40)
include hw hlo
theorem D0:∀(n:Nat) (e:aq) (d:Int),e.wt+z0 e.op≤n→n<2^29→nq 96 [.agg e.row,.ZO d] w loc e.wt:=by
 intro n
 induction n using Nat.strongRecOn with
 |_ n ih=>
 intro e d hn hn2 bg o out site next h0 hl
 have hwe:=e.wt_eq;have kids:∀(i:Nat) (h:i<e.l.length) (d:Int),nq 96 [.agg e.l[i].row,.ZO d] w loc e.l[i].wt:=λi h d=>ih _ (by have:=aq.wts_get0 e.l i h;omega) e.l[i] d (X7 _) (by have:=aq.wts_get0 e.l i h;omega)
 have kw:=aq.wts_get0 e.l;have kw2:=SD e.l;have hx:=λ(i:Nat) (h:i<e.l.length)=>EI h;obtain⟨b1,b2,b3⟩:=Va (op:=e.op) (name:=e.name) (n:=e.l.length) ZJ;have ha:=KW loc e.name ZJ;have hc:=HN w e.name (by have:=hw.c;omega);refine af.fz (wV _ _ _ _ _ ?_);unfold lq;generalize hQ:(λ(v:AV) (L:SH)=>∃v2 L2,aG [v] L [v2] L2∧∃(o':Option Nat) (out':List bq) (site' next':Int),_)=Q;have fin:=B8 hQ;clear hQ;unfold aq.row;clear ih hn;generalize e.l=l at *;generalize e.op=op at *;generalize e.name=name at *;by_cases p1:op=1
 ·subst p1
  repeat' (first|refine st ?_|((with_reducible refine bz 31 ?_);(refine dH rp rp om an om (λb_ out_ hl_=>?_)))|refine sb λnb_ hnb_=>?_|refine s2 (λh=>?_) λh=>?_|fail)
  exact fin _ _ _ _ _ _ (.one (.here _) (.slotl .last)) om an om om
 by_cases p2:op=2
 ·subst p2
  repeat' (first|refine st ?_|((with_reducible refine bz 31 ?_);(refine dH rp rp om an om (λb_ out_ hl_=>?_)))|((with_reducible refine eD 31 ?_);refine ou ?_;refine dH rp rp om an om (λb_ out_ hl_ ks_=>?_))|(refine pf 90 ?_;refine pm (ha) ?_)|(refine pf 127 ?_;refine pm (hc) ?_)|refine sb λnb_ hnb_=>?_|refine s2 (λh=>?_) λh=>?_|fail)
  all_goals exact fin _ _ _ _ _ _ (.one (.here _) (.slotl .last)) om an om om
 have d1:decide (op=1)=false:=decide_eq_false p1;have d2:decide (op=2)=false:=decide_eq_false p2;have hl0:0<l.length:=by
  rcases Y0 l.length with h|h
  ·rcases b2 h with h|h
   ·exact absurd h p1
   ·exact absurd h p2
  ·exact h
 have k0:=kids 0 hl0;have x0:=hx 0 hl0;have g0:=kw 0 hl0;by_cases p3:op=3
 ·subst p3;obtain⟨b,hb,hcb⟩:=hw.q;rw[b3 rfl,hcb]at hc;have e3:=b3 rfl;subst e3;have hxc:=ay (f:=bA.enc) hb;clear kids kw kw2 hx b1 b2 b3;generalize l[0]=a at *
  repeat' (first|refine st ?_|((with_reducible refine bz 96 ?_);(refine df (k0 _) rp rp om an om (λo_ out_ s_ n_ ho_ hl_ hm_=>?_)))|(refine pf 127 ?_;refine pm (hc) ?_)|((with_reducible refine bz 31 ?_);(refine dH rp rp om an om (λb_ out_ hl_=>?_)))|refine sb λnb_ hnb_=>?_|refine s2 (λh=>?_) λh=>?_|fail)
  exact fin _ _ _ _ _ _ (.one (.here _) (.slotl .last)) om an om om
 have d3:decide (op=3)=false:=decide_eq_false p3;by_cases p4:l.length=1
 ·have d4:decide ((l.length:Int)=1)=true:=decide_eq_true ZJ;clear kids kw kw2 hx b1 b2 b3;generalize l[0]=a at *
  repeat' (first|refine st ?_|((with_reducible refine bz 96 ?_);(refine df (k0 _) rp rp om an om (λo_ out_ s_ n_ ho_ hl_ hm_=>?_)))|((with_reducible refine bz 31 ?_);(refine dH rp rp om an om (λb_ out_ hl_=>?_)))|refine sb λnb_ hnb_=>?_|refine s2 (λh=>?_) λh=>?_|fail)
  exact fin _ _ _ _ _ _ (.one (.here _) (.slotl .last)) om an om om
 ·have d4:decide ((l.length:Int)=1)=false:=decide_eq_false ZJ;have hl1:1<l.length:=by omega
  have k1:=kids 1 hl1;have x1:=hx 1 hl1;have g1:=kw2 hl1;clear kids kw kw2 hx b1 b2 b3;generalize l[0]=a at *;generalize l[1]=c at *
  repeat' (first|refine st ?_|((with_reducible refine bz 96 ?_);(refine df (k0 _) rp rp om an om (λo_ out_ s_ n_ ho_ hl_ hm_=>?_)))|((with_reducible refine bz 96 ?_);(refine df (k1 _) rp rp om an om (λo_ out_ s_ n_ ho_ hl_ hm_=>?_)))|((with_reducible refine bz 31 ?_);(refine dH rp rp om an om (λb_ out_ hl_=>?_)))|refine sb λnb_ hnb_=>?_|refine s2 (λh=>?_) λh=>?_|fail)
  exact fin _ _ _ _ _ _ (.one (.here _) (.slotl .last)) om an om om
end
end
section
set_option maxRecDepth 100000
set_option maxHeartbeats 4000000
theorem Nr{b N off m m2 k:Nat}{kd:IntKind}{out:List bq}{v:AV}{L:SH}{g:Nat×Blk}{KS:SH→Fp→Prop}(hk:k<out.length)(hL:L=g::ae (some b) 6 (out.map bq.enc))(hN:N=out.length)(f:bq→bq)(he:∀i:bq,i.enc.set off v=(f i).enc)(ho:off<6)(hv:v.cells? =some [v])(h1:v.one=true)
  (kk:∀(out2:List bq) (r:Fp),out2.length=out.length→KS (g::ae (some b) 6 (out2.map bq.enc)) r):di [] m 6 (ao (some b) N) (.int kd (k:Int)) L λx r=>W.faddr off x λy=>ds [] m2 1 y v L KS:=by
 subst hN hL;refine T0 (Ij (dJ (ud (AE (Wg (Ij ?_)))) hk (.tail _ (.head _)) rfl));refine Ck (x:=⟨6,out.map bq.enc⟩) (r:=out[k].enc) (x':=⟨6,(out.set k (f out[k])).map bq.enc⟩) (.there _ (.here _)) (ay hk) hv h1 (by rw[Y2];exact ho) ?_ (ud (kk _ _ ZM));rw[Y6,Y2,he]
theorem X0{b N m m2 k:Nat}{kd:IntKind}{n:Int}{out:List bq}{L:SH}{g:Nat×Blk}{KS:SH→Fp→Prop}(hL:L=g::ae (some b) 6 (out.map bq.enc))(hN:N=out.length)(hk:k<out.length)
  (kk:∀(out2:List bq) (r:Fp),out2.length=out.length→KS (g::ae (some b) 6 (out2.map bq.enc)) r):di [] m 6 (ao (some b) N) (.int kd (k:Int)) L λx r=>W.faddr 2 x λy=>ds [] m2 1 y (.ZO n) L KS:=
 Nr hk hL hN (λi=>{i with b:=n}) (λ_=>rfl) ZN rfl rfl kk
theorem X1{b N m m2 k:Nat}{kd:IntKind}{n:Int}{out:List bq}{L:SH}{g:Nat×Blk}{KS:SH→Fp→Prop}(hL:L=g::ae (some b) 6 (out.map bq.enc))(hN:N=out.length)(hk:k<out.length)
  (kk:∀(out2:List bq) (r:Fp),out2.length=out.length→KS (g::ae (some b) 6 (out2.map bq.enc)) r):di [] m 6 (ao (some b) N) (.int kd (k:Int)) L λx r=>W.faddr 1 x λy=>ds [] m2 1 y (.ZO n) L KS:=
 Nr hk hL hN (λi=>{i with a:=n}) (λ_=>rfl) ZN rfl rfl kk
theorem Vb(bg:Nat)(w:aO)(loc:List bC)(v:AV)(site next:Int)(s:bC)(hl:w.conds.length<2^62):
  af Tryz.prog 95 [.ptr bg 0 0,.str s] [(bg,gI w loc v site next)] λu K=>∃n:Int,u=.ZO n∧K=[(bg,gI w loc v site next)]:=by
 refine z7 _ _ _ _ ?_;unfold mZ;refine mO w.conds.length (λi=>[.ptr bg 0 0,.str s,.ZO i]) hl rfl (λi h1 hd hi nx hn=>?_) (λi h1 hd nx=>?_)
 all_goals unfold lr
 ·have hx:=ay (f:=db.enc) h1;unfold gI at *
  repeat' (first|refine st ?_|refine sb λnb_ hnb_=>?_|refine s2 (λh=>?_) λh=>?_|fail)
  all_goals first|exact⟨_,rfl,rfl⟩|exact hn
 ·unfold gI at *
  repeat' (first|refine st ?_|refine sb λnb_ hnb_=>?_|refine s2 (λh=>?_) λh=>?_|fail)
  exact⟨_,rfl,rfl⟩
section
variable {w:aO} {loc:List bC} (hw:WQ w) (hlo:loc.length<2^40)
include hw hlo
theorem Q7(x:ab)(hx:x.wt<2^29)(h1:x.op=1):nq 92 [.agg x.row] w loc (aq.wts x.index+x.expr.wt+1):=by
 intro bg o out site next h0 hl
 have hwe:=x.wt_eq;rw[h1,show zv 1 x.expr.op=z0 x.expr.op from rfl]at hwe;have ve:=λd=>D0 hw hlo _ x.expr d (X7 _) ZJ
 have vi:=λ(i:Nat) (h:i<x.index.length) d=>D0 hw hlo _ x.index[i] d (X7 _) (by have:=aq.wts_get0 x.index i h;omega);have gi:=aq.wts_get0 x.index;have hxi:=λ(i:Nat) (h:i<x.index.length)=>EI h;have ha:=KW loc x.name ZJ;have hc:=HN w x.name (by have:=hw.c;omega);refine af.fz (tu _ _ _ _ ?_);unfold ky;generalize hQ:(λ(v:AV) (L:SH)=>∃v2 L2,aG [v] L [v2] L2∧∃(o':Option Nat) (out':List bq) (site' next':Int),_)=Q;have fin:=B8 hQ;clear hQ;unfold ab.row aq.row at *;by_cases p:x.index.length=0
 ·have d1:decide ((0:Int)<(x.index.length:Int))=false:=decide_eq_false ZJ;clear vi gi hxi
  repeat' (first|refine st ?_|((with_reducible refine bz 96 ?_);(refine df (ve _) rp rp om an om (λo_ out_ s_ n_ ho_ hl_ hm_=>?_)))|(refine pf 90 ?_;refine pm (ha) ?_)|(refine pf 127 ?_;refine pm (hc) ?_)|((with_reducible refine bz 31 ?_);(refine dH rp rp om an om (λb_ out_ hl_=>?_)))|((with_reducible refine eD 31 ?_);refine ou ?_;refine dH rp rp om an om (λb_ out_ hl_ ks_=>?_))|refine sb λnb_ hnb_=>?_|refine s2 (λh=>?_) λh=>?_|fail)
  all_goals exact fin _ _ _ _ _ _ (.one (.here _) (.slotl .last)) om an om om
 ·have d1:decide ((0:Int)<(x.index.length:Int))=true:=decide_eq_true ZJ;have p0:0<x.index.length:=by omega
  have v0:=vi 0 p0;have g0:=gi 0 p0;have x0:=hxi 0 p0;obtain⟨b,hb,hcb⟩:=hw.q;have e3:x.name=[113]:=by
   by_cases g:x.name=[113]
   ·exact g
   ·unfold zi at hwe;rw[if_neg (by rintro(h|h);exact p h;exact g h)]at hwe;omega
  rw[e3,hcb]at hc;rw[e3];have hxc:=ay (f:=bA.enc) hb;clear vi gi hxi;generalize x.index[0]=a at *
  repeat' (first|refine st ?_|((with_reducible refine bz 96 ?_);(refine df (v0 _) rp rp om an om (λo_ out_ s_ n_ ho_ hl_ hm_=>?_)))|((with_reducible refine bz 96 ?_);(refine df (ve _) rp rp om an om (λo_ out_ s_ n_ ho_ hl_ hm_=>?_)))|(refine pf 127 ?_;refine pm (hc) ?_)|((with_reducible refine bz 31 ?_);(refine dH rp rp om an om (λb_ out_ hl_=>?_)))|refine sb λnb_ hnb_=>?_|refine s2 (λh=>?_) λh=>?_|fail)
  exact fin _ _ _ _ _ _ (.one (.here _) (.slotl .last)) om an om om
theorem Ml(x:ab){kb ke:Nat}(hx:x.wt<2^29)(h1:x.op=2∨x.op=3)(hB:nq 30 [.lst (x.body.map ab.enc)] w loc kb)(hE:nq 30 [.lst (x.els.map ab.enc)] w loc ke):nq 93 [.agg x.row] w loc (x.expr.wt+kb+ke+2):=by
 intro bg o out site next h0 hl
 have hwe:=x.wt_eq;have hz:zv x.op x.expr.op=z0 x.expr.op:=if_pos ZJ;have ve:=λd=>D0 hw hlo _ x.expr d (X7 _) ZJ
 refine af.fz (pV _ _ _ _ ?_);unfold iF;generalize hQ:(λ(v:AV) (L:SH)=>∃v2 L2,aG [v] L [v2] L2∧∃(o':Option Nat) (out':List bq) (site' next':Int),_)=Q;have fin:=B8 hQ;clear hQ;unfold ab.row aq.row at *;clear hwe hz hx;generalize x.op=op at *;have h9:decide (op=3)=true∨decide (op=3)=false:=by cases decide (op=3)<;>simp
 have e9:decide ((x.els.length:Int)=0)=true∨decide ((x.els.length:Int)=0)=false:=by cases decide ((x.els.length:Int)=0)<;>simp
 clear h1;rcases h9 with h9|h9
 ·repeat' (first|refine X0 ZL om om (λout_ r_ hp_=>?_)|refine X1 ZL om om (λout_ r_ hp_=>?_)|refine st ?_|refine I8 ?_|((with_reducible refine eD 96 ?_);refine ou ?_;refine df (ve _) rp rp om an om (λo_ out_ s_ n_ ho_ hl_ hm_ ks_=>?_))|((with_reducible refine bz 31 ?_);(refine dH rp rp om an om (λb_ out_ hl_=>?_)))|((with_reducible refine bz 30 ?_);(refine rl hB rp rp om om om (λb_ out_ s_ n_ hl_ hm_=>?_)))|refine sb λnb_ hnb_=>?_|fail)
  exact fin _ _ _ _ _ _ (.one (.here _) (.slotl .last)) om an om om
 rcases e9 with e9|e9
 ·repeat' (first|refine X0 ZL om om (λout_ r_ hp_=>?_)|refine X1 ZL om om (λout_ r_ hp_=>?_)|refine st ?_|refine I8 ?_|((with_reducible refine eD 96 ?_);refine ou ?_;refine df (ve _) rp rp om an om (λo_ out_ s_ n_ ho_ hl_ hm_ ks_=>?_))|((with_reducible refine bz 31 ?_);(refine dH rp rp om an om (λb_ out_ hl_=>?_)))|((with_reducible refine bz 30 ?_);(refine rl hB rp rp om om om (λb_ out_ s_ n_ hl_ hm_=>?_)))|refine sb λnb_ hnb_=>?_|fail)
  exact fin _ _ _ _ _ _ (.one (.here _) (.slotl .last)) om an om om
 ·repeat' (first|refine X0 ZL om om (λout_ r_ hp_=>?_)|refine X1 ZL om om (λout_ r_ hp_=>?_)|refine st ?_|refine I8 ?_|((with_reducible refine eD 96 ?_);refine ou ?_;refine df (ve _) rp rp om an om (λo_ out_ s_ n_ ho_ hl_ hm_ ks_=>?_))|((with_reducible refine bz 31 ?_);(refine dH rp rp om an om (λb_ out_ hl_=>?_)))|((with_reducible refine bz 30 ?_);(refine rl hB rp rp om om om (λb_ out_ s_ n_ hl_ hm_=>?_)))|((with_reducible refine bz 30 ?_);(refine rl hE rp rp om om om (λb_ out_ s_ n_ hl_ hm_=>?_)))|refine sb λnb_ hnb_=>?_|fail)
  exact fin _ _ _ _ _ _ (.one (.here _) (.slotl .last)) om an om om
omit hw hlo in
theorem Q8(x:ab){kb:Nat}{f l ob:Int}(hB:nq 30 [.lst (x.body.map ab.enc)] w loc kb):nq 94 [.agg x.row,.ZO f,.ZO l,.ZO ob] w loc (kb+2):=by
 intro bg o out site next h0 hl
 refine af.fz (tz _ _ _ _ _ _ _ ?_);unfold kz;generalize hQ:(λ(v:AV) (L:SH)=>∃v2 L2,aG [v] L [v2] L2∧∃(o':Option Nat) (out':List bq) (site' next':Int),_)=Q;have fin:=B8 hQ;clear hQ;unfold ab.row at *
 repeat' (first|refine st ?_|((with_reducible refine bz 31 ?_);(refine dH rp rp om an om (λb_ out_ hl_=>?_)))|((with_reducible refine bz 30 ?_);(refine rl hB rp rp om om om (λb_ out_ s_ n_ hl_ hm_=>?_)))|refine sb λnb_ hnb_=>?_|fail)
 exact fin _ _ _ _ _ _ (.one (.here _) (.slotl .last)) om an om om
theorem Vc(x:ab){kb ke:Nat}(hx:x.wt<2^29)(hB:nq 30 [.lst (x.body.map ab.enc)] w loc kb)(hE:nq 30 [.lst (x.els.map ab.enc)] w loc ke):nq 61 [.agg x.row] w loc (aq.wts x.index+x.expr.wt+kb+ke+2):=by
 intro bg o out site next h0 hl
 have hwe:=x.wt_eq;have c1:=Oy w.locks x.name (by have:=hw.l;omega);have c2:=KW w.threads x.name (by have:=hw.t;omega);have c3:=KW w.futures x.name (by have:=hw.f;omega);have c4:=KW w.futures x.arg (by have:=hw.f;omega);have c5:=KW loc x.name ZJ;have cc:=λ(v:AV) (site next:Int)=>Vb bg w loc v site next x.name (by have:=hw.d;omega)
 have ve:=λ(h:x.op=14) d=>D0 hw hlo _ x.expr d (X7 _) (by rw[h,show zv 14 x.expr.op=z0 x.expr.op from rfl]at hwe;omega);have va:=Q7 hw hlo x hx;have vb:=λh=>Ml hw hlo x hx h hB hE
 have vr:=λ(f l ob:Int)=>Q8 x (f:=f) (l:=l) (ob:=ob) hB;refine af.fz (Au _ _ _ _ ?_);unfold ng;generalize hQ:(λ(v:AV) (L:SH)=>∃v2 L2,aG [v] L [v2] L2∧∃(o':Option Nat) (out':List bq) (site' next':Int),_)=Q;have fin:=B8 hQ;clear hQ;clear hB hE hwe hx;obtain⟨op,line,name,arg,index,e,body,els⟩:=x;unfold ab.row aq.row at *;dsimp only[ab.op,ab.line,ab.name,ab.arg,ab.index,ab.expr,ab.body,ab.els]at *
 repeat' (first|refine st ?_|((with_reducible refine bz 92 ?_);(refine df (va (of_decide_eq_true ZK)) rp rp om an om (λo_ out_ s_ n_ ho_ hl_ hm_=>?_)))|((with_reducible refine bz 93 ?_);(refine df (vb (by first|exact .inl (of_decide_eq_true ZK)|exact .inr (of_decide_eq_true ZK))) rp rp om an om (λo_ out_ s_ n_ ho_ hl_ hm_=>?_)))|((with_reducible refine eD 94 ?_);refine ou ?_;refine df (vr _ _ _) rp rp om an om (λo_ out_ s_ n_ ho_ hl_ hm_ ks_=>?_))|((with_reducible refine bz 94 ?_);(refine df (vr _ _ _) rp rp om an om (λo_ out_ s_ n_ ho_ hl_ hm_=>?_)))|((with_reducible refine bz 95 ?_);(refine kQ (cc _ _ _) rp ?_;rintro _ _ ⟨n_,rfl,rfl⟩;dsimp only[List.cons_append,List.nil_append]))|((with_reducible refine eD 95 ?_);refine ou ?_;refine kQ (cc _ _ _) rp ?_;rintro _ _ ⟨n_,rfl,rfl⟩ ks_;dsimp only[List.cons_append,List.nil_append])|(refine pf 59 ?_;refine pm (c1) ?_)|(refine pf 90 ?_;refine pm (c2) ?_)|(refine pf 90 ?_;refine pm (c3) ?_)|(refine pf 90 ?_;refine pm (c4) ?_)|(refine pf 90 ?_;refine pm (c5) ?_)|((with_reducible refine bz 96 ?_);(refine df (ve (of_decide_eq_true ZK) _) rp rp om an om (λo_ out_ s_ n_ ho_ hl_ hm_=>?_)))|((with_reducible refine bz 31 ?_);(refine dH rp rp om an om (λb_ out_ hl_=>?_)))|((with_reducible refine eD 31 ?_);refine ou ?_;refine dH rp rp om an om (λb_ out_ hl_ ks_=>?_))|refine sb λnb_ hnb_=>?_|refine s2 (λh=>?_) λh=>?_|fail)
 all_goals exact fin _ _ _ _ _ _ (.one (.here _) (.slotl .last)) om an om om
end
end
mutual
def Mm(t:Nat):Nat→ab→List cQ
 |n,.mk _ line _ _ _ _ body els=>⟨t,n,line⟩::(sitL t (n+1) body++sitL t (n+1+ab.cnts body) els)
def sitL(t:Nat):Nat→List ab→List cQ
 |_,[]=>[]
 |n,x::l=>Mm t n x++sitL t (n+1+x.cnt) l
end
theorem SE(t n:Nat)(x:ab):Mm t n x=⟨t,n,x.line⟩::(sitL t (n+1) x.body++sitL t (n+1+ab.cnts x.body) x.els):=by cases x;rw[Mm];rfl
mutual
theorem Q9(t:Nat):∀(n:Nat) (x:ab),(Mm t n x).length=1+x.cnt
 |n,.mk a b c d e f body els=>by rw[Mm];simp only[Ys,Yf,sitL_len t _ body,sitL_len t _ els,ab.cnt];omega
theorem sitL_len(t:Nat):∀(n:Nat) (l:List ab),(sitL t n l).length=ab.cnts l
 |n,[]=>rfl
 |n,x::l=>by rw[sitL];simp only[Yf,Q9 t _ x,sitL_len t _ l,ab.cnts]
end
theorem ab.cnts_append:∀l m:List ab,ab.cnts (l++m)=ab.cnts l+ab.cnts m
 |[],m=>by simp[ab.cnts]
 |x::l,m=>by simp only[Zn,ab.cnts,ab.cnts_append l m];omega
theorem Cz(t:Nat):∀(n:Nat) (l m:List ab),sitL t n (l++m)=sitL t n l++sitL t (n+ab.cnts l) m
 |n,[],m=>by simp[sitL,ab.cnts]
 | n,x::l,m=>by simp only[Zn,sitL,Cz t _ l m,ab.cnts,YP];rw[show n+1+x.cnt+ab.cnts l=n+(1+x.cnt+ab.cnts l) by omega]
def aJ.celW(d:aJ):List bA:=(List.range (max d.size 1).toNat).map λk=>⟨d.name,(k:Nat),d.size,decide (d.kind=2),d.init⟩
def cb(w:aO)(d:aJ):aO:=
 if d.kind=1∨d.kind=2 then {w with cells:=w.cells++d.celW} else
 if d.kind=3∨d.kind=4 then {w with locks:=w.locks++[⟨d.name,decide (d.kind=4)⟩]} else
 if d.kind=5 then {w with conds:=w.conds++[⟨d.name,gt w.locks d.on⟩]} else {w with futures:=w.futures++[d.name]}
def aO.zero:aO:=⟨[],[],[],[],[],[]⟩
def dE(w:aO)(t:ah):aO:={w with threads:=w.threads++[t.name],sites:=w.sites++sitL w.threads.length 0 t.body}
def lY(p:bZ):aO:=p.threads.foldl dE (p.decls.foldl cb aO.zero)
theorem xl{α β:Type}{f:β→α→β}{l:List α}{a:β}{i:Nat}(h:i<l.length):(l.take (i+1)).foldl f a=f ((l.take i).foldl f a) l[i]:=by rw[Yd h,List.foldl_append];rfl
section
set_option maxRecDepth 100000
set_option maxHeartbeats 2000000
def Xj(t:Nat)(l:List ab):Prop:=∀(o:Option Nat) (out:List cQ) (n:Nat),(o=none→out=[])→out.length+ab.cnts l<2^30→n+ab.cnts l<2^30→
 af Tryz.prog 60 [ao o out.length,.ZO t,.ZO n,.lst (l.map ab.enc)] (ae o 3 (out.map cQ.enc)) λu K=>∃(v:AV) (o':Option Nat),u=v∧v=.tup [ao o' (out++sitL t n l).length,.ZO ((n+ab.cnts l:Nat):Int)]∧(o'=none→out++sitL t n l=[])∧K=ae o' 3 ((out++sitL t n l).map cQ.enc)
theorem Mn{t n k:Nat}{l:List ab}{o:Option Nat}{out:List cQ}{rows:List (List AV)}{L L2:SH}{KL:R}(h:Xj t l)(h2:dW o 3 rows L L2)(hr:rows=out.map cQ.enc)(hk:k=out.length)(h0:o=none→out=[])(hl:out.length+ab.cnts l<2^30)(hn:n+ab.cnts l<2^30)
  (hq:∀o':Option Nat,(o'=none→out++sitL t n l=[])→KL (.tup [ao o' (out++sitL t n l).length,.ZO ((n+ab.cnts l:Nat):Int)]) (L2++ae o' 3 ((out++sitL t n l).map cQ.enc))):W.callM Tryz.prog 60 [ao o k,.ZO t,.ZO n,.lst (l.map ab.enc)] L KL:=by
 subst hr hk;refine zn (M:=L2) (h o out n h0 hl hn) h2.perm ?_;rintro _ _ ⟨v,o',rfl,rfl,h3,rfl⟩;exact⟨_,YD,hq o' h3⟩
theorem Ra(t:Nat):∀(k:Nat) (l:List ab),ab.wts l≤k→k<2^40→Xj t l:=by
 intro k
 induction k using Nat.strongRecOn with
 |_ k ih=>
  intro l hl hk o out n h0 h1 h2;have hlen:=ab.wts_len l;refine af.fz (Ge _ _ _ _ _ _ ?_);unfold tY;generalize hQ:(λ(v:AV) (L:SH)=>∃v2 L2,aG [v] L [v2] L2∧∃(v:AV) (o':Option Nat),_)=Q;have fin:∀o':Option Nat,(o'=none→out++sitL t n l=[])→Q (.tup [ao o' (out++sitL t n l).length,.ZO ((n+ab.cnts l:Nat):Int)]) (ae o' 3 ((out++sitL t n l).map cQ.enc)):=λo' h=>by subst hQ;exact⟨_,_,.refl _ _,_,o',rfl,rfl,h,rfl⟩
  clear hQ;refine bW l.length (λi o'=>([ao o' (out++sitL t n (l.take i)).length,.ZO t,.ZO ((n+ab.cnts (l.take i):Nat):Int),.lst (l.map ab.enc),.ZO i],ae o' 3 ((out++sitL t n (l.take i)).map cQ.enc))) (λi o'=>o'=none→out++sitL t n (l.take i)=[]) o (by simpa[sitL]using h0) (by simpa[sitL,ab.cnts]using aG.refl _ _) ?_;rintro i o1 hi hG;dsimp only;unfold rj;generalize hnx:(λ(vs':List AV) (L':SH)=>∃j o',i<j∧j≤l.length∧_)=nx;rcases Nat.lt_or_ge i l.length with g1|g1
  ·have hd:=bE g1;have hi1:=aA g1 ZJ;have hx:=Hp g1;have hwi:=ab.wts_get l i g1;have hwe:=(l[i]).wt_eq;have hce:=(l[i]).cnt_eq;have c1:=ih _ ZJ l[i].body (X7 _) ZJ;have c2:=ih _ ZJ l[i].els (X7 _) ZJ;have e1:l=l.take i++(l[i]::l.drop (i+1)):=by rw[List.getElem_cons_drop,List.take_append_drop]
   have e2:ab.cnts l=ab.cnts (l.take i)+(1+l[i].cnt+ab.cnts (l.drop (i+1))):=by
    conv=>lhs;rw[e1]
    rw[ab.cnts_append];rfl
   have e3:sitL t n (l.take (i+1))=sitL t n (l.take i)++Mm t (n+ab.cnts (l.take i)) l[i]:=by rw[Yd g1,Cz];simp[sitL]
   have e4:ab.cnts (l.take (i+1))=ab.cnts (l.take i)+(1+l[i].cnt):=by rw[Yd g1,ab.cnts_append];simp[ab.cnts]
   have hn:∀(o':Option Nat) (out':List cQ) (m:Nat),out'=out++sitL t n (l.take i)++Mm t (n+ab.cnts (l.take i)) l[i]→m=n+ab.cnts (l.take i)+(1+l[i].cnt)→(o'=none→out'=[])→∀L':SH,gJ L' (ae o' 3 (out'.map cQ.enc))→nx [ao o' out'.length,.ZO t,.ZO (m:Nat),.lst (l.map ab.enc),.ZO ((i+1:Nat):Int)] L':=by
    intro o' out' m q1 q2 q3 L' q4;subst hnx;refine⟨i+1,o',ZJ,ZJ,?_,?_⟩
    ·rw[e3,←YP,←q1];exact q3
    ·rw[e3,←YP,←q1,e4,←YZ,←q2];exact .pick q4 rfl
   clear hnx;have hlo:(out++sitL t n (l.take i)).length=out.length+ab.cnts (l.take i):=by rw[Yf,sitL_len]
   generalize out++sitL t n (l.take i)=OUT at *;generalize hN:n+ab.cnts (l.take i)=N at *;generalize l[i]=x at *;have a1:IntKind.i64.wrap ((N:Int)+1)=((N+1:Nat):Int):=by rw[YU _ ZJ];omega
   have ho':o1=none→OUT.map cQ.enc=[]:=λe=>by rw[hG e];rfl
   repeat' (first|refine st ?_|refine cx rp rp ZM (λe=>by first|simp[ho' e]) ZL ZM (by simp;omega) (by simp;omega) ZL (λnb_ hnb_=>?_)|((with_reducible refine bz 60 ?_);(refine Mn c1 (o:=some _) (out:=OUT++[⟨t,N,x.line⟩]) rp (by rw[List.map_append];rfl) ZM nofun (by simp;omega) ZJ (λo_ ho_=>?_);dsimp only[List.cons_append,List.nil_append]))|((with_reducible refine bz 60 ?_);(refine Mn c2 rp rfl rfl ho_ (by simp[sitL_len];omega) ZJ (λo_ ho_=>?_);dsimp only[List.cons_append,List.nil_append]))|refine sb λnb_ hnb_=>?_|refine s2 (λh=>?_) λh=>?_|fail)
   exact hn o_ _ _ (by simp[SE,YP]) ZJ ho_ _ (.slotl rp)
  ·have hd:=bI g1;have:i=l.length:=by omega
   subst this;rw[List.take_length]at *
   repeat' (first|refine st ?_|refine sb λnb_ hnb_=>?_|refine s2 (λh=>?_) λh=>?_|fail)
   exact fin _ hG
end
section
set_option maxRecDepth 100000
set_option maxHeartbeats 2000000
theorem Gr(o:Option Nat)(l:List cq)(x:bC)(h0:o=none→l=[])(hl:l.length<2^62):
  af Tryz.prog 59 [ao o l.length,.str x] (ae o 2 (l.map cq.enc)) λu K=>u=.ZO (gt l x)∧K=ae o 2 (l.map cq.enc):=by
 refine pi _ _ _ _ ?_;unfold ko;generalize hL:ae o 2 (l.map cq.enc)=L;generalize hQ:(λ(u:AV) (K:SH)=>u=AV.ZO (gt l x)∧K=L)=Q;have hq:∀r:Int,r=gt l x→Q (.ZO r) L:=λr h=>by subst hQ h;exact⟨rfl,rfl⟩
 clear hQ;subst hL;cases o with
 |none=>
  have:=h0 rfl;subst this;dsimp only[ae,ao,List.length_nil]at *;refine mu 0 (λ_=>True) (λi=>[.emp,.str x,.ZO i]) ZJ trivial rfl (λi h1 hd hi _ nx hn=>by omega) (λi h1 hd _ nx=>?_);unfold fL
  repeat' (first|refine st ?_|refine sb λnb_ hnb_=>?_|refine s2 (λh=>?_) λh=>?_|fail)
  exact hq _ rfl
 |some b1=>
  dsimp only[ae,ao]at *;refine fH l (λy=>decide (y.name=x)) (λi=>[.sl b1 0 l.length,.str x,.ZO i]) hl rfl (λi h1 hd hi hno nx hn=>?_) (λi h1 hd hno nx=>?_)
  all_goals unfold fL
  ·have hx:=ay (f:=cq.enc) h1
   repeat' (first|refine st ?_|refine sb λnb_ hnb_=>?_|refine s2 (λh=>?_) λh=>?_|fail)
   ·exact hq _ (by rw[gt,qo h1 hno h])
   ·exact hn h
  ·repeat' (first|refine st ?_|refine sb λnb_ hnb_=>?_|refine s2 (λh=>?_) λh=>?_|fail)
   exact hq _ (by rw[gt,hZ hno])
def Vd:List AV:=[.nils,.nils,.nils,.nils,.nils,.nils]
def Gy(b2 b6:Nat)(oc ol od of ot os:Option Nat)(w:aO):SH:=
 (b6,⟨6,[[ao oc w.cells.length,ao ol w.locks.length,ao od w.conds.length,ao of w.futures.length,ao ot w.threads.length,ao os w.sites.length]]⟩)::(b2,⟨6,[Vd]⟩) ::
  (ae oc 5 (w.cells.map bA.enc)++(ae ol 2 (w.locks.map cq.enc)++(ae od 2 (w.conds.map db.enc)++(ae of 1 (w.futures.map av)++(ae ot 1 (w.threads.map av)++ae os 3 (w.sites.map cQ.enc))))))
structure G1(b6:Nat)(oc ol od of ot os:Option Nat)(w:aO):Prop where
 c:oc=none→w.cells=[]
 l:ol=none→w.locks=[]
 d:od=none→w.conds=[]
 f:of=none→w.futures=[]
 t:ot=none→w.threads=[]
 s:os=none→w.sites=[]
 n:∀b,ol=some b→b6≠b
def Tp(K:SH→Prop)(b2 b6:Nat)(w:aO):Prop:=∀(oc ol od of ot os:Option Nat) (L':SH) (v0 v1 v2 v3 v4 v5:AV) (r0 r1 r2 r3 r4 r5:List (List AV)),G1 b6 oc ol od of ot os w→
 gJ L' ((b6,⟨6,[[v0,v1,v2,v3,v4,v5]]⟩)::(b2,⟨6,[Vd]⟩)::(ae oc 5 r0++(ae ol 2 r1++(ae od 2 r2++(ae of 1 r3++(ae ot 1 r4++ae os 3 r5))))))→
 [v0,v1,v2,v3,v4,v5]=[ao oc w.cells.length,ao ol w.locks.length,ao od w.conds.length,ao of w.futures.length,ao ot w.threads.length,ao os w.sites.length]→
 r0=w.cells.map bA.enc→r1=w.locks.map cq.enc→r2=w.conds.map db.enc→r3=w.futures.map av→r4=w.threads.map av→r5=w.sites.map cQ.enc→K L'
theorem Tp.of{K:SH→Prop}{b2 b6:Nat}{w:aO}(h:∀(oc ol od of ot os:Option Nat) (L':SH),G1 b6 oc ol od of ot os w→gJ L' (Gy b2 b6 oc ol od of ot os w)→K L'):Tp K b2 b6 w:=by intro oc ol od of ot os L' v0 v1 v2 v3 v4 v5 r0 r1 r2 r3 r4 r5 h1 h2 h3 e0 e1 e2 e3 e4 e5;simp only[List.cons.injEq,and_true]at h3;obtain⟨rfl,rfl,rfl,rfl,rfl,rfl⟩:=h3;subst e0 e1 e2 e3 e4 e5;exact h oc ol od of ot os L' h1 h2
section
variable {n18:Kn} {b2 b6 i:Nat} {oc ol od of ot os:Option Nat} {w:aO} {rows tl:List (List AV)}
theorem Tq{line size init:Int}{name on:bC}{kind:Int}(hk:kind=1∨kind=2)(hs:size≤1000)(hi1:IntKind.i64.wrap ((i:Int)+1)=((i+1:Nat):Int))(ho:G1 b6 oc ol od of ot os w)(hlen:w.cells.length<2^30)
  (hn:Tp (n18 [.pptr [[.lst rows,.lst tl]] 0 0,.ptr b2 0 0,.ptr b6 0 0,.ZO ((i+1:Nat):Int)]) b2 b6 {w with cells:=w.cells++aJ.celW ⟨kind,line,name,size,init,on⟩}) :
  W.loop (kp n18) [.pptr [[.lst rows,.lst tl]] 0 0,.ptr b2 0 0,.ptr b6 0 0,.ZO i,.pptr [[.ZO kind,.ZO line,.str name,.ZO size,.ZO init,.str on]] 0 0,.ZO 0] (Gy b2 b6 oc ol od of ot os w):=by
 generalize hN:(max size 1).toNat=N at *;have hN1:N≤1000:=by omega
 have hcl:aJ.celW ⟨kind,line,name,size,init,on⟩=(List.range N).map λk=>⟨name,(k:Nat),size,decide (kind=2),init⟩:=by unfold aJ.celW;rw[hN]
 rw[hcl]at hn;obtain⟨WK,hWK⟩:∃f:Nat→aO,f=λk=>{w with cells:=w.cells++(List.range k).map λk=>⟨name,(k:Nat),size,decide (kind=2),init⟩}:=⟨_,rfl⟩
 refine bW (β:=Option Nat×Option Nat×Option Nat×Option Nat×Option Nat×Option Nat) N (λk q=>([.pptr [[.lst rows,.lst tl]] 0 0,.ptr b2 0 0,.ptr b6 0 0,.ZO i,.pptr [[.ZO kind,.ZO line,.str name,.ZO size,.ZO init,.str on]] 0 0,.ZO k],Gy b2 b6 q.1 q.2.1 q.2.2.1 q.2.2.2.1 q.2.2.2.2.1 q.2.2.2.2.2 (WK k)))
  (λk q=>G1 b6 q.1 q.2.1 q.2.2.1 q.2.2.2.1 q.2.2.2.2.1 q.2.2.2.2.2 (WK k)) (oc,ol,od,of,ot,os) (by subst hWK;show G1 b6 oc ol od of ot os {w with cells:=w.cells++[]};rw[YM];exact ho) (by subst hWK;show aG _ _ _ (Gy b2 b6 oc ol od of ot os {w with cells:=w.cells++[]});rw[YM];exact aG.refl _ _) ?_
 rintro k ⟨oc,ol,od,of,ot,os⟩ hk ho;dsimp only at ho ⊢;unfold kp;generalize hnx:(λ(vs':List AV) (L':SH)=>∃j o',k<j∧j≤N∧_)=nx;rcases Nat.lt_or_ge k N with g1|g1
 ·have hd:=bE g1;have hk1:=aA g1 ZJ;have hrs:List.range (k+1)=List.range k++[k]:=List.range_succ;have hgo:Tp (nx [.pptr [[.lst rows,.lst tl]] 0 0,.ptr b2 0 0,.ptr b6 0 0,.ZO i,.pptr [[.ZO kind,.ZO line,.str name,.ZO size,.ZO init,.str on]] 0 0,.ZO ((k+1:Nat):Int)]) b2 b6 {w with cells:=w.cells++(List.range k).map (λk=>(⟨name,(k:Nat),size,decide (kind=2),init⟩:bA))++[⟨name,(k:Nat),size,decide (kind=2),init⟩]}:=.of λoc2 ol2 od2 of2 ot2 os2 L' q1 q2=>by
   subst hnx;subst hWK;have e:(λk=>({w with cells:=w.cells++(List.range k).map λk=>(⟨name,(k:Nat),size,decide (kind=2),init⟩:bA)}:aO)) (k+1)={w with cells:=w.cells++(List.range k).map (λk=>(⟨name,(k:Nat),size,decide (kind=2),init⟩:bA))++[⟨name,(k:Nat),size,decide (kind=2),init⟩]}:=by show({w with cells:=w.cells++(List.range (k+1)).map (λk=>(⟨name,(k:Nat),size,decide (kind=2),init⟩:bA))}:aO)=_;rw[hrs,Yc,←YP];rfl
   exact⟨k+1,(oc2,ol2,od2,of2,ot2,os2),ZJ,ZJ,by rw[e];exact q1,by rw[e];exact aG.pick q2 rfl⟩
  clear hnx;have hCl:(w.cells++(List.range k).map (λk=>(⟨name,(k:Nat),size,decide (kind=2),init⟩:bA))).length<2^31:=by simp;omega
  obtain⟨wc,wl,wd,wf,wt,ws⟩:=w;subst hWK;dsimp only at *;generalize wc++(List.range k).map (λk=>(⟨name,(k:Nat),size,decide (kind=2),init⟩:bA))=C at *;have hC0:oc=none→C.map bA.enc=[]:=λe=>by have hc:=ho.c e;dsimp only at hc;rw[hc];rfl
  unfold Gy
  repeat' (first|rw[hN]|refine st ?_|refine cx rp rp ZM (λe=>by first|simp[hC0 e]) ZL ZM (by simp;omega) (by simp;omega) ZL (λnb_ hnb_=>?_)|refine QI ?_|refine sb λnb_ hnb_=>?_|refine s2 (λh=>?_) λh=>?_|fail)
  exact hgo (some nb_) ol od of ot os _ _ _ _ _ _ _ _ _ _ _ _ _ ⟨nofun,ho.l,ho.d,ho.f,ho.t,ho.s,ho.n⟩ rp (by simp[ao]) (by rw[Yc];rfl) rfl rfl rfl rfl rfl
 ·have hd:=bI g1;have e:k=N:=by omega
  subst e;subst hWK;dsimp only at *;unfold Gy
  repeat' (first|rw[hN]|refine st ?_|refine QI ?_|refine sb λnb_ hnb_=>?_|refine s2 (λh=>?_) λh=>?_|fail)
  exact hn oc ol od of ot os _ _ _ _ _ _ _ _ _ _ _ _ _ ho rp rfl rfl rfl rfl rfl rfl rfl
theorem SF{o:Option Nat}{l:List cq}{x:bC}{i:Nat}{us:List W.WR}{L L':SH}{KN:AV→SH→List Nat→Prop}(h0:o=none→l=[])(hl:l.length<2^62)(h2:dW o 2 (l.map cq.enc) L L')(hf:∀z∈us,W.free z ⟨i,[],(ae o 2 (l.map cq.enc)).names,[],true,[]⟩)
  (hk:KN (.ZO (gt l x)) (ae o 2 (l.map cq.enc)++L') (ae o 2 (l.map cq.enc)).names):W.dcallM Tryz.prog us i 59 [ao o l.length,.str x] L KN:=
 ⟨ae o 2 (l.map cq.enc),L',h2.perm,hf,(Gr o l x h0 hl).mono λu K ⟨h1,h3⟩=>by subst h1 h3;exact hk⟩
theorem SG{o:Option Nat}{b6 n i j k:Nat}{rows:List (List AV)}(h:∀b,o=some b→b6≠b):∀z∈[rm i rz,rm j ⟨aa (.ptr b6 0 n),[],[],[]⟩],W.free z ⟨k,[],(ae o 2 rows).names,[],true,[]⟩:=by
 intro z hz;simp only[Ya,YF,or_false]at hz;rcases hz with rfl|rfl
 ·exact⟨nofun,nofun,nofun,nofun,λ_=>rfl⟩
 ·refine⟨nofun,?_,nofun,nofun,λ_=>rfl⟩;intro c hc;have:c=b6:=by simpa[rm,aa]using hc
  subst this;cases o with
  |none=>simp[ae,SH.names]
  |some b=>have:=h b rfl;simpa[ae,SH.names]using this
theorem Ve{d:aJ}(hr:rows[i]? =some d.enc)(hk:1≤d.kind∧d.kind≤6)(hs:d.size≤1000)(hi1:IntKind.i64.wrap ((i:Int)+1)=((i+1:Nat):Int))(ho:G1 b6 oc ol od of ot os w)(h1:w.cells.length<2^30)(h2:w.locks.length<2^30)(h3:w.conds.length<2^30)(h4:w.futures.length<2^30)
  (hn:Tp (n18 [.pptr [[.lst rows,.lst tl]] 0 0,.ptr b2 0 0,.ptr b6 0 0,.ZO ((i+1:Nat):Int)]) b2 b6 (cb w d)) :
  kq n18 (Gy b2 b6 oc ol od of ot os w) (.pptr [[.lst rows,.lst tl]] 0 0) (.ZO i) (.ptr b2 0 0) (.ptr b6 0 0):=by
 obtain⟨kind,line,name,size,init,on⟩:=d;have hr':rows[i]? =some [.ZO kind,.ZO line,.str name,.ZO size,.ZO init,.str on]:=hr;clear hr;dsimp only at hk hs;have hl0:ol=none→w.locks.map cq.enc=[]:=λe=>by rw[ho.l e];rfl
 have hd0:od=none→w.conds.map db.enc=[]:=λe=>by rw[ho.d e];rfl
 have hf0:of=none→w.futures.map av=[]:=λe=>by rw[ho.f e];rfl
 have hlk:=Gr ol w.locks on ho.l ZJ;have hc:kind=1∨kind=2∨kind=3∨kind=4∨kind=5∨kind=6:=by omega
 unfold kq;rcases hc with rfl|rfl|rfl|rfl|rfl|rfl
 ·have hst:cb w ⟨1,line,name,size,init,on⟩={w with cells:=w.cells++aJ.celW ⟨1,line,name,size,init,on⟩}:=by unfold cb;rw[if_pos (.inl rfl)]
  rw[hst]at hn;have hw:=Tq (.inl rfl) hs hi1 ho h1 hn;unfold Gy at hw ⊢
  repeat' (first|exact hw|refine st ?_|refine sb λnb_ hnb_=>?_|refine s2 (λh=>?_) λh=>?_|fail)
 ·have hst:cb w ⟨2,line,name,size,init,on⟩={w with cells:=w.cells++aJ.celW ⟨2,line,name,size,init,on⟩}:=by unfold cb;rw[if_pos (.inr rfl)]
  rw[hst]at hn;have hw:=Tq (.inr rfl) hs hi1 ho h1 hn;unfold Gy at hw ⊢
  repeat' (first|exact hw|refine st ?_|refine sb λnb_ hnb_=>?_|refine s2 (λh=>?_) λh=>?_|fail)
 ·have hst:cb w ⟨3,line,name,size,init,on⟩={w with locks:=w.locks++[⟨name,decide ((3:Int)=4)⟩]}:=rfl;rw[hst]at hn;unfold Gy
  repeat' (first|refine st ?_|refine cx rp rp ZM (λe=>by first|simp[hl0 e]) ZL ZM (by simp;omega) (by simp;omega) ZL (λnb_ hnb_=>?_)|refine sb λnb_ hnb_=>?_|refine s2 (λh=>?_) λh=>?_|fail)
  exact hn oc (some nb_) od of ot os _ _ _ _ _ _ _ _ _ _ _ _ _ ⟨ho.c,nofun,ho.d,ho.f,ho.t,ho.s,λb e=>by cases e;rintro rfl;exact hnb_ (by simp[SH.names])⟩ rp (by simp[ao]) rfl (by rw[Yc];rfl) rfl rfl rfl rfl
 ·have hst:cb w ⟨4,line,name,size,init,on⟩={w with locks:=w.locks++[⟨name,decide ((4:Int)=4)⟩]}:=rfl;rw[hst]at hn;unfold Gy
  repeat' (first|refine st ?_|refine cx rp rp ZM (λe=>by first|simp[hl0 e]) ZL ZM (by simp;omega) (by simp;omega) ZL (λnb_ hnb_=>?_)|refine sb λnb_ hnb_=>?_|refine s2 (λh=>?_) λh=>?_|fail)
  exact hn oc (some nb_) od of ot os _ _ _ _ _ _ _ _ _ _ _ _ _ ⟨ho.c,nofun,ho.d,ho.f,ho.t,ho.s,λb e=>by cases e;rintro rfl;exact hnb_ (by simp[SH.names])⟩ rp (by simp[ao]) rfl (by rw[Yc];rfl) rfl rfl rfl rfl
 ·have hst:cb w ⟨5,line,name,size,init,on⟩={w with conds:=w.conds++[⟨name,gt w.locks on⟩]}:=rfl;rw[hst]at hn;unfold Gy;rcases ol with _|bl_
  all_goals
   repeat' (first|refine st ?_|refine cx rp rp ZM (λe=>by first|simp[hd0 e]) ZL ZM (by simp;omega) (by simp;omega) ZL (λnb_ hnb_=>?_)|((with_reducible refine eD 59 ?_);refine SF ho.l ZJ rp (SG ho.n) ?_;dsimp only[DW,DX,List.nil_append,List.cons_append])|refine sb λnb_ hnb_=>?_|refine s2 (λh=>?_) λh=>?_|fail)
  ·exact hn oc none (some nb_) of ot os _ _ _ _ _ _ _ _ _ _ _ _ _ ⟨ho.c,ho.l,nofun,ho.f,ho.t,ho.s,ho.n⟩ rp (by simp[ao]) rfl rfl (by rw[Yc];rfl) rfl rfl rfl
  ·exact hn oc (some bl_) (some nb_) of ot os _ _ _ _ _ _ _ _ _ _ _ _ _ ⟨ho.c,ho.l,nofun,ho.f,ho.t,ho.s,ho.n⟩ rp (by simp[ao]) rfl rfl (by rw[Yc];rfl) rfl rfl rfl
 ·have hst:cb w ⟨6,line,name,size,init,on⟩={w with futures:=w.futures++[name]}:=rfl;rw[hst]at hn;unfold Gy
  repeat' (first|refine st ?_|refine cx rp rp ZM (λe=>by first|simp[hf0 e]) ZL ZM (by simp;omega) (by simp;omega) ZL (λnb_ hnb_=>?_)|refine sb λnb_ hnb_=>?_|refine s2 (λh=>?_) λh=>?_|fail)
  exact hn oc ol od (some nb_) ot os _ _ _ _ _ _ _ _ _ _ _ _ _ ⟨ho.c,ho.l,ho.d,nofun,ho.t,ho.s,ho.n⟩ rp (by simp[ao]) rfl rfl rfl (by rw[Yc];rfl) rfl rfl
end
end
end Go.Proofs.YtdnpdghlggbklaaGreatDoor.Am
