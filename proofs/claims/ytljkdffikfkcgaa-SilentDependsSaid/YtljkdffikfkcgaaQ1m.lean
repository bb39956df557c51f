/- A part of the proof; the statement is proved in the last part. -/
import Derived.Test.YtljkdffikfkcgaaQ1l
set_option linter.unusedSimpArgs false
set_option linter.unusedVariables false
section
namespace Go.Proofs.Ytljkdffikfkcgaa.Am
set_option maxRecDepth 100000
set_option maxHeartbeats 2000000
set_option linter.unusedVariables false
section
variable {w:bj} {loc:List aL}
theorem fj:(∀{x n b c n2},Ay w loc x n b c n2→n<n2)∧∀{l n b c n2},StsC w loc l n b c n2→n≤n2:=by
 refine ye (M1:=fun x n b c n2=>n<n2) (M2:=fun l n b c n2=>n≤n2) ?_ ?_ ?_ ?_ ?_ ?_ ?_ ?_ ?_
 all_goals (intros;omega)
inductive mP (w:bj) (loc:List aL):List aa→Nat→Nat→List aw→Nat→Prop where
 | nil (n b:Nat):mP w loc [] n b [] n
 | cons {x:aa} {l:List aa} {c1 c2:List aw} {n b n1 n2:Nat}:c7 35 [.agg x.row] w loc n b c1 n1→n≤n1→mP w loc l n1 (b+c1.length) c2 n2→mP w loc (x::l) n b (c1++c2) n2
theorem mP.mono{l:List aa}{n b n2:Nat}{c:List aw}(h:mP w loc l n b c n2):n≤n2:=by
 induction h with
 | nil=>exact Nat.le_refl _
 | cons _ h1 _ ih=>omega
theorem i7{l:List aa}{n b n2:Nat}{c:List aw}(h:mP w loc l n b c n2)(hll:l.length<2^40):c7 14 [.lst (l.map aa.enc)] w loc n b c n2:=by
 intro bg o out site h0 hb hl hn
 refine am.fz (pt _ _ _ _ ?_)
 unfold il
 generalize hQ:(fun(v:AV) (L:SH)=>∃v2 L2,aV [v] L [v2] L2∧∃(v:AV) (o':Option Nat) (site':Int),_)=Q
 have fin:=cu hQ
 clear hQ
 refine cH l.length (fun i (q:Option Nat×Int×List aw×Nat)=>([.ptr bg 0 0,.lst (l.map aa.enc),.int .i64 i],(bg,cz w loc (au q.1 (out++q.2.2.1).length) q.2.1 q.2.2.2)::ao q.1 6 ((out++q.2.2.1).map aw.enc)))
  (fun i q=>(q.1=none→out++q.2.2.1=[])∧∃rest,c=q.2.2.1++rest∧mP w loc (l.drop i) q.2.2.2 (b+q.2.2.1.length) rest n2) (o,site,[],n) ⟨by simpa using h0,c,rfl,by simpa using h⟩ (by simpa using aV.refl _ _) ?_
 rintro i ⟨o1,site1,pc,m⟩ hi ⟨hG,rest,hc,hch⟩
 dsimp only at hG hc hch ⊢
 unfold gM
 generalize hnx:(fun(vs':List AV) (L':SH)=>∃j o',i<j∧j≤l.length∧_)=nx
 rcases Nat.lt_or_ge i l.length with g1 | g1
 ·have hd:=ct g1
  have hi1:=bH g1 (by omega)
  have hx:=xd g1
  rw[←List.getElem_cons_drop g1]at hch
  have hmono:=hch.mono
  obtain⟨c1,c2,n1,hK,hle,hC,rfl⟩:∃c1 c2 n1,c7 35 [.agg l[i].row] w loc m (b+pc.length) c1 n1∧m≤n1∧mP w loc (l.drop (i+1)) n1 (b+pc.length+c1.length) c2 n2∧rest=c1++c2:=by
   cases hch with
   | cons h1 h2 h3=>exact⟨_,_,_,h1,h2,h3,rfl⟩
  have hm1:=hC.mono
  subst hc
  simp only[List.length_append]at hl
  have hn:∀(o':Option Nat) (s':Int),(o'=none→out++pc++c1=[])→nx [.ptr bg 0 0,.lst (l.map aa.enc),.int .i64 ((i+1:Nat):Int)] ((bg,cz w loc (au o' (out++pc++c1).length) s' n1)::([]++ao o' 6 ((out++pc++c1).map aw.enc))):=by
   intro o' s' h
   subst hnx
   refine⟨i+1,(o',s',pc++c1,n1),by omega,by omega,⟨by simpa[List.append_assoc]using h,c2,by simp,by simpa[Nat.add_assoc]using hC⟩,?_⟩
   rw[List.append_assoc];exact .refl _ _
  clear hnx
  generalize l[i]=x at *
  repeat' (first | refine st ?_ | ((with_reducible refine aq 35 ?_);(refine pu hK rp rp hG (by simp;omega) (by omega) (by omega) (fun o_ s_ ho_=>?_))) | refine sb (fun nb_ hnb_=>?_) | refine s2 (fun h=>?_) (fun h=>?_) | fail)
  exact hn o_ s_ ho_
 ·have hd:=ee g1
  have e:i=l.length:=by omega
  subst e
  rw[List.drop_length]at hch
  obtain⟨rfl,rfl⟩:rest=[]∧m=n2:=by cases hch;exact⟨rfl,rfl⟩
  rw[List.append_nil]at hc
  subst hc
  repeat' (first | refine st ?_ | refine sb (fun nb_ hnb_=>?_) | refine s2 (fun h=>?_) (fun h=>?_) | fail)
  exact fin _ _ _ _ (.one (.here _) (.slotl .last)) rfl hG
theorem Hp(hw:w.cells.length<2^40)(hlo:loc.length<2^40)(line:Int)(s arg:aL)(ix:List ac)(e:ac)(body els:List aa){c:List aw}{n b:Nat}(ha:yc w loc (.mk 1 line s arg ix e body els) c):
  c7 35 [.agg (aa.mk 1 line s arg ix e body els).row] w loc n b (aA c n) (n+1):=by
 intro bg o out site h0 hb hl hn
 refine am.fz (aH _ _ _ _ ?_)
 unfold aI aa.row
 generalize hQ:(fun(v:AV) (L:SH)=>∃v2 L2,aV [v] L [v2] L2∧∃(v:AV) (o':Option Nat) (site':Int),_)=Q
 have fin:=cu hQ
 clear hQ
 have e1:IntKind.i64.wrap ((n:Int)+1)=((n+1:Nat):Int):=by rw[IntWalk.i64_in _ (by omega)];omega
 have v1:=Hk hw hlo ha
 simp only[aA,List.length_map]at hl
 repeat' (first | refine dm (b9 ?_ e1) | refine st ?_ | ((with_reducible refine aq 47 ?_);(refine fh v1 (site:=(n:Int)) (next:=((n+1:Nat):Int)) rp rp h0 (by omega) (fun o_ ho_=>?_))) | refine sb (fun nb_ hnb_=>?_) | fail)
 exact fin _ _ _ _ (.one (.here _) (.slotl .last)) (by simp[aA,List.append_assoc]) ho_
theorem Fc(hw:w.conds.length<2^40)(hf:w.futures.length<2^40)(ht:w.threads.length<2^40)(hlo:loc.length<2^40)(line:Int)(s arg:aL)(ix:List ac)(e:ac)(body els:List aa){n b:Nat}:
  c7 35 [.agg (aa.mk 9 line s arg ix e body els).row] w loc n b (aA [⟨21,da w.conds s,0,0,0,0⟩] n) (n+1):=by
 intro bg o out site h0 hb hl hn
 refine am.fz (aH _ _ _ _ ?_)
 unfold aI aa.row
 generalize hQ:(fun(v:AV) (L:SH)=>∃v2 L2,aV [v] L [v2] L2∧∃(v:AV) (o':Option Nat) (site':Int),_)=Q
 have fin:=cu hQ
 clear hQ
 have e1:IntKind.i64.wrap ((n:Int)+1)=((n+1:Nat):Int):=by rw[IntWalk.i64_in _ (by omega)];omega
 simp only[aA,List.length_map,List.length_cons,List.length_nil]at hl
 repeat' (first | refine dm (b9 ?_ e1) | refine st ?_ | ((with_reducible refine aq 50 ?_);(refine kS (yd bg w loc (au o out.length) n ((n+1:Nat):Int) s (by omega)) rp ?_;rintro _ _ ⟨rfl,rfl⟩;dsimp only[List.cons_append,List.nil_append])) | ((with_reducible refine aq 15 ?_);(refine cm (i:=⟨21,da w.conds s,0,0,0,0⟩) (site:=(n:Int)) (next:=((n+1:Nat):Int)) rp rp (by assumption) (by simp;omega) (fun b_=>?_))) | refine sb (fun nb_ hnb_=>?_) | fail)
 exact fin _ _ _ _ (.one (.here _) (.slotl .last)) (by simp[aA,List.append_assoc]) nofun
theorem DR(hw:w.conds.length<2^40)(hf:w.futures.length<2^40)(ht:w.threads.length<2^40)(hlo:loc.length<2^40)(line:Int)(s arg:aL)(ix:List ac)(e:ac)(body els:List aa){n b:Nat}:
  c7 35 [.agg (aa.mk 10 line s arg ix e body els).row] w loc n b (aA [⟨22,da w.conds s,0,0,0,0⟩] n) (n+1):=by
 intro bg o out site h0 hb hl hn
 refine am.fz (aH _ _ _ _ ?_)
 unfold aI aa.row
 generalize hQ:(fun(v:AV) (L:SH)=>∃v2 L2,aV [v] L [v2] L2∧∃(v:AV) (o':Option Nat) (site':Int),_)=Q
 have fin:=cu hQ
 clear hQ
 have e1:IntKind.i64.wrap ((n:Int)+1)=((n+1:Nat):Int):=by rw[IntWalk.i64_in _ (by omega)];omega
 simp only[aA,List.length_map,List.length_cons,List.length_nil]at hl
 repeat' (first | refine dm (b9 ?_ e1) | refine st ?_ | ((with_reducible refine aq 50 ?_);(refine kS (yd bg w loc (au o out.length) n ((n+1:Nat):Int) s (by omega)) rp ?_;rintro _ _ ⟨rfl,rfl⟩;dsimp only[List.cons_append,List.nil_append])) | ((with_reducible refine aq 15 ?_);(refine cm (i:=⟨22,da w.conds s,0,0,0,0⟩) (site:=(n:Int)) (next:=((n+1:Nat):Int)) rp rp (by assumption) (by simp;omega) (fun b_=>?_))) | refine sb (fun nb_ hnb_=>?_) | fail)
 exact fin _ _ _ _ (.one (.here _) (.slotl .last)) (by simp[aA,List.append_assoc]) nofun
theorem DS(hw:w.conds.length<2^40)(hf:w.futures.length<2^40)(ht:w.threads.length<2^40)(hlo:loc.length<2^40)(line:Int)(s arg:aL)(ix:List ac)(e:ac)(body els:List aa){n b:Nat}:
  c7 35 [.agg (aa.mk 11 line s arg ix e body els).row] w loc n b (aA [⟨23,da w.conds s,0,0,0,0⟩] n) (n+1):=by
 intro bg o out site h0 hb hl hn
 refine am.fz (aH _ _ _ _ ?_)
 unfold aI aa.row
 generalize hQ:(fun(v:AV) (L:SH)=>∃v2 L2,aV [v] L [v2] L2∧∃(v:AV) (o':Option Nat) (site':Int),_)=Q
 have fin:=cu hQ
 clear hQ
 have e1:IntKind.i64.wrap ((n:Int)+1)=((n+1:Nat):Int):=by rw[IntWalk.i64_in _ (by omega)];omega
 simp only[aA,List.length_map,List.length_cons,List.length_nil]at hl
 repeat' (first | refine dm (b9 ?_ e1) | refine st ?_ | ((with_reducible refine aq 50 ?_);(refine kS (yd bg w loc (au o out.length) n ((n+1:Nat):Int) s (by omega)) rp ?_;rintro _ _ ⟨rfl,rfl⟩;dsimp only[List.cons_append,List.nil_append])) | ((with_reducible refine aq 15 ?_);(refine cm (i:=⟨23,da w.conds s,0,0,0,0⟩) (site:=(n:Int)) (next:=((n+1:Nat):Int)) rp rp (by assumption) (by simp;omega) (fun b_=>?_))) | refine sb (fun nb_ hnb_=>?_) | fail)
 exact fin _ _ _ _ (.one (.here _) (.slotl .last)) (by simp[aA,List.append_assoc]) nofun
theorem DT(hw:w.conds.length<2^40)(hf:w.futures.length<2^40)(ht:w.threads.length<2^40)(hlo:loc.length<2^40)(line:Int)(s arg:aL)(ix:List ac)(e:ac)(body els:List aa){n b:Nat}:
  c7 35 [.agg (aa.mk 12 line s arg ix e body els).row] w loc n b (aA [⟨24,fJ w.threads s,0,0,0,0⟩] n) (n+1):=by
 intro bg o out site h0 hb hl hn
 refine am.fz (aH _ _ _ _ ?_)
 unfold aI aa.row
 generalize hQ:(fun(v:AV) (L:SH)=>∃v2 L2,aV [v] L [v2] L2∧∃(v:AV) (o':Option Nat) (site':Int),_)=Q
 have fin:=cu hQ
 clear hQ
 have e1:IntKind.i64.wrap ((n:Int)+1)=((n+1:Nat):Int):=by rw[IntWalk.i64_in _ (by omega)];omega
 simp only[aA,List.length_map,List.length_cons,List.length_nil]at hl
 repeat' (first | refine dm (b9 ?_ e1) | refine st ?_ | ((with_reducible refine aq 45 ?_);refine aj (fK w.threads s (by omega)) ?_) | ((with_reducible refine al 45 ?_);refine ab (fK w.threads s (by omega)) ?_) | ((with_reducible refine al 15 ?_);refine fg ?_;refine cm (i:=⟨24,fJ w.threads s,0,0,0,0⟩) (site:=(n:Int)) (next:=((n+1:Nat):Int)) rp rp (by assumption) (by simp;omega) (fun b_ ks_=>?_)) | refine sb (fun nb_ hnb_=>?_) | fail)
 exact fin _ _ _ _ (.one (.here _) (.slotl .last)) (by simp[aA,List.append_assoc]) nofun
theorem DU(hw:w.conds.length<2^40)(hf:w.futures.length<2^40)(ht:w.threads.length<2^40)(hlo:loc.length<2^40)(line:Int)(s arg:aL)(ix:List ac)(e:ac)(body els:List aa){n b:Nat}:
  c7 35 [.agg (aa.mk 13 line s arg ix e body els).row] w loc n b (aA [⟨25,fJ w.threads s,0,0,0,0⟩] n) (n+1):=by
 intro bg o out site h0 hb hl hn
 refine am.fz (aH _ _ _ _ ?_)
 unfold aI aa.row
 generalize hQ:(fun(v:AV) (L:SH)=>∃v2 L2,aV [v] L [v2] L2∧∃(v:AV) (o':Option Nat) (site':Int),_)=Q
 have fin:=cu hQ
 clear hQ
 have e1:IntKind.i64.wrap ((n:Int)+1)=((n+1:Nat):Int):=by rw[IntWalk.i64_in _ (by omega)];omega
 simp only[aA,List.length_map,List.length_cons,List.length_nil]at hl
 repeat' (first | refine dm (b9 ?_ e1) | refine st ?_ | ((with_reducible refine aq 45 ?_);refine aj (fK w.threads s (by omega)) ?_) | ((with_reducible refine al 45 ?_);refine ab (fK w.threads s (by omega)) ?_) | ((with_reducible refine al 15 ?_);refine fg ?_;refine cm (i:=⟨25,fJ w.threads s,0,0,0,0⟩) (site:=(n:Int)) (next:=((n+1:Nat):Int)) rp rp (by assumption) (by simp;omega) (fun b_ ks_=>?_)) | refine sb (fun nb_ hnb_=>?_) | fail)
 exact fin _ _ _ _ (.one (.here _) (.slotl .last)) (by simp[aA,List.append_assoc]) nofun
theorem DV(hw:w.conds.length<2^40)(hf:w.futures.length<2^40)(ht:w.threads.length<2^40)(hlo:loc.length<2^40)(line:Int)(s arg:aL)(ix:List ac)(e:ac)(body els:List aa){n b:Nat}:
  c7 35 [.agg (aa.mk 15 line s arg ix e body els).row] w loc n b (aA [⟨27,fJ loc s,fJ w.futures arg,0,0,0⟩] n) (n+1):=by
 intro bg o out site h0 hb hl hn
 refine am.fz (aH _ _ _ _ ?_)
 unfold aI aa.row
 generalize hQ:(fun(v:AV) (L:SH)=>∃v2 L2,aV [v] L [v2] L2∧∃(v:AV) (o':Option Nat) (site':Int),_)=Q
 have fin:=cu hQ
 clear hQ
 have e1:IntKind.i64.wrap ((n:Int)+1)=((n+1:Nat):Int):=by rw[IntWalk.i64_in _ (by omega)];omega
 simp only[aA,List.length_map,List.length_cons,List.length_nil]at hl
 repeat' (first | refine dm (b9 ?_ e1) | refine st ?_ | ((with_reducible refine aq 45 ?_);refine aj (fK loc s (by omega)) ?_) | ((with_reducible refine al 45 ?_);refine ab (fK loc s (by omega)) ?_) | ((with_reducible refine aq 45 ?_);refine aj (fK w.futures arg (by omega)) ?_) | ((with_reducible refine al 45 ?_);refine ab (fK w.futures arg (by omega)) ?_) | ((with_reducible refine al 15 ?_);refine fg ?_;refine cm (i:=⟨27,fJ loc s,fJ w.futures arg,0,0,0⟩) (site:=(n:Int)) (next:=((n+1:Nat):Int)) rp rp (by assumption) (by simp;omega) (fun b_ ks_=>?_)) | refine sb (fun nb_ hnb_=>?_) | fail)
 exact fin _ _ _ _ (.one (.here _) (.slotl .last)) (by simp[aA,List.append_assoc]) nofun
theorem Hq(hw:w.cells.length<2^40)(hlo:loc.length<2^40)(hf:w.futures.length<2^40)(line:Int)(s arg:aL)(ix:List ac)(e:ac)(body els:List aa){ce:List aw}{n b:Nat}(hv:dE w loc e loc.length ce):
  c7 35 [.agg (aa.mk 14 line s arg ix e body els).row] w loc n b (aA (ce++[⟨26,fJ w.futures s,loc.length,0,0,0⟩]) n) (n+1):=by
 intro bg o out site h0 hb hl hn
 refine am.fz (aH _ _ _ _ ?_)
 unfold aI aa.row
 generalize hQ:(fun(v:AV) (L:SH)=>∃v2 L2,aV [v] L [v2] L2∧∃(v:AV) (o':Option Nat) (site':Int),_)=Q
 have fin:=cu hQ
 clear hQ
 have e1:IntKind.i64.wrap ((n:Int)+1)=((n+1:Nat):Int):=by rw[IntWalk.i64_in _ (by omega)];omega
 have v1:=fu hw hlo hv
 simp only[aA,List.length_map,List.length_append,List.length_cons,List.length_nil]at hl
 repeat' (first | refine dm (b9 ?_ e1) | refine st ?_ | ((with_reducible refine aq 51 ?_);(refine fh v1 (site:=(n:Int)) (next:=((n+1:Nat):Int)) rp rp h0 (by omega) (fun o_ ho_=>?_))) | ((with_reducible refine aq 45 ?_);refine aj (fK w.futures s (by omega)) ?_) | ((with_reducible refine al 45 ?_);refine ab (fK w.futures s (by omega)) ?_) | ((with_reducible refine al 15 ?_);refine fg ?_;refine cm (i:=⟨26,fJ w.futures s,loc.length,0,0,0⟩) (site:=(n:Int)) (next:=((n+1:Nat):Int)) rp rp (by assumption) (by simp;omega) (fun b_ ks_=>?_)) | refine sb (fun nb_ hnb_=>?_) | fail)
 exact fin _ _ _ _ (.one (.here _) (.slotl .last)) (by simp[aA,List.append_assoc]) nofun
theorem DW(hk:w.locks.length<2^40)(line:Int)(s arg:aL)(ix:List ac)(e:ac)(body els:List aa){cb:List aw}{n b n2:Nat}(hB:c7 14 [.lst (body.map aa.enc)] w loc (n+1) (b+1) cb n2)(hm:n+1≤n2):
  c7 35 [.agg (aa.mk 4 line s arg ix e body els).row] w loc n b (aA [⟨11,(bv w.locks s),0,0,0,0⟩] n++cb++aA [⟨12,(bv w.locks s),0,0,0,0⟩] n) n2:=by
 intro bg o out site h0 hb hl hn
 refine am.fz (aH _ _ _ _ ?_)
 unfold aI aa.row
 generalize hQ:(fun(v:AV) (L:SH)=>∃v2 L2,aV [v] L [v2] L2∧∃(v:AV) (o':Option Nat) (site':Int),_)=Q
 have fin:=cu hQ
 clear hQ
 have e1:IntKind.i64.wrap ((n:Int)+1)=((n+1:Nat):Int):=by rw[IntWalk.i64_in _ (by omega)];omega
 simp only[aA,List.length_map,List.length_append,List.length_cons,List.length_nil]at hl
 repeat' (first | refine dm (b9 ?_ e1) | refine st ?_ | ((with_reducible refine aq 33 ?_);refine aj (fY w.locks s (by omega)) ?_) | ((with_reducible refine al 33 ?_);refine ab (fY w.locks s (by omega)) ?_) | ((with_reducible refine al 49 ?_);refine fg ?_;refine cf (i6 bg o out n (n+1) n2 4 line s arg ix e body els 11 12 (bv w.locks s) cb h0 (by rw[hb];exact hB) (by omega) hn) ?_;rintro _ _ ⟨v_,o_,s_,rfl,rfl,ho_,rfl⟩ ks_) | refine sb (fun nb_ hnb_=>?_) | fail)
 exact fin _ _ _ _ (.one (.here _) (.slotl .last)) rfl ho_
theorem DX(hk:w.locks.length<2^40)(line:Int)(s arg:aL)(ix:List ac)(e:ac)(body els:List aa){cb:List aw}{n b n2:Nat}(hB:c7 14 [.lst (body.map aa.enc)] w loc (n+1) (b+1) cb n2)(hm:n+1≤n2):
  c7 35 [.agg (aa.mk 5 line s arg ix e body els).row] w loc n b (aA [⟨13,(bv w.locks s),0,0,0,0⟩] n++cb++aA [⟨14,(bv w.locks s),0,0,0,0⟩] n) n2:=by
 intro bg o out site h0 hb hl hn
 refine am.fz (aH _ _ _ _ ?_)
 unfold aI aa.row
 generalize hQ:(fun(v:AV) (L:SH)=>∃v2 L2,aV [v] L [v2] L2∧∃(v:AV) (o':Option Nat) (site':Int),_)=Q
 have fin:=cu hQ
 clear hQ
 have e1:IntKind.i64.wrap ((n:Int)+1)=((n+1:Nat):Int):=by rw[IntWalk.i64_in _ (by omega)];omega
 simp only[aA,List.length_map,List.length_append,List.length_cons,List.length_nil]at hl
 repeat' (first | refine dm (b9 ?_ e1) | refine st ?_ | ((with_reducible refine aq 33 ?_);refine aj (fY w.locks s (by omega)) ?_) | ((with_reducible refine al 33 ?_);refine ab (fY w.locks s (by omega)) ?_) | ((with_reducible refine al 49 ?_);refine fg ?_;refine cf (i6 bg o out n (n+1) n2 5 line s arg ix e body els 13 14 (bv w.locks s) cb h0 (by rw[hb];exact hB) (by omega) hn) ?_;rintro _ _ ⟨v_,o_,s_,rfl,rfl,ho_,rfl⟩ ks_) | refine sb (fun nb_ hnb_=>?_) | fail)
 exact fin _ _ _ _ (.one (.here _) (.slotl .last)) rfl ho_
theorem DY(hk:w.locks.length<2^40)(line:Int)(s arg:aL)(ix:List ac)(e:ac)(body els:List aa){cb:List aw}{n b n2:Nat}(hB:c7 14 [.lst (body.map aa.enc)] w loc (n+1) (b+1) cb n2)(hm:n+1≤n2):
  c7 35 [.agg (aa.mk 6 line s arg ix e body els).row] w loc n b (aA [⟨15,(bv w.locks s),0,0,0,0⟩] n++cb++aA [⟨16,(bv w.locks s),0,0,0,0⟩] n) n2:=by
 intro bg o out site h0 hb hl hn
 refine am.fz (aH _ _ _ _ ?_)
 unfold aI aa.row
 generalize hQ:(fun(v:AV) (L:SH)=>∃v2 L2,aV [v] L [v2] L2∧∃(v:AV) (o':Option Nat) (site':Int),_)=Q
 have fin:=cu hQ
 clear hQ
 have e1:IntKind.i64.wrap ((n:Int)+1)=((n+1:Nat):Int):=by rw[IntWalk.i64_in _ (by omega)];omega
 simp only[aA,List.length_map,List.length_append,List.length_cons,List.length_nil]at hl
 repeat' (first | refine dm (b9 ?_ e1) | refine st ?_ | ((with_reducible refine aq 33 ?_);refine aj (fY w.locks s (by omega)) ?_) | ((with_reducible refine al 33 ?_);refine ab (fY w.locks s (by omega)) ?_) | ((with_reducible refine al 49 ?_);refine fg ?_;refine cf (i6 bg o out n (n+1) n2 6 line s arg ix e body els 15 16 (bv w.locks s) cb h0 (by rw[hb];exact hB) (by omega) hn) ?_;rintro _ _ ⟨v_,o_,s_,rfl,rfl,ho_,rfl⟩ ks_) | refine sb (fun nb_ hnb_=>?_) | fail)
 exact fin _ _ _ _ (.one (.here _) (.slotl .last)) rfl ho_
theorem DZ(hk:w.locks.length<2^40)(line:Int)(s arg:aL)(ix:List ac)(e:ac)(body els:List aa){cb:List aw}{n b n2:Nat}(hB:c7 14 [.lst (body.map aa.enc)] w loc (n+1) (b+1) cb n2)(hm:n+1≤n2):
  c7 35 [.agg (aa.mk 7 line s arg ix e body els).row] w loc n b (aA [⟨17,0,0,0,0,0⟩] n++cb++aA [⟨18,0,0,0,0,0⟩] n) n2:=by
 intro bg o out site h0 hb hl hn
 refine am.fz (aH _ _ _ _ ?_)
 unfold aI aa.row
 generalize hQ:(fun(v:AV) (L:SH)=>∃v2 L2,aV [v] L [v2] L2∧∃(v:AV) (o':Option Nat) (site':Int),_)=Q
 have fin:=cu hQ
 clear hQ
 have e1:IntKind.i64.wrap ((n:Int)+1)=((n+1:Nat):Int):=by rw[IntWalk.i64_in _ (by omega)];omega
 simp only[aA,List.length_map,List.length_append,List.length_cons,List.length_nil]at hl
 repeat' (first | refine dm (b9 ?_ e1) | refine st ?_ | ((with_reducible refine aq 49 ?_);(refine cf (i6 bg o out n (n+1) n2 7 line s arg ix e body els 17 18 0 cb h0 (by rw[hb];exact hB) (by omega) hn) ?_;rintro _ _ ⟨v_,o_,s_,rfl,rfl,ho_,rfl⟩)) | refine sb (fun nb_ hnb_=>?_) | fail)
 exact fin _ _ _ _ (.one (.here _) (.slotl .last)) rfl ho_
theorem D0(hk:w.locks.length<2^40)(line:Int)(s arg:aL)(ix:List ac)(e:ac)(body els:List aa){cb:List aw}{n b n2:Nat}(hB:c7 14 [.lst (body.map aa.enc)] w loc (n+1) (b+1) cb n2)(hm:n+1≤n2):
  c7 35 [.agg (aa.mk 8 line s arg ix e body els).row] w loc n b (aA [⟨19,0,0,0,0,0⟩] n++cb++aA [⟨20,0,0,0,0,0⟩] n) n2:=by
 intro bg o out site h0 hb hl hn
 refine am.fz (aH _ _ _ _ ?_)
 unfold aI aa.row
 generalize hQ:(fun(v:AV) (L:SH)=>∃v2 L2,aV [v] L [v2] L2∧∃(v:AV) (o':Option Nat) (site':Int),_)=Q
 have fin:=cu hQ
 clear hQ
 have e1:IntKind.i64.wrap ((n:Int)+1)=((n+1:Nat):Int):=by rw[IntWalk.i64_in _ (by omega)];omega
 simp only[aA,List.length_map,List.length_append,List.length_cons,List.length_nil]at hl
 repeat' (first | refine dm (b9 ?_ e1) | refine st ?_ | ((with_reducible refine aq 49 ?_);(refine cf (i6 bg o out n (n+1) n2 8 line s arg ix e body els 19 20 0 cb h0 (by rw[hb];exact hB) (by omega) hn) ?_;rintro _ _ ⟨v_,o_,s_,rfl,rfl,ho_,rfl⟩)) | refine sb (fun nb_ hnb_=>?_) | fail)
 exact fin _ _ _ _ (.one (.here _) (.slotl .last)) rfl ho_
theorem D1{bg:Nat}{x:AV}{out:List aw}{c:List aw}{n2:Nat}{L:SH}
  (h:∀(Q:R),(∀(o':Option Nat) (out':List aw) (site':Int) (L:SH),ez L ((bg,cz w loc (au o' out'.length) site' n2)::ao o' 6 (out'.map aw.enc))→out'=out++c→(o'=none→out'=[])→Q (.tup []) L)→bn (.ptr bg 0 0) x L Q) :
  am Try.prog 48 [.ptr bg 0 0,x] L fun u K=>∃(v:AV) (o':Option Nat) (site':Int),u=v∧v=.tup []∧(o'=none→out++c=[])∧K=(bg,cz w loc (au o' (out++c).length) site' n2)::ao o' 6 ((out++c).map aw.enc):=by
 refine am.fz (j3 _ _ _ _ ?_)
 generalize hQ:(fun(v:AV) (L:SH)=>∃v2 L2,aV [v] L [v2] L2∧∃(v:AV) (o':Option Nat) (site':Int),_)=Q
 exact h Q (cu hQ)
theorem D2(hw:w.cells.length<2^40)(hlo:loc.length<2^40)(line:Int)(s arg:aL)(ix:List ac)(e:ac)(body:List aa)(els:List aa){ce cb:List aw}{n b n2:Nat}(hv:dE w loc e loc.length ce)(hB:c7 14 [.lst (body.map aa.enc)] w loc (n+1) (b+ce.length+1) cb n2)(hm:n+1≤n2):
  c7 35 [.agg (aa.mk 3 line s arg ix e body els).row] w loc n b (aA (ce++[⟨10,loc.length,((b+ce.length+1+cb.length+1:Nat):Int),0,0,0⟩]) n++cb++aA [⟨5,(b:Int),0,0,0,0⟩] n) n2:=by
 intro bg o out site h0 hb hl hn
 refine am.fz (aH _ _ _ _ ?_)
 unfold aI aa.row
 generalize hQ:(fun(v:AV) (L:SH)=>∃v2 L2,aV [v] L [v2] L2∧∃(v:AV) (o':Option Nat) (site':Int),_)=Q
 have fin:=cu hQ
 clear hQ
 have e1:IntKind.i64.wrap ((n:Int)+1)=((n+1:Nat):Int):=by rw[IntWalk.i64_in _ (by omega)];omega
 simp only[aA,List.length_map,List.length_append,List.length_cons,List.length_nil]at hl
 subst hb
 repeat' (first | refine dm (b9 ?_ e1) | refine st ?_ | ((with_reducible refine aq 48 ?_);(refine cf (D1 (fun Q_ fin_=>DQ hw hlo bg o out n (n+1) n2 line s arg ix e body els ce cb h0 hv hB (by omega) hn fin_)) ?_;rintro _ _ ⟨v_,o_,s_,rfl,rfl,ho_,rfl⟩)) | refine sb (fun nb_ hnb_=>?_) | fail)
 exact fin _ _ _ _ (.one (.here _) (.slotl .last)) rfl ho_
theorem Hr(hw:w.cells.length<2^40)(hlo:loc.length<2^40)(line:Int)(s arg:aL)(ix:List ac)(e:ac)(body:List aa){ce cb:List aw}{n b n2:Nat}(hv:dE w loc e loc.length ce)(hB:c7 14 [.lst (body.map aa.enc)] w loc (n+1) (b+ce.length+1) cb n2)(hm:n+1≤n2):
  c7 35 [.agg (aa.mk 2 line s arg ix e body []).row] w loc n b (aA (ce++[⟨10,loc.length,((b+ce.length+1+cb.length:Nat):Int),0,0,0⟩]) n++cb) n2:=by
 intro bg o out site h0 hb hl hn
 refine am.fz (aH _ _ _ _ ?_)
 unfold aI aa.row
 generalize hQ:(fun(v:AV) (L:SH)=>∃v2 L2,aV [v] L [v2] L2∧∃(v:AV) (o':Option Nat) (site':Int),_)=Q
 have fin:=cu hQ
 clear hQ
 have e1:IntKind.i64.wrap ((n:Int)+1)=((n+1:Nat):Int):=by rw[IntWalk.i64_in _ (by omega)];omega
 simp only[aA,List.length_map,List.length_append,List.length_cons,List.length_nil]at hl
 subst hb
 repeat' (first | refine dm (b9 ?_ e1) | refine st ?_ | ((with_reducible refine aq 48 ?_);(refine cf (D1 (fun Q_ fin_=>Hl hw hlo bg o out n (n+1) n2 line s arg ix e body ce cb h0 hv hB (by omega) hn fin_)) ?_;rintro _ _ ⟨v_,o_,s_,rfl,rfl,ho_,rfl⟩)) | refine sb (fun nb_ hnb_=>?_) | fail)
 exact fin _ _ _ _ (.one (.here _) (.slotl .last)) rfl ho_
theorem Hs(hw:w.cells.length<2^40)(hlo:loc.length<2^40)(line:Int)(s arg:aL)(ix:List ac)(e:ac)(body:List aa)(y:aa)(els:List aa){ce cb cl:List aw}{n b n2 n3:Nat}(hv:dE w loc e loc.length ce)(hB:c7 14 [.lst (body.map aa.enc)] w loc (n+1) (b+ce.length+1) cb n2)(hm:n+1≤n2)(hB2:c7 14 [.lst ((y::els).map aa.enc)] w loc n2 (b+ce.length+1+cb.length+1) cl n3)(hn2:n2≤n3):
  c7 35 [.agg (aa.mk 2 line s arg ix e body (y::els)).row] w loc n b (aA (ce++[⟨10,loc.length,((b+ce.length+1+cb.length+1:Nat):Int),0,0,0⟩]) n++cb++aA [⟨5,((b+ce.length+1+cb.length+1+cl.length:Nat):Int),0,0,0,0⟩] n++cl) n3:=by
 intro bg o out site h0 hb hl hn
 refine am.fz (aH _ _ _ _ ?_)
 unfold aI aa.row
 generalize hQ:(fun(v:AV) (L:SH)=>∃v2 L2,aV [v] L [v2] L2∧∃(v:AV) (o':Option Nat) (site':Int),_)=Q
 have fin:=cu hQ
 clear hQ
 have e1:IntKind.i64.wrap ((n:Int)+1)=((n+1:Nat):Int):=by rw[IntWalk.i64_in _ (by omega)];omega
 simp only[aA,List.length_map,List.length_append,List.length_cons,List.length_nil]at hl
 subst hb
 repeat' (first | refine dm (b9 ?_ e1) | refine st ?_ | ((with_reducible refine aq 48 ?_);(refine cf (D1 (fun Q_ fin_=>Hm hw hlo bg o out n (n+1) n2 n3 line s arg ix e body y els ce cb cl h0 hv hB hB2 (by omega) (by omega) hn fin_)) ?_;rintro _ _ ⟨v_,o_,s_,rfl,rfl,ho_,rfl⟩)) | refine sb (fun nb_ hnb_=>?_) | fail)
 exact fin _ _ _ _ (.one (.here _) (.slotl .last)) rfl ho_
structure Az(w:bj)(loc:List aL):Prop where
 cells:w.cells.length<2^40
 locks:w.locks.length<2^40
 conds:w.conds.length<2^40
 futs:w.futures.length<2^40
 thr:w.threads.length<2^40
 loc:loc.length<2^40
mutual
def aa.short:aa→Prop
 | .mk _ _ _ _ _ _ body els=>aa.shorts body∧body.length<2^40∧aa.shorts els∧els.length<2^40
def aa.shorts:List aa→Prop
 | []=>True
 | x::l=>x.short∧aa.shorts l
end
mutual
theorem aa.short_wt:∀x:aa,x.wt<2^40→x.short
 | .mk a b c d e f body els=>fun h=>by
  have h1:=aa.wts_len body;have h2:=aa.wts_len els
  simp only[aa.wt]at h
  exact⟨aa.shorts_wt body (by omega),by omega,aa.shorts_wt els (by omega),by omega⟩
theorem aa.shorts_wt:∀l:List aa,aa.wts l<2^40→aa.shorts l
 | []=>fun _=>trivial
 | x::l=>fun h=>by simp only[aa.wts]at h;exact⟨aa.short_wt x (by omega),aa.shorts_wt l (by omega)⟩
end
theorem D3(hs:Az w loc):(∀{x n b c n2},Ay w loc x n b c n2→x.short→c7 35 [.agg x.row] w loc n b c n2)∧∀{l n b c n2},StsC w loc l n b c n2→aa.shorts l→mP w loc l n b c n2:=by
 obtain⟨h1,h2,h3,h4,h5,h6⟩:=hs
 refine ye (M1:=fun x n b c n2=>x.short→c7 35 [.agg x.row] w loc n b c n2) (M2:=fun l n b c n2=>aa.shorts l→mP w loc l n b c n2) ?_ ?_ ?_ ?_ ?_ ?_ ?_ ?_ ?_
 ·intro line s arg ix e body els c n b ha _
  exact Hp h1 h6 line s arg ix e body els ha
 ·intro line s arg ix e body ce cb n b n2 hv hs ih hw
  exact Hr h1 h6 line s arg ix e body hv (i7 (ih hw.1) hw.2.1) (fj.2 hs)
 ·intro line s arg ix e body y els ce cb cl n b n2 n3 hv hs hs2 ih ih2 hw
  exact Hs h1 h6 line s arg ix e body y els hv (i7 (ih hw.1) hw.2.1) (fj.2 hs) (i7 (ih2 hw.2.2.1) hw.2.2.2) (fj.2 hs2)
 ·intro line s arg ix e body els ce cb n b n2 hv hs ih hw
  exact D2 h1 h6 line s arg ix e body els hv (i7 (ih hw.1) hw.2.1) (fj.2 hs)
 ·intro op line s arg ix e body els f l ob cb n b n2 ha hs ih hw
  have hB:=i7 (ih hw.1) hw.2.1
  unfold zH at ha
  repeat' split at ha
  all_goals first | (exfalso;cases ha;done) | (rename_i hop;subst hop;cases ha)
  ·exact DW h2 line s arg ix e body els hB (fj.2 hs)
  ·exact DX h2 line s arg ix e body els hB (fj.2 hs)
  ·exact DY h2 line s arg ix e body els hB (fj.2 hs)
  ·exact DZ h2 line s arg ix e body els hB (fj.2 hs)
  ·exact D0 h2 line s arg ix e body els hB (fj.2 hs)
 ·intro op line s arg ix e body els i n b ho _
  unfold DP at ho
  repeat' split at ho
  all_goals first | (exfalso;cases ho;done) | (rename_i hop;subst hop;cases ho)
  ·exact Fc h3 h4 h5 h6 line s arg ix e body els
  ·exact DR h3 h4 h5 h6 line s arg ix e body els
  ·exact DS h3 h4 h5 h6 line s arg ix e body els
  ·exact DT h3 h4 h5 h6 line s arg ix e body els
  ·exact DU h3 h4 h5 h6 line s arg ix e body els
  ·exact DV h3 h4 h5 h6 line s arg ix e body els
 ·intro line s arg ix e body els ce n b hv _
  exact Hq h1 h6 h4 line s arg ix e body els hv
 ·intro n b _
  exact .nil n b
 ·intro x l c1 c2 n b n1 n2 h1 h2 ih1 ih2 hw
  exact .cons (ih1 hw.1) (Nat.le_of_lt (fj.1 h1)) (ih2 hw.2)
end
end Go.Proofs.Ytljkdffikfkcgaa.Am
end
section
namespace Go.Proofs.Ytljkdffikfkcgaa.Am
set_option maxRecDepth 100000
set_option maxHeartbeats 2000000
set_option linter.unusedVariables false
theorem wj{α:Type}{o:Option Nat}{size:Nat}{l:List α}{f:α→List AV}{L:SH}(h0:o=none→l=[])(hs:0<size)(hm:∀q∈ao o size (l.map f),q∈L):Fz L (au o l.length) (.lst (l.map f)):=by
 cases o with
 | none=>rw[h0 rfl];exact .emp
 | some b=>exact Fz.sls (hm _ (.head _)) rfl hs rfl
theorem sU(o:Option Nat)(n:Nat):(au o n).one=true:=by cases o<;>rfl
theorem zI(o:Option Nat)(n:Nat):(au o n).cells? =some [au o n]:=by cases o<;>rfl
section
variable {n151:Kn} {b2 b6 i:Nat} {oc ol od of ot os:Option Nat} {w:bj} {dl:List (List AV)} {ts:List ai} {Q:R}
theorem Fd(hi:i<ts.length)(hi1:IntKind.i64.wrap ((i:Int)+1)=((i+1:Nat):Int))(hw:i=w.threads.length)(hti:i<2^20)(hb:aa.wts ts[i].body<2^20)(hsl:w.sites.length<2^29)(ho:wS b6 oc ol od of ot os w)
  (hn:F3 (n151 [.pptr [[.lst dl,.lst (ts.map ai.enc)]] 0 0,.ptr b2 0 0,.ptr b6 0 0,.int .i64 ((i+1:Nat):Int)]) b2 b6 (cD w ts[i])) :
  gI n151 (wz b2 b6 oc ol od of ot os w) (.ptr b6 0 0) (.pptr [[.lst dl,.lst (ts.map ai.enc)]] 0 0) (.int .i64 i) (.ptr b2 0 0):=by
 have hx:=aC (f:=ai.enc) hi
 have hcw:=aa.cnts_wt ts[i].body
 have hk:=DO i (2^20) ts[i].body (by omega) (by omega)
 have ht0:ot=none→w.threads.map az=[]:=fun e=>by rw[ho.t e];rfl
 unfold cD at hn
 rw[←hw]at hn
 unfold gI wz
 repeat' (first | refine st ?_ | refine cI rp rp (by simp) (fun e=>by first | simp[ht0 e]) (by rfl) (by simp) (by simp;omega) (by simp;omega) (by rfl) (fun nb_ hnb_=>?_) | ((with_reducible refine al 34 ?_);refine fg ?_;refine Ax (t:=i) (n:=0) hk rp rfl rfl ho.s (by omega) (by omega) (fun o_ ho_ ks_=>?_);simp only[List.cons_append,List.nil_append,List.append_assoc]) | refine s8 ?_ (h2:=zI _ _) (h4:=sU _ _) | refine sb (fun nb_ hnb_=>?_) | refine s2 (fun h=>?_) (fun h=>?_) | fail)
 exact hn oc ol od of (some nb_) o_ _ _ _ _ _ _ _ _ _ _ _ _ _ ⟨ho.c,ho.l,ho.d,ho.f,nofun,ho_,ho.n⟩ rp (by simp[au]) rfl rfl rfl rfl (by rw[List.map_append];rfl) rfl
theorem Ht(hts:ts.length<2^20)(hb:∀t∈ts,aa.wts t.body<2^20)(hw0:w.threads=[])(hs0:w.sites=[])(hsl:∀k,(((ts.take k).foldl cD w).sites.length<2^29))(ho:wS b6 oc ol od of ot os w)
  (hq:∀(v:AV) (L:SH),Fz L v (.agg (ts.foldl cD w).enc)→Q v L) :
  W.loop (gJ Q) [.pptr [[.lst dl,.lst (ts.map ai.enc)]] 0 0,.ptr b2 0 0,.ptr b6 0 0,.int .i64 0] (wz b2 b6 oc ol od of ot os w):=by
 have hlen:∀k,k≤ts.length→((ts.take k).foldl cD w).threads.length=k:=by
  intro k
  induction k with
  | zero=>intro _;simp[hw0]
  | succ k ih=>intro h;rw[gN (show k<ts.length by omega)];simp[cD,ih (by omega)]
 refine cH (β:=Option Nat×Option Nat×Option Nat×Option Nat×Option Nat×Option Nat) ts.length (fun i q=>([.pptr [[.lst dl,.lst (ts.map ai.enc)]] 0 0,.ptr b2 0 0,.ptr b6 0 0,.int .i64 i],wz b2 b6 q.1 q.2.1 q.2.2.1 q.2.2.2.1 q.2.2.2.2.1 q.2.2.2.2.2 ((ts.take i).foldl cD w)))
  (fun i q=>wS b6 q.1 q.2.1 q.2.2.1 q.2.2.2.1 q.2.2.2.2.1 q.2.2.2.2.2 ((ts.take i).foldl cD w)) (oc,ol,od,of,ot,os) ho (.refl _ _) ?_
 rintro i ⟨oc,ol,od,of,ot,os⟩ hi ho
 dsimp only at ho ⊢
 unfold gJ
 generalize hnx:(fun(vs':List AV) (L':SH)=>∃j o',i<j∧j≤ts.length∧_)=nx
 rcases Nat.lt_or_ge i ts.length with g1 | g1
 ·have hd:=ct g1
  have hi1:=bH g1 (by omega)
  have hgo:F3 (nx [.pptr [[.lst dl,.lst (ts.map ai.enc)]] 0 0,.ptr b2 0 0,.ptr b6 0 0,.int .i64 ((i+1:Nat):Int)]) b2 b6 (cD ((ts.take i).foldl cD w) ts[i]):=.of fun oc2 ol2 od2 of2 ot2 os2 L' q1 q2=>by
   subst hnx
   rw[←gN (f:=cD) (a:=w) g1]at q1 q2
   exact⟨i+1,(oc2,ol2,od2,of2,ot2,os2),by omega,by omega,q1,aV.pick q2 rfl⟩
  have hr:=Fd (dl:=dl) g1 hi1 (hlen i (by omega)).symm (by omega) (hb _ (List.getElem_mem g1)) (hsl i) ho hgo
  clear hnx hgo
  generalize hW:wz b2 b6 oc ol od of ot os ((ts.take i).foldl cD w)=LW at *
  repeat' (first | exact hr | refine st ?_ | refine sb (fun nb_ hnb_=>?_) | refine s2 (fun h=>?_) (fun h=>?_) | fail)
 ·have hd:=ee g1
  have e:i=ts.length:=by omega
  subst e
  rw[List.take_length]at ho ⊢
  unfold wz
  repeat' (first | refine st ?_ | refine sb (fun nb_ hnb_=>?_) | refine s2 (fun h=>?_) (fun h=>?_) | fail)
  refine gW (cs:=[au oc (List.foldl cD w ts).cells.length,au ol (List.foldl cD w ts).locks.length,au od (List.foldl cD w ts).conds.length,au of (List.foldl cD w ts).futures.length,au ot (List.foldl cD w ts).threads.length,au os (List.foldl cD w ts).sites.length]) (.there _ (.here _)) rfl rfl (by simp[sU]) rfl ?_
  repeat' (first | refine st ?_ | refine sb (fun nb_ hnb_=>?_) | refine s2 (fun h=>?_) (fun h=>?_) | fail)
  refine hq _ _ (Fz.aggs (.cons (wj ho.c (by decide) fun q h=>.tail _ (.tail _ (List.mem_append_left _ h))) (.cons (wj ho.l (by decide) fun q h=>.tail _ (.tail _ (List.mem_append_right _ (List.mem_append_left _ h)))) (.cons (wj ho.d (by decide) fun q h=>.tail _ (.tail _ (List.mem_append_right _ (List.mem_append_right _ (List.mem_append_left _ h))))) (.cons (wj ho.f (by decide) fun q h=>.tail _ (.tail _ (List.mem_append_right _ (List.mem_append_right _ (List.mem_append_right _ (List.mem_append_left _ h)))))) (.cons (wj ho.t (by decide) fun q h=>.tail _ (.tail _ (List.mem_append_right _ (List.mem_append_right _ (List.mem_append_right _ (List.mem_append_right _ (List.mem_append_left _ h))))))) (.cons (wj ho.s (by decide) fun q h=>.tail _ (.tail _ (List.mem_append_right _ (List.mem_append_right _ (List.mem_append_right _ (List.mem_append_right _ (List.mem_append_right _ h))))))) .nil)))))))
end
theorem B8(w:bj)(d:av)(hs:d.size≤4):(bZ w d).cells.length≤w.cells.length+4∧(bZ w d).locks.length≤w.locks.length+1∧(bZ w d).conds.length≤w.conds.length+1∧(bZ w d).futures.length≤w.futures.length+1∧(bZ w d).threads=w.threads∧(bZ w d).sites=w.sites:=by
 unfold bZ
 repeat' split
 all_goals simp[av.celW]
 all_goals omega
theorem xg(w:bj):∀(l:List av),(∀d∈l,d.size≤4)→(l.foldl bZ w).cells.length≤w.cells.length+4*l.length∧(l.foldl bZ w).locks.length≤w.locks.length+l.length∧(l.foldl bZ w).conds.length≤w.conds.length+l.length∧(l.foldl bZ w).futures.length≤w.futures.length+l.length∧(l.foldl bZ w).threads=w.threads∧(l.foldl bZ w).sites=w.sites:=by
 intro l
 induction l generalizing w with
 | nil=>intro _;simp
 | cons d l ih=>
  intro h
  obtain⟨a1,a2,a3,a4,a5,a6⟩:=B8 w d (h d (.head _))
  obtain⟨b1,b2,b3,b4,b5,b6⟩:=ih (bZ w d) fun x hx=>h x (.tail _ hx)
  simp only[List.foldl_cons,List.length_cons]
  exact⟨by omega,by omega,by omega,by omega,b5.trans a5,b6.trans a6⟩
theorem AA(ts:List ai):∀(w:bj),(ts.foldl cD w).sites.length=w.sites.length+bf (fun t=>aa.cnts t.body) ts:=by
 induction ts with
 | nil=>intro w;simp[bf]
 | cons t l ih=>intro w;rw[List.foldl_cons,ih];simp[cD,sitL_len,bf];omega
theorem D4(p:aK)(hp:fD p)(hpass:sJ p)(hw:p.wt≤200000):aO Try.prog 13 [.agg p.enc] (.agg (bD p).enc):=by
 obtain⟨ln,hck⟩:=hpass
 have hkind:∀d∈p.decls,(1≤d.kind∧d.kind≤6)∧d.size≤4:=fun d hd=>by
  obtain⟨i,hi,rfl⟩:=List.getElem_of_mem hd
  refine⟨?_,(hp.decls i hi).size⟩
  have h1:=hp.shaped
  unfold Du at h1
  rw[Bool.and_eq_true]at h1
  have h2:=List.all_eq_true.1 h1.1 _ (List.getElem_mem hi)
  unfold FW Jj at h2
  simp only[Bool.and_eq_true,Bool.not_eq_true',Bool.or_eq_false_iff,decide_eq_false_iff_not]at h2
  omega
 have hdl:=p.decls_len
 have htl:=p.threads_len
 refine am.fz (wh _ _ _ ?_)
 unfold mO aK.enc
 generalize hQ:(fun(v:AV) (L:SH)=>∃v2 L2,aV [v] L [v2] L2∧v2=.agg (bD p).enc∧L2=[])=Q
 have hq:∀v L,Fz L v (.agg (bD p).enc)→Q v L:=fun v L h=>by
  subst hQ;exact⟨_,[],aV.all h,rfl,rfl⟩
 clear hQ
 repeat' (first | refine st ?_ | ((with_reducible refine aq 12 ?_);refine aj (hck) ?_) | ((with_reducible refine al 12 ?_);refine ab (hck) ?_) | refine sb (fun nb_ hnb_=>?_) | refine s2 (fun h=>?_) (fun h=>?_) | fail)
 rename_i b0 hb0 b2 hb2
 have hlen:∀k,((p.decls.take k).foldl bZ bj.zero).cells.length<2^30∧((p.decls.take k).foldl bZ bj.zero).locks.length<2^30∧((p.decls.take k).foldl bZ bj.zero).conds.length<2^30∧((p.decls.take k).foldl bZ bj.zero).futures.length<2^30:=fun k=>by
  obtain⟨a1,a2,a3,a4,_,_⟩:=xg bj.zero (p.decls.take k) fun d hd=>(hkind d (List.mem_of_mem_take hd)).2
  have:(p.decls.take k).length≤200000:=by rw[List.length_take];omega
  simp only[bj.zero,List.length_nil]at a1 a2 a3 a4
  exact⟨by show List.length _<_;unfold bj.zero;omega,by show List.length _<_;unfold bj.zero;omega,by show List.length _<_;unfold bj.zero;omega,by show List.length _<_;unfold bj.zero;omega⟩
 obtain⟨_,_,_,_,hth0,hsi0⟩:=xg bj.zero p.decls fun d hd=>(hkind d hd).2
 refine cH (β:=Option Nat×Option Nat×Option Nat×Option Nat×Option Nat×Option Nat) p.decls.length (fun i q=>([.pptr [[.lst (p.decls.map av.enc),.lst (p.threads.map ai.enc)]] 0 0,.ptr b2 0 0,.ptr nb_ 0 0,.int .i64 i],wz b2 nb_ q.1 q.2.1 q.2.2.1 q.2.2.2.1 q.2.2.2.2.1 q.2.2.2.2.2 ((p.decls.take i).foldl bZ bj.zero)))
  (fun i q=>wS nb_ q.1 q.2.1 q.2.2.1 q.2.2.2.1 q.2.2.2.2.1 q.2.2.2.2.2 ((p.decls.take i).foldl bZ bj.zero)) (none,none,none,none,none,none) ⟨fun _=>rfl,fun _=>rfl,fun _=>rfl,fun _=>rfl,fun _=>rfl,fun _=>rfl,nofun⟩ ?_ ?_
 ·exact aV.rowA (K:=[]) (A:=[]) (R:=[(b2,⟨6,[He]⟩)]) (rows:=[[.nils,.nils,.nils,.nils,.nils,.nils]]) (.one (.here _) (.one (.here _) (.nil _))) rfl (co (.cons .nile (.cons .nile (.cons .nile (.cons .nile (.cons .nile (.cons .nile .nil))))))) rfl
 rintro i ⟨oc,ol,od,of,ot,os⟩ hi ho
 dsimp only at ho ⊢
 unfold kO
 generalize hnx:(fun(vs':List AV) (L':SH)=>∃j o',i<j∧j≤p.decls.length∧_)=nx
 rcases Nat.lt_or_ge i p.decls.length with g1 | g1
 ·have hd:=ct g1
  have hi1:=bH g1 (by omega)
  have hgo:F3 (nx [.pptr [[.lst (p.decls.map av.enc),.lst (p.threads.map ai.enc)]] 0 0,.ptr b2 0 0,.ptr nb_ 0 0,.int .i64 ((i+1:Nat):Int)]) b2 nb_ (bZ ((p.decls.take i).foldl bZ bj.zero) p.decls[i]):=.of fun oc2 ol2 od2 of2 ot2 os2 L' q1 q2=>by
   subst hnx
   rw[←gN (f:=bZ) (a:=bj.zero) g1]at q1 q2
   exact⟨i+1,(oc2,ol2,od2,of2,ot2,os2),by omega,by omega,q1,aV.pick q2 rfl⟩
  obtain⟨a1,a2,a3,a4⟩:=hlen i
  have hk:=hkind _ (List.getElem_mem g1)
  have hr:=Hf (rows:=p.decls.map av.enc) (tl:=p.threads.map ai.enc) (d:=p.decls[i]) (aC g1) hk.1 (by omega) hi1 ho a1 a2 a3 a4 hgo
  clear hnx hgo
  generalize hW:wz b2 nb_ oc ol od of ot os ((p.decls.take i).foldl bZ bj.zero)=LW at *
  repeat' (first | exact hr | refine st ?_ | refine sb (fun nb_ hnb_=>?_) | refine s2 (fun h=>?_) (fun h=>?_) | fail)
 ·have hd:=ee g1
  have e:i=p.decls.length:=by omega
  subst e
  rw[List.take_length]at ho ⊢
  have hl:=Ht (Q:=Q) (dl:=p.decls.map av.enc) (ts:=p.threads) (b2:=b2) (by omega) (fun t ht=>?hb) hth0 hsi0 (fun k=>?hs) ho hq
  case hb=>
   obtain⟨j,hj,rfl⟩:=List.getElem_of_mem ht
   have:=p.thread_wt hj
   unfold ai.wt at this
   omega
  case hs=>
   rw[AA,hsi0]
   have h1:=jw (fun t:ai=>aa.cnts t.body) p.threads k
   have h2:=hp.stmts
   simp only[bj.zero,List.length_nil]
   omega
  generalize hW:wz b2 nb_ oc ol od of ot os (p.decls.foldl bZ bj.zero)=LW at *
  repeat' (first | exact hl | refine st ?_ | refine sb (fun nb_ hnb_=>?_) | refine s2 (fun h=>?_) (fun h=>?_) | fail)
end Go.Proofs.Ytljkdffikfkcgaa.Am
end
section
namespace Go.Proofs.Ytljkdffikfkcgaa.Am
set_option linter.unusedVariables false
set_option maxRecDepth 100000
def pw(Q:R)(L18:SH)(x19:AV):Prop:=
 bo 1 x19 L18 fun x30=>
 bo 2 x19 L18 fun x32=>
 bo 3 x19 L18 fun x34=>
 W.bslice 1 [(.int .i64 0)] 3 [(0,x30),(1,x32),(2,x34)] L18 fun x35 L36=>
 Q x35 L36
def px(Q:R)(L46:SH)(x48 x47:AV):Prop:=
 wb .eql 3 x48 (.int .i64 9) fun x54=>
 wk x54 (
 bo 2 x47 L46 fun x56=>
 bo 3 x47 L46 fun x58=>
 W.bslice 1 [(.int .i64 0)] 2 [(0,x56),(1,x58)] L46 fun x59 L60=>
 Q x59 L60) (
 Q .nils L46)
def py(Q:R)(v44:Vs)(L46:SH):Prop:=
 wu 1 4 37 v44 fun x47 x48 x49=>
 wk x49 (
 bo 2 x47 L46 fun x51=>
 W.bslice 1 [(.int .i64 0)] 1 [(0,x51)] L46 fun x52 L53=>
 Q x52 L53) (
 (px Q L46 x48 x47))
def pz(Q:R)(L18:SH)(x20 x19:AV):Prop:=
 W.join (py Q) fun j45=>
 wb .eql 3 x20 (.int .i64 8) fun x61=>
 wk x61 (
 j45 [x19,x20,x61] L18) (
 wb .eql 3 x20 (.int .i64 26) fun x62=>
 j45 [x19,x20,x62] L18)
def pA(Q:R)(L18:SH)(x20 x19:AV):Prop:=
 wb .eql 3 x20 (.int .i64 7) fun x37=>
 wk x37 (
 bo 1 x19 L18 fun x39=>
 bo 3 x19 L18 fun x41=>
 W.bslice 1 [(.int .i64 0)] 2 [(0,x39),(1,x41)] L18 fun x42 L43=>
 Q x42 L43) (
 (pz Q L18 x20 x19))
def pB(Q:R)(v16:Vs)(L18:SH):Prop:=
 wu 1 4 13 v16 fun x19 x20 x21=>
 wk x21 (
 bo 1 x19 L18 fun x23=>
 bo 2 x19 L18 fun x25=>
 W.bslice 1 [(.int .i64 0)] 2 [(0,x23),(1,x25)] L18 fun x26 L27=>
 Q x26 L27) (
 wb .eql 3 x20 (.int .i64 4) fun x28=>
 wk x28 (
 (pw Q L18 x19)) (
 (pA Q L18 x20 x19)))
def pC(Q:R)(L8:SH)(x10 x9:AV):Prop:=
 W.join (pB Q) fun j17=>
 wb .eql 3 x10 (.int .i64 2) fun x63=>
 wk x63 (
 j17 [x9,x10,x63] L8) (
 wb .eql 3 x10 (.int .i64 3) fun x64=>
 j17 [x9,x10,x64] L8)
def pD(Q:R)(v6:Vs)(L8:SH):Prop:=
 wu 1 4 5 v6 fun x9 x10 x11=>
 wk x11 (
 bo 1 x9 L8 fun x13=>
 W.bslice 1 [(.int .i64 0)] 1 [(0,x13)] L8 fun x14 L15=>
 Q x14 L15) (
 (pC Q L8 x10 x9))
def pE(j7:Kn)(L3:SH)(x5 x2:AV):Prop:=
 wb .eql 3 x5 (.int .i64 6) fun x66=>
 wk x66 (
 j7 [x2,x5,x66] L3) (
 wb .eql 3 x5 (.int .i64 10) fun x67=>
 wk x67 (
 j7 [x2,x5,x67] L3) (
 wb .eql 3 x5 (.int .i64 27) fun x68=>
 j7 [x2,x5,x68] L3))
def im(t0:AV)(L:SH)(Q:R):Prop:=
 xb t0 L fun x2 L3=>
 bo 0 x2 L3 fun x5=>
 W.join (pD Q) fun j7=>
 wb .eql 3 x5 (.int .i64 1) fun x65=>
 wk x65 (
 j7 [x2,x5,x65] L3) (
 (pE j7 L3 x5 x2))
theorem pF(t0:AV)(L:SH)(Q:R)(h:im t0 L Q):am Try.prog 16 [t0] L Q:=
 bC ⟨fun k=>if k=5 then some [1,4,5]else if k=8 then some [1,4,13]else if k=15 then some [1,4,37]else none,fun _=>[],fun k=>if k=0 then [1]else [],fun _=>[]⟩ Try.func16 (by kernel_rfl) (by kernel_rfl) h
end Go.Proofs.Ytljkdffikfkcgaa.Am
end
section
namespace Go.Proofs.Ytljkdffikfkcgaa.Am
set_option maxRecDepth 100000
set_option maxHeartbeats 1000000
set_option linter.unusedVariables false
def aU(i:aw):List Int:=
 if i.op=1∨i.op=6∨i.op=10∨i.op=27 then [i.a]else
 if i.op=2∨i.op=3 then [i.a,i.b]else
 if i.op=4 then [i.a,i.b,i.c]else
 if i.op=7 then [i.a,i.c]else
 if i.op=8∨i.op=26 then [i.b]else
 if i.op=9 then [i.b,i.c]else []
theorem Bs(i:aw):aO Try.prog 16 [.agg i.enc] (.lst ((aU i).map aJ)):=by
 obtain⟨op,ia,ib,ic,n,site⟩:=i
 refine am.fz (pF _ _ _ ?_)
 unfold im
 generalize hQ:(fun(v:AV) (L:SH)=>∃v2 L2,aV [v] L [v2] L2∧v2=AV.lst ((aU ⟨op,ia,ib,ic,n,site⟩).map aJ)∧L2=[])=Q
 have hq:∀(l:List Int),aU ⟨op,ia,ib,ic,n,site⟩=l→∀v L,Fz L v (.lst (l.map aJ))→Q v L:=fun l hl v L h=>by
  subst hQ;exact⟨_,[],aV.all h,by rw[hl],rfl⟩
 clear hQ
 repeat' (first | refine st ?_ | refine sb (fun nb_ hnb_=>?_) | refine s2 (fun h=>?_) (fun h=>?_) | fail)
 all_goals first
  | exact hq [ia] (by simp_all[aU];done) _ _ (Fz.sls (l:=[ia]) (f:=aJ) (.head _) rfl (by decide) rfl)
  | exact hq [ib] (by simp_all[aU];done) _ _ (Fz.sls (l:=[ib]) (f:=aJ) (.head _) rfl (by decide) rfl)
  | exact hq [ia,ib] (by simp_all[aU];done) _ _ (Fz.sls (l:=[ia,ib]) (f:=aJ) (.head _) rfl (by decide) rfl)
  | exact hq [ia,ic] (by simp_all[aU];done) _ _ (Fz.sls (l:=[ia,ic]) (f:=aJ) (.head _) rfl (by decide) rfl)
  | exact hq [ib,ic] (by simp_all[aU];done) _ _ (Fz.sls (l:=[ib,ic]) (f:=aJ) (.head _) rfl (by decide) rfl)
  | exact hq [ia,ib,ic] (by simp_all[aU];done) _ _ (Fz.sls (l:=[ia,ib,ic]) (f:=aJ) (.head _) rfl (by decide) rfl)
  | exact hq [] (by simp_all[aU];done) _ _ .nils
end Go.Proofs.Ytljkdffikfkcgaa.Am
end
section
namespace Go.Proofs.Ytljkdffikfkcgaa.Am
set_option maxRecDepth 100000
set_option maxHeartbeats 2000000
set_option linter.unusedVariables false
theorem am.fzL{P:Program}{f:FuncId}{args args2:List AV}{L L2:SH}{Q:AV→SH→Prop}(hz:aV args L args2 L2)(h:am P f args2 L2 Q):am P f args L Q:=⟨h.1,fun H hb hs=>by
 obtain⟨H2,f1,f2,f3,f4⟩:=iJ hz hs hb
 obtain⟨v,H',L',h1,h2,h3⟩:=h.2 H2 f1.bd f1.sub
 refine⟨v,H',L',fun w σ vs hW hvs=>?_,f1.trans (h2.low (by rw[f2];exact Nat.le_refl _)) (Nat.le_refl _),h3⟩
 obtain⟨g1,g2,g3⟩:=f3 w σ hW
 refine(h1 w σ vs g1 (g3 vs hvs)).mono ?_
 rintro e w' ⟨v',σ',rfl,k1,k2,e1,k4⟩
 exact⟨v',σ',rfl,k1,k2,⟨e1.os,e1.tape,e1.output,e1.size,fun c hc hT=>e1.keep c hc (fun h=>hT (g2 c h)),e1.shape,e1.sig,e1.eqfr,e1.frame,fun c hc=>(e1.own c hc).imp (g2 c) id⟩,fun c pl hc=>by rw[←f2];exact k4 c pl hc⟩⟩
def sV(a:Int)(l:List Int):Int:=l.foldl (fun a r=>max a (r+1)) a
def mq(a:Int)(l:List aw):Int:=l.foldl (fun a i=>sV a (aU i)) a
theorem Hu{k:IntKind}{a b:Int}{K:AV→Prop}(h:K (.int k (max a b))):W.mnx true (.int k a) (.int k b) K:=by
 have:(if b > a then b else a)=max a b:=by split<;>omega
 rw[Cu,this];exact h
section
variable {n81:Kn} {x1 x2 x3 x4 x5 x6:AV} {bt bg k:Nat} {v:AV} {R:SH}
theorem Hv(l:List Int)(a:Int)(hl:l.length<2^30)(hr:∀r∈l,0≤r∧r<1000)(hk1:IntKind.i64.wrap ((k:Int)+1)=((k+1:Nat):Int))
  (hn:n81 [x1,x2,x3,x4,x5,x6,.ptr bt 0 0,.int .i64 ((k+1:Nat):Int)] ((bt,⟨2,[[.int .i64 (sV a l),v]]⟩)::R)) :
  W.loop (fa n81) [x1,x2,x3,x4,x5,x6,.ptr bt 0 0,.int .i64 k,.lst (l.map aJ),.int .i64 0] ((bt,⟨2,[[.int .i64 a,v]]⟩)::R):=by
 refine FT l.length (fun _=>True) (fun j=>([x1,x2,x3,x4,x5,x6,.ptr bt 0 0,.int .i64 k,.lst (l.map aJ),.int .i64 j],(bt,⟨2,[[.int .i64 (sV a (l.take j)),v]]⟩)::R)) (by omega) trivial rfl rfl (fun j h hd hi _ nx hx=>?_) (fun j e hd _ nx=>?_)
 all_goals unfold fa
 ·have hj:=aC (f:=aJ) h
  have hb:=hr _ (List.getElem_mem h)
  have h1:IntKind.i64.wrap (l[j]+1)=l[j]+1:=IntWalk.i64_in _ (by omega)
  have e:sV a (l.take (j+1))=max (sV a (l.take j)) (l[j]+1):=by unfold sV;rw[gN h]
  repeat' (first | refine st ?_ | refine Hu ?_ | refine sb (fun nb_ hnb_=>?_) | refine s2 (fun h=>?_) (fun h=>?_) | fail)
  refine hx trivial _ _ ?_
  rw[e]
  exact .refl _ _
 ·subst e
  rw[List.take_length]
  repeat' (first | refine st ?_ | refine sb (fun nb_ hnb_=>?_) | refine s2 (fun h=>?_) (fun h=>?_) | fail)
  exact hn
theorem Hw{n23:Kn}{w:bj}{loc:List aL}{b:Nat}{site next:Int}{M L0:SH}(out:List aw)(a:Int)(hl:out.length<2^30)(hr:∀i∈out,∀r∈aU i,0≤r∧r<1000)
  (hn:fb n23 ((bt,⟨2,[[.int .i64 (mq a out),v]]⟩)::(bg,cz w loc (au (some b) out.length) site next)::(b,⟨6,out.map aw.enc⟩)::M) x3 (.ptr bt 0 0) x5 x1 x2 x4) :
  ez L0 ((bt,⟨2,[[.int .i64 a,v]]⟩)::(bg,cz w loc (au (some b) out.length) site next)::(b,⟨6,out.map aw.enc⟩)::M)→W.loop (fe n23) [x1,x2,x3,x4,x5,.ptr bg 0 0,.ptr bt 0 0,.int .i64 0] L0:=by
 intro hp
 refine cH (β:=Unit) out.length (fun j _=>([x1,x2,x3,x4,x5,.ptr bg 0 0,.ptr bt 0 0,.int .i64 j],(bt,⟨2,[[.int .i64 (mq a (out.take j)),v]]⟩)::(bg,cz w loc (au (some b) out.length) site next)::(b,⟨6,out.map aw.enc⟩)::M)) (fun _ _=>True) () trivial (aV.pick hp rfl) ?_
 intro j _ hj0 _
 dsimp only
 unfold fe
 rcases Nat.lt_or_ge j out.length with h | h
 ·have hd:=ct h
  have hi:=bH h (by omega)
  generalize hnx:(fun(vs':List AV) (L':SH)=>∃k o',j<k∧k≤out.length∧_)=nx
  have hx:∀vs' L',aV vs' L' [x1,x2,x3,x4,x5,.ptr bg 0 0,.ptr bt 0 0,.int .i64 ((j+1:Nat):Int)] ((bt,⟨2,[[.int .i64 (mq a (out.take (j+1))),v]]⟩)::(bg,cz w loc (au (some b) out.length) site next)::(b,⟨6,out.map aw.enc⟩)::M)→nx vs' L':=fun vs' L' hf=>by
   subst hnx;exact⟨j+1,(),by omega,by omega,trivial,hf⟩
  clear hnx
  have hj:=aC (f:=aw.enc) h
  have e:mq a (out.take (j+1))=sV (mq a (out.take j)) (aU out[j]):=by unfold mq;rw[gN h]
  have hlen:(aU out[j]).length<2^30:=by
   generalize out[j]=i
   unfold aU
   repeat' split
   all_goals simp
  have hrun:=Hv (n81:=nx) (x1:=x1) (x2:=x2) (x3:=x3) (x4:=x4) (x5:=x5) (x6:=.ptr bg 0 0) (bt:=bt) (v:=v) (R:=(bg,cz w loc (au (some b) out.length) site next)::(b,⟨6,out.map aw.enc⟩)::M) (aU out[j]) (mq a (out.take j)) hlen (hr _ (List.getElem_mem h)) hi (by
   refine hx _ _ ?_
   rw[e]
   exact .refl _ _)
  clear hx
  repeat' (first | exact hrun | refine st ?_ | ((with_reducible refine aq 16 ?_);refine aj (Bs out[j]) ?_) | ((with_reducible refine al 16 ?_);refine ab (Bs out[j]) ?_) | refine sb (fun nb_ hnb_=>?_) | refine s2 (fun h=>?_) (fun h=>?_) | fail)
 ·have hd:=ee h
  have e:j=out.length:=by omega
  subst e
  rw[List.take_length]
  generalize(fun(vs':List AV) (L':SH)=>∃k o',out.length<k∧k≤out.length∧_)=nx
  repeat' (first | exact hn | refine st ?_ | refine sb (fun nb_ hnb_=>?_) | refine s2 (fun h=>?_) (fun h=>?_) | fail)
end
def jz:aw:=⟨28,0,0,0,0,-1⟩
def Cd(loc:List aL)(c:List aw):lf:=⟨mq loc.length (c++[jz]),c++[jz]⟩
def I4(b19:Nat)(w:bj)(v:AV):Nat×Blk:=(b19,⟨7,[[.lst (w.cells.map fq.enc),.lst (w.locks.map eB.enc),.lst (w.conds.map mo.enc),.lst (w.futures.map az),.lst (w.threads.map az),.lst (w.sites.map ft.enc),v]]⟩)
def F5(b2 b19:Nat)(w:bj)(oT:Option Nat)(ts:List lf):SH:=I4 b19 w (au oT ts.length)::(b2,⟨7,[[.nils,.nils,.nils,.nils,.nils,.nils,.nils]]⟩)::ao oT 2 (ts.map lf.enc)
section
variable {n23:Kn} {b2 b19 i n n2:Nat} {w:bj} {oT:Option Nat} {ts:List lf} {dl:List (List AV)} {th:List ai} {c:List aw}
theorem Hy(hi:i<th.length)(hi1:IntKind.i64.wrap ((i:Int)+1)=((i+1:Nat):Int))(hT:oT=none→ts=[])(hts:ts.length<2^20)(hK:c7 14 [.lst (th[i].body.map aa.enc)] w th[i].locals n 0 c n2)(hc:c.length<2^20)(hn2:n2<2^20)(hr:∀i∈c++[jz],∀r∈aU i,0≤r∧r<1000)
  (hn:∀(nb:Nat) (L':SH),aV [.pptr [[.lst dl,.lst (th.map ai.enc)]] 0 0,.ptr b2 0 0,.ptr b19 0 0,.int .i64 n2,.int .i64 ((i+1:Nat):Int)] L' [.pptr [[.lst dl,.lst (th.map ai.enc)]] 0 0,.ptr b2 0 0,.ptr b19 0 0,.int .i64 n2,.int .i64 ((i+1:Nat):Int)] (F5 b2 b19 w (some nb) (ts++[Cd th[i].locals c]))→n23 [.pptr [[.lst dl,.lst (th.map ai.enc)]] 0 0,.ptr b2 0 0,.ptr b19 0 0,.int .i64 n2,.int .i64 ((i+1:Nat):Int)] L') :
  ff n23 (F5 b2 b19 w oT ts) (.ptr b19 0 0) (.pptr [[.lst dl,.lst (th.map ai.enc)]] 0 0) (.int .i64 i) (.int .i64 n) (.ptr b2 0 0):=by
 have hx:=aC (f:=ai.enc) hi
 have hT0:oT=none→ts.map lf.enc=[]:=fun e=>by rw[hT e];rfl
 unfold ff F5 I4
 repeat' (first | refine st ?_ | ((with_reducible refine aq 14 ?_);(refine⟨am.fzL (aV.row (K:=[]) (rows':=(cz w th[i].locals (au none 0) 0 n).rows) (.refl _) rfl (co (.cons (.refl _) (.cons (.refl _) (.cons (.refl _) (.cons (.refl _) (.cons (.refl _) (.cons (.refl _) (.cons (.refl _) (.cons .nile (.cons (.refl _) (.cons (.refl _) .nil)))))))))))) (pu (o:=none) (out:=[]) (site:=0) hK rp (.here _) (fun _=>rfl) rfl (by omega) (by omega) (fun o_ s_ ho_=>?_)).1⟩;dsimp only[List.nil_append,List.cons_append])) | ((with_reducible refine aq 15 ?_);(refine cm (i:=⟨28,0,0,0,0,0⟩) (site:=-1) rp rp (by assumption) (by omega) (fun b_=>?_);simp only[List.cons_append,List.append_assoc,List.nil_append,List.append_nil])) | refine sb (fun nb_ hnb_=>?_) | refine s2 (fun h=>?_) (fun h=>?_) | fail)
 have hle:(c++[jz]).length<2^30:=by simp;omega
 refine Hw (out:=c++[jz]) (b:=b_) (w:=w) (loc:=th[i].locals) (site:=-1) (next:=n2) (M:=(b19,⟨7,[[.lst (w.cells.map fq.enc),.lst (w.locks.map eB.enc),.lst (w.conds.map mo.enc),.lst (w.futures.map az),.lst (w.threads.map az),.lst (w.sites.map ft.enc),au oT ts.length]]⟩)::(b2,⟨7,[[.nils,.nils,.nils,.nils,.nils,.nils,.nils]]⟩)::ao oT 2 (ts.map lf.enc)) th[i].locals.length hle hr ?_ (.one (.here _) (.one (.here _) (ez.slot (o:=some b_) (n:=6) (.there _ (.there _ (.skip _ _ _ .last))) (.one (.here _) (.one (.here _) (.slotl rp))))))
 unfold fb
 repeat' (first | refine st ?_ | refine cI rp rp (by simp) (fun e=>by first | simp[hT0 e]) (by rfl) (by simp) (by simp;omega) (by simp;omega) (by rfl) (fun nb_ hnb_=>?_) | refine sb (fun nb_ hnb_=>?_) | refine s2 (fun h=>?_) (fun h=>?_) | fail)
 have e:F5 b2 b19 w (some nb_) (ts++[Cd th[i].locals c])=[I4 b19 w (.sl nb_ 0 (ts.length+1)),(b2,⟨7,[[.nils,.nils,.nils,.nils,.nils,.nils,.nils]]⟩)]++(nb_,⟨2,(ts++[Cd th[i].locals c]).map lf.enc⟩)::[]:=by
  unfold F5;rw[List.length_append];rfl
 refine hn nb_ _ ?_
 rw[e]
 refine aV.rowA (rows:=ts.map lf.enc++[[.int .i64 (mq th[i].locals.length (c++[jz])),.sl b_ 0 (c++[jz]).length]]) (.one (.there _ (.there _ (.there _ (.there _ (.there _ (.here _)))))) (.one (.there _ (.there _ (.there _ (.there _ (.there _ (.here _)))))) (.one (.here _) (.nil _)))) (by simp) (cy (f:=lf.enc) (x:=Cd th[i].locals c) (.cons (.refl _) (.cons (Fz.sls (l:=c++[jz]) (f:=aw.enc) (size:=6) mm rfl (by decide) rfl) .nil))) rfl
end
end Go.Proofs.Ytljkdffikfkcgaa.Am
end
section
namespace Go.Proofs.Ytljkdffikfkcgaa.Am
set_option maxRecDepth 100000
set_option maxHeartbeats 2000000
set_option linter.unusedVariables false
structure wT where
 w:bj
 ts:List lf
def wT.enc(c:wT):List AV:=[.lst (c.w.cells.map fq.enc),.lst (c.w.locks.map eB.enc),.lst (c.w.conds.map mo.enc),.lst (c.w.futures.map az),.lst (c.w.threads.map az),.lst (c.w.sites.map ft.enc),.lst (c.ts.map lf.enc)]
structure D5(p:aK)(nx:Nat→Nat)(cs:Nat→List aw)(tcs:List lf):Prop where
 zero:nx 0=0
 len:tcs.length=p.threads.length
 code:∀i (h:i<p.threads.length),StsC (bD p) p.threads[i].locals p.threads[i].body (nx i) 0 (cs i) (nx (i+1))
 tc:∀i (h:i<p.threads.length),tcs[i]'(by rw[len];exact h)=Cd p.threads[i].locals (cs i)
 short:∀i,(cs i).length<2^20
 few:∀i,nx i<2^20
 regs:∀i,i<p.threads.length→∀x∈cs i++[jz],∀r∈aU x,0≤r∧r<1000
theorem AB(p:aK)(hp:fD p)(hpass:sJ p)(hw:p.wt≤200000){nx:Nat→Nat}{cs:Nat→List aw}{tcs:List lf}(hC:D5 p nx cs tcs)(hs:∀i (h:i<p.threads.length),Az (bD p) p.threads[i].locals):
  aO Try.prog 8 [.agg p.enc] (.tup [.agg (wT.enc ⟨bD p,tcs⟩),.int .i64 0,.int .i64 0]):=by
 have hW:=D4 p hp hpass hw
 obtain⟨ln,hck⟩:=hpass
 have htl:=p.threads_len
 refine am.fz (sS _ _ _ ?_)
 unfold jP aK.enc
 generalize hQ:(fun(v:AV) (L:SH)=>∃v2 L2,aV [v] L [v2] L2∧v2=AV.tup [.agg (wT.enc ⟨bD p,tcs⟩),.int .i64 0,.int .i64 0]∧L2=[])=Q
 have hq:∀v L,Fz L v (.agg (wT.enc ⟨bD p,tcs⟩))→Q (.tup [v,.int .i64 0,.int .i64 0]) L:=fun v L h=>by
  subst hQ;exact⟨_,[],aV.all (.tups (.cons h (.cons (.refl _) (.cons (.refl _) .nil)))),rfl,rfl⟩
 clear hQ
 repeat' (first | refine st ?_ | ((with_reducible refine aq 12 ?_);refine aj (hck) ?_) | ((with_reducible refine al 12 ?_);refine ab (hck) ?_) | ((with_reducible refine aq 13 ?_);refine aj (hW) ?_) | ((with_reducible refine al 13 ?_);refine ab (hW) ?_) | refine sb (fun nb_ hnb_=>?_) | refine s2 (fun h=>?_) (fun h=>?_) | fail)
 rename_i b0 hb0 b2 hb2
 have h0:=hC.zero
 refine cH (β:=Option Nat) p.threads.length (fun i oT=>([.pptr [[.lst (p.decls.map av.enc),.lst (p.threads.map ai.enc)]] 0 0,.ptr b2 0 0,.ptr nb_ 0 0,.int .i64 (nx i),.int .i64 i],F5 b2 nb_ (bD p) oT (tcs.take i))) (fun i oT=>oT=none→tcs.take i=[]) none (fun _=>rfl) ?_ ?_
 ·dsimp only
  rw[h0]
  refine aV.row (K:=[]) (b:=nb_) (n:=7) (rows:=[bG [.nils,.nils,.nils,.nils,.nils,.nils,.nils] 0 (bD p).enc]) (rows':=[[.lst ((bD p).cells.map fq.enc),.lst ((bD p).locks.map eB.enc),.lst ((bD p).conds.map mo.enc),.lst ((bD p).futures.map az),.lst ((bD p).threads.map az),.lst ((bD p).sites.map ft.enc),.emp]]) (.refl _) rfl ?_
  refine co ?_
  show pV [] [.lst ((bD p).cells.map fq.enc),.lst ((bD p).locks.map eB.enc),.lst ((bD p).conds.map mo.enc),.lst ((bD p).futures.map az),.lst ((bD p).threads.map az),.lst ((bD p).sites.map ft.enc),.nils] _
  exact .cons (.refl _) (.cons (.refl _) (.cons (.refl _) (.cons (.refl _) (.cons (.refl _) (.cons (.refl _) (.cons .nile .nil))))))
 intro i oT hi hG
 dsimp only
 unfold i5
 generalize hnx:(fun(vs':List AV) (L':SH)=>∃j o',i<j∧j≤p.threads.length∧_)=nxt
 rcases Nat.lt_or_ge i p.threads.length with g1 | g1
 ·have hd:=ct g1
  have hi1:=bH g1 (by omega)
  have hit:i<tcs.length:=by rw[hC.len];exact g1
  have hK:=i7 ((D3 (hs i g1)).2 (hC.code i g1) (aa.shorts_wt _ (by have:=p.thread_wt g1;unfold ai.wt at this;omega))) (by have:=aa.wts_len p.threads[i].body;have:=p.thread_wt g1;unfold ai.wt at this;omega)
  have hr:=Hy (n23:=nxt) (b2:=b2) (b19:=nb_) (dl:=p.decls.map av.enc) (oT:=oT) (ts:=tcs.take i) g1 hi1 hG (by rw[List.length_take];omega) hK (hC.short i) (hC.few (i+1)) (hC.regs i g1) (fun nb L' hz=>by
   subst hnx
   refine⟨i+1,some nb,by omega,by omega,nofun,?_⟩
   rw[List.take_succ_eq_append_getElem hit,hC.tc i g1]
   exact hz)
  clear hnx
  generalize hL:F5 b2 nb_ (bD p) oT (tcs.take i)=LW at *
  repeat' (first | exact hr | refine st ?_ | refine sb (fun nb_ hnb_=>?_) | refine s2 (fun h=>?_) (fun h=>?_) | fail)
 ·have hd:=ee g1
  have e:i=p.threads.length:=by omega
  subst e
  rw[←hC.len,List.take_length]at hG ⊢
  rw[hC.len]
  unfold F5 I4
  repeat' (first | refine st ?_ | refine sb (fun nb_ hnb_=>?_) | refine s2 (fun h=>?_) (fun h=>?_) | fail)
  refine gW (.there _ (.here _)) rfl rfl (by simp[sU];exact⟨rfl,rfl,rfl,rfl,rfl,rfl⟩) rfl ?_
  repeat' (first | refine st ?_ | refine sb (fun nb_ hnb_=>?_) | refine s2 (fun h=>?_) (fun h=>?_) | fail)
  exact hq _ _ (Fz.aggs (.cons (.refl _) (.cons (.refl _) (.cons (.refl _) (.cons (.refl _) (.cons (.refl _) (.cons (.refl _) (.cons (wj hG (by decide) fun q h=>.tail _ (.tail _ h)) .nil))))))))
end Go.Proofs.Ytljkdffikfkcgaa.Am
end
section
namespace Go.Proofs.Ytljkdffikfkcgaa.Am
set_option linter.unusedVariables false
def aw.sil(i:aw):Prop:=1≤i.op∧i.op≤5
inductive wU (ins:List aw):Nat→Nat→Prop where
 | ev (k:Nat) (i:aw):ins[k]? =some i→¬i.sil→wU ins k 0
 | go (k m:Nat) (i:aw):ins[k]? =some i→i.sil→i.op≠5→wU ins (k+1) m→wU ins k (m+1)
 | jump (k m j:Nat) (i:aw):ins[k]? =some i→i.op=5→i.a=(j:Nat)→wU ins j m→wU ins k (m+1)
def ms(ins:List aw)(k:Nat):Prop:=∃m,wU ins k m
def eh(ins c:List aw)(b:Nat):Prop:=∀(k:Nat) (i:aw),c[k]? =some i→ins[b+k]? =some i
theorem eh.left{ins c1 c2:List aw}{b:Nat}(h:eh ins (c1++c2) b):eh ins c1 b:=fun k i hk=>h k i (by rw[List.getElem?_append_left];exact hk;exact(List.getElem?_eq_some_iff.1 hk).1)
theorem eh.right{ins c1 c2:List aw}{b:Nat}(h:eh ins (c1++c2) b):eh ins c2 (b+c1.length):=fun k i hk=>by
 have:=h (c1.length+k) i (by rw[List.getElem?_append_right (by omega)];simpa using hk)
 rw[←this];congr 1;omega
theorem eh.one{ins:List aw}{i:aw}{b:Nat}(h:eh ins [i] b):ins[b]? =some i:=h 0 i rfl
theorem D6{ins c:List aw}{b:Nat}(hl:eh ins c b)(hc:∀i∈c,i.op≠5)(he:ms ins (b+c.length)):∀d k,k+d=c.length→ms ins (b+k):=by
 intro d
 induction d with
 | zero=>intro k h;rw[show k=c.length by omega];exact he
 | succ d ih=>
  intro k h
  have hk:k<c.length:=by omega
  have hi:=hl k c[k] (List.getElem?_eq_getElem hk)
  obtain⟨m,hm⟩:=ih (k+1) (by omega)
  by_cases hs:c[k].sil
  ·exact⟨m+1,.go _ _ _ hi hs (hc _ (List.getElem_mem hk)) hm⟩
  ·exact⟨0,.ev _ _ hi hs⟩
def j4(ins:List aw)(b n:Nat):Prop:=∀k,b≤k→k≤b+n→ms ins k
theorem i8{ins c:List aw}{b:Nat}(hl:eh ins c b)(hc:∀i∈c,i.op≠5)(he:ms ins (b+c.length)):j4 ins b c.length:=fun k h1 h2=>by
 have:=D6 hl hc he (b+c.length-k) (k-b) (by omega)
 rwa [show b+(k-b)=k by omega]at this
theorem j4.app{ins:List aw}{b n m:Nat}(h1:j4 ins b n)(h2:j4 ins (b+n) m):j4 ins b (n+m):=fun k h3 h4=>by
 by_cases h:k≤b+n
 ·exact h1 k h3 h
 ·exact h2 k (by omega) (by omega)
theorem j4.one{ins:List aw}{b:Nat}(h1:ms ins b)(h2:ms ins (b+1)):j4 ins b 1:=fun k h3 h4=>by
 have:k=b∨k=b+1:=by omega
 rcases this with rfl | rfl
 ·exact h1
 ·exact h2
theorem la{ins:List aw}{b:Nat}{i:aw}(h:ins[b]? =some i)(hs:5<i.op):ms ins b:=⟨0,.ev _ _ h (fun g=>by have:=g.2;omega)⟩
section
variable {w:bj} {loc:List aL}
theorem dE.ops{e:ac}{d:Int}{c:List aw}(h:dE w loc e d c):∀i∈c,i.op≠5:=by
 induction h with
 | num=>simp
 | loc=>simp
 | load=>simp
 | index n s a d c1 b hb hv hc ih=>intro i hi;rcases List.mem_append.1 hi with h | h;exact ih i h;simp at h;subst h;simp
 | un op n s a d c1 h1 h2 h3 hv ih=>intro i hi;rcases List.mem_append.1 hi with h | h;exact ih i h;simp at h;subst h;simp
 | bin op n s a b d c1 c2 h1 h2 h3 h4 hv hv2 ih ih2=>
  intro i hi
  rcases List.mem_append.1 hi with h | h
  ·rcases List.mem_append.1 h with h | h
   ·exact ih i h
   ·exact ih2 i h
  ·simp at h;subst h;simp
theorem yc.ops{x:aa}{c:List aw}(h:yc w loc x c):∀i∈c,i.op≠5:=by
 cases h with
 | idx op line s arg i e rest body els c1 c2 b hb h1 h2 h3=>
  intro i hi
  rcases List.mem_append.1 hi with h | h
  ·rcases List.mem_append.1 h with h | h
   ·exact h1.ops i h
   ·exact h2.ops i h
  ·simp at h;subst h;simp
 | loc op line s arg e body els c h1 h2=>intro i hi;rcases List.mem_append.1 hi with h | h;exact h1.ops i h;simp at h;subst h;simp
 | store op line s arg e body els c h1 h2=>intro i hi;rcases List.mem_append.1 hi with h | h;exact h1.ops i h;simp at h;subst h;simp
theorem fZ{c:List aw}{n:Nat}(h:∀i∈c,i.op≠5):∀i∈aA c n,i.op≠5:=fun i hi=>by
 obtain⟨j,hj,rfl⟩:=List.mem_map.1 hi
 exact h j hj
theorem aF(c:List aw)(n:Nat):(aA c n).length=c.length:=by simp[aA]
theorem cT(c d:List aw)(n:Nat):aA (c++d) n=aA c n++aA d n:=by simp[aA]
theorem D7{op:Int}{s:aL}{f l ob:Int}(h:zH w op s=some (f,l,ob)):5<f∧5<l:=by
 unfold zH at h
 repeat' split at h
 all_goals first | (cases h;omega) | cases h
theorem Fe{op:Int}{s arg:aL}{i:aw}(h:DP w loc op s arg=some i):5<i.op:=by
 unfold DP at h
 repeat' split at h
 all_goals first | (cases h;simp;done) | cases h
theorem Hz:(∀{x n b c n2},Ay w loc x n b c n2→∀{ins:List aw},eh ins c b→ms ins (b+c.length)→j4 ins b c.length)∧∀{l n b c n2},StsC w loc l n b c n2→∀{ins:List aw},eh ins c b→ms ins (b+c.length)→j4 ins b c.length:=by
 refine ye (M1:=fun x n b c n2=>∀{ins:List aw},eh ins c b→ms ins (b+c.length)→j4 ins b c.length) (M2:=fun x n b c n2=>∀{ins:List aw},eh ins c b→ms ins (b+c.length)→j4 ins b c.length) ?_ ?_ ?_ ?_ ?_ ?_ ?_ ?_ ?_
 ·intro line s arg ix e body els c n b ha ins hl he
  exact i8 hl (fZ ha.ops) he
 ·intro line s arg ix e body ce cb n b n2 hv hs ih ins hl he
  rw[cT]at hl he ⊢
  have hbr:=hl.left.right.one
  have hl2:=hl.right
  have l1:=la hbr (by show(5:Int)<10;decide)
  have a1:=i8 hl.left.left (fZ hv.ops) l1
  simp only[List.length_append,aF,List.length_cons,List.length_nil,Nat.zero_add]at *
  rw[show b+(ce.length+1)=b+ce.length+1 by omega]at hl2
  rw[show b+(ce.length+1+cb.length)=b+ce.length+1+cb.length by omega]at he
  have h2:=ih hl2 he
  have:=(a1.app (j4.one l1 (h2 _ (Nat.le_refl _) (by omega)))).app (m:=cb.length) (by rwa [show b+(ce.length+1)=b+ce.length+1 by omega])
  simpa using this
 ·intro line s arg ix e body y els ce cb cl n b n2 n3 hv hs hs2 ih ih2 ins hl he
  rw[cT]at hl he ⊢
  have hbr:=hl.left.left.left.right.one
  have hj:=hl.left.right.one
  have l1:=la hbr (by show(5:Int)<10;decide)
  have a1:=i8 hl.left.left.left.left (fZ hv.ops) l1
  have hl2:=hl.left.left.right
  have hl3:=hl.right
  simp only[List.length_append,aF,List.length_cons,List.length_nil,Nat.zero_add]at *
  rw[show b+(ce.length+1)=b+ce.length+1 by omega]at hl2
  rw[show b+(ce.length+1+cb.length+1)=b+ce.length+1+cb.length+1 by omega]at hl3
  rw[show b+(ce.length+1+cb.length)=b+ce.length+1+cb.length by omega]at hj
  rw[show b+(ce.length+1+cb.length+1+cl.length)=b+ce.length+1+cb.length+1+cl.length by omega]at he
  have g3:=ih2 hl3 he
  obtain⟨m,hm⟩:=he
  have lj:ms ins (b+ce.length+1+cb.length):=⟨m+1,.jump _ _ (b+ce.length+1+cb.length+1+cl.length) _ hj rfl rfl hm⟩
  have g2:=ih hl2 lj
  have t1:=a1.app (j4.one l1 (g2 _ (Nat.le_refl _) (by omega)))
  have t2:=t1.app (m:=cb.length) (by rwa [show b+(ce.length+1)=b+ce.length+1 by omega])
  have t3:=t2.app (m:=1) (by rw[show b+(ce.length+1+cb.length)=b+ce.length+1+cb.length by omega];exact j4.one lj (g3 _ (Nat.le_refl _) (by omega)))
  exact t3.app (m:=cl.length) (by rwa [show b+(ce.length+1+cb.length+1)=b+ce.length+1+cb.length+1 by omega])
 ·intro line s arg ix e body els ce cb n b n2 hv hs ih ins hl he
  rw[cT]at hl he ⊢
  have hbr:=hl.left.left.right.one
  have hj:=hl.right.one
  have l1:=la hbr (by show(5:Int)<10;decide)
  have a1:=i8 hl.left.left.left (fZ hv.ops) l1
  have hl2:=hl.left.right
  simp only[List.length_append,aF,List.length_cons,List.length_nil,Nat.zero_add]at *
  rw[show b+(ce.length+1)=b+ce.length+1 by omega]at hl2
  rw[show b+(ce.length+1+cb.length)=b+ce.length+1+cb.length by omega]at hj
  obtain⟨m,hm⟩:=a1 b (Nat.le_refl _) (by omega)
  have lj:ms ins (b+ce.length+1+cb.length):=⟨m+1,.jump _ _ b _ hj rfl rfl hm⟩
  have g2:=ih hl2 lj
  have t1:=a1.app (j4.one l1 (g2 _ (Nat.le_refl _) (by omega)))
  have t2:=t1.app (m:=cb.length) (by rwa [show b+(ce.length+1)=b+ce.length+1 by omega])
  exact t2.app (m:=1) (by rw[show b+(ce.length+1+cb.length)=b+ce.length+1+cb.length by omega];exact j4.one lj (by rwa [show b+(ce.length+1+cb.length+1)=b+ce.length+1+cb.length+1 by omega]at he))
 ·intro op line s arg ix e body els f l ob cb n b n2 ha hs ih ins hl he
  have ho:=D7 ha
  have hf:=hl.left.left.one
  have hj:=hl.right.one
  have hl2:=hl.left.right
  simp only[List.length_append,aF,List.length_cons,List.length_nil,Nat.zero_add]at *
  rw[show b+(1+cb.length)=b+1+cb.length by omega]at hj
  have lj:ms ins (b+1+cb.length):=la hj ho.2
  have g2:=ih hl2 lj
  have t1:=(j4.one (la hf ho.1) (g2 _ (Nat.le_refl _) (by omega))).app g2
  exact t1.app (m:=1) (by rw[show b+(1+cb.length)=b+1+cb.length by omega];exact j4.one lj (by rwa [show b+(1+cb.length+1)=b+1+cb.length+1 by omega]at he))
 ·intro op line s arg ix e body els i n b ho ins hl he
  exact i8 hl (fZ (by simp;have:=Fe ho;omega)) he
 ·intro line s arg ix e body els ce n b hv ins hl he
  exact i8 hl (fZ (fun i hi=>by rcases List.mem_append.1 hi with h | h;exact hv.ops i h;simp at h;subst h;simp)) he
 ·intro n b ins hl he k h1 h2
  have:k=b:=by simp at h2;omega
  subst this;exact he
 ·intro x l c1 c2 n b n1 n2 h1 h2 ih1 ih2 ins hl he
  rw[List.length_append]at he ⊢
  have g2:=ih2 hl.right (by rwa [←Nat.add_assoc]at he)
  have g1:=ih1 hl.left (g2 _ (Nat.le_refl _) (by omega))
  exact g1.app g2
end
theorem wU.uniq{ins:List aw}{k m1:Nat}(h1:wU ins k m1):∀{m2:Nat},wU ins k m2→m1=m2:=by
 induction h1 with
 | ev k i hi hs=>
  intro m2 h2
  cases h2 with
  | ev=>rfl
  | go _ _ i' hi' hs'=>rw[hi]at hi';cases hi';exact absurd hs' hs
  | jump _ _ j i' hi' hs'=>rw[hi]at hi';cases hi';exact absurd ⟨by omega,by omega⟩ hs
 | go k m i hi hs h5 hm ih=>
  intro m2 h2
  cases h2 with
  | ev _ i' hi' hs'=>rw[hi]at hi';cases hi';exact absurd hs hs'
  | go _ _ i' hi' hs' _ hm'=>rw[ih hm']
  | jump _ _ j i' hi' hs'=>rw[hi]at hi';cases hi';exact absurd hs' h5
 | jump k m j i hi hs ha hm ih=>
  intro m2 h2
  cases h2 with
  | ev _ i' hi' hs'=>rw[hi]at hi';cases hi';exact absurd ⟨by omega,by omega⟩ hs'
  | go _ _ i' hi' hs' h5 hm'=>rw[hi]at hi';cases hi';exact absurd hs h5
  | jump _ _ j' i' hi' hs' ha' hm'=>
   rw[hi]at hi';cases hi'
   have:j=j':=by omega
   subst this
   rw[ih hm']
theorem wU.lt{ins:List aw}{k m:Nat}(h:wU ins k m):k<ins.length:=by
 cases h with
 | ev _ i hi _=>exact(List.getElem?_eq_some_iff.1 hi).1
 | go _ _ i hi=>exact(List.getElem?_eq_some_iff.1 hi).1
 | jump _ _ j i hi=>exact(List.getElem?_eq_some_iff.1 hi).1
theorem wU.path{ins:List aw}{k m:Nat}(h:wU ins k m):∃l:List Nat,l.length=m+1∧(∀j∈l,j<ins.length∧∃q,q≤m∧wU ins j q)∧l.Nodup:=by
 induction h with
 | ev k i hi hs=>exact⟨[k],rfl,by simp only[List.mem_singleton,forall_eq];exact⟨(wU.ev k i hi hs).lt,0,Nat.le_refl _,.ev k i hi hs⟩,by simp⟩
 | go k m i hi hs h5 hm ih=>
  obtain⟨l,h1,h2,h3⟩:=ih
  have hk:=wU.go k m i hi hs h5 hm
  refine⟨k::l,by simp[h1],fun j hj=>?_,List.nodup_cons.2 ⟨fun hkl=>?_,h3⟩⟩
  ·rcases List.mem_cons.1 hj with rfl | hj
   ·exact⟨hk.lt,_,Nat.le_refl _,hk⟩
   ·obtain⟨g1,q,g2,g3⟩:=h2 j hj
    exact⟨g1,q,by omega,g3⟩
  ·obtain⟨g1,q,g2,g3⟩:=h2 k hkl
   have:=hk.uniq g3
   omega
 | jump k m j i hi hs ha hm ih=>
  obtain⟨l,h1,h2,h3⟩:=ih
  have hk:=wU.jump k m j i hi hs ha hm
  refine⟨k::l,by simp[h1],fun j hj=>?_,List.nodup_cons.2 ⟨fun hkl=>?_,h3⟩⟩
  ·rcases List.mem_cons.1 hj with rfl | hj
   ·exact⟨hk.lt,_,Nat.le_refl _,hk⟩
   ·obtain⟨g1,q,g2,g3⟩:=h2 j hj
    exact⟨g1,q,by omega,g3⟩
  ·obtain⟨g1,q,g2,g3⟩:=h2 k hkl
   have:=hk.uniq g3
   omega
theorem xh{α:Type}[BEq α][LawfulBEq α]:∀{l U:List α},l.Nodup→(∀x∈l,x∈U)→l.length≤U.length
 | [],U,_,_=>by simp
 | x::l,U,hn,hs=>by
  have hx:x∈U:=hs x (by simp)
  have h1:=List.nodup_cons.1 hn
  have:=xh (l:=l) (U:=U.erase x) h1.2 fun y hy=>(List.mem_erase_of_ne (by rintro rfl;exact h1.1 hy)).2 (hs y (by simp[hy]))
  rw[List.length_erase_of_mem hx]at this
  have:=List.length_pos_of_mem hx
  simp only[List.length_cons]
  omega
theorem D8:∀{n:Nat} {l:List Nat},l.Nodup→(∀j∈l,j<n)→l.length≤n:=by
 intro n l hn h
 have:=xh hn (U:=List.range n) fun j hj=>List.mem_range.2 (h j hj)
 simpa using this
theorem wU.bound{ins:List aw}{k m:Nat}(h:wU ins k m):m<ins.length:=by
 obtain⟨l,h1,h2,h3⟩:=h.path
 have:=D8 h3 (fun j hj=>(h2 j hj).1)
 omega
end Go.Proofs.Ytljkdffikfkcgaa.Am
end
section
namespace Go.Proofs.Ytljkdffikfkcgaa.Am
set_option linter.unusedVariables false
set_option maxRecDepth 100000
set_option linter.unusedSectionVars false
def pG:List fq:=[⟨[120],0,0,false,0⟩,⟨[121],0,0,false,1⟩,⟨[118],0,0,true,0⟩,⟨[113],0,2,false,0⟩,⟨[113],1,2,false,0⟩]
def wm:List eB:=[⟨[109],false⟩,⟨[110],false⟩,⟨[114],true⟩]
def AC:List mo:=[⟨[99],0⟩]
def D9:List aL:=[[102]]
theorem IQ(ts:List ai):∀(w:bj),(ts.foldl cD w).cells=w.cells∧(ts.foldl cD w).locks=w.locks∧(ts.foldl cD w).conds=w.conds∧(ts.foldl cD w).futures=w.futures∧(ts.foldl cD w).threads=w.threads++ts.map ai.name:=by
 induction ts with
 | nil=>intro w;simp
 | cons t l ih=>intro w;obtain⟨a,b,c,d,e⟩:=ih (cD w t);rw[List.foldl_cons];exact⟨a,b,c,d,by rw[e];simp[cD]⟩
theorem AD{p:aK}(hd:p.decls=aP):(bD p).cells=pG∧(bD p).locks=wm∧(bD p).conds=AC∧(bD p).futures=D9∧(bD p).threads=p.threads.map ai.name:=by
 obtain⟨a,b,c,d,e⟩:=IQ p.threads (p.decls.foldl bZ bj.zero)
 unfold bD
 rw[a,b,c,d,e,hd]
 exact⟨rfl,rfl,rfl,rfl,rfl⟩
def zJ(w:bj)(i:Int):Bool:=inB i w.cells.length&&decide ((w.cells.getD i.toNat default).size=0)
def Ff(w:bj)(i n:Int):Bool:=inB i w.cells.length&&decide ((w.cells.getD i.toNat default).index=0)&&decide ((w.cells.getD i.toNat default).size≠0)&&decide ((w.cells.getD i.toNat default).size=n)
def Fg(w:bj)(i:Int)(rw:Bool):Bool:=inB i w.locks.length&&((w.locks.getD i.toNat ⟨[],false⟩).rw==rw)
def AE(w:bj)(i:aw):Bool:=
 if i.op=6 then zJ w i.b else if i.op=8 then zJ w i.a else if i.op=7 then Ff w i.b i.n else if i.op=9 then Ff w i.a i.n else
 if i.op=11∨i.op=12 then Fg w i.a false else if i.op=13∨i.op=14∨i.op=15∨i.op=16 then Fg w i.a true else
 if i.op=21∨i.op=22∨i.op=23 then inB i.a w.conds.length else if i.op=24∨i.op=25 then inB i.a w.threads.length else
 if i.op=26 then inB i.a w.futures.length else if i.op=27 then inB i.b w.futures.length else
 if i.op=3 then decide (i.n=4∨i.n=5)else if i.op=4 then decide (6≤i.n∧i.n≤18)else true
structure Bt(w:bj)(i:aw):Prop where
 op:1≤i.op∧i.op≤7∧i.op≠5
 regs:∀r∈aU i,0≤r∧r<16
 obj:AE w i=true
theorem cB{k a b:Int}:dt k a b=0↔k≠0∧(k=a∨k=b):=by
 unfold dt
 repeat' split
 all_goals omega
theorem el{p:aK}(hd:p.decls=aP)(loc:List aL)(s:aL):(0≤fJ loc s∧aD p loc s=8)∨(fJ loc s<0∧((∃d∈aP,d.name=s∧aD p loc s=hO d)∨(0≤cx p.threads s∧aD p loc s=7)∨aD p loc s=0)):=by
 unfold aD
 by_cases h:0≤fJ loc s
 ·left;exact⟨h,by simp[h]⟩
 ·right
  refine⟨by omega,?_⟩
  simp only[h,decide_false,cond_false,hd]
  cases hf:kE aP s with
  | some d=>
   left
   exact⟨d,List.mem_of_find?_eq_some hf,by have:=List.find?_some hf;simpa using this,rfl⟩
  | none=>
   right
   unfold zu
   by_cases ht:0≤cx p.threads s
   ·left;exact⟨ht,by simp[ht]⟩
   ·right;simp[ht]
theorem i9{P:av→Prop}(h0:P ⟨1,0,[120],0,0,[]⟩)(h1:P ⟨1,0,[121],0,1,[]⟩)(h2:P ⟨2,0,[118],0,0,[]⟩)(h3:P ⟨1,0,[113],2,0,[]⟩)(h4:P ⟨3,0,[109],0,0,[]⟩)(h5:P ⟨3,0,[110],0,0,[]⟩)(h6:P ⟨4,0,[114],0,0,[]⟩)(h7:P ⟨5,0,[99],0,0,[109]⟩)(h8:P ⟨6,0,[102],0,0,[]⟩):∀d∈aP,P d:=by
 unfold aP
 simp only[List.forall_mem_cons,List.not_mem_nil,false_implies,implies_true,and_true]
 exact⟨h0,h1,h2,h3,h4,h5,h6,h7,h8⟩
section
variable {p:aK} (hd:p.decls=aP) {loc:List aL}
include hd
theorem xi{s:aL}(h:aD p loc s=1):fJ loc s<0∧zJ (bD p) (cQ (bD p).cells s)=true:=by
 obtain⟨hc,_⟩:=AD hd
 rcases el hd loc s with⟨_,h1⟩ | ⟨h0,⟨d,hm,rfl,h1⟩ | ⟨_,h1⟩ | h1⟩
 ·omega
 ·refine⟨h0,?_⟩
  rw[h]at h1
  have hs:zJ (bD p) (cQ pG d.name)=true:=by
   unfold zJ;rw[hc]
   clear h0 h hd
   revert h1
   exact i9 (P:=fun d=>1=hO d→(inB (cQ pG d.name) pG.length&&decide ((pG.getD (cQ pG d.name).toNat default).size=0))=true) (by decide) (by decide) (by decide) (by decide) (by decide) (by decide) (by decide) (by decide) (by decide) d hm
  rw[hc];exact hs
 ·omega
 ·omega
theorem zK{s:aL}(h:aD p loc s=2):∃(b:Nat) (hb:b<(bD p).cells.length),cQ (bD p).cells s=b∧Ff (bD p) b (bD p).cells[b].size=true:=by
 obtain⟨hc,_⟩:=AD hd
 rcases el hd loc s with⟨_,h1⟩ | ⟨h0,⟨d,hm,rfl,h1⟩ | ⟨_,h1⟩ | h1⟩
 ·omega
 ·rw[h]at h1
  have hn:d.name=[113]:=by
   clear h0 h hd
   revert h1
   exact i9 (P:=fun d=>2=hO d→d.name=[113]) (by decide) (by decide) (by decide) (by decide) (by decide) (by decide) (by decide) (by decide) (by decide) d hm
  have key:∀l:List fq,l=pG→∀w:bj,w.cells=l→∃(b:Nat) (hb:b<w.cells.length),cQ w.cells [113]=b∧Ff w b w.cells[b].size=true:=by
   intro l hl w hw
   obtain⟨c,lk,cd,f,t,si⟩:=w
   dsimp only at hw ⊢
   subst hw;subst hl
   exact⟨3,by decide,by decide,rfl⟩
  rw[hn]
  exact key _ hc _ rfl
 ·omega
 ·omega
theorem sW{s:aL}{k:Int}(hk:k=3∨k=4)(h:aD p loc s=k):Fg (bD p) (bv (bD p).locks s) (decide (k=4))=true:=by
 obtain⟨_,hc,_⟩:=AD hd
 rcases el hd loc s with⟨_,h1⟩ | ⟨h0,⟨d,hm,rfl,h1⟩ | ⟨_,h1⟩ | h1⟩
 ·omega
 ·unfold Fg;rw[hc]
  rw[h]at h1
  clear h0 h hd
  revert hk;rw[h1]
  exact i9 (P:=fun d=>hO d=3∨hO d=4→(inB (bv wm d.name) wm.length&&((wm.getD (bv wm d.name).toNat ⟨[],false⟩).rw==decide (hO d=4)))=true) (by decide) (by decide) (by decide) (by decide) (by decide) (by decide) (by decide) (by decide) (by decide) d hm
 ·omega
 ·omega
theorem sX{s:aL}(h:aD p loc s=5):inB (da (bD p).conds s) (bD p).conds.length=true:=by
 obtain⟨_,_,hc,_⟩:=AD hd
 rcases el hd loc s with⟨_,h1⟩ | ⟨h0,⟨d,hm,rfl,h1⟩ | ⟨_,h1⟩ | h1⟩
 ·omega
 ·rw[hc]
  rw[h]at h1
  clear h0 h hd
  revert h1
  exact i9 (P:=fun d=>5=hO d→inB (da AC d.name) AC.length=true) (by decide) (by decide) (by decide) (by decide) (by decide) (by decide) (by decide) (by decide) (by decide) d hm
 ·omega
 ·omega
theorem zL{s:aL}(h:aD p loc s=6):inB (fJ (bD p).futures s) (bD p).futures.length=true:=by
 obtain⟨_,_,_,hc,_⟩:=AD hd
 rcases el hd loc s with⟨_,h1⟩ | ⟨h0,⟨d,hm,rfl,h1⟩ | ⟨_,h1⟩ | h1⟩
 ·omega
 ·rw[hc]
  rw[h]at h1
  clear h0 h hd
  revert h1
  exact i9 (P:=fun d=>6=hO d→inB (fJ D9 d.name) D9.length=true) (by decide) (by decide) (by decide) (by decide) (by decide) (by decide) (by decide) (by decide) (by decide) d hm
 ·omega
 ·omega
theorem xj{d:av}(hm:d∈aP):hO d≠7∧hO d≠8:=i9 (P:=fun d=>hO d≠7∧hO d≠8) (by decide) (by decide) (by decide) (by decide) (by decide) (by decide) (by decide) (by decide) (by decide) d hm
theorem wo(s:aL):∀(l:List ai) (i:Nat),gg (fun x=>decide (x=s)) (l.map ai.name) i=gg (fun x:ai=>decide (x.name=s)) l i
 | [],_=>rfl
 | x::l,i=>by simp only[List.map_cons,gg,wo s l (i+1)]
theorem zM{α:Type}{q:α→Bool}{l:List α}(h:0≤gg q l 0):inB (gg q l 0) l.length=true:=by
 rcases ef (p:=q) l 0 with⟨h1,_⟩ | ⟨k,hk,h1,_⟩
 ·omega
 ·rw[h1];exact gX.2 ⟨by omega,by omega⟩
theorem zN{s:aL}(h:aD p loc s=7):inB (fJ (bD p).threads s) (bD p).threads.length=true:=by
 obtain⟨_,_,_,_,hc⟩:=AD hd
 rcases el hd loc s with⟨_,h1⟩ | ⟨h0,⟨d,hm,rfl,h1⟩ | ⟨h2,h1⟩ | h1⟩
 ·omega
 ·have:=(xj hd hm).1;omega
 ·have e:fJ (bD p).threads s=cx p.threads s:=by rw[hc];exact wo hd s _ 0
  unfold fJ at e ⊢
  exact zM hd (by rw[e];exact h2)
 ·omega
theorem wq{s:aL}(h:aD p loc s=8):0≤fJ loc s∧fJ loc s<loc.length:=by
 rcases el hd loc s with⟨h0,h1⟩ | ⟨h0,⟨d,hm,rfl,h1⟩ | ⟨h2,h1⟩ | h1⟩
 ·have:=gX.1 (zM hd (q:=fun x=>decide (x=s)) (l:=loc) h0)
  exact this
 ·have:=(xj hd hm).2;omega
 ·omega
 ·omega
theorem yf(hl:loc.length≤4):∀(x:ac) (d:Int),wx x=true→dR p loc x=0→0≤d→d+x.dp≤15→∃c,dE (bD p) loc x d c∧c.length≤x.nd∧∀i∈c,Bt (bD p) i
 | .mk op n name l,d,h1,h2,h3,h4=>by
  rw[wx]at h1
  rw[Bool.and_eq_true]at h1
  obtain⟨hsh,hls⟩:=h1
  unfold Ds at hsh
  simp only[Bool.and_eq_true,decide_eq_true_eq]at hsh
  obtain⟨⟨⟨⟨hop,_⟩,_⟩,_⟩,_⟩:=hsh
  rw[dR]at h2
  have h5:kF p loc op name=0∧namesL p loc l=0:=by
   split at h2
   ·rename_i h;exact⟨h,h2⟩
   ·rename_i h;exact absurd h2 h
  obtain⟨hn0,hnl⟩:=h5
  unfold kF at hn0
  unfold EX at hop
  simp only[ac.dp,ac.nd]at h4 ⊢
  by_cases o1:op=1
  ·subst o1
   exact⟨_,.num n name l d,by simp,by simp only[List.mem_singleton,forall_eq];exact⟨by simp,by simp[aU];omega,rfl⟩⟩
  by_cases o2:op=2
  ·subst o2
   rw[if_pos rfl]at hn0
   rcases(cB.1 hn0).2 with h | h
   ·obtain⟨a1,a2⟩:=wq hd h
    refine⟨_,.loc n name l d a1,by simp,?_⟩
    simp only[List.mem_singleton,forall_eq]
    exact⟨by simp,by simp[aU];omega,rfl⟩
   ·obtain⟨a1,a2⟩:=xi hd h
    refine⟨_,.load n name l d a1,by simp,?_⟩
    simp only[List.mem_singleton,forall_eq]
    exact⟨by simp,by simp[aU];omega,a2⟩
  rw[if_neg (by omega)]at hop
  match l,hls,hnl,hop,h4 with
  | [],_,_,hop,_=>
   exfalso
   simp only[List.length_nil]at hop
   split at hop
   ·omega
   ·split at hop<;>omega
  | [a],hls,hnl,hop,h4=>
   have ho:3≤op∧op≤5:=by
    split at hop
    ·assumption
    ·exfalso;split at hop<;>simp at hop
   simp only[shEs,Bool.and_true]at hls
   simp only[namesL]at hnl
   have hna:dR p loc a=0:=by
    split at hnl
    ·assumption
    ·exact absurd hnl (by assumption)
   simp only[ac.dps,Nat.max_zero]at h4
   obtain⟨c,hc,hcl,hg⟩:=yf hl a d hls hna h3 (by omega)
   by_cases o3:op=3
   ·subst o3
    rw[if_neg (by omega),if_pos rfl]at hn0
    have hk:aD p loc name=2:=by rcases(cB.1 hn0).2 with h | h<;>exact h
    obtain⟨b,hb,hcb,harr⟩:=zK hd hk
    refine⟨_,.index n name a d c b hb hc hcb,by simp[ac.nds];omega,fun i hi=>?_⟩
    rcases List.mem_append.1 hi with h | h
    ·exact hg i h
    ·rw[List.mem_singleton.1 h]
     exact⟨by simp,by simp[aU];omega,harr⟩
   ·refine⟨_,.un op n name a d c o1 o2 o3 hc,by simp[ac.nds];omega,fun i hi=>?_⟩
    rcases List.mem_append.1 hi with h | h
    ·exact hg i h
    ·rw[List.mem_singleton.1 h]
     exact⟨by simp,by simp[aU];omega,by simp[AE];omega⟩
  | [a,b],hls,hnl,hop,h4=>
   have ho:6≤op∧op≤18:=by
    split at hop
    ·exfalso;simp at hop
    ·split at hop
     ·assumption
     ·exfalso;simp at hop
   simp only[shEs,Bool.and_true,Bool.and_eq_true]at hls
   simp only[namesL]at hnl
   have hna:dR p loc a=0:=by
    split at hnl
    ·assumption
    ·exact absurd hnl (by assumption)
   rw[if_pos hna]at hnl
   have hnb:dR p loc b=0:=by
    split at hnl
    ·assumption
    ·exact absurd hnl (by assumption)
   simp only[ac.dps,Nat.max_zero]at h4
   have hda:1≤a.dp:=by rw[a.dp_eq];omega
   obtain⟨c,hc,hcl,hg⟩:=yf hl a d hls.1 hna h3 (by omega)
   obtain⟨c2,hc2,hcl2,hg2⟩:=yf hl b (d+1) hls.2 hnb (by omega) (by omega)
   refine⟨_,.bin op n name a b d c c2 o1 o2 (by omega) (IntWalk.i64_in _ (by omega)) hc hc2,by simp[ac.nds];omega,fun i hi=>?_⟩
   rcases List.mem_append.1 hi with h | h
   ·rcases List.mem_append.1 h with h | h
    ·exact hg i h
    ·exact hg2 i h
   ·rw[List.mem_singleton.1 h]
    exact⟨by simp,by simp[aU];omega,by simp[AE];omega⟩
  | a::b::e::r,_,_,hop,_=>
   exfalso
   simp only[List.length_cons]at hop
   split at hop
   ·omega
   ·split at hop<;>omega
end
end Go.Proofs.Ytljkdffikfkcgaa.Am
end
section
namespace Go.Proofs.Ytljkdffikfkcgaa.Am
set_option linter.unusedVariables false
set_option maxRecDepth 100000
set_option linter.unusedSectionVars false
structure F6(w:bj)(n n2 lo hi:Nat)(i:aw):Prop where
 op:1≤i.op∧i.op≤27
 regs:∀r∈aU i,0≤r∧r<16
 obj:AE w i=true
 site:(n:Int)≤i.site∧i.site<n2
 jmp:i.op=5→(lo:Int)≤i.a∧i.a≤hi
 br:i.op=10→(lo:Int)≤i.b∧i.b≤hi
theorem F6.mono{w:bj}{n n2 lo hi m m2 lo2 hi2:Nat}{i:aw}(h:F6 w n n2 lo hi i)(h1:m≤n)(h2:n2≤m2)(h3:lo2≤lo)(h4:hi≤hi2):F6 w m m2 lo2 hi2 i:=
 ⟨h.op,h.regs,h.obj,by have:=h.site;omega,fun e=>by have:=h.jmp e;omega,fun e=>by have:=h.br e;omega⟩
theorem Bt.at_{w:bj}{i:aw}(h:Bt w i){n n2 lo hi s:Nat}(h1:n≤s)(h2:s<n2):F6 w n n2 lo hi (i.at_ (s:Int)):=
 ⟨by have:=h.op;show 1≤i.op∧i.op≤27;omega,h.regs,h.obj,by show(n:Int)≤s∧(s:Int)<n2;omega,fun e=>absurd e h.op.2.2,fun e=>by have:=h.op;have e2:i.op=10:=e;omega⟩
theorem Bt.all{w:bj}{c:List aw}(h:∀i∈c,Bt w i){n n2 lo hi s:Nat}(h1:n≤s)(h2:s<n2):∀i∈aA c s,F6 w n n2 lo hi i:=fun i hi=>by
 obtain⟨j,hj,rfl⟩:=List.mem_map.1 hi
 exact(h j hj).at_ h1 h2
theorem bE{α:Type}{P:α→Prop}{a b:List α}(h1:∀i∈a,P i)(h2:∀i∈b,P i):∀i∈a++b,P i:=fun i hi=>by
 rcases List.mem_append.1 hi with h | h
 ·exact h1 i h
 ·exact h2 i h
theorem bF{α:Type}{P:α→Prop}{a:α}(h:P a):∀i∈[a],P i:=fun i hi=>by rw[List.mem_singleton.1 hi];exact h
section
variable {p:aK} (hd:p.decls=aP) {loc:List aL} (hl:loc.length≤4)
include hd hl
theorem ld{e:ac}(h:gv p loc e=0){d:Int}(h0:0≤d)(h9:d≤9):∃c,dE (bD p) loc e d c∧c.length≤e.wt∧∀i∈c,Bt (bD p) i:=by
 unfold gv at h
 cases hs:wx e with
 | false=>rw[hs]at h;simp at h
 | true=>
  rw[hs]at h
  simp only[Bool.not_true,cond_false]at h
  by_cases hb:(decide (24<(e.nd:Int))||decide (6<(e.dp:Int)))=true
  ·rw[hb]at h;simp at h
  ·rw[Bool.not_eq_true]at hb
   rw[hb]at h
   simp only[cond_false]at h
   simp only[Bool.or_eq_false_iff,decide_eq_false_iff_not]at hb
   obtain⟨c,h1,h2,h3⟩:=yf hd hl e d hs h h0 (by omega)
   exact⟨c,h1,Nat.le_trans h2 e.nd_wt,h3⟩
def Jr(p:aK)(loc:List aL)(x:aa):Prop:=∀n b:Nat,∃c,Ay (bD p) loc x n b c (n+1+x.cnt)∧c.length≤3*x.wt∧∀i∈c,F6 (bD p) n (n+1+x.cnt) b (b+c.length) i
def Jn(p:aK)(loc:List aL)(l:List aa):Prop:=∀n b:Nat,∃c,StsC (bD p) loc l n b c (n+aa.cnts l)∧c.length≤3*aa.wts l∧∀i∈c,F6 (bD p) n (n+aa.cnts l) b (b+c.length) i
mutual
theorem IR:∀x:aa,gO x=true→wP p loc x→Jr p loc x
 | .mk op line s arg ix e body els,h1,h2=>by
  rw[gO]at h1
  simp only[Bool.and_eq_true]at h1
  obtain⟨⟨h3,h4⟩,h5⟩:=h1
  rw[wP]at h2
  obtain⟨h6,h7,h8⟩:=h2
  have hB:=sts_ex body h4 h7
  have hE:=sts_ex els h5 h8
  unfold EZ at h3
  simp only[Bool.and_eq_true,Bool.not_eq_true']at h3
  obtain⟨g1,g2,g3,g4,g5,g6⟩:=h3
  unfold I0 at g1;unfold EY at g6;unfold FV at g4
  simp only[Bool.or_eq_false_iff,decide_eq_false_iff_not]at g1
  rw[Bool.or_eq_false_iff]at g6
  have hbody:¬(2≤op∧op≤8)→body=[]:=fun h=>by
   have h0:=g6.1
   by_cases k1:2≤op<;>by_cases k2:op≤8<;>simp[k1,k2]at h0<;>first | exact h0 | exact absurd ⟨k1,k2⟩ h
  have hels:op≠2→els=[]:=fun h=>by have:=g6.2;simpa[h]using this
  unfold c6 at h6
  dsimp only[aa.op,aa.name,aa.arg,aa.index,aa.expr]at h6
  intro n b
  simp only[aa.wt,aa.cnt]
  have hop:op=1∨op=2∨op=3∨op=4∨op=5∨op=6∨op=7∨op=8∨op=9∨op=10∨op=11∨op=12∨op=13∨op=14∨op=15:=by omega
  rcases hop with rfl | rfl | rfl | rfl | rfl | rfl | rfl | rfl | rfl | rfl | rfl | rfl | rfl | rfl | rfl
  ·obtain rfl:=hbody (by omega)
   obtain rfl:=hels (by omega)
   simp only[if_true]at h6
   match ix,h6 with
   | [],h6=>
    obtain⟨hw,he⟩:=h6
    obtain⟨c,hc,hcl,hg⟩:=ld hd hl he (d:=loc.length) (by omega) (by omega)
    rcases(cB.1 hw).2 with h | h
    ·obtain⟨a1,a2⟩:=wq hd h
     refine⟨_,.asg line s arg [] e [] [] _ n b (.loc 1 line s arg e [] [] c hc a1),by simp[aF,ac.wts,aa.wts];omega,?_⟩
     rw[cT]
     refine bE (Bt.all hg (Nat.le_refl _) (by omega)) (bF ?_)
     exact⟨by show(1:Int)≤2∧(2:Int)≤27;omega,by simp[aU,aw.at_];omega,rfl,by show(n:Int)≤n∧(n:Int)<_;omega,by simp[aw.at_],by simp[aw.at_]⟩
    ·obtain⟨a1,a2⟩:=xi hd h
     refine⟨_,.asg line s arg [] e [] [] _ n b (.store 1 line s arg e [] [] c hc a1),by simp[aF,ac.wts,aa.wts];omega,?_⟩
     rw[cT]
     refine bE (Bt.all hg (Nat.le_refl _) (by omega)) (bF ?_)
     exact⟨by show(1:Int)≤8∧(8:Int)≤27;omega,by simp[aU,aw.at_];omega,a2,by show(n:Int)≤n∧(n:Int)<_;omega,by simp[aw.at_],by simp[aw.at_]⟩
   | i::rest,h6=>
    obtain⟨hw,hi,he⟩:=h6
    obtain⟨c1,hc1,hcl1,hg1⟩:=ld hd hl hi (d:=loc.length) (by omega) (by omega)
    obtain⟨c2,hc2,hcl2,hg2⟩:=ld hd hl he (d:=(loc.length:Int)+1) (by omega) (by omega)
    have hk:aD p loc s=2:=by rcases(cB.1 hw).2 with h | h<;>exact h
    obtain⟨bb,hb,hcb,harr⟩:=zK hd hk
    refine⟨_,.asg line s arg (i::rest) e [] [] _ n b (.idx 1 line s arg i e rest [] [] c1 c2 bb hb hc1 hc2 hcb),by simp[aF,ac.wts,aa.wts];omega,?_⟩
    rw[cT,cT]
    refine bE (bE (Bt.all hg1 (Nat.le_refl _) (by omega)) (Bt.all hg2 (Nat.le_refl _) (by omega))) (bF ?_)
    exact⟨by show(1:Int)≤9∧(9:Int)≤27;omega,by simp[aU,aw.at_];omega,harr,by show(n:Int)≤n∧(n:Int)<_;omega,by simp[aw.at_],by simp[aw.at_]⟩
  ·have he:gv p loc e=0:=by simpa using h6
   obtain⟨ce,hc,hcl,hg⟩:=ld hd hl he (d:=loc.length) (by omega) (by omega)
   obtain⟨cb,hb1,hb2,hb3⟩:=hB (n+1) (b+ce.length+1)
   match els,hE with
   | [],_=>
    simp only[aa.cnts,aa.wts,Nat.add_zero]at *
    refine⟨_,.if1 line s arg ix e body ce cb n b _ hc hb1,by simp[aF];omega,?_⟩
    rw[cT]
    refine bE (bE (Bt.all hg (Nat.le_refl _) (by omega)) (bF ?_)) fun i hi=>(hb3 i hi).mono (by omega) (by omega) (by omega) (by simp[aF];omega)
    exact⟨by show(1:Int)≤10∧(10:Int)≤27;omega,by simp[aU,aw.at_];omega,rfl,by show(n:Int)≤n∧(n:Int)<_;omega,by simp[aw.at_],fun _=>by simp[aw.at_,aF];omega⟩
   | y::els,hE=>
    obtain⟨cl,hl1,hl2,hl3⟩:=hE (n+1+aa.cnts body) (b+ce.length+1+cb.length+1)
    rw[show n+1+aa.cnts body+aa.cnts (y::els)=n+1+(aa.cnts body+aa.cnts (y::els)) by omega]at hl1 hl3
    refine⟨_,.if2 line s arg ix e body y els ce cb cl n b _ _ hc hb1 hl1,by simp[aF];omega,?_⟩
    rw[cT]
    refine bE (bE (bE (bE (Bt.all hg (Nat.le_refl _) (by omega)) (bF ?_)) fun i hi=>(hb3 i hi).mono (by omega) (by omega) (by omega) (by simp[aF];omega)) (bF ?_)) fun i hi=>(hl3 i hi).mono (by omega) (by omega) (by omega) (by simp[aF];omega)
    ·exact⟨by show(1:Int)≤10∧(10:Int)≤27;omega,by simp[aU,aw.at_];omega,rfl,by show(n:Int)≤n∧(n:Int)<_;omega,by simp[aw.at_],fun _=>by simp[aw.at_,aF];omega⟩
    ·exact⟨by show(1:Int)≤5∧(5:Int)≤27;omega,by simp[aU,aw.at_],rfl,by show(n:Int)≤n∧(n:Int)<_;omega,fun _=>by simp[aw.at_,aF];omega,by simp[aw.at_]⟩
  ·obtain rfl:=hels (by omega)
   have he:gv p loc e=0:=by simpa using h6
   obtain⟨ce,hc,hcl,hg⟩:=ld hd hl he (d:=loc.length) (by omega) (by omega)
   obtain⟨cb,hb1,hb2,hb3⟩:=hB (n+1) (b+ce.length+1)
   simp only[aa.cnts,aa.wts,Nat.add_zero]at *
   refine⟨_,.while line s arg ix e body [] ce cb n b _ hc hb1,by simp[aF];omega,?_⟩
   rw[cT]
   refine bE (bE (bE (Bt.all hg (Nat.le_refl _) (by omega)) (bF ?_)) fun i hi=>(hb3 i hi).mono (by omega) (by omega) (by omega) (by simp[aF];omega)) (bF ?_)
   ·exact⟨by show(1:Int)≤10∧(10:Int)≤27;omega,by simp[aU,aw.at_];omega,rfl,by show(n:Int)≤n∧(n:Int)<_;omega,by simp[aw.at_],fun _=>by simp[aw.at_,aF];omega⟩
   ·exact⟨by show(1:Int)≤5∧(5:Int)≤27;omega,by simp[aU,aw.at_],rfl,by show(n:Int)≤n∧(n:Int)<_;omega,fun _=>by simp[aw.at_,aF];omega,by simp[aw.at_]⟩
  ·obtain rfl:=hels (by omega)
   obtain⟨cb,hb1,hb2,hb3⟩:=hB (n+1) (b+1)
   simp only[aa.cnts,aa.wts,Nat.add_zero]at *
   have hk:aD p loc s=3:=by have h:=h6;simp at h;rcases(cB.1 h).2 with h | h<;>exact h
   have hob:=sW hd (by omega) hk
   refine⟨_,.arnd 4 line s arg ix e body [] 11 12 (bv (bD p).locks s) cb n b _ rfl hb1,by simp[aF];omega,?_⟩
   refine bE (bE (bF ?_) fun i hi=>(hb3 i hi).mono (by omega) (by omega) (by omega) (by simp[aF];omega)) (bF ?_)
   ·exact⟨by show(1:Int)≤11∧(11:Int)≤27;omega,by simp[aU,aw.at_],hob,by show(n:Int)≤n∧(n:Int)<_;omega,by simp[aw.at_],by simp[aw.at_]⟩
   ·exact⟨by show(1:Int)≤12∧(12:Int)≤27;omega,by simp[aU,aw.at_],hob,by show(n:Int)≤n∧(n:Int)<_;omega,by simp[aw.at_],by simp[aw.at_]⟩
  ·obtain rfl:=hels (by omega)
   obtain⟨cb,hb1,hb2,hb3⟩:=hB (n+1) (b+1)
   simp only[aa.cnts,aa.wts,Nat.add_zero]at *
   have hk:aD p loc s=4:=by have h:=h6;simp at h;rcases(cB.1 h).2 with h | h<;>exact h
   have hob:=sW hd (by omega) hk
   refine⟨_,.arnd 5 line s arg ix e body [] 13 14 (bv (bD p).locks s) cb n b _ rfl hb1,by simp[aF];omega,?_⟩
   refine bE (bE (bF ?_) fun i hi=>(hb3 i hi).mono (by omega) (by omega) (by omega) (by simp[aF];omega)) (bF ?_)
   ·exact⟨by show(1:Int)≤13∧(13:Int)≤27;omega,by simp[aU,aw.at_],hob,by show(n:Int)≤n∧(n:Int)<_;omega,by simp[aw.at_],by simp[aw.at_]⟩
   ·exact⟨by show(1:Int)≤14∧(14:Int)≤27;omega,by simp[aU,aw.at_],hob,by show(n:Int)≤n∧(n:Int)<_;omega,by simp[aw.at_],by simp[aw.at_]⟩
  ·obtain rfl:=hels (by omega)
   obtain⟨cb,hb1,hb2,hb3⟩:=hB (n+1) (b+1)
   simp only[aa.cnts,aa.wts,Nat.add_zero]at *
   have hk:aD p loc s=4:=by have h:=h6;simp at h;rcases(cB.1 h).2 with h | h<;>exact h
   have hob:=sW hd (by omega) hk
   refine⟨_,.arnd 6 line s arg ix e body [] 15 16 (bv (bD p).locks s) cb n b _ rfl hb1,by simp[aF];omega,?_⟩
   refine bE (bE (bF ?_) fun i hi=>(hb3 i hi).mono (by omega) (by omega) (by omega) (by simp[aF];omega)) (bF ?_)
   ·exact⟨by show(1:Int)≤15∧(15:Int)≤27;omega,by simp[aU,aw.at_],hob,by show(n:Int)≤n∧(n:Int)<_;omega,by simp[aw.at_],by simp[aw.at_]⟩
   ·exact⟨by show(1:Int)≤16∧(16:Int)≤27;omega,by simp[aU,aw.at_],hob,by show(n:Int)≤n∧(n:Int)<_;omega,by simp[aw.at_],by simp[aw.at_]⟩
  ·obtain rfl:=hels (by omega)
   obtain⟨cb,hb1,hb2,hb3⟩:=hB (n+1) (b+1)
   simp only[aa.cnts,aa.wts,Nat.add_zero]at *
   refine⟨_,.arnd 7 line s arg ix e body [] 17 18 0 cb n b _ rfl hb1,by simp[aF];omega,?_⟩
   refine bE (bE (bF ?_) fun i hi=>(hb3 i hi).mono (by omega) (by omega) (by omega) (by simp[aF];omega)) (bF ?_)
   ·exact⟨by show(1:Int)≤17∧(17:Int)≤27;omega,by simp[aU,aw.at_],rfl,by show(n:Int)≤n∧(n:Int)<_;omega,by simp[aw.at_],by simp[aw.at_]⟩
   ·exact⟨by show(1:Int)≤18∧(18:Int)≤27;omega,by simp[aU,aw.at_],rfl,by show(n:Int)≤n∧(n:Int)<_;omega,by simp[aw.at_],by simp[aw.at_]⟩
  ·obtain rfl:=hels (by omega)
   obtain⟨cb,hb1,hb2,hb3⟩:=hB (n+1) (b+1)
   simp only[aa.cnts,aa.wts,Nat.add_zero]at *
   refine⟨_,.arnd 8 line s arg ix e body [] 19 20 0 cb n b _ rfl hb1,by simp[aF];omega,?_⟩
   refine bE (bE (bF ?_) fun i hi=>(hb3 i hi).mono (by omega) (by omega) (by omega) (by simp[aF];omega)) (bF ?_)
   ·exact⟨by show(1:Int)≤19∧(19:Int)≤27;omega,by simp[aU,aw.at_],rfl,by show(n:Int)≤n∧(n:Int)<_;omega,by simp[aw.at_],by simp[aw.at_]⟩
   ·exact⟨by show(1:Int)≤20∧(20:Int)≤27;omega,by simp[aU,aw.at_],rfl,by show(n:Int)≤n∧(n:Int)<_;omega,by simp[aw.at_],by simp[aw.at_]⟩
  ·obtain rfl:=hbody (by omega)
   obtain rfl:=hels (by omega)
   have hk:aD p loc s=5:=by have h:=h6;simp at h;rcases(cB.1 h).2 with h | h<;>exact h
   have hob:=sX hd hk
   refine⟨_,.one 9 line s arg ix e [] [] _ n b rfl,by simp[aF];omega,bF ?_⟩
   exact⟨by show(1:Int)≤21∧(21:Int)≤27;omega,by simp[aU,aw.at_],hob,by show(n:Int)≤n∧(n:Int)<_;omega,by simp[aw.at_],by simp[aw.at_]⟩
  ·obtain rfl:=hbody (by omega)
   obtain rfl:=hels (by omega)
   have hk:aD p loc s=5:=by have h:=h6;simp at h;rcases(cB.1 h).2 with h | h<;>exact h
   have hob:=sX hd hk
   refine⟨_,.one 10 line s arg ix e [] [] _ n b rfl,by simp[aF];omega,bF ?_⟩
   exact⟨by show(1:Int)≤22∧(22:Int)≤27;omega,by simp[aU,aw.at_],hob,by show(n:Int)≤n∧(n:Int)<_;omega,by simp[aw.at_],by simp[aw.at_]⟩
  ·obtain rfl:=hbody (by omega)
   obtain rfl:=hels (by omega)
   have hk:aD p loc s=5:=by have h:=h6;simp at h;rcases(cB.1 h).2 with h | h<;>exact h
   have hob:=sX hd hk
   refine⟨_,.one 11 line s arg ix e [] [] _ n b rfl,by simp[aF];omega,bF ?_⟩
   exact⟨by show(1:Int)≤23∧(23:Int)≤27;omega,by simp[aU,aw.at_],hob,by show(n:Int)≤n∧(n:Int)<_;omega,by simp[aw.at_],by simp[aw.at_]⟩
  ·obtain rfl:=hbody (by omega)
   obtain rfl:=hels (by omega)
   have hk:aD p loc s=7:=by have h:=h6;simp at h;rcases(cB.1 h).2 with h | h<;>exact h
   have hob:=zN hd hk
   refine⟨_,.one 12 line s arg ix e [] [] _ n b rfl,by simp[aF];omega,bF ?_⟩
   exact⟨by show(1:Int)≤24∧(24:Int)≤27;omega,by simp[aU,aw.at_],hob,by show(n:Int)≤n∧(n:Int)<_;omega,by simp[aw.at_],by simp[aw.at_]⟩
  ·obtain rfl:=hbody (by omega)
   obtain rfl:=hels (by omega)
   have hk:aD p loc s=7:=by have h:=h6;simp at h;rcases(cB.1 h).2 with h | h<;>exact h
   have hob:=zN hd hk
   refine⟨_,.one 13 line s arg ix e [] [] _ n b rfl,by simp[aF];omega,bF ?_⟩
   exact⟨by show(1:Int)≤25∧(25:Int)≤27;omega,by simp[aU,aw.at_],hob,by show(n:Int)≤n∧(n:Int)<_;omega,by simp[aw.at_],by simp[aw.at_]⟩
  ·obtain rfl:=hbody (by omega)
   obtain rfl:=hels (by omega)
   have hh:dt (aD p loc s) 6 6=0∧gv p loc e=0:=by simpa using h6
   have hk:aD p loc s=6:=by rcases(cB.1 hh.1).2 with h | h<;>exact h
   have hob:=zL hd hk
   obtain⟨ce,hc,hcl,hg⟩:=ld hd hl hh.2 (d:=loc.length) (by omega) (by omega)
   refine⟨_,.set line s arg ix e [] [] ce n b hc,by simp[aF];omega,?_⟩
   rw[cT]
   refine bE (Bt.all hg (Nat.le_refl _) (by omega)) (bF ?_)
   exact⟨by show(1:Int)≤26∧(26:Int)≤27;omega,by simp[aU,aw.at_];omega,hob,by show(n:Int)≤n∧(n:Int)<_;omega,by simp[aw.at_],by simp[aw.at_]⟩
  ·obtain rfl:=hbody (by omega)
   obtain rfl:=hels (by omega)
   have hh:dt (aD p loc s) 8 8=0∧dt (aD p loc arg) 6 6=0:=by simpa using h6
   have hk:aD p loc s=8:=by rcases(cB.1 hh.1).2 with h | h<;>exact h
   have hk2:aD p loc arg=6:=by rcases(cB.1 hh.2).2 with h | h<;>exact h
   have hlo:=wq hd hk
   have hob:=zL hd hk2
   refine⟨_,.one 15 line s arg ix e [] [] _ n b rfl,by simp[aF];omega,bF ?_⟩
   exact⟨by show(1:Int)≤27∧(27:Int)≤27;omega,by simp[aU,aw.at_];omega,hob,by show(n:Int)≤n∧(n:Int)<_;omega,by simp[aw.at_],by simp[aw.at_]⟩
theorem sts_ex:∀l:List aa,shSs l=true→StsOk p loc l→Jn p loc l
 | [],_,_=>fun n b=>⟨[],.nil n b,by simp,nofun⟩
 | x::l,h1,h2=>by
  rw[shSs,Bool.and_eq_true]at h1
  rw[StsOk]at h2
  have hx:=IR x h1.1 h2.1
  have hr:=sts_ex l h1.2 h2.2
  intro n b
  obtain⟨c1,a1,a2,a3⟩:=hx n b
  obtain⟨c2,b1,b2,b3⟩:=hr (n+1+x.cnt) (b+c1.length)
  simp only[aa.cnts,aa.wts]
  rw[show n+1+x.cnt+aa.cnts l=n+(1+x.cnt+aa.cnts l) by omega]at b1 b3
  refine⟨c1++c2,.cons x l c1 c2 n b _ _ a1 b1,by rw[List.length_append];omega,?_⟩
  rw[List.length_append]
  exact bE (fun i hi=>(a3 i hi).mono (by omega) (by omega) (by omega) (by omega)) fun i hi=>(b3 i hi).mono (by omega) (by omega) (by omega) (by omega)
end
end
end Go.Proofs.Ytljkdffikfkcgaa.Am
end
