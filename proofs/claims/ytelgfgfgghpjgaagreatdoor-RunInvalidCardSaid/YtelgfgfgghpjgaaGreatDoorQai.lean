/- A part of the proof; the statement is proved in the last part. -/
import Derived.Test.YtelgfgfgghpjgaaGreatDoorQah
set_option linter.unusedSimpArgs false
set_option linter.unusedVariables false
section
namespace Go.Proofs.YtelgfgfgghpjgaaGreatDoor.Am
set_option maxRecDepth 100000
set_option linter.unusedVariables false
theorem mY(s:br):ax Tryz.prog 24 [.str s] (.bool (bv s)):=by
 rcases Nat.lt_or_ge 12 s.length with h | h
 ·have hl:(s.length:Int)<1→False:=by omega
  refine fT _ _ _ ?_
  unfold dQ
  have d1:decide ((s.length:Int)<1)=false:=decide_eq_false (by omega)
  have d2:decide ((s.length:Int) > 12)=true:=decide_eq_true (by omega)
  have e:bv s=false:=by
   unfold bv
   rw[show decide ((s.length:Int)≤12)=false from decide_eq_false (by omega)]
   simp
  rw[e]
  repeat' (first | refine st ?_ | refine sb (fun nb_ hnb_=>?_) | refine s2 (fun h=>?_) (fun h=>?_) | fail)
  all_goals exact⟨rfl,rfl⟩
 ·exact rP s (by omega)
end Go.Proofs.YtelgfgfgghpjgaaGreatDoor.Am
end
section
namespace Go.Proofs.YtelgfgfgghpjgaaGreatDoor.Am
set_option maxRecDepth 100000
set_option maxHeartbeats 1000000
set_option linter.unusedVariables false
set_option linter.unusedSectionVars false
theorem ld{α:Type}{f:α→List AV}{l:List α}{n i:Nat}{k:IntKind}{L:SH}{K:AV→Prop}(h:K (.lst ((l.take i).map f)))(hi:i≤l.length:=by omega)(hn:∀x,(f x).length=n:=by intro x;rfl):W.slice n (.lst (l.map f)) none (some (.int k (i:Int))) none L K:=by
 refine rI (l:=0) (h:=i) rfl rfl (Nat.zero_le _) (by simpa using hi) (fun r hr=>?_) ?_
 ·obtain⟨x,_,rfl⟩:=List.mem_map.1 (List.mem_of_mem_head? hr)
  exact hn x
 ·rw[List.drop_zero,Nat.sub_zero,←List.map_take];exact h
theorem uo{l:List br}{s:br}:decide (xp l s≥0)=cV (s∈l):=by
  unfold xp
  by_cases h:s∈l
  · rw[bJ h]
    refine decide_eq_true ?_
    have:∀(l:List br) (k:Nat),s∈l→0≤nA (fun x=>decide (x=s)) l k:=by
      intro l
      induction l with
      | nil=>intro k h;simp at h
      | cons x l ih=>
        intro k h
        rw[nA]
        by_cases hx:x=s
        · rw[if_pos (decide_eq_true hx)];omega
        · rw[if_neg (by simpa using hx)]
          exact ih _ (by rcases List.mem_cons.1 h with h | h; · exact absurd h.symm hx
                         · exact h)
    exact this l 0 h
  · rw[aZ h,kL (fun x hx=>decide_eq_false fun(e:x=s)=>h (e▸hx))]
    rfl
def du(l:List d6):Nat→Int×Int
 | 0=>(0,0)
 | i+1=>match l[i]? with
  | some s=>(s.thread,s.stmt+1)
  | none=>(0,0)
section
variable (w:cj) {Q:R} (h60:w.sites.length≤60) (h4:w.locks.length≤4) (h2:w.conds.length≤2) (ht4:w.threads.length≤4)
include h60 ht4
theorem xr(hq:∀b,cV (kP w.threads.length 0 0 w.sites)=b→Q (.bool b) []):W.loop (b9 Q) [.pptr [w.enc] 0 0,.int .i64 0] []:=by
 refine iU w.sites.length (fun i=>0≤(du w.sites i).1∧0≤(du w.sites i).2∧(du w.sites i).2≤i∧(kP w.threads.length 0 0 w.sites↔kP w.threads.length (du w.sites i).1 (du w.sites i).2 (w.sites.drop i))) (fun i=>[.pptr [w.enc] 0 0,.int .i64 (i:Int)]) (by omega) ⟨Int.le_refl _,Int.le_refl _,Int.le_refl _,Iff.rfl⟩ rfl (fun i h d1 hw1 hG nx hnx=>?_) (fun i h d1 hG nx=>?_)
 all_goals unfold b9
 ·obtain⟨g1,g2,g3,hG⟩:=hG
  have hx:=aG (f:=d6.enc) h
  have ha:du w.sites (i+1)=(w.sites[i].thread,w.sites[i].stmt+1):=by simp only[du,List.getElem?_eq_getElem h]
  rw[List.drop_eq_getElem_cons h,tz]at hG
  rw[ha]at hnx
  dsimp only at hnx
  generalize w.sites[i]=s at *
  obtain⟨th,sm,ln⟩:=s
  unfold d6.enc at hx
  dsimp only at *
  have hno:¬((du w.sites i).1≤th∧th<w.threads.length∧sm=if(du w.sites i).1<th then 0 else(du w.sites i).2)→Q (.bool false) []:=fun hb=>hq _ (aZ fun h2=>hb (by have:=hG.1 h2;exact⟨this.1,this.2.1,this.2.2.1⟩))
  have hgo:((du w.sites i).1≤th∧th<w.threads.length∧sm=if(du w.sites i).1<th then 0 else(du w.sites i).2)→nx [.pptr [w.enc] 0 0,.int .i64 ((i+1:Nat):Int)] []:=fun hb=>
   hnx ⟨by omega,by have:=hb.2.2;split at this<;>omega,by have:=hb.2.2;split at this<;>omega,by
    rw[hG]
    exact⟨fun h=>h.2.2.2,fun h=>⟨hb.1,hb.2.1,hb.2.2,h⟩⟩⟩
  clear hnx hG hq
  cases i with
  | zero=>
   generalize hA:du w.sites 0=A at hno hgo g1 g2 g3
   obtain rfl:A=(0,0):=hA.symm
   dsimp only at hno hgo g1 g2 g3
   repeat' (first | refine st ?_ | refine sb (fun nb_ hnb_=>?_) | refine s2 (fun h=>?_) (fun h=>?_) | fail)
   all_goals first
    | (refine hno fun h2=>?_;have h3:=h2.1;have h4:=h2.2.1;have h5:=h2.2.2;clear h2 hno hgo;split at h5<;>simp only[decide_eq_true_eq,decide_eq_false_iff_not,ge_iff_le,ne_eq,Decidable.not_not]at * <;>omega)
    | (refine hgo ?_;clear hno hgo;simp only[decide_eq_true_eq,decide_eq_false_iff_not,ge_iff_le,ne_eq,Decidable.not_not]at *;refine⟨by omega,by omega,?_⟩;first | (split<;>omega) | (rw[ite_self];omega))
  | succ j=>
   have hx2:=aG (f:=d6.enc) (show j<w.sites.length by omega)
   have hxe:w.sites[j]? =some (w.sites[j]'(by omega)):=List.getElem?_eq_getElem (by omega)
   generalize w.sites[j]'(by omega)=s2 at hx2 hxe
   have ha:du w.sites (j+1)=(s2.thread,s2.stmt+1):=by simp only[du,hxe]
   rw[ha]at hno hgo g1 g2 g3
   obtain⟨th2,sm2,ln2⟩:=s2
   unfold d6.enc at hx2
   dsimp only at *
   have hw2:IntKind.i64.wrap (((j+1:Nat):Int)-1)=(j:Int):=by rw[IntWalk.i64_in _ (by omega)];omega
   have hw3:IntKind.i64.wrap (sm2+1)=sm2+1:=IntWalk.i64_in _ (by omega)
   have hz:decide (((j+1:Nat):Int)=0)=false:=decide_eq_false (by omega)
   have hp:decide (((j+1:Nat):Int) > 0)=true:=decide_eq_true (by omega)
   repeat' (first | refine st ?_ | refine sb (fun nb_ hnb_=>?_) | refine s2 (fun h=>?_) (fun h=>?_) | fail)
   all_goals first
    | (refine hno fun h2=>?_;have h3:=h2.1;have h4:=h2.2.1;have h5:=h2.2.2;clear h2 hno hgo;split at h5<;>simp only[decide_eq_true_eq,decide_eq_false_iff_not,ge_iff_le,ne_eq,Decidable.not_not]at * <;>omega)
    | (refine hgo ?_;clear hno hgo;simp only[decide_eq_true_eq,decide_eq_false_iff_not,ge_iff_le,ne_eq,Decidable.not_not]at *;refine⟨by omega,by omega,?_⟩;first | (split<;>omega) | (rw[ite_self];omega))
 ·subst h
  rw[List.drop_length]at hG
  repeat' (first | refine st ?_ | refine sb (fun nb_ hnb_=>?_) | refine s2 (fun h=>?_) (fun h=>?_) | fail)
  exact hq _ (bJ (hG.2.2.2.2 trivial))
end
end Go.Proofs.YtelgfgfgghpjgaaGreatDoor.Am
end
section
namespace Go.Proofs.YtelgfgfgghpjgaaGreatDoor.Am
set_option linter.unusedVariables false
set_option maxRecDepth 100000
def ji(Q:R)(L18:SH)(x19:AV):Prop:=
 aF 1 x19 L18 fun x30=>
 aF 2 x19 L18 fun x32=>
 aF 3 x19 L18 fun x34=>
 W.bslice 1 [(.int .i64 0)] 3 [(0,x30),(1,x32),(2,x34)] L18 fun x35 L36=>
 Q x35 L36
def jj(Q:R)(L46:SH)(x48 x47:AV):Prop:=
 wb .eql 3 x48 (.int .i64 9) fun x54=>
 wk x54 (
 aF 2 x47 L46 fun x56=>
 aF 3 x47 L46 fun x58=>
 W.bslice 1 [(.int .i64 0)] 2 [(0,x56),(1,x58)] L46 fun x59 L60=>
 Q x59 L60) (
 Q .nils L46)
def jk(Q:R)(v44:Vs)(L46:SH):Prop:=
 px 1 4 37 v44 fun x47 x48 x49=>
 wk x49 (
 aF 2 x47 L46 fun x51=>
 W.bslice 1 [(.int .i64 0)] 1 [(0,x51)] L46 fun x52 L53=>
 Q x52 L53) (
 (jj Q L46 x48 x47))
def jl(Q:R)(L18:SH)(x20 x19:AV):Prop:=
 W.join (jk Q) fun j45=>
 wb .eql 3 x20 (.int .i64 8) fun x61=>
 wk x61 (
 j45 [x19,x20,x61] L18) (
 wb .eql 3 x20 (.int .i64 26) fun x62=>
 j45 [x19,x20,x62] L18)
def jm(Q:R)(L18:SH)(x20 x19:AV):Prop:=
 wb .eql 3 x20 (.int .i64 7) fun x37=>
 wk x37 (
 aF 1 x19 L18 fun x39=>
 aF 3 x19 L18 fun x41=>
 W.bslice 1 [(.int .i64 0)] 2 [(0,x39),(1,x41)] L18 fun x42 L43=>
 Q x42 L43) (
 (jl Q L18 x20 x19))
def jn(Q:R)(v16:Vs)(L18:SH):Prop:=
 px 1 4 13 v16 fun x19 x20 x21=>
 wk x21 (
 aF 1 x19 L18 fun x23=>
 aF 2 x19 L18 fun x25=>
 W.bslice 1 [(.int .i64 0)] 2 [(0,x23),(1,x25)] L18 fun x26 L27=>
 Q x26 L27) (
 wb .eql 3 x20 (.int .i64 4) fun x28=>
 wk x28 (
 (ji Q L18 x19)) (
 (jm Q L18 x20 x19)))
def jo(Q:R)(L8:SH)(x10 x9:AV):Prop:=
 W.join (jn Q) fun j17=>
 wb .eql 3 x10 (.int .i64 2) fun x63=>
 wk x63 (
 j17 [x9,x10,x63] L8) (
 wb .eql 3 x10 (.int .i64 3) fun x64=>
 j17 [x9,x10,x64] L8)
def jp(Q:R)(v6:Vs)(L8:SH):Prop:=
 px 1 4 5 v6 fun x9 x10 x11=>
 wk x11 (
 aF 1 x9 L8 fun x13=>
 W.bslice 1 [(.int .i64 0)] 1 [(0,x13)] L8 fun x14 L15=>
 Q x14 L15) (
 (jo Q L8 x10 x9))
def jq(j7:Kn)(L3:SH)(x5 x2:AV):Prop:=
 wb .eql 3 x5 (.int .i64 6) fun x66=>
 wk x66 (
 j7 [x2,x5,x66] L3) (
 wb .eql 3 x5 (.int .i64 10) fun x67=>
 wk x67 (
 j7 [x2,x5,x67] L3) (
 wb .eql 3 x5 (.int .i64 27) fun x68=>
 j7 [x2,x5,x68] L3))
def eg(t0:AV)(L:SH)(Q:R):Prop:=
 pV t0 L fun x2 L3=>
 aF 0 x2 L3 fun x5=>
 W.join (jp Q) fun j7=>
 wb .eql 3 x5 (.int .i64 1) fun x65=>
 wk x65 (
 j7 [x2,x5,x65] L3) (
 (jq j7 L3 x5 x2))
theorem jr(t0:AV)(L:SH)(Q:R)(h:eg t0 L Q):al Tryz.prog 29 [t0] L Q:=
 bg ⟨fun k=>if k=5 then some [1,4,5]else if k=8 then some [1,4,13]else if k=15 then some [1,4,37]else none,fun _=>[],fun k=>if k=0 then [1]else [],fun _=>[]⟩ Tryz.func29 (by kernel_rfl) (by kernel_rfl) h
end Go.Proofs.YtelgfgfgghpjgaaGreatDoor.Am
end
section
namespace Go.Proofs.YtelgfgfgghpjgaaGreatDoor.Am
set_option maxRecDepth 100000
set_option maxHeartbeats 1000000
set_option linter.unusedVariables false
theorem uq(i:bu):ax Tryz.prog 29 [.agg i.enc] (.lst ((aI i).map c9)):=by
 obtain⟨op,ia,ib,ic,n,site⟩:=i
 refine al.fz (jr _ _ _ ?_)
 unfold eg
 generalize hQ:(fun(v:AV) (L:SH)=>∃v2 L2,bM [v] L [v2] L2∧v2=AV.lst ((aI ⟨op,ia,ib,ic,n,site⟩).map c9)∧L2=[])=Q
 have hq:∀(l:List Int),aI ⟨op,ia,ib,ic,n,site⟩=l→∀v L,Fz L v (.lst (l.map c9))→Q v L:=fun l hl v L h=>by
  subst hQ;exact⟨_,[],bM.all h,by rw[hl],rfl⟩
 clear hQ
 repeat' (first | refine st ?_ | refine sb (fun nb_ hnb_=>?_) | refine s2 (fun h=>?_) (fun h=>?_) | fail)
 all_goals first
  | exact hq [ia] (by simp_all[aI];done) _ _ (Fz.sls (l:=[ia]) (f:=c9) (.head _) rfl (by decide) rfl)
  | exact hq [ib] (by simp_all[aI];done) _ _ (Fz.sls (l:=[ib]) (f:=c9) (.head _) rfl (by decide) rfl)
  | exact hq [ia,ib] (by simp_all[aI];done) _ _ (Fz.sls (l:=[ia,ib]) (f:=c9) (.head _) rfl (by decide) rfl)
  | exact hq [ia,ic] (by simp_all[aI];done) _ _ (Fz.sls (l:=[ia,ic]) (f:=c9) (.head _) rfl (by decide) rfl)
  | exact hq [ib,ic] (by simp_all[aI];done) _ _ (Fz.sls (l:=[ib,ic]) (f:=c9) (.head _) rfl (by decide) rfl)
  | exact hq [ia,ib,ic] (by simp_all[aI];done) _ _ (Fz.sls (l:=[ia,ib,ic]) (f:=c9) (.head _) rfl (by decide) rfl)
  | exact hq [] (by simp_all[aI];done) _ _ .nils
end Go.Proofs.YtelgfgfgghpjgaaGreatDoor.Am
end
section
namespace Go.Proofs.YtelgfgfgghpjgaaGreatDoor.Am
set_option maxRecDepth 100000
set_option maxHeartbeats 1000000
set_option linter.unusedVariables false
theorem fb(i:Int)(n:Nat):ax Tryz.prog 28 [.int .i64 i,.int .i64 n] (.bool (fc i n)):=by
 refine py _ _ _ _ ?_
 unfold ms
 generalize hQ:(fun(u:AV) (K:SH)=>u=AV.bool (fc i n)∧K=[])=Q
 repeat' (first | refine st ?_ | refine sb (fun nb_ hnb_=>?_) | refine s2 (fun h=>?_) (fun h=>?_) | fail)
 all_goals
  subst hQ
  refine⟨?_,rfl⟩
  simp_all[fc]<;>omega
theorem qv(op:Int):ax Tryz.prog 52 [.int .i64 op] (.bool (gm op)):=by
 refine ll _ _ _ ?_
 unfold gQ
 generalize hQ:(fun(u:AV) (K:SH)=>u=AV.bool (gm op)∧K=[])=Q
 repeat' (first | refine st ?_ | refine sb (fun nb_ hnb_=>?_) | refine s2 (fun h=>?_) (fun h=>?_) | fail)
 all_goals
  subst hQ
  refine⟨?_,rfl⟩
  simp_all[gm]<;>omega
theorem tB(w:cj)(i n:Int):ax Tryz.prog 51 [.agg w.enc,.int .i64 i,.int .i64 n] (.bool (lq w i n)):=by
 have hw:=fb i w.cells.length
 refine mu _ _ _ _ _ ?_
 unfold iQ
 generalize hQ:(fun(u:AV) (K:SH)=>u=AV.bool (lq w i n)∧K=[])=Q
 have hq:∀b,lq w i n=b→Q (.bool b) []:=fun b hb=>by subst hQ;exact⟨by rw[hb],rfl⟩
 clear hQ
 cases h1:fc i w.cells.length with
 | false=>
  rw[h1]at hw
  repeat' (first | refine st ?_ | ((with_reducible refine am 28 ?_);refine ae (hw) ?_) | ((with_reducible refine af 28 ?_);refine ab (hw) ?_) | refine sb (fun nb_ hnb_=>?_) | refine s2 (fun h=>?_) (fun h=>?_) | fail)
  exact hq _ (by simp[lq,h1])
 | true=>
  rw[h1]at hw
  have hx:=mf (f:=aJ.enc) h1
  obtain⟨k,rfl⟩:=Int.eq_ofNat_of_zero_le (dG h1)
  unfold aJ.enc at hx
  rw[Int.toNat_natCast]at hx
  repeat' (first | refine st ?_ | ((with_reducible refine am 28 ?_);refine ae (hw) ?_) | ((with_reducible refine af 28 ?_);refine ab (hw) ?_) | refine sb (fun nb_ hnb_=>?_) | refine s2 (fun h=>?_) (fun h=>?_) | fail)
  all_goals exact hq _ (by simp_all[lq])
theorem qw(w:cj)(i:bu):ax Tryz.prog 26 [.agg w.enc,.agg i.enc] (.bool (fI w i)):=by
 obtain⟨op,ia,ib,ic,m,site⟩:=i
 refine kG _ _ _ _ ?_
 unfold fP
 generalize hQ:(fun(u:AV) (K:SH)=>u=AV.bool (fI w ⟨op,ia,ib,ic,m,site⟩)∧K=[])=Q
 have hq:∀b:Bool,fI w ⟨op,ia,ib,ic,m,site⟩=b→Q (.bool b) []:=fun b hb=>by subst hb;subst hQ;exact⟨rfl,rfl⟩
 clear hQ
 have hlk:∀rw,(op=11∨op=12)∧rw=false∨(op=13∨op=14∨op=15∨op=16)∧rw=true→fI w ⟨op,ia,ib,ic,m,site⟩=eM w ia rw:=fun rw h=>by
  rcases h with⟨h,rfl⟩ | ⟨h,rfl⟩
  ·rcases h with rfl | rfl<;>rfl
  ·rcases h with rfl | rfl | rfl | rfl<;>rfl
 have hlr:∀rw (k:Nat) (h:k<w.locks.length),ia=(k:Int)→eM w ia rw=(w.locks[k].rw==rw):=fun rw k h e=>by
  subst e
  have hb:fc (k:Int) w.locks.length=true:=bA.2 ⟨by omega,by omega⟩
  unfold eM
  rw[hb,Int.toNat_natCast,List.getD_eq_getElem?_getD,List.getElem?_eq_getElem h]
  rfl
 by_cases h6:op=6
 ·subst h6
  have hw:=fb ib w.cells.length
  cases h1:fc ib w.cells.length with
  | false=>
   rw[h1]at hw
   repeat' (first | refine st ?_ | ((with_reducible refine am 28 ?_);refine ae (hw) ?_) | ((with_reducible refine af 28 ?_);refine ab (hw) ?_) | refine sb (fun nb_ hnb_=>?_) | refine s2 (fun h=>?_) (fun h=>?_) | fail)
   all_goals exact hq _ (by simp[fI,kZ,h1])
  | true=>
   rw[h1]at hw
   have hx:=mf (f:=aJ.enc) h1
   obtain⟨k,rfl⟩:=Int.eq_ofNat_of_zero_le (dG h1)
   unfold aJ.enc at hx
   rw[Int.toNat_natCast]at hx
   repeat' (first | refine st ?_ | ((with_reducible refine am 28 ?_);refine ae (hw) ?_) | ((with_reducible refine af 28 ?_);refine ab (hw) ?_) | refine sb (fun nb_ hnb_=>?_) | refine s2 (fun h=>?_) (fun h=>?_) | fail)
   all_goals exact hq _ (by simp_all[fI,kZ])
 by_cases h8:op=8
 ·subst h8
  have hw:=fb ia w.cells.length
  cases h1:fc ia w.cells.length with
  | false=>
   rw[h1]at hw
   repeat' (first | refine st ?_ | ((with_reducible refine am 28 ?_);refine ae (hw) ?_) | ((with_reducible refine af 28 ?_);refine ab (hw) ?_) | refine sb (fun nb_ hnb_=>?_) | refine s2 (fun h=>?_) (fun h=>?_) | fail)
   all_goals exact hq _ (by simp[fI,kZ,h1])
  | true=>
   rw[h1]at hw
   have hx:=mf (f:=aJ.enc) h1
   obtain⟨k,rfl⟩:=Int.eq_ofNat_of_zero_le (dG h1)
   unfold aJ.enc at hx
   rw[Int.toNat_natCast]at hx
   repeat' (first | refine st ?_ | ((with_reducible refine am 28 ?_);refine ae (hw) ?_) | ((with_reducible refine af 28 ?_);refine ab (hw) ?_) | refine sb (fun nb_ hnb_=>?_) | refine s2 (fun h=>?_) (fun h=>?_) | fail)
   all_goals exact hq _ (by simp_all[fI,kZ])
 have e6:decide (op=6)=false:=decide_eq_false h6
 have e8:decide (op=8)=false:=decide_eq_false h8
 by_cases hl:op=11∨op=12
 ·have ho:=hlk false (.inl ⟨hl,rfl⟩)
  have hw:=fb ia w.locks.length
  cases h1:fc ia w.locks.length with
  | false=>
   rw[h1]at hw
   have hv:eM w ia false=false:=by simp[eM,h1]
   rw[hv]at ho
   rcases hl with rfl | rfl
   all_goals
    repeat' (first | refine st ?_ | ((with_reducible refine am 28 ?_);refine ae (hw) ?_) | ((with_reducible refine af 28 ?_);refine ab (hw) ?_) | refine sb (fun nb_ hnb_=>?_) | refine s2 (fun h=>?_) (fun h=>?_) | fail)
    all_goals exact hq _ ho
  | true=>
   rw[h1]at hw
   obtain⟨k,rfl⟩:=Int.eq_ofNat_of_zero_le (dG h1)
   have hk:k<w.locks.length:=by have:=(bA.1 h1).2;omega
   have hx:=aG (f:=bK.enc) hk
   have hv:=hlr false k hk rfl
   rw[hv]at ho
   generalize w.locks[k]=c at *
   obtain⟨nm,r⟩:=c
   unfold bK.enc at hx
   dsimp only at *
   have ho':(!r)=(r==false):=by cases r<;>rfl
   rw[←ho']at ho
   rcases hl with rfl | rfl
   all_goals
    repeat' (first | refine st ?_ | ((with_reducible refine am 28 ?_);refine ae (hw) ?_) | ((with_reducible refine af 28 ?_);refine ab (hw) ?_) | refine sb (fun nb_ hnb_=>?_) | refine s2 (fun h=>?_) (fun h=>?_) | fail)
    all_goals exact hq _ ho
 by_cases hr:op=13∨op=14∨op=15∨op=16
 ·have ho:=hlk true (.inr ⟨hr,rfl⟩)
  have hw:=fb ia w.locks.length
  cases h1:fc ia w.locks.length with
  | false=>
   rw[h1]at hw
   have hv:eM w ia true=false:=by simp[eM,h1]
   rw[hv]at ho
   rcases hr with rfl | rfl | rfl | rfl
   all_goals
    repeat' (first | refine st ?_ | ((with_reducible refine am 28 ?_);refine ae (hw) ?_) | ((with_reducible refine af 28 ?_);refine ab (hw) ?_) | refine sb (fun nb_ hnb_=>?_) | refine s2 (fun h=>?_) (fun h=>?_) | fail)
    all_goals exact hq _ ho
  | true=>
   rw[h1]at hw
   obtain⟨k,rfl⟩:=Int.eq_ofNat_of_zero_le (dG h1)
   have hk:k<w.locks.length:=by have:=(bA.1 h1).2;omega
   have hx:=aG (f:=bK.enc) hk
   have hv:=hlr true k hk rfl
   rw[hv]at ho
   generalize w.locks[k]=c at *
   obtain⟨nm,r⟩:=c
   unfold bK.enc at hx
   dsimp only at *
   have ho':r=(r==true):=by cases r<;>rfl
   rw[←ho']at ho
   rcases hr with rfl | rfl | rfl | rfl
   all_goals
    repeat' (first | refine st ?_ | ((with_reducible refine am 28 ?_);refine ae (hw) ?_) | ((with_reducible refine af 28 ?_);refine ab (hw) ?_) | refine sb (fun nb_ hnb_=>?_) | refine s2 (fun h=>?_) (fun h=>?_) | fail)
    all_goals exact hq _ ho
 have e11:decide (op=11)=false:=decide_eq_false fun h=>hl (.inl h)
 have e12:decide (op=12)=false:=decide_eq_false fun h=>hl (.inr h)
 have e13:decide (op=13)=false:=decide_eq_false fun h=>hr (.inl h)
 have e14:decide (op=14)=false:=decide_eq_false fun h=>hr (.inr (.inl h))
 have e15:decide (op=15)=false:=decide_eq_false fun h=>hr (.inr (.inr (.inl h)))
 have e16:decide (op=16)=false:=decide_eq_false fun h=>hr (.inr (.inr (.inr h)))
 have hc:=fb ia w.conds.length
 have ht:=fb ia w.threads.length
 have hf:=fb ia w.futures.length
 have hg:=fb ib w.futures.length
 have ha:=tB w
 clear hlk hlr
 repeat' (first | refine st ?_ | ((with_reducible refine am 28 ?_);refine ae (hc) ?_) | ((with_reducible refine af 28 ?_);refine ab (hc) ?_) | ((with_reducible refine am 28 ?_);refine ae (ht) ?_) | ((with_reducible refine af 28 ?_);refine ab (ht) ?_) | ((with_reducible refine am 28 ?_);refine ae (hf) ?_) | ((with_reducible refine af 28 ?_);refine ab (hf) ?_) | ((with_reducible refine am 28 ?_);refine ae (hg) ?_) | ((with_reducible refine af 28 ?_);refine ab (hg) ?_) | ((with_reducible refine am 51 ?_);refine ae (ha _ _) ?_) | ((with_reducible refine af 51 ?_);refine ab (ha _ _) ?_) | refine sb (fun nb_ hnb_=>?_) | refine s2 (fun h=>?_) (fun h=>?_) | fail)
 all_goals
  refine hq _ ?_
  clear hq hc ht hf hg ha e6 e8 e11 e12 e13 e14 e15 e16
  simp only[decide_eq_true_eq,decide_eq_false_iff_not]at *
  unfold fI
  first
   | (subst_vars;rfl)
   | (subst_vars;simp;done)
   | (simp_all;done)
   | (subst_vars;simp;omega)
theorem tC(ins:List bu)(k:Nat)(hl:ins.length<2^48):ax Tryz.prog 27 [.lst (ins.map bu.enc),.int .i64 (k:Int)] (.bool (cV (cC ins k))):=by
 refine mA _ _ _ _ ?_
 unfold iR
 generalize hQ:(fun(u:AV) (K:SH)=>u=AV.bool (cV (cC ins k))∧K=[])=Q
 have hq:∀b,cV (cC ins k)=b→Q (.bool b) []:=fun b hb=>by subst hQ;exact⟨by rw[hb],rfl⟩
 clear hQ
 refine kM (α:=Nat×Int) (fun a=>([.lst (ins.map bu.enc),.int .i64 a.2,.int .i64 (a.1:Int)],[])) (fun a=>ins.length+1-a.1) (fun a=>a.1≤ins.length+1∧(∀m,k9 ins k m→a.1≤m∧∃j:Nat,a.2=(j:Int)∧k9 ins j (m-a.1))∧∀(j m:Nat),a.2=(j:Int)→k9 ins j m→cC ins k) (0,(k:Int)) ⟨Nat.zero_le _,fun m h=>⟨Nat.zero_le _,k,rfl,h⟩,fun j m e h=>by
  have:j=k:=by have:(k:Int)=(j:Int):=e;omega
  subst this;exact⟨m,h⟩⟩ rfl rfl ?_
 rintro⟨n,t⟩ ⟨hn,hA,hB⟩ nx hnx
 unfold gH
 dsimp only at *
 by_cases h:n≤ins.length
 ·have d1:decide ((n:Int)≤(ins.length:Int))=true:=decide_eq_true (by omega)
  have hw1:IntKind.i64.wrap ((n:Int)+1)=((n+1:Nat):Int):=by rw[IntWalk.i64_in _ (by omega)];omega
  by_cases hr:0≤t∧t<ins.length
  ·obtain⟨j,rfl⟩:=Int.eq_ofNat_of_zero_le hr.1
   have hj:j<ins.length:=by omega
   have hx:=aG (f:=bu.enc) hj
   have hxe:ins[j]? =some ins[j]:=List.getElem?_eq_getElem hj
   have d2:decide ((j:Int)<0)=false:=decide_eq_false (by omega)
   have d3:decide ((j:Int)≥(ins.length:Int))=false:=decide_eq_false (by omega)
   have hw2:IntKind.i64.wrap ((j:Int)+1)=((j+1:Nat):Int):=aY hj (by omega)
   have hsi:=qv ins[j].op
   generalize ins[j]=i at *
   have hsl:gm i.op=true↔i.sil:=by unfold gm bu.sil;simp
   cases hb:gm i.op with
   | false=>
    rw[hb]at hsi
    have hl:cC ins k:=hB j 0 rfl (.ev j i hxe fun h=>by rw[hsl.2 h]at hb;cases hb)
    obtain⟨op,ia,ib,ic,m,site⟩:=i
    unfold bu.enc at hx
    dsimp only at *
    repeat' (first | refine st ?_ | ((with_reducible refine am 52 ?_);refine ae (hsi) ?_) | ((with_reducible refine af 52 ?_);refine ab (hsi) ?_) | refine sb (fun nb_ hnb_=>?_) | refine s2 (fun h=>?_) (fun h=>?_) | fail)
    all_goals exact hq _ (bJ hl)
   | true=>
    rw[hb]at hsi
    have hs:=hsl.1 hb
    have hgo:∀t':Int,(i.op=5→t'=i.a)→(i.op≠5→t'=((j+1:Nat):Int))→nx [.lst (ins.map bu.enc),.int .i64 t',.int .i64 ((n+1:Nat):Int)] []:=fun t' h5 hn5=>hnx (n+1,t') ⟨by dsimp only;omega,fun m hm=>by
      obtain⟨h1,j2,e2,h2⟩:=hA m hm
      obtain rfl:j=j2:=by omega
      dsimp only
      generalize hd:m-n=d at h2
      cases h2 with
      | ev _ i' hi' hs'=>rw[hxe]at hi';cases hi';exact absurd hs hs'
      | go _ d' i' hi' hs' h5' hm'=>rw[hxe]at hi';cases hi';exact⟨by omega,j+1,hn5 h5',by rw[show m-(n+1)=d' by omega];exact hm'⟩
      | jump _ d' j' i' hi' h5' ha' hm'=>rw[hxe]at hi';cases hi';exact⟨by omega,j',by rw[h5 h5'];exact ha',by rw[show m-(n+1)=d' by omega];exact hm'⟩,fun j' m e hm=>by
      dsimp only at e
      by_cases hop:i.op=5
      ·exact hB j (m+1) rfl (.jump j m j' i hxe hop (by rw[←h5 hop];exact e) hm)
      ·have:j'=j+1:=by have:=hn5 hop;omega
       subst this
       exact hB j (m+1) rfl (.go j m i hxe hs hop hm)⟩ (by dsimp only;omega)
    clear hnx hA hB hq
    obtain⟨op,ia,ib,ic,m,site⟩:=i
    unfold bu.enc at hx
    dsimp only at *
    by_cases hop:op=5
    ·subst hop
     repeat' (first | refine st ?_ | ((with_reducible refine am 52 ?_);refine ae (hsi) ?_) | ((with_reducible refine af 52 ?_);refine ab (hsi) ?_) | refine sb (fun nb_ hnb_=>?_) | refine s2 (fun h=>?_) (fun h=>?_) | fail)
     all_goals exact hgo _ (fun _=>rfl) (fun h=>absurd rfl h)
    ·have d5:decide (op=5)=false:=decide_eq_false hop
     repeat' (first | refine st ?_ | ((with_reducible refine am 52 ?_);refine ae (hsi) ?_) | ((with_reducible refine af 52 ?_);refine ab (hsi) ?_) | refine sb (fun nb_ hnb_=>?_) | refine s2 (fun h=>?_) (fun h=>?_) | fail)
     all_goals exact hgo _ (fun h=>absurd h hop) (fun _=>rfl)
  ·have hno:¬cC ins k:=fun⟨m,hm⟩=>by
    obtain⟨_,j,rfl,h2⟩:=hA m hm
    have:=h2.lt
    exact hr ⟨by omega,by omega⟩
   repeat' (first | refine st ?_ | refine sb (fun nb_ hnb_=>?_) | refine s2 (fun h=>?_) (fun h=>?_) | fail)
   all_goals first
    | exact hq _ (aZ hno)
    | (exfalso;refine hr ?_;clear hnx hA hB hq hno;simp only[decide_eq_true_eq,decide_eq_false_iff_not,ge_iff_le]at *;omega)
 ·have d1:decide ((n:Int)≤(ins.length:Int))=false:=decide_eq_false (by omega)
  have hno:¬cC ins k:=fun⟨m,hm⟩=>by
   have:=(hA m hm).1
   have:=hm.bound
   omega
  repeat' (first | refine st ?_ | refine sb (fun nb_ hnb_=>?_) | refine s2 (fun h=>?_) (fun h=>?_) | fail)
  all_goals exact hq _ (aZ hno)
end Go.Proofs.YtelgfgfgghpjgaaGreatDoor.Am
end
section
namespace Go.Proofs.YtelgfgfgghpjgaaGreatDoor.Am
set_option maxRecDepth 100000
set_option maxHeartbeats 1000000
set_option linter.unusedVariables false
theorem rV(w:cj):ax Tryz.prog 12 [.agg w.enc] (.bool (cV (kQ w))):=by
 refine iu _ _ _ ?_
 unfold dK
 generalize hQ:(fun(u:AV) (K:SH)=>u=AV.bool (cV (kQ w))∧K=[])=Q
 have hq:∀b,cV (kQ w)=b→Q (.bool b) []:=fun b hb=>by subst hQ;exact⟨by rw[hb],rfl⟩
 clear hQ
 by_cases h0:w.cells.length≤12∧w.locks.length≤4∧w.conds.length≤2∧w.futures.length≤2∧w.sites.length≤60∧1≤w.threads.length∧w.threads.length≤4
 ·obtain⟨c12,l4,d2,f2,s60,t1,t4⟩:=h0
  have e1:decide ((w.cells.length:Int) > 12)=false:=decide_eq_false (by omega)
  have e2:decide ((w.locks.length:Int) > 4)=false:=decide_eq_false (by omega)
  have e3:decide ((w.conds.length:Int) > 2)=false:=decide_eq_false (by omega)
  have e4:decide ((w.futures.length:Int) > 2)=false:=decide_eq_false (by omega)
  have e5:decide ((w.sites.length:Int) > 60)=false:=decide_eq_false (by omega)
  have e6:decide ((w.threads.length:Int)<1)=false:=decide_eq_false (by omega)
  have e7:decide ((w.threads.length:Int) > 4)=false:=decide_eq_false (by omega)
  by_cases hv:∃ns,aW w.cells ns
  ·obtain⟨ns,hv⟩:=hv
   have hnm:=rT c12 l4 d2 f2 t4 hv
   have hns:ns.length≤12:=by have:=hv.len;omega
   have hAl:(bp w ns).length≤30:=by simp[bp];omega
   have hbad:¬fL (bp w ns)→Q (.bool false) []:=fun h=>hq _ (aZ fun h2=>by
    obtain⟨n2,h3,h4⟩:=h2.names
    obtain rfl:=hv.uniq h3
    exact h ⟨h4.1,h4.2⟩)
   have hgood:fL (bp w ns)→∃ns,aW w.cells ns∧(∀s∈bp w ns,bv s=true)∧(bp w ns).Nodup:=fun h=>⟨ns,hv,h.1,h.2⟩
   clear hv
   generalize bp w ns=A at *
   repeat' (first | refine st ?_ | ((with_reducible refine am 23 ?_);refine ae (hnm) ?_) | ((with_reducible refine af 23 ?_);refine ab (hnm) ?_) | refine sb (fun nb_ hnb_=>?_) | refine s2 (fun h=>?_) (fun h=>?_) | fail)
   refine iU A.length (fun i=>fL (A.take i)) (fun i=>[.pptr [w.enc] 0 0,.lst (A.map aN),.int .i64 (i:Int)]) (by omega) (by simp[fL]) rfl (fun i h1 hd hi hG nx hn=>?_) (fun i h1 hd hG nx=>?_)
   all_goals unfold dm
   ·have hx:=aG (f:=aN) h1
    have hok:=mY A[i]
    have ht:=List.take_succ_eq_append_getElem h1
    have hle:i≤A.length:=by omega
    have hat:=xq (A.take i) A[i] (by rw[List.length_take];omega)
    have hmem:=uo (l:=A.take i) (s:=A[i])
    have hno:¬fL (A.take (i+1))→Q (.bool false) []:=fun hb=>hbad fun hN=>hb ⟨fun s hs=>hN.1 s (List.mem_of_mem_take hs),hN.2.sublist (List.take_sublist _ _)⟩
    rw[ht]at hno hn
    clear hgood hbad hq ht
    generalize A[i]=s at *
    cases hnm2:bv s with
    | false=>
     rw[hnm2]at hok
     have hb:¬fL (A.take i++[s]):=fun hb=>by have:=hb.1 s (by simp);rw[hnm2]at this;cases this
     repeat' (first | refine st ?_ | ((with_reducible refine am 24 ?_);refine ae (hok) ?_) | ((with_reducible refine af 24 ?_);refine ab (hok) ?_) | refine sb (fun nb_ hnb_=>?_) | refine s2 (fun h=>?_) (fun h=>?_) | fail)
     all_goals exact hno hb
    | true=>
     rw[hnm2]at hok
     by_cases hm:s∈A.take i
     ·rw[bJ hm]at hmem
      have hb:¬fL (A.take i++[s]):=fun hb=>by
       have:=(List.nodup_append.1 hb.2).2.2 s hm s (by simp)
       exact this rfl
      repeat' (first | refine st ?_ | refine ld ?_ hle | ((with_reducible refine am 24 ?_);refine ae (hok) ?_) | ((with_reducible refine af 24 ?_);refine ab (hok) ?_) | ((with_reducible refine am 25 ?_);refine ae (hat) ?_) | ((with_reducible refine af 25 ?_);refine ab (hat) ?_) | refine sb (fun nb_ hnb_=>?_) | refine s2 (fun h=>?_) (fun h=>?_) | fail)
      all_goals exact hno hb
     ·rw[aZ hm]at hmem
      have hb:fL (A.take i++[s]):=⟨fun x hx=>by
       rcases List.mem_append.1 hx with h | h
       ·exact hG.1 x h
       ·rw[List.mem_singleton.1 h];exact hnm2,List.nodup_append.2 ⟨hG.2,by simp,fun a ha b hb=>by rw[List.mem_singleton.1 hb];rintro rfl;exact hm ha⟩⟩
      repeat' (first | refine st ?_ | refine ld ?_ hle | ((with_reducible refine am 24 ?_);refine ae (hok) ?_) | ((with_reducible refine af 24 ?_);refine ab (hok) ?_) | ((with_reducible refine am 25 ?_);refine ae (hat) ?_) | ((with_reducible refine af 25 ?_);refine ab (hat) ?_) | refine sb (fun nb_ hnb_=>?_) | refine s2 (fun h=>?_) (fun h=>?_) | fail)
      all_goals exact hn hb
   ·subst h1
    rw[List.take_length]at hG
    have hN:=hgood hG
    clear hgood hbad hnm
    repeat' (first | refine st ?_ | refine sb (fun nb_ hnb_=>?_) | refine s2 (fun h=>?_) (fun h=>?_) | fail)
    refine eZ w.conds (fun c=>!eM w c.mutex false) (fun i=>[.pptr [w.enc] 0 0,.int .i64 (i:Int)]) (by omega) rfl (fun i h1 hd hi hno nx hn=>?_) (fun i h1 hd hno nx=>?_)
    all_goals unfold dk
    ·have hx:=aG (f:=eK.enc) h1
     have hbad:eM w w.conds[i].mutex false=false→Q (.bool false) []:=fun h=>hq _ (aZ fun h2=>by rw[h2.mtx _ (List.getElem_mem h1)]at h;cases h)
     generalize w.conds[i]=c at *
     obtain⟨nm,mx⟩:=c
     unfold eK.enc at hx
     dsimp only at *
     clear hno hq
     cases h2:fc mx w.locks.length with
     | false=>
      have hl:eM w mx false=false:=by simp[eM,h2]
      have hb:¬(0≤mx∧mx<w.locks.length):=fun h=>by rw[bA.2 h]at h2;cases h2
      repeat' (first | refine st ?_ | refine sb (fun nb_ hnb_=>?_) | refine s2 (fun h=>?_) (fun h=>?_) | fail)
      all_goals first
       | exact hbad hl
       | (exfalso;refine hb ?_;clear hn hbad;simp only[decide_eq_true_eq,decide_eq_false_iff_not,ge_iff_le]at *;omega)
     | true=>
      obtain⟨k,rfl⟩:=Int.eq_ofNat_of_zero_le (dG h2)
      have hk:k<w.locks.length:=by have:=(bA.1 h2).2;omega
      have hx2:=aG (f:=bK.enc) hk
      have d2:decide ((k:Int)<0)=false:=decide_eq_false (by omega)
      have d3:decide ((k:Int)≥(w.locks.length:Int))=false:=decide_eq_false (by omega)
      have hv:eM w (k:Int) false=!(w.locks[k].rw):=by
       unfold eM
       rw[h2,Int.toNat_natCast,List.getD_eq_getElem?_getD,List.getElem?_eq_getElem hk,Option.getD_some]
       generalize w.locks[k].rw=r
       cases r<;>rfl
      rw[hv]at hbad hn
      generalize w.locks[k]=c2 at *
      obtain⟨nm2,r⟩:=c2
      unfold bK.enc at hx2
      dsimp only at *
      cases r with
      | true=>
       repeat' (first | refine st ?_ | refine sb (fun nb_ hnb_=>?_) | refine s2 (fun h=>?_) (fun h=>?_) | fail)
       all_goals exact hbad rfl
      | false=>
       repeat' (first | refine st ?_ | refine sb (fun nb_ hnb_=>?_) | refine s2 (fun h=>?_) (fun h=>?_) | fail)
       all_goals exact hn rfl
    ·repeat' (first | refine st ?_ | refine sb (fun nb_ hnb_=>?_) | refine s2 (fun h=>?_) (fun h=>?_) | fail)
     refine xr w s60 t4 fun b hb=>hq _ ?_
     cases b with
     | false=>exact aZ fun h=>by rw[bJ h.sites]at hb;cases hb
     | true=>exact bJ ⟨c12,l4,d2,f2,s60,t1,t4,hN,fun c hc=>by simpa using hno c hc,cW.1 hb⟩
  ·have hnm:=tw c12 l4 d2 f2 t4 fun ns h=>hv ⟨ns,h⟩
   repeat' (first | refine st ?_ | ((with_reducible refine am 23 ?_);refine ae (hnm) ?_) | ((with_reducible refine af 23 ?_);refine ab (hnm) ?_) | refine sb (fun nb_ hnb_=>?_) | refine s2 (fun h=>?_) (fun h=>?_) | fail)
   all_goals exact hq _ (aZ fun h=>by obtain⟨ns,h1,_⟩:=h.names;exact hv ⟨ns,h1⟩)
 ·have hb:cV (kQ w)=false:=aZ fun h=>h0 ⟨h.c12,h.l4,h.d2,h.f2,h.s60,h.t1,h.t4⟩
  repeat' (first | refine st ?_ | refine sb (fun nb_ hnb_=>?_) | refine s2 (fun h=>?_) (fun h=>?_) | fail)
  all_goals first
   | exact hq _ hb
   | (exfalso;refine h0 ?_;clear hq hb h0;simp only[decide_eq_true_eq,decide_eq_false_iff_not]at *;omega)
end Go.Proofs.YtelgfgfgghpjgaaGreatDoor.Am
end
section
namespace Go.Proofs.YtelgfgfgghpjgaaGreatDoor.Am
set_option maxRecDepth 100000
set_option maxHeartbeats 1000000
set_option linter.unusedVariables false
set_option linter.unusedSectionVars false
section
variable {w:cj} {t:Nat} {c:pW} {k:Nat} {i:bu} (h0:0≤c.regs) (Q:R) (n36:W.Kn)
 (hno:¬(∀r∈aI i,0≤r∧r<c.regs)→Q (.bool false) [])
 (hgo:(∀r∈aI i,0≤r∧r<c.regs)→n36 [.int .i64 t,.pptr [w.enc] 0 0,.pptr [c.enc] 0 0,.int .i64 c.ins.length,.int .i64 (k+1:Nat)] [])
 (hl:c.ins.length<2^48) (hk:k<c.ins.length)
include h0 hno hgo hl hk
theorem ur:W.loop (bh Q n36) [.int .i64 t,.pptr [w.enc] 0 0,.pptr [c.enc] 0 0,.int .i64 c.ins.length,.int .i64 k,.lst ((aI i).map c9),.int .i64 0] []:=by
 obtain⟨rg,hrg⟩:=Int.eq_ofNat_of_zero_le h0
 have hwr:IntKind.i64.wrap ((k:Int)+1)=((k+1:Nat):Int):=aY hk (by omega)
 refine iU (aI i).length (fun j=>∀r∈(aI i).take j,0≤r∧r<c.regs) (fun j=>[.int .i64 t,.pptr [w.enc] 0 0,.pptr [c.enc] 0 0,.int .i64 c.ins.length,.int .i64 k,.lst ((aI i).map c9),.int .i64 (j:Int)]) (by have:=nU i;omega) (by simp) rfl (fun j hj hd hi hG nx hn=>?_) (fun j hj hd hG nx=>?_)
 all_goals unfold bh
 ·have hx:=aG (f:=c9) hj
  have hw:=fb (aI i)[j] rg
  rw[←hrg]at hw
  cases hb:fc (aI i)[j] rg with
  | false=>
   rw[hb]at hw
   have:¬ ∀r∈aI i,0≤r∧r<c.regs:=fun h=>by
    have:=h _ (List.getElem_mem hj)
    rw[hrg,←bA,hb]at this
    cases this
   repeat' (first | refine st ?_ | ((with_reducible refine am 28 ?_);refine ae (hw) ?_) | ((with_reducible refine af 28 ?_);refine ab (hw) ?_) | refine sb (fun nb_ hnb_=>?_) | refine s2 (fun h=>?_) (fun h=>?_) | fail)
   exact hno this
  | true=>
   rw[hb]at hw
   repeat' (first | refine st ?_ | ((with_reducible refine am 28 ?_);refine ae (hw) ?_) | ((with_reducible refine af 28 ?_);refine ab (hw) ?_) | refine sb (fun nb_ hnb_=>?_) | refine s2 (fun h=>?_) (fun h=>?_) | fail)
   refine hn (mR hj hG ?_)
   rw[hrg]
   exact bA.1 hb
 ·subst hj
  rw[List.take_length]at hG
  repeat' (first | refine st ?_ | refine sb (fun nb_ hnb_=>?_) | refine s2 (fun h=>?_) (fun h=>?_) | fail)
  exact hgo hG
end
theorem lx(w:cj)(t:Nat)(c:pW)(hl:c.ins.length<2^48):ax Tryz.prog 13 [.agg w.enc,.int .i64 t,.agg c.enc] (.bool (cV (jd w t c))):=by
 refine gO _ _ _ _ _ ?_
 unfold dn
 generalize hQ:(fun(u:AV) (K:SH)=>u=AV.bool (cV (jd w t c))∧K=[])=Q
 have hq:∀b,cV (jd w t c)=b→Q (.bool b) []:=fun b hb=>by subst hQ;exact⟨by rw[hb],rfl⟩
 clear hQ
 by_cases h0:0≤c.regs∧c.regs≤32∧0<c.ins.length
 ·obtain⟨h0,h32,hn0⟩:=h0
  have d1:decide (c.regs<0)=false:=by simpa using h0
  have d2:decide (c.regs > 32)=false:=by simpa using h32
  have d3:decide ((c.ins.length:Int)=0)=false:=decide_eq_false (by omega)
  repeat' (first | refine st ?_ | refine sb (fun nb_ hnb_=>?_) | refine s2 (fun h=>?_) (fun h=>?_) | fail)
  refine iU c.ins.length (fun k=>∀j (h:j<c.ins.length),j<k→kN w t c.ins.length c.regs j c.ins[j]∧cC c.ins j) (fun k=>[.int .i64 t,.pptr [w.enc] 0 0,.pptr [c.enc] 0 0,.int .i64 c.ins.length,.int .i64 (k:Int)]) (by omega) (fun j h hj=>absurd hj (Nat.not_lt_zero _)) rfl (fun k hk hd hi hG nx hn=>?_) (fun k hk hd hG nx=>?_)
  all_goals unfold da
  ·have hx:=aG (f:=bu.enc) hk
   have hno:¬(kN w t c.ins.length c.regs k c.ins[k]∧cC c.ins k)→Q (.bool false) []:=fun h=>hq _ (aZ fun h2=>h ⟨h2.ins k hk,h2.lans k hk⟩)
   have hgo:kN w t c.ins.length c.regs k c.ins[k]→cC c.ins k→nx [.int .i64 t,.pptr [w.enc] 0 0,.pptr [c.enc] 0 0,.int .i64 c.ins.length,.int .i64 (k+1:Nat)] []:=fun h h2=>hn fun j hj hjk=>by
    rcases Nat.lt_or_ge j k with g | g
    ·exact hG j hj g
    ·have e:j=k:=by omega
     subst e;exact⟨h,h2⟩
   clear hn hG hq
   have hla:=tC c.ins k hl
   generalize hL:cV (cC c.ins k)=la at hla
   have hla1:la=true↔cC c.ins k:=by rw[←hL];exact cW
   clear hL
   generalize c.ins[k]=i at hx hno hgo
   have hob:=qw w i
   have hrg:=uq i
   have hja:=fb i.a c.ins.length
   have hjb:=fb i.b c.ins.length
   have hsi:=fb i.site w.sites.length
   have hl1:=fun hno hgo=>ur (w:=w) (t:=t) (k:=k) (i:=i) h0 Q nx hno hgo hl hk
   have hs1:IntKind.i64.wrap ((c.ins.length:Int)-1)=((c.ins.length-1:Nat):Int):=by rw[IntWalk.i64_in _ (by omega)];omega
   have hjm:oz c.ins.length i=if i.op=5 then fc i.a c.ins.length else if i.op=10 then fc i.b c.ins.length else true:=rfl
   generalize fc i.a c.ins.length=ja at *
   generalize fc i.b c.ins.length=jb at *
   have hno':¬(1≤i.op∧i.op≤28∧(i.op=28↔k+1=c.ins.length)∧(i.op=28→i.site=-1)∧(i.op≠28→fc i.site w.sites.length=true)∧(i.op≠28→(w.sites.getD i.site.toNat default).thread=t)∧(∀r∈aI i,0≤r∧r<c.regs)∧fI w i=true∧(i.op=5→ja=true)∧(i.op=10→jb=true)∧la=true)→Q (.bool false) []:=fun h=>hno fun h9=>h ⟨h9.1.lo,h9.1.hi,h9.1.last,h9.1.fin,h9.1.sin,h9.1.sth,h9.1.regs,h9.1.obj,fun h5=>by have:=h9.1.jmp;rw[hjm,if_pos h5]at this;exact this,fun h10=>by have:=h9.1.jmp;rw[hjm,if_neg (by omega),if_pos h10]at this;exact this,hla1.2 h9.2⟩
   have hgo':(1≤i.op∧i.op≤28∧(i.op=28↔k+1=c.ins.length)∧(i.op=28→i.site=-1)∧(i.op≠28→fc i.site w.sites.length=true)∧(i.op≠28→(w.sites.getD i.site.toNat default).thread=t)∧fI w i=true∧(i.op=5→ja=true)∧(i.op=10→jb=true)∧la=true)→W.loop (bh Q nx) [.int .i64 t,.pptr [w.enc] 0 0,.pptr [c.enc] 0 0,.int .i64 c.ins.length,.int .i64 k,.lst ((aI i).map c9),.int .i64 0] []:=fun h=>hl1 (fun h2=>hno' fun h3=>h2 h3.2.2.2.2.2.2.1) fun h2=>hgo ⟨h.1,h.2.1,h.2.2.1,h.2.2.2.1,h.2.2.2.2.1,h.2.2.2.2.2.1,h2,h.2.2.2.2.2.2.1,by
     rw[hjm]
     split
     ·rename_i h5;exact h.2.2.2.2.2.2.2.1 h5
     ·split
      ·rename_i h5;exact h.2.2.2.2.2.2.2.2.1 h5
      ·rfl⟩ (hla1.1 h.2.2.2.2.2.2.2.2.2)
   clear hno hgo hl1 hjm hla1
   generalize fI w i=ob at *
   generalize hrr:(aI i).map c9=rr at *
   have hrx:(∀r∈aI i,0≤r∧r<c.regs)=(∀r∈aI i,0≤r∧r<c.regs):=rfl
   generalize(∀r∈aI i,0≤r∧r<c.regs)=RP at *
   clear hrx hrr
   obtain⟨op,ia,ib,ic,m,site⟩:=i
   have he:bu.enc ⟨op,ia,ib,ic,m,site⟩=[.int .i64 op,.int .i64 ia,.int .i64 ib,.int .i64 ic,.int .i64 m,.int .i64 site]:=rfl
   rw[he]at hx hob hrg
   clear he
   dsimp only at *
   cases hb:fc site w.sites.length with
   | false=>
    rw[hb]at hsi hno' hgo'
    repeat' (first | with_reducible refine hgo' ?_ | refine st ?_ | ((with_reducible refine am 26 ?_);refine ae (hob) ?_) | ((with_reducible refine af 26 ?_);refine ab (hob) ?_) | ((with_reducible refine am 27 ?_);refine ae (hla) ?_) | ((with_reducible refine af 27 ?_);refine ab (hla) ?_) | ((with_reducible refine am 29 ?_);refine ae (hrg) ?_) | ((with_reducible refine af 29 ?_);refine ab (hrg) ?_) | ((with_reducible refine am 28 ?_);refine ae (hja) ?_) | ((with_reducible refine af 28 ?_);refine ab (hja) ?_) | ((with_reducible refine am 28 ?_);refine ae (hjb) ?_) | ((with_reducible refine af 28 ?_);refine ab (hjb) ?_) | ((with_reducible refine am 28 ?_);refine ae (hsi) ?_) | ((with_reducible refine af 28 ?_);refine ab (hsi) ?_) | refine sb (fun nb_ hnb_=>?_) | refine s2 (fun h=>?_) (fun h=>?_) | fail)
    all_goals first
     | (refine hno' fun h9=>?_;obtain⟨f1,f2,f3,f4,f5,f6,f7,f8,f9,f10,f11⟩:=h9;clear hob hla hrg hja hjb hsi hx hno' hgo' f7;simp only[decide_eq_true_eq,decide_eq_false_iff_not,ge_iff_le,gt_iff_lt,ne_eq,Decidable.not_not,decide_eq_decide,Bool.not_eq_true',Bool.not_eq_false',Bool.not_eq_true,Bool.not_eq_false,Bool.false_eq_true,imp_false]at *;grind)
     | (refine hgo' ?_;clear hob hla hrg hja hjb hsi hx hno' hgo';simp only[decide_eq_true_eq,decide_eq_false_iff_not,ge_iff_le,gt_iff_lt,ne_eq,Decidable.not_not,decide_eq_decide,Bool.not_eq_true',Bool.not_eq_false',Bool.not_eq_true,Bool.not_eq_false,Bool.false_eq_true,imp_false]at *;grind)
   | true=>
    rw[hb]at hsi hno' hgo'
    obtain⟨ks,rfl⟩:=Int.eq_ofNat_of_zero_le (dG hb)
    have hks:ks<w.sites.length:=by have:=(bA.1 hb).2;omega
    have hx2:=aG (f:=d6.enc) hks
    rw[Int.toNat_natCast,List.getD_eq_getElem?_getD,List.getElem?_eq_getElem hks,Option.getD_some]at hno' hgo'
    generalize w.sites[ks]=s at *
    obtain⟨th,sm,ln⟩:=s
    unfold d6.enc at hx2
    dsimp only at *
    repeat' (first | with_reducible refine hgo' ?_ | refine st ?_ | ((with_reducible refine am 26 ?_);refine ae (hob) ?_) | ((with_reducible refine af 26 ?_);refine ab (hob) ?_) | ((with_reducible refine am 27 ?_);refine ae (hla) ?_) | ((with_reducible refine af 27 ?_);refine ab (hla) ?_) | ((with_reducible refine am 29 ?_);refine ae (hrg) ?_) | ((with_reducible refine af 29 ?_);refine ab (hrg) ?_) | ((with_reducible refine am 28 ?_);refine ae (hja) ?_) | ((with_reducible refine af 28 ?_);refine ab (hja) ?_) | ((with_reducible refine am 28 ?_);refine ae (hjb) ?_) | ((with_reducible refine af 28 ?_);refine ab (hjb) ?_) | ((with_reducible refine am 28 ?_);refine ae (hsi) ?_) | ((with_reducible refine af 28 ?_);refine ab (hsi) ?_) | refine sb (fun nb_ hnb_=>?_) | refine s2 (fun h=>?_) (fun h=>?_) | fail)
    all_goals first
     | (refine hno' fun h9=>?_;obtain⟨f1,f2,f3,f4,f5,f6,f7,f8,f9,f10,f11⟩:=h9;clear hob hla hrg hja hjb hsi hx hx2 hno' hgo' f7;simp only[decide_eq_true_eq,decide_eq_false_iff_not,ge_iff_le,gt_iff_lt,ne_eq,Decidable.not_not,decide_eq_decide,Bool.not_eq_true',Bool.not_eq_false',Bool.not_eq_true,Bool.not_eq_false,Bool.false_eq_true,imp_false]at *;grind)
     | (refine hgo' ?_;clear hob hla hrg hja hjb hsi hx hx2 hno' hgo';simp only[decide_eq_true_eq,decide_eq_false_iff_not,ge_iff_le,gt_iff_lt,ne_eq,Decidable.not_not,decide_eq_decide,Bool.not_eq_true',Bool.not_eq_false',Bool.not_eq_true,Bool.not_eq_false,Bool.false_eq_true,imp_false]at *;grind)
  ·subst hk
   repeat' (first | refine st ?_ | refine sb (fun nb_ hnb_=>?_) | refine s2 (fun h=>?_) (fun h=>?_) | fail)
   exact hq _ (bJ ⟨h0,h32,hn0,fun j h=>(hG j h h).1,fun j h=>(hG j h h).2⟩)
 ·have hno:=hq _ (aZ fun h=>h0 ⟨h.r0,h.r32,h.ne⟩)
  repeat' (first | refine st ?_ | refine sb (fun nb_ hnb_=>?_) | refine s2 (fun h=>?_) (fun h=>?_) | fail)
  all_goals first
   | exact hno
   | (exfalso;refine h0 ?_;simp only[decide_eq_true_eq,decide_eq_false_iff_not]at *;omega)
theorem rW(c:CodD)(hl:∀t∈c.ts,t.ins.length<2^48):ax Tryz.prog 4 [.agg c.enc] (.bool (cV (qu c))):=by
 have hw:=rV c.w
 have ht:=fun i (h:i<c.ts.length)=>lx c.w i c.ts[i] (hl _ (List.getElem_mem h))
 obtain⟨w,ts⟩:=c
 dsimp only at *
 refine mE _ _ _ ?_
 unfold iS
 generalize hQ:(fun(u:AV) (K:SH)=>u=AV.bool (cV (qu ⟨w,ts⟩))∧K=[])=Q
 have hq:∀b,cV (qu ⟨w,ts⟩)=b→Q (.bool b) []:=fun b hb=>by subst hQ;exact⟨by rw[hb],rfl⟩
 clear hQ
 cases hW:cV (kQ w)with
 | false=>
  rw[hW]at hw
  repeat' (first | refine st ?_ | ((with_reducible refine am 12 ?_);refine ae (hw) ?_) | ((with_reducible refine af 12 ?_);refine ab (hw) ?_) | refine sb (fun nb_ hnb_=>?_) | refine s2 (fun h=>?_) (fun h=>?_) | fail)
  all_goals exact hq _ (aZ fun h=>by have:=h.world;rw[bJ this]at hW;cases hW)
 | true=>
  rw[hW]at hw
  have hW:=cW.1 hW
  by_cases hlen:ts.length=w.threads.length
  ·have e1:decide ((ts.length:Int)≠(w.threads.length:Int))=false:=by simp[hlen]
   have h4:=hW.t4
   repeat' (first | refine st ?_ | ((with_reducible refine am 12 ?_);refine ae (hw) ?_) | ((with_reducible refine af 12 ?_);refine ab (hw) ?_) | refine sb (fun nb_ hnb_=>?_) | refine s2 (fun h=>?_) (fun h=>?_) | fail)
   refine iU ts.length (fun k=>∀j (h:j<ts.length),j<k→jd w j ts[j]) (fun k=>[.pptr [(⟨w,ts⟩:CodD).enc] 0 0,.int .i64 k]) (by omega) (fun j h hj=>absurd hj (Nat.not_lt_zero _)) rfl (fun k hk hd hi hG nx hn=>?_) (fun k hk hd hG nx=>?_)
   all_goals unfold gP
   ·have hx:=aG (f:=pW.enc) hk
    have hok:=ht k hk
    have hbad:¬jd w k ts[k]→Q (.bool false) []:=fun h=>hq _ (aZ fun h2=>h (h2.thr k hk))
    have hgo:jd w k ts[k]→nx [.pptr [(⟨w,ts⟩:CodD).enc] 0 0,.int .i64 ((k+1:Nat):Int)] []:=fun h=>hn fun j hj hjk=>by
     rcases Nat.lt_or_ge j k with g | g
     ·exact hG j hj g
     ·have e:j=k:=by omega
      subst e;exact h
    clear hn hG
    generalize ts[k]=c at *
    obtain⟨rg,ins⟩:=c
    cases hT:cV (jd w k ⟨rg,ins⟩)with
    | false=>
     rw[hT]at hok
     repeat' (first | refine st ?_ | ((with_reducible refine am 13 ?_);refine ae (hok) ?_) | ((with_reducible refine af 13 ?_);refine ab (hok) ?_) | refine sb (fun nb_ hnb_=>?_) | refine s2 (fun h=>?_) (fun h=>?_) | fail)
     exact hbad fun h=>by rw[bJ h]at hT;cases hT
    | true=>
     rw[hT]at hok
     repeat' (first | refine st ?_ | ((with_reducible refine am 13 ?_);refine ae (hok) ?_) | ((with_reducible refine af 13 ?_);refine ab (hok) ?_) | refine sb (fun nb_ hnb_=>?_) | refine s2 (fun h=>?_) (fun h=>?_) | fail)
     exact hgo (cW.1 hT)
   ·repeat' (first | refine st ?_ | refine sb (fun nb_ hnb_=>?_) | refine s2 (fun h=>?_) (fun h=>?_) | fail)
    exact hq _ (bJ ⟨hW,hlen,fun j h=>hG j h (by have:j<ts.length:=h;omega)⟩)
  ·have e1:decide ((ts.length:Int)≠(w.threads.length:Int))=true:=by simp;omega
   repeat' (first | refine st ?_ | ((with_reducible refine am 12 ?_);refine ae (hw) ?_) | ((with_reducible refine af 12 ?_);refine ab (hw) ?_) | refine sb (fun nb_ hnb_=>?_) | refine s2 (fun h=>?_) (fun h=>?_) | fail)
   all_goals exact hq _ (aZ fun h=>hlen h.len)
end Go.Proofs.YtelgfgfgghpjgaaGreatDoor.Am
end
