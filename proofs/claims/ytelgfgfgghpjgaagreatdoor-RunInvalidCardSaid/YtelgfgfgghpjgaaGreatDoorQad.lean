/- A part of the proof; the statement is proved in the last part. -/
import Derived.Test.YtelgfgfgghpjgaaGreatDoorQac
set_option linter.unusedSimpArgs false
set_option linter.unusedVariables false
section
namespace Go.Proofs.YtelgfgfgghpjgaaGreatDoor.Am
set_option linter.unusedVariables false
def jH(ops:Array Oper):Prop:=∀(i:Nat) (o:Oper),ops[i]? =some o→∀e∈o.after.toList,Region.binds .any e=true→e.on<i
def ec:Code→Prop
 | .region _ ops draw=>draw=true→fm ops∧jH ops
 | .seq a b=>ec a∧ec b
 | .cond _ a b=>ec a∧ec b
 | .block _ b=>ec b
 | .loop b=>ec b
 | _=>True
section
variable {P:Program} {F:TypeId→Option (List TypeId)} {call:FuncId→List AV→aa→Option (AV×aa)} {ops:Array Oper} {base:Nat} {τ0:List AV} {H0:aa}
theorem fo(hs:bY P call){before:List Nat}:∀(l:List Nat) (τ τ':List AV) (H K:aa) (rs rs':List iL),bI P F call ops base before l τ H rs=some (τ',K,rs')→H.next≤K.next
 | [],τ,τ',H,K,rs,rs',h=>by cases h;exact Nat.le_refl _
 | i::l,τ,τ',H,K,rs,rs',h=>by
  have key:∀{mask τ1 H1 r},az P F call ops base i mask τ H=some (τ1,H1,r)→H.next≤H1.next:=fun {mask τ1 H1 r} hd=>by
   unfold az at hd
   split at hd
   ·cases hd
   ·split at hd
    ·split at hd
     ·rename_i hop;cases hd;have:=lR hop;exact Nat.le_of_eq this.symm
     ·split at hd
      ·rename_i hcall
       cases hd
       have:=hs.next _ _ _ _ _ hcall
       show H.next≤(dh _ _ _ _ _).next
       rw[(cP _ _ _ _ _).1]
       have h2:=(cl base mask i H).1
       simp only[]at this
       omega
      ·cases hd
     ·cases hd
    ·cases hd;exact Nat.le_refl _
    ·cases hd
  unfold bI at h
  split at h
  ·rename_i hd;exact Nat.le_trans (key hd) (fo hs l _ _ _ _ _ _ h)
  ·rename_i hd
   split at h
   ·exact Nat.le_trans (key hd) (fo hs l _ _ _ _ _ _ h)
   ·cases h
  ·cases h
def cnt(L:Nat→Bool):Nat→Nat
 | 0=>0
 | k+1=>cnt L k+(if L k then 0 else 1)
theorem pd{L:Nat→Bool}:∀{n:Nat},cnt L n=0→∀i,i<n→L i=true
 | n+1,h,i,hi=>by
  unfold cnt at h
  rcases Nat.eq_or_lt_of_le (Nat.le_of_lt_succ hi)with rfl | hlt
  ·cases hL:L i with
   | true=>rfl
   | false=>rw[hL]at h;simp at h
  ·exact pd (by omega) i hlt
theorem nJ{L M:Nat→Bool}:∀{n:Nat},(∀i,i<n→L i=M i)→cnt L n=cnt M n
 | 0,_=>rfl
 | n+1,h=>by rw[cnt,cnt,nJ fun i hi=>h i (by omega),h n (by omega)]
theorem qN{L:Nat→Bool}{i:Nat}(hL:L i=false):∀{n:Nat},i<n→cnt (dz L i) n+1=cnt L n
 | n+1,hi=>by
  unfold cnt
  rcases Nat.eq_or_lt_of_le (Nat.le_of_lt_succ hi)with rfl | hlt
  ·rw[nJ (M:=L) fun j hj=>by simp[dz,show¬j=i by omega]]
   simp[dz,hL]
  ·have:=qN hL hlt
   have e:dz L i n=L n:=by simp[dz,show¬n=i by omega]
   rw[e]
   omega
theorem nK:∀n,cnt (fun _=>false) n=n
 | 0=>rfl
 | n+1=>by simp[cnt,nK n]
theorem nL{L:Nat→Bool}:∀n,(∀i,i<n→L i=true)∨∃i,i<n∧L i=false∧∀j,j<i→L j=true
 | 0=>.inl fun i hi=>by omega
 | n+1=>by
  rcases nL (L:=L) n with h | ⟨i,h1,h2,h3⟩
  ·by_cases hL:L n=true
   ·left
    intro i hi
    rcases Nat.eq_or_lt_of_le (Nat.le_of_lt_succ hi)with rfl | hlt
    ·exact hL
    ·exact h i hlt
   ·exact .inr ⟨n,by omega,by simpa using hL,h⟩
  ·exact .inr ⟨i,by omega,h2,h3⟩
theorem ke{l:Array Bool}{i:Nat}(hi:i<l.size):l.getD i true=l.getD i false:=by simp[Array.getD,hi]
theorem rC(fit:p7 P F)(hs:bY P call)(hch:∀f args H v H',Bd H→call f args H=some (v,H')→kU H H')(run:eU P F call ops base τ0 H0)(rf:bc P F call ops base τ0 H0)(hst:fm ops)(hed:jH ops)(hb:base+ops.size=H0.next)
  {w0:World} {σ0:aC} {Q:Exit→Act→World→Prop} (hQ:∀a w,vP P F call ops base τ0 H0 w0 σ0 (fun i=>decide (i<ops.size)) a w→Q .normal a w) :
  ∀(fuel:Nat) (listed:Array Bool) (a:Act) (w:World),listed.size=ops.size→oa ops (fun i=>listed.getD i false)→cnt (fun i=>listed.getD i false) ops.size≤fuel→
   vP P F call ops base τ0 H0 w0 σ0 (fun i=>listed.getD i false) a w→wpAny P .any ops Q fuel listed a w:=by
 intro fuel
 induction fuel with
 | zero=>
  intro listed a w hsz hcl hf hI
  have hall:=pd (by omega:cnt (fun i=>listed.getD i false) ops.size=0)
  unfold wpAny
  refine⟨?_,?_⟩
  ·unfold Region.ready
   rw[List.filter_eq_nil_iff]
   intro i hi
   rw[List.mem_range]at hi
   have:=hall i hi
   rw[ke (by omega),this]
   simp
  ·refine hQ a w ?_
   have e:(fun i=>listed.getD i false)=fun i=>decide (i<ops.size):=by
    funext i
    by_cases hi:i<ops.size
    ·rw[hall i hi];simp[hi]
    ·simp[Array.getD,hsz,hi]
   rw[←e];exact hI
 | succ fuel ih=>
  intro listed a w hsz hcl hf hI
  unfold wpAny
  refine⟨fun hr=>?_,fun i hi=>?_⟩
  ·rcases nL (L:=fun i=>listed.getD i false) ops.size with hall | ⟨i,h1,h2,h3⟩
   ·refine hQ a w ?_
    have e:(fun i=>listed.getD i false)=fun i=>decide (i<ops.size):=by
     funext i
     by_cases hi:i<ops.size
     ·rw[hall i hi];simp[hi]
     ·simp[Array.getD,hsz,hi]
    rw[←e];exact hI
   ·exfalso
    unfold Region.ready at hr
    rw[List.filter_eq_nil_iff]at hr
    have ho:ops[i]? =some ops[i]:=Array.getElem?_eq_getElem h1
    refine hr i (by rw[List.mem_range];exact h1) ?_
    rw[ke (by omega),ho]
    rw[h2]
    simp only[Bool.not_false,Bool.true_and,Option.map_some,Option.getD_some]
    rw[Array.all_eq_true_iff_forall_mem]
    intro e he
    cases hbn:Region.binds .any e with
    | false=>rfl
    | true=>
     have:=h3 e.on (hed i _ ho e (by rw[Array.mem_toList_iff];exact he) hbn)
     rw[this];rfl
  ·unfold Region.ready at hi
   rw[List.mem_filter,List.mem_range]at hi
   obtain⟨hi1,hi2⟩:=hi
   obtain⟨o,ho⟩:∃o,ops[i]? =some o:=⟨_,Array.getElem?_eq_getElem hi1⟩
   rw[Bool.and_eq_true,ho]at hi2
   obtain⟨hi2,hi3⟩:=hi2
   have hnot:listed.getD i false=false:=by
    rw[←ke (by omega)]
    simpa using hi2
   simp only[Option.map_some,Option.getD_some]at hi3
   rw[Array.all_eq_true_iff_forall_mem]at hi3
   have nx:Next ops (fun i=>listed.getD i false) i:=⟨hi1,hnot,hcl,fun o' ho' e he hbn=>by
    rw[ho]at ho'
    cases ho'
    have:=hi3 e (by rw[←Array.mem_toList_iff];exact he)
    rw[hbn]at this
    simpa using this⟩
   have eL:(fun j=>(listed.setIfInBounds i true).getD j false)=dz (fun j=>listed.getD j false) i:=by
    funext j
    unfold dz
    by_cases hj:j=i
    ·subst hj
     rw[if_pos rfl]
     simp[Array.getD,show j<listed.size by omega]
    ·rw[if_neg hj]
     by_cases hjl:j<listed.size
     ·simp[Array.getD,hjl,show¬i=j by omega]
     ·simp[Array.getD,hjl]
   refine wpOp_mono (fun a' w' hI'=>?_) (sj fit hs hch run rf hst hb nx hI)
   refine ih _ a' w' (by simpa using hsz) ?_ ?_ (by rw[eL];exact hI')
   ·rw[eL]
    intro j oj hoj hLj e he hbn
    unfold dz at hLj ⊢
    split
    ·rfl
    ·split at hLj
     ·rename_i _ hji
      subst hji
      exact nx.edges oj hoj e he hbn
     ·exact hcl j oj hoj hLj e he hbn
   ·rw[eL]
    have:=qN (L:=fun j=>listed.getD j false) hnot hi1
    omega
theorem lZ(fit:p7 P F)(hs:bY P call)(hch:∀f args H v H',Bd H→call f args H=some (v,H')→kU H H')(hst:fm ops)(hed:jH ops){τ τ':List AV}{H H':aa}(h:cg P F call ops true τ H=some (τ',H')):
  H.next≤H'.next∧∀(id:Nat) (w:World) (σ:aC) (a:Act),ay w σ H→aQ w σ (aq σ H) τ a→∀Q:Exit→Act→World→Prop,(∀a' w',jA w σ H τ' H' a' w'→Q .normal a' w')→(Code.region id ops true).wp P Q a w:=by
 simp only[cg,if_true]at h
 split at h
 ·rename_i τq K rs hd
  cases h
  refine⟨Nat.le_trans (Nat.le_add_right _ _) (fo hs _ _ _ _ _ _ _ hd),fun id w σ a hW hτ Q hQ=>?_⟩
  have hbd:Bd H:=fun b hb=>by
   cases hg:H.get b with
   | none=>rfl
   | some x=>
    obtain⟨pl,_,_,h1,_⟩:=hW.live b x hg
    have:=hW.named b pl h1
    omega
  have hn:H.next+ops.size=({H with next:=H.next+ops.size}:aa).next:=rfl
  have hg0:∀b,({H with next:=H.next+ops.size}:aa).get b=H.get b:=fun _=>rfl
  have hW0:ay w σ {H with next:=H.next+ops.size}:=hW.congr hg0 (Nat.le_add_right _ _)
  have ho0:aq σ {H with next:=H.next+ops.size}=aq σ H:=aq.congr hg0
  generalize hH0:({H with next:=H.next+ops.size}:aa)=H0 at hd hn hg0 hW0 ho0
  have hbd0:Bd H0:=fun b hb=>by rw[hg0];exact hbd b (by omega)
  rw[List.range_eq_range']at hd
  obtain⟨a1,a2,a3⟩:=sf (P:=P) (F:=F) (call:=call) (ops:=ops) (base:=H.next) (τ0:=τ) (H0:=H0) ops.size 0 [] rs τ' K hd (fun j x hj=>by omega)
  simp only[Nat.zero_add]at a1 a2 a3
  have run:eU P F call ops H.next τ H0:=⟨fun i hi=>a1 i (Nat.zero_le _) hi,fun i j x r hji hi hx hr=>a2 i j x r (Nat.zero_le _) hi hji hx hr⟩
  have rf:=rB hch run hbd0 hn (fun j hj=>by rw[hg0];exact hbd _ (Nat.le_add_right _ _))
  have hnone:∀(p:Nat→Bool) n,aO (fun j=>false&&p j) n=none:=fun p n=>by
   rw[i6 (k:=0) (Nat.zero_le _) (fun i _ _=>by simp)];rfl
  have hall:∀(p:Nat→Bool) n,aO (fun j=>decide (j<n)&&p j) n=aO p n:=fun p n=>eb fun i hi=>by simp[hi]
  refine wp_region_any fit.order (rC (w0:=w) (σ0:=σ) fit hs hch run rf hst hed hn ?_ ops.size _ a _ (by simp) ?_ ?_ ?_)
  ·intro a' w' hI
   obtain⟨σ',K',k1,k2,k3,k4,k5,k6,k7,k8,_⟩:=hI
   have eS:(bL P F call ops H.next τ H0 ops.size)=(τ',K):=a3.symm
   have hget':∀c,K'.get c=K.get c:=fun c=>by
    have:=qh run rf c ops.size (Nat.le_refl _)
    rw[eS]at this
    rw[k2,hget,hall]
    exact this.symm
   have hnx:K'.next=K.next:=by
    have:=qi run ops.size (Nat.le_refl _)
    rw[eS]at this
    rw[k3,oc,hall]
    exact this.symm
   have htg:∀t,gB P F call ops H.next τ H0 (fun i=>decide (i<ops.size)) t=τ'[t]? :=fun t=>by
    have:=qg run t ops.size (Nat.le_refl _)
    rw[eS]at this
    rw[gB,hall]
    exact this.symm
   have hlen:τ'.length=τ.length:=by have:=rf.len ops.size (Nat.le_refl _);rw[eS]at this;exact this
   have hoK:aq σ' ({K with log:=rs.flatMap (·.writes)++K.log}:aa)=aq σ' K':=aq.congr fun b=>(hget' b).symm
   refine hQ a' w' ⟨σ',⟨⟨by simp[hlen,k4],fun t x u hx hu=>?_⟩,k5⟩,k1.congr (fun b=>(hget' b).symm) (by rw[hnx];exact Nat.le_refl _),by rw[hoK,←ho0];exact k7,fun c pl hc=>k8 c pl hc⟩
   rw[hoK]
   exact k6 t x u (by rw[htg];exact hx) (by rw[←Array.getElem?_toList];exact hu)
  ·intro i o ho hL
   simp[Array.getD]at hL
  ·have:(fun i=>(Array.replicate ops.size false).getD i false)=fun _=>false:=by funext i;simp[Array.getD]
   rw[this,nK]
   exact Nat.le_refl _
  ·have:(fun i=>(Array.replicate ops.size false).getD i false)=fun _=>false:=by funext i;simp[Array.getD]
   rw[this]
   refine⟨σ,H0,hW0.same rfl rfl rfl rfl,fun c=>by rw[hget,hnone],by rw[oc,hnone],by have:=hτ.1.1;simpa using this.symm,hτ.2,fun t x u hx hu=>?_,bV.same σ _ rfl rfl rfl rfl,fun c pl hc=>.inl hc,fun i hi _=>?_⟩
   ·rw[gB,hnone]at hx
    have:=hτ.1.2 t x u hx (by rw[Array.getElem?_toList];exact hu)
    rw[←ho0]at this
    have e:bV w σ (aq σ H0) {w with drawn:=w.drawn+1} σ (aq σ H0):=bV.same σ _ rfl rfl rfl rfl
    exact this.mono e
   ·cases hg:σ (H.next+i)with
    | none=>rfl
    | some pl=>have:=hW.named _ pl hg;omega
 ·cases h
def ek(P:Program)(n:Nat)(c:Code)(τ:List AV)(H:aa)(e:Ex)(τ':List AV)(H':aa):Prop:=
 H.next≤H'.next∧∀(w:World) (σ:aC) (a:Act),ay w σ H→aQ w σ (aq σ H) τ a→∀Q:Exit→Act→World→Prop,(∀a' w',jA w σ H τ' H' a' w'→Q (qc e) a' w')→Code.rounds P c Q n a w
end
end Go.Proofs.YtelgfgfgghpjgaaGreatDoor.Am
end
section
namespace Go.Proofs.YtelgfgfgghpjgaaGreatDoor.Am
open Go.RowKit
set_option linter.unusedVariables false
def qO(ops:Array Oper):Bool:=
 let M:=aH ops.toList []
 let N:=ops.toList.map fun o=>(o.dst,df ops o)
 (List.range ops.size).all fun i=>(List.range i).all fun j=>
  (M.getD i 0).testBit j ||
  (match N[i]?,N[j]? with
   | some (di,ni),some (dj,nj)=>(match dj with | some t=>!ni.contains t | none=>true)&&(match di with | some t=>!nj.contains t | none=>true)
   | _,_=>true)
def od(ops:Array Oper):Bool:=(List.range ops.size).all fun i=>match ops[i]? with
 | some o=>o.after.toList.all fun e=>!Region.binds .any e||decide (e.on<i)
 | none=>true
def dC:Code→Bool
 | .region _ ops draw=>!draw||(qO ops&&od ops)
 | .seq a b=>dC a&&dC b
 | .cond _ a b=>dC a&&dC b
 | .block _ b=>dC b
 | .loop b=>dC b
 | _=>true
theorem pe{ops:Array Oper}(h:qO ops=true):fm ops:=by
 intro i j oi oj hji hoi hoj
 have hi:i<ops.size:=(Array.getElem?_eq_some_iff.1 hoi).1
 unfold qO at h
 simp only[List.all_eq_true,List.mem_range]at h
 have h1:=h i hi j hji
 have ei:(ops.toList.map fun o=>(o.dst,df ops o))[i]? =some (oi.dst,df ops oi):=by rw[List.getElem?_map,Array.getElem?_toList,hoi];rfl
 have ej:(ops.toList.map fun o=>(o.dst,df ops o))[j]? =some (oj.dst,df ops oj):=by rw[List.getElem?_map,Array.getElem?_toList,hoj];rfl
 rw[ei,ej]at h1
 simp only[Bool.or_eq_true,Bool.and_eq_true]at h1
 rcases h1 with h1 | ⟨h1,h2⟩
 ·exact .inl h1
 ·right
  refine⟨fun t ht=>?_,fun t ht=>?_⟩
  ·rw[ht]at h1;simpa using h1
  ·rw[ht]at h2;simpa using h2
theorem nM{ops:Array Oper}(h:od ops=true):jH ops:=by
 intro i o ho e he hb
 have hi:i<ops.size:=(Array.getElem?_eq_some_iff.1 ho).1
 unfold od at h
 simp only[List.all_eq_true,List.mem_range]at h
 have h1:=h i hi
 rw[ho]at h1
 simp only[List.all_eq_true]at h1
 have:=h1 e he
 rw[hb]at this
 simpa using this
theorem cQ:∀(c:Code),dC c=true→ec c
 | .region _ ops draw,h=>fun hd=>by
  subst hd
  simp only[dC,Bool.not_true,Bool.false_or,Bool.and_eq_true]at h
  exact⟨pe h.1,nM h.2⟩
 | .seq a b,h=>by simp only[dC,Bool.and_eq_true]at h;exact⟨cQ a h.1,cQ b h.2⟩
 | .cond _ a b,h=>by simp only[dC,Bool.and_eq_true]at h;exact⟨cQ a h.1,cQ b h.2⟩
 | .block _ b,h=>cQ b h
 | .loop b,h=>cQ b h
 | .skip,_=>trivial
 | .rangeFunc ..,_=>trivial
 | .exit _,_=>trivial
 | .scope _,_=>trivial
 | .label _,_=>trivial
 | .goto _,_=>trivial
 | .ret,_=>trivial
 | .refuse _,_=>trivial
def pf (fn : Func) : Bool := (fn.name != "runtime.NumGoroutine") && (match fn.body with | some c => dC c | none => true)
theorem uG {P : Program} (h : P.funcs.toList.all pf = true) : (∀ (g : Nat) (fn : Func), P.funcs[g]? = some fn → fn.name ≠ "runtime.NumGoroutine") ∧ ∀ (g : Nat) (fn : Func) (c : Code), P.funcs[g]? = some fn → fn.body = some c → ec c := by
 rw[List.all_eq_true]at h
 have key:∀(g:Nat) (fn:Func),P.funcs[g]? =some fn→pf fn=true:=fun g fn hg=>h fn (by rw[Array.mem_toList_iff];exact Array.mem_of_getElem? hg)
 refine⟨fun g fn hg=>?_,fun g fn c hg hc=>?_⟩
 ·have:=key g fn hg
  simp only[pf,Bool.and_eq_true]at this
  simpa using this.1
 ·have:=key g fn hg
  simp only[pf,Bool.and_eq_true,hc]at this
  exact cQ c this.2
end Go.Proofs.YtelgfgfgghpjgaaGreatDoor.Am
end
section
namespace Go.Proofs.YtelgfgfgghpjgaaGreatDoor.Am
open Go.RowKit
set_option linter.unusedVariables false
inductive bt:AV→Prop where
 | int (k:IntKind) (n:Int):bt (.int k n)
 | bool (b:Bool):bt (.bool b)
 | str (s:List UInt8):bt (.str s)
 | nilp:bt .nilp
 | nils:bt .nils
 | emp:bt .emp
 | nilf:bt .nilf
 | junk:bt .junk
 | lst (rows:List (List AV)) (h:∀(i:Nat) (r:List AV) (j:Nat) (a:AV),rows[i]? =some r→r[j]? =some a→bt a):bt (.lst rows)
 | agg (cs:List AV) (h:∀(i:Nat) (a:AV),cs[i]? =some a→bt a):bt (.agg cs)
 | tup (cs:List AV) (h:∀(i:Nat) (a:AV),cs[i]? =some a→bt a):bt (.tup cs)
 | fn (f:FuncId) (cs:List AV) (h:∀(i:Nat) (a:AV),cs[i]? =some a→bt a):bt (.fn f cs)
section
variable {P:Program} {F:TypeId→Option (List TypeId)} {w w':World} {σ σ':aC} {T T':Nat→Prop}
theorem i1.shrink{rows:List (List AV)}{b o sz:Nat}(h:i1 w T rows b o sz)(hT:∀c,T' c→T c):i1 w T' rows b o sz:=⟨fun ht=>h.out (hT b ht),h.even,h.cell,h.pos,h.ne⟩
theorem bt.rep{a:AV}(hp:bt a):∀{v:Value},aw w σ T a v→(∀c,T' c→T c)→aw w σ' T' a v:=by
 induction hp with
 | int k n=>intro v h _;cases h;exact .int k n
 | bool b=>intro v h _;cases h;exact .bool b
 | str s=>intro v h _;cases h;exact .str _
 | nilp=>intro v h _;cases h;exact .nilp
 | nils=>intro v h _;cases h;exact .nils
 | emp=>intro v h _;cases h;exact .emp _
 | nilf=>intro v h _;cases h;exact .nilf
 | junk=>intro v h _;exact .junk v
 | lst rows h ih=>
  intro v hr hT
  cases hr with
  | lst0 a cap hm=>exact .lst0 a cap hm
  | lst _ b o sz cap hl hn hm hc=>exact .lst rows b o sz cap (hl.shrink hT) hn hm fun i r j a u h1 h2 h3=>ih i r j a h1 h2 (hc i r j a u h1 h2 h3) hT
 | agg cs h ih=>
  intro v hr hT
  cases hr with
  | agg _ vs hl hc=>exact .agg cs vs hl fun i a v h1 h2=>ih i a h1 (hc i a v h1 h2) hT
 | tup cs h ih=>
  intro v hr hT
  cases hr with
  | tup _ vs hl hc=>exact .tup cs vs hl fun i a v h1 h2=>ih i a h1 (hc i a v h1 h2) hT
 | fn f cs h ih=>
  intro v hr hT
  cases hr with
  | fn _ _ vs hl hc=>exact .fn f cs vs hl fun i a v h1 h2=>ih i a h1 (hc i a v h1 h2) hT
theorem bb(b:Nat):aa.empty.get b=none:=Tr.get_leaf b
def sk(P:Program)(f:FuncId)(args:List AV)(v:AV):Prop:=
 ∀(w:World) (σ:aC) (vs:List Value),ay w σ aa.empty→bk w σ (aq σ aa.empty) args vs→Calls P f vs.toArray w fun e w'=>
  ∃v' σ' H',e=.returned v'∧aw w' σ' (aq σ' H') v v'∧bV w σ (aq σ aa.empty) w' σ' (aq σ' H')
theorem xE{f:FuncId}{args:List AV}{v:AV}(hv:bt v)(ha:∀(i:Nat) (a:AV),args[i]? =some a→bt a)(h:sk P f args v)(H:aa):gy P f args H v H:=by
 intro w σ vs hW hvs
 have hown:aq ⟨fun _=>none,aq σ H⟩ aa.empty=aq σ H:=by
  funext c
  apply propext
  constructor
  ·rintro(h1 | ⟨b,x,pl,h1,_,_⟩)
   ·exact h1
   ·rw[bb]at h1;cases h1
  ·exact .inl
 have hlt:∀c,aq σ H c→c<w.heap.size:=fun c hc=>by
  rcases hc with hc | ⟨b,x,pl,h1,h2,rfl⟩
  ·exact(hW.apart c hc).1
  ·exact hW.lt b pl h2
 have hWe:ay w ⟨fun _=>none,aq σ H⟩ aa.empty:=⟨fun b pl hb=>(by cases hb),fun b pl hb=>(by cases hb),fun b x hb=>(by rw[bb]at hb;cases hb),
  fun c hc=>⟨hlt c hc,fun⟨b,x,pl,h1,_,_⟩=>(by rw[bb]at h1;cases h1)⟩,fun b b' x x' pl pl' hb=>(by rw[bb]at hb;cases hb),by rw[hown];exact hW.glob⟩
 refine(h w _ vs hWe ⟨hvs.1,fun i a u h1 h2=>(ha i a h1).rep (hvs.2 i a u h1 h2) (fun c hc=>by rw[hown]at hc;exact hc)⟩).mono ?_
 rintro e w' ⟨v',σ',H1,rfl,k1,k3⟩
 have hE:bV w σ (aq σ H) w' σ (aq σ H):=
  ⟨k3.os,k3.tape,k3.output,k3.size,fun c hc hT=>k3.keep c hc (by rw[hown];exact hT),k3.shape,fun _ _ h=>h,rfl,fun c hc=>k3.frame c (.inl hc),fun c hc=>.inl hc⟩
 refine⟨v',σ,rfl,hv.rep k1 (fun c hc=>.inl (by rw[k3.eqfr];exact hc)),⟨hW.named,fun b pl hb=>Nat.lt_of_lt_of_le (hW.lt b pl hb) k3.size,fun b x hb=>?_,fun c hc=>⟨Nat.lt_of_lt_of_le (hW.apart c hc).1 k3.size,(hW.apart c hc).2⟩,hW.inj,hW.glob.mono hE⟩,hE,fun c pl hc=>.inl hc⟩
 obtain⟨pl,cs,e,h1,h2⟩:=hW.live b x hb
 exact⟨pl,cs,e,h1,h2.mono hE (k3.frame _ (.inr ⟨b,x,pl,hb,h1,rfl⟩))⟩
def tJ(P:Program)(c:Code)(Q:Ex→List AV→aa→Prop)(τ:List AV)(H:aa):Prop:=
 ∀(w:World) (σ:aC) (a:Act),ay w σ H→aQ w σ (aq σ H) τ a→∀Q':Exit→Act→World→Prop,
  (∀e τ' H' a' w',Q e τ' H'→H.next≤H'.next→jA w σ H τ' H' a' w'→Q' (qc e) a' w')→c.wp P Q' a w
variable {c c1 c2:Code} {Q Q2:Ex→List AV→aa→Prop} {τ:List AV} {H:aa}
def Ex.then(next:List AV→aa→Prop)(Q:Ex→List AV→aa→Prop):Ex→List AV→aa→Prop
 | .normal,τ,H=>next τ H
 | e,τ,H=>Q e τ H
theorem tJ.cond{x:Operand}{t:Bool}(hx:dU τ x=.bool t)(h:tJ P (if t then c1 else c2) Q τ H):tJ P (.cond x c1 c2) Q τ H:=by
 intro w σ a hW hτ Q' hQ'
 have hr:=hτ.eval hW.glob x
 rw[hx]at hr
 refine wp_cond (t:=t) ?_ (h w σ a hW hτ Q' hQ')
 generalize a.eval x=u at hr
 cases hr
 rfl
theorem tJ.exit{id:Nat}(h:Q (.exit id) τ H):tJ P (.exit id) Q τ H:=fun w σ a hW hτ Q' hQ'=>wp_exit (hQ' (.exit id) τ H _ _ h (Nat.le_refl _) (.refl hW hτ))
theorem tJ.ret(h:Q .ret τ H):tJ P .ret Q τ H:=fun w σ a hW hτ Q' hQ'=>wp_ret (hQ' .ret τ H _ _ h (Nat.le_refl _) (.refl hW hτ))
def Ex.inBlock(id:Nat)(Q:Ex→List AV→aa→Prop):Ex→List AV→aa→Prop
 | .exit id',τ,H=>if id'=id then Q .normal τ H else Q (.exit id') τ H
 | e,τ,H=>Q e τ H
theorem tJ.block{id:Nat}(h:tJ P c (Ex.inBlock id Q) τ H):tJ P (.block id c) Q τ H:=by
 intro w σ a hW hτ Q' hQ'
 refine wp_block (h w σ a hW hτ _ fun e τ1 H1 a1 w1 hq hn haf=>?_)
 cases e with
 | normal=>exact hQ' _ _ _ _ _ hq hn haf
 | ret=>exact hQ' _ _ _ _ _ hq hn haf
 | exit id'=>
  simp only[Ex.inBlock]at hq
  simp only[qc,Exit.inBlock]
  split
  ·rename_i he;rw[if_pos he]at hq;exact hQ' .normal _ _ _ _ hq hn haf
  ·rename_i he;rw[if_neg he]at hq;exact hQ' (.exit id') _ _ _ _ hq hn haf
end
def qj:FuncId→List AV→aa→Option (AV×aa):=fun _ _ _=>none
theorem jI(P:Program):bY P qj:=⟨fun _ _ _ _ _ h=>(by cases h),fun _ _ _ _ _ h=>(by cases h),fun _ _ _ _ _ h=>(by cases h)⟩
end Go.Proofs.YtelgfgfgghpjgaaGreatDoor.Am
end
section
namespace Go.Proofs.YtelgfgfgghpjgaaGreatDoor.Am
set_option linter.unusedVariables false
def cR(P:Program)(f:FuncId)(args:List AV)(v:AV):Prop:=(∀H,gy P f args H v H)∧∃fn c,P.funcs[f]? =some fn∧fn.body=some c
theorem cR.of_v{P:Program}{f:FuncId}{args:List AV}{v:AV}{fn:Func}{c:Code}(hf:P.funcs[f]? =some fn)(hb:fn.body=some c)(hv:bt v)(ha:∀(i:Nat) (a:AV),args[i]? =some a→bt a)(h:sk P f args v):cR P f args v:=
 ⟨fun H=>xE hv ha h H,fn,c,hf,hb⟩
end Go.Proofs.YtelgfgfgghpjgaaGreatDoor.Am
end
section
namespace Go.Proofs.YtelgfgfgghpjgaaGreatDoor.Am
set_option linter.unusedVariables false
def jJ(f:AV→Option AV)(rows:List (List AV)):Option (List (List AV)):=aL (rows.map fun r=>aL (r.map f))
def frz(K:aa):Nat→AV→Option AV
 | 0,_=>none
 | d+1,a=>match a with
  | .sl b i n=>if n=0 then some (.lst [])else match K.get b with
   | some x=>if 0<x.size∧i+n≤x.rows.length then(jJ (frz K d) ((x.rows.drop i).take n)).map .lst else none
   | none=>none
  | .nils=>some (.lst [])
  | .lst rows=>(jJ (frz K d) rows).map .lst
  | .agg cs=>(aL (cs.map (frz K d))).map .agg
  | .tup cs=>(aL (cs.map (frz K d))).map .tup
  | .ptr ..=>none
  | .pptr ..=>none
  | .fn ..=>none
  | .mp ..=>none
  | .it ..=>none
  | a=>some a
theorem gC{f:AV→Option AV}{l m:List AV}(h:aL (l.map f)=some m):l.length=m.length∧∀(i:Nat) (y:AV),m[i]? =some y→∃x,l[i]? =some x∧f x=some y:=by
 obtain⟨h1,h2⟩:=dv _ _ h
 refine⟨by simpa using h1,fun i y hy=>?_⟩
 have:=h2 i y hy
 rw[List.getElem?_map]at this
 cases hx:l[i]? with
 | none=>rw[hx]at this;cases this
 | some x=>rw[hx]at this;exact⟨x,rfl,by simpa using this⟩
theorem kV{f:AV→Option AV}{l m:List (List AV)}(h:jJ f l=some m):l.length=m.length∧∀(i:Nat) (r':List AV),m[i]? =some r'→∃r,l[i]? =some r∧r.length=r'.length∧∀(j:Nat) (y:AV),r'[j]? =some y→∃x,r[j]? =some x∧f x=some y:=by
 obtain⟨h1,h2⟩:=dv _ _ h
 refine⟨by simpa using h1,fun i r' hr'=>?_⟩
 have:=h2 i r' hr'
 rw[List.getElem?_map]at this
 cases hx:l[i]? with
 | none=>rw[hx]at this;cases this
 | some r=>
  rw[hx]at this
  simp only[Option.map_some,Option.some.injEq]at this
  obtain⟨h3,h4⟩:=gC this
  exact⟨r,rfl,h3,h4⟩
theorem jK{w:World}{σ:aC}{K:aa}(hW:ay w σ K):∀(d:Nat) (a a':AV) (v:Value),frz K d a=some a'→aw w σ (aq σ K) a v→aw w σ (aq σ aa.empty) a' v
 | 0,a,a',v,h,_=>by cases h
 | d+1,a,a',v,h,hr=>by
  have hout:∀c,¬aq σ K c→¬aq σ aa.empty c:=fun c hc ho=>by
   rcases ho with ho | ⟨b,x,pl,h1,_,_⟩
   ·exact hc (.inl ho)
   ·rw[bb]at h1;cases h1
  cases a with
  | sl b i n=>
   simp only[frz]at h
   obtain⟨pl,ad,cap,rfl,hs,hn,hm,ha⟩:=hr.sl_inv
   split at h
   ·rename_i h0;cases h;rw[h0];exact .lst0 _ _ hm
   ·rename_i h0
    split at h
    ·rename_i x hx
     split at h
     ·rename_i hc
      cases hf:jJ (frz K d) ((x.rows.drop i).take n)with
      | none=>rw[hf]at h;cases h
      | some m=>
       rw[hf]at h
       cases h
       obtain⟨rfl,cs,ty,hcs,hroom⟩:=ha (by omega)
       obtain⟨pl',cs',e',g1,g2⟩:=hW.live b x hx
       rw[hs]at g1
       cases g1
       replace g2:=g2.1 (hr.sl_ok hs)
       obtain⟨f1,f2⟩:=kV hf
       have hlen:m.length=n:=by rw[←f1];simp;omega
       have get:∀(q:Nat) (r:List AV),((x.rows.drop i).take n)[q]? =some r→q<n∧x.rows[i+q]? =some r:=fun q r hq=>by
        have hq':=ah hq
        rw[←f1]at hlen
        rw[hlen]at hq'
        rw[List.getElem?_take_of_lt hq',List.getElem?_drop]at hq
        exact⟨hq',hq⟩
       have hnot:¬aq σ aa.empty pl.block:=fun ho=>by
        rcases ho with ho | ⟨b',x',pl'',h1,_,_⟩
        ·exact(hW.apart _ ho).2 ⟨b,x,pl,hx,hs,rfl⟩
        ·rw[bb]at h1;cases h1
       have:=aw.lst (w:=w) (σ:=σ) (T:=aq σ aa.empty) m pl.block (pl.base+i*pl.size) pl.size cap
        ⟨hnot,fun q r' hr'=>by
         obtain⟨r,k1,k2,_⟩:=f2 q r' hr'
         rw[←k2,g2.even _ r (get q r k1).2,g2.size],fun q j hq hj=>by
         obtain⟨r,k1,k2,_⟩:=f2 q m[q] (List.getElem?_eq_getElem hq)
         have hrow:=g2.row (get q r k1).2
         have hj':j<r.length:=by rw[g2.even _ r (get q r k1).2,←g2.size];exact hj
         obtain⟨u,hu,_⟩:=hrow j _ (List.getElem?_eq_getElem hj')
         rw[Nat.add_mul,←Nat.add_assoc]at hu
         exact⟨u,hu⟩,by rw[g2.size];exact hc.1,by omega⟩ (by omega) hm
        (fun q r' j y u hr' hy hu=>by
         obtain⟨r,k1,k2,k3⟩:=f2 q r' hr'
         obtain⟨z,k4,k5⟩:=k3 j y hy
         obtain⟨u',hu',hz⟩:=g2.row (get q r k1).2 j z k4
         rw[Nat.add_mul,←Nat.add_assoc]at hu'
         rw[hu]at hu'
         cases hu'
         exact jK hW d z y u k5 hz)
       rw[hlen]at this
       exact this
     ·cases h
    ·cases h
  | nils=>simp only[frz]at h;cases h;cases hr;exact .lst0 _ _ (by unfold maxLen;omega)
  | lst rows=>
   simp only[frz]at h
   cases hf:jJ (frz K d) rows with
   | none=>rw[hf]at h;cases h
   | some m=>
    rw[hf]at h
    cases h
    obtain⟨f1,f2⟩:=kV hf
    cases hr with
    | lst0 a cap hm=>
     have:m=[]:=by cases m with
      | nil=>rfl
      | cons x m=>simp at f1
     subst this
     exact .lst0 a cap hm
    | lst _ b o sz cap hl hn hm hc=>
     have:=aw.lst (w:=w) (σ:=σ) (T:=aq σ aa.empty) m b o sz cap
      ⟨hout b hl.out,fun q r' hr'=>by
       obtain⟨r,k1,k2,_⟩:=f2 q r' hr'
       rw[←k2,hl.even q r k1],fun q j hq hj=>hl.cell q j (by omega) hj,hl.pos,by rw[←f1];exact hl.ne⟩ (by omega) hm
      (fun q r' j y u hr' hy hu=>by
       obtain⟨r,k1,k2,k3⟩:=f2 q r' hr'
       obtain⟨z,k4,k5⟩:=k3 j y hy
       exact jK hW d z y u k5 (hc q r j z u k1 k4 hu))
     rw[←f1]at this
     exact this
  | agg cs=>
   simp only[frz]at h
   cases hf:aL (cs.map (frz K d))with
   | none=>rw[hf]at h;cases h
   | some m=>
    rw[hf]at h
    cases h
    obtain⟨f1,f2⟩:=gC hf
    cases hr with
    | agg _ vs hl hc=>
     refine .agg m vs (by omega) fun q y u hy hu=>?_
     obtain⟨x,k1,k2⟩:=f2 q y hy
     exact jK hW d x y u k2 (hc q x u k1 hu)
  | tup cs=>
   simp only[frz]at h
   cases hf:aL (cs.map (frz K d))with
   | none=>rw[hf]at h;cases h
   | some m=>
    rw[hf]at h
    cases h
    obtain⟨f1,f2⟩:=gC hf
    cases hr with
    | tup _ vs hl hc=>
     refine .tup m vs (by omega) fun q y u hy hu=>?_
     obtain⟨x,k1,k2⟩:=f2 q y hy
     exact jK hW d x y u k2 (hc q x u k1 hu)
  | int k n=>simp only[frz]at h;cases h;cases hr;exact .int k n
  | bool b=>simp only[frz]at h;cases h;cases hr;exact .bool b
  | str s=>simp only[frz]at h;cases h;cases hr;exact .str _
  | nilp=>simp only[frz]at h;cases h;cases hr;exact .nilp
  | emp=>simp only[frz]at h;cases h;cases hr;exact .emp _
  | nilf=>simp only[frz]at h;cases h;cases hr;exact .nilf
  | junk=>simp only[frz]at h;cases h;exact .junk v
  | ptr b i off=>simp[frz]at h
  | pptr rows i off=>simp[frz]at h
  | fn f cs=>simp[frz]at h
  | mp b=>simp[frz]at h
  | it b=>simp[frz]at h
end Go.Proofs.YtelgfgfgghpjgaaGreatDoor.Am
end
section
namespace Go.Proofs.YtelgfgfgghpjgaaGreatDoor.Am
open Go.RowKit
set_option linter.unusedVariables false
abbrev SH:=List (Nat×Blk)
abbrev SH.names(L:SH):List Nat:=L.map Prod.fst
structure el(L:SH)(H:aa):Prop where
 nd:L.names.Nodup
 get:∀p∈L,H.get p.1=some p.2
structure Fr(B:Nat)(L:SH)(H:aa)(L':SH)(H':aa):Prop where
 next:H.next≤H'.next
 bd:Bd H'
 sub:el L' H'
 keep:∀b x,H.get b=some x→b∉L.names→H'.get b=some x∧b∉L'.names
 dom:∀b,b<B→H.get b=none→H'.get b=none
 fresh:∀b,b∈L'.names→b<B→b∈L.names
theorem el.mem{L:SH}{H:aa}(h:el L H){b:Nat}(hb:b∈L.names):∃x,(b,x)∈L∧H.get b=some x:=by
 obtain⟨p,hp,rfl⟩:=List.mem_map.1 hb
 exact⟨p.2,hp,h.get p hp⟩
theorem el.congr{L:SH}{H H':aa}(h:el L H)(hg:∀b,H'.get b=H.get b):el L H':=⟨h.nd,fun p hp=>by rw[hg];exact h.get p hp⟩
theorem Fr.refl{B:Nat}{L:SH}{H:aa}(hb:Bd H)(h:el L H):Fr B L H L H:=⟨Nat.le_refl _,hb,h,fun _ _ h1 h2=>⟨h1,h2⟩,fun _ _ h=>h,fun _ h _=>h⟩
theorem Fr.trans{B B':Nat}{L L' L'':SH}{H H' H'':aa}(h:Fr B L H L' H')(k:Fr B' L' H' L'' H'')(hB:B≤B'):Fr B L H L'' H'' where
 next:=Nat.le_trans h.next k.next
 bd:=k.bd
 sub:=k.sub
 keep:=fun b x h1 h2=>by obtain⟨a1,a2⟩:=h.keep b x h1 h2;exact k.keep b x a1 a2
 dom:=fun b hb h0=>k.dom b (Nat.lt_of_lt_of_le hb hB) (h.dom b hb h0)
 fresh:=fun b h1 h2=>h.fresh b (k.fresh b h1 (Nat.lt_of_lt_of_le h2 hB)) h2
theorem Fr.low{B B':Nat}{L L':SH}{H H':aa}(h:Fr B' L H L' H')(hB:B≤B'):Fr B L H L' H':=
 ⟨h.next,h.bd,h.sub,h.keep,fun b hb=>h.dom b (Nat.lt_of_lt_of_le hb hB),fun b h1 h2=>h.fresh b h1 (Nat.lt_of_lt_of_le h2 hB)⟩
theorem el.perm{L L':SH}{H:aa}(h:el L H)(hp:L.Perm L'):el L' H:=⟨(hp.map Prod.fst).nodup_iff.1 h.nd,fun p hq=>h.get p (hp.mem_iff.2 hq)⟩
theorem el.left{K R:SH}{H:aa}(h:el (K++R) H):el K H:=⟨by have:=h.nd;unfold SH.names at *;rw[List.map_append]at this;exact(List.nodup_append.1 this).1,fun p hp=>h.get p (List.mem_append_left _ hp)⟩
theorem el.right{K R:SH}{H:aa}(h:el (K++R) H):el R H:=⟨by have:=h.nd;unfold SH.names at *;rw[List.map_append]at this;exact(List.nodup_append.1 this).2.1,fun p hp=>h.get p (List.mem_append_right _ hp)⟩
theorem el.disj{K R:SH}{H:aa}(h:el (K++R) H){b:Nat}(h1:b∈K.names)(h2:b∈R.names):False:=by
 have:=h.nd
 unfold SH.names at *
 rw[List.map_append]at this
 exact(List.nodup_append.1 this).2.2 b h1 b h2 rfl
theorem Fr.frame{B:Nat}{K K' R L:SH}{H H':aa}(h:Fr B K H K' H')(hL:L.Perm (K++R))(hs:el L H):Fr B L H (K'++R) H':=by
 have hs':=hs.perm hL
 have hr:∀p∈R,H'.get p.1=some p.2∧p.1∉K'.names:=fun p hp=>
  h.keep p.1 p.2 (hs'.right.get p hp) (fun hk=>hs'.disj hk (List.mem_map_of_mem hp))
 have hn:∀b,b∈L.names↔b∈K.names∨b∈R.names:=fun b=>by
  rw[(hL.map Prod.fst).mem_iff,List.map_append,List.mem_append]
 refine⟨h.next,h.bd,⟨?_,fun p hp=>?_⟩,fun b x h1 h2=>?_,h.dom,fun b h1 h2=>?_⟩
 ·unfold SH.names
  rw[List.map_append,List.nodup_append]
  refine⟨h.sub.nd,hs'.right.nd,fun a ha b hb he=>?_⟩
  subst he
  obtain⟨p,hp,rfl⟩:=List.mem_map.1 hb
  exact(hr p hp).2 ha
 ·rcases List.mem_append.1 hp with hp | hp
  ·exact h.sub.get p hp
  ·exact(hr p hp).1
 ·rw[hn]at h2
  have h3:b∉K.names:=fun hk=>h2 (.inl hk)
  obtain⟨a1,a2⟩:=h.keep b x h1 h3
  refine⟨a1,fun hk=>?_⟩
  unfold SH.names at hk
  rw[List.map_append,List.mem_append]at hk
  rcases hk with hk | hk
  ·exact a2 hk
  ·exact h2 (.inr hk)
 ·unfold SH.names at h1
  rw[List.map_append,List.mem_append]at h1
  rw[hn]
  rcases h1 with h1 | h1
  ·exact .inl (h.fresh b h1 h2)
  ·exact .inr h1
section
variable {P:Program} {F:TypeId→Option (List TypeId)} {w w':World} {σ σ':aC} {T T':Nat→Prop}
theorem aw.shrink{a:AV}{v:Value}(h:aw w σ T a v)(hT:∀c,T' c→T c):aw w σ T' a v:=by
 induction h with
 | int k n=>exact .int k n
 | bool b=>exact .bool b
 | str s=>exact .str s
 | nilp=>exact .nilp
 | ptr b i off pl h hp=>exact .ptr b i off pl h hp
 | mp b pl h h1 h2=>exact .mp b pl h h1 h2
 | it b pl h h1 h2=>exact .it b pl h h1 h2
 | pptr rows i off b o sz hl h ih=>exact .pptr rows i off b o sz (hl.shrink hT) ih
 | nils=>exact .nils
 | emp a=>exact .emp a
 | sl b i n pl a cap h hp hn hm ha=>exact .sl b i n pl a cap h hp hn hm ha
 | lst0 a cap hm=>exact .lst0 a cap hm
 | lst rows b o sz cap hl hn hm h ih=>exact .lst rows b o sz cap (hl.shrink hT) hn hm ih
 | agg cs vs hl h ih=>exact .agg cs vs hl ih
 | tup cs vs hl h ih=>exact .tup cs vs hl ih
 | fn f cs vs hl h ih=>exact .fn f cs vs hl ih
 | nilf=>exact .nilf
 | junk v=>exact .junk v
theorem j3.shrink{x:Blk}{pl:aM}{cs:Array Value}{e:TypeId}(h:j3 w σ T x pl cs e)(hT:∀c,T' c→T c):j3 w σ T' x pl cs e:=
 ⟨h.size,h.block,h.even,h.room,fun i r j a u h1 h2 h3=>(h.rep i r j a u h1 h2 h3).shrink hT⟩
theorem ea.shrink{x:Blk}{pl:aM}{cs:Array Value}{e:TypeId}(h:ea w σ T x pl cs e)(hT:∀c,T' c→T c):ea w σ T' x pl cs e:=⟨fun hp=>(h.1 hp).shrink hT,h.2⟩
theorem aq.less{H H':aa}(h:∀b x,H'.get b=some x→H.get b=some x)(c:Nat)(hc:aq σ H' c):aq σ H c:=by
 rcases hc with hc | ⟨b,x,pl,h1,h2,h3⟩
 ·exact .inl hc
 ·exact .inr ⟨b,x,pl,h b x h1,h2,h3⟩
theorem ay.less{H H':aa}(hW:ay w σ H)(h:∀b x,H'.get b=some x→H.get b=some x)(hn:H.next≤H'.next):ay w σ H' where
 named:=fun b pl hb=>Nat.lt_of_lt_of_le (hW.named b pl hb) hn
 lt:=hW.lt
 live:=fun b x hb=>by
  obtain⟨pl,cs,e,h1,h2⟩:=hW.live b x (h b x hb)
  exact⟨pl,cs,e,h1,h2.shrink (aq.less h)⟩
 apart:=fun c hc=>⟨(hW.apart c hc).1,fun⟨b,x,pl,h1,h2,h3⟩=>(hW.apart c hc).2 ⟨b,x,pl,h b x h1,h2,h3⟩⟩
 inj:=fun b b' x x' pl pl' h1 h2=>hW.inj b b' x x' pl pl' (h b x h1) (h b' x' h2)
 glob:=hW.glob.less (aq.less h)
def vX(τ:List AV)(H:aa)(τ1:List AV)(H1:aa):Prop:=
 H.next≤H1.next∧(∀b x,H1.get b=some x→H.get b=some x)∧∀(w:World) (σ:aC) (a:Act),ay w σ H→aQ w σ (aq σ H) τ a→aQ w σ (aq σ H1) τ1 a
variable {c c1 c2:Code} {τ τ1 τ2:List AV} {H H1 H2:aa} {e:Ex}
theorem aT.shift(h:aT P c τ H e τ1 H1)(k:vX τ1 H1 τ2 H2):aT P c τ H e τ2 H2:=by
 refine⟨Nat.le_trans h.1 k.1,fun w σ a hW hτ Q hQ=>h.2 w σ a hW hτ Q fun a' w' haf=>hQ a' w' ?_⟩
 obtain⟨σ',t,r,e1,m⟩:=haf
 exact⟨σ',k.2.2 w' σ' a' r t,r.less k.2.1 k.1,⟨e1.os,e1.tape,e1.output,e1.size,e1.keep,e1.shape,e1.sig,e1.eqfr,e1.frame,fun c hc=>e1.own c (aq.less k.2.1 c hc)⟩,m⟩
theorem aT.seq(h:aT P c1 τ H .normal τ1 H1)(k:aT P c2 τ1 H1 e τ2 H2):aT P (.seq c1 c2) τ H e τ2 H2:=by
 refine⟨Nat.le_trans h.1 k.1,fun w σ a hW hτ Q hQ=>wp_seq (h.2 w σ a hW hτ _ fun a' w' haf=>?_)⟩
 obtain⟨σ1,t1,r1,e1,m1⟩:=haf
 exact k.2 w' σ1 a' r1 t1 Q fun a2 w2 haf2=>hQ a2 w2 (haf2.trans e1 m1 h.1)
theorem aT.seq_out(h:aT P c1 τ H e τ1 H1)(he:e≠.normal):aT P (.seq c1 c2) τ H e τ1 H1:=by
 refine⟨h.1,fun w σ a hW hτ Q hQ=>wp_seq (h.2 w σ a hW hτ _ fun a' w' haf=>?_)⟩
 cases e with
 | normal=>exact absurd rfl he
 | exit id=>exact hQ _ _ haf
 | ret=>exact hQ _ _ haf
theorem aT.cond{x:Operand}{t:Bool}(hb:dU τ x=.bool t)(h:aT P (if t then c1 else c2) τ H e τ1 H1):aT P (.cond x c1 c2) τ H e τ1 H1:=by
 refine⟨h.1,fun w σ a hW hτ Q hQ=>wp_cond (t:=t) ?_ (h.2 w σ a hW hτ Q hQ)⟩
 have:=hτ.eval hW.glob x
 rw[hb]at this
 generalize a.eval x=u at this
 cases this
 rfl
def Ex.leave(id:Nat):Ex→Ex
 | .exit id'=>if id'=id then .normal else .exit id'
 | e=>e
theorem aT.block{id:Nat}(h:aT P c τ H e τ1 H1):aT P (.block id c) τ H (e.leave id) τ1 H1:=by
 refine⟨h.1,fun w σ a hW hτ Q hQ=>wp_block (h.2 w σ a hW hτ _ fun a' w' haf=>?_)⟩
 have:=hQ a' w' haf
 cases e with
 | normal=>exact this
 | ret=>exact this
 | exit id'=>
  simp only[qc,Exit.inBlock]
  simp only[Ex.leave]at this
  by_cases hid:id'=id
  ·simp only[hid,if_true]at this ⊢;exact this
  ·simp only[hid,if_false]at this ⊢;exact this
theorem ek.next{n:Nat}(h:aT P c τ H .normal τ1 H1)(k:ek P n c τ1 H1 e τ2 H2):ek P (n+1) c τ H e τ2 H2:=by
 refine⟨Nat.le_trans h.1 k.1,fun w σ a hW hτ Q hQ=>?_⟩
 rw[rounds_succ]
 refine h.2 w σ a hW hτ _ fun a' w' haf=>?_
 obtain⟨σ1,t1,r1,e1,m1⟩:=haf
 exact k.2 w' σ1 a' r1 t1 Q fun a2 w2 haf2=>hQ a2 w2 (haf2.trans e1 m1 h.1)
theorem ek.out(h:aT P c τ H e τ1 H1)(he:e≠.normal):ek P 1 c τ H e τ1 H1:=by
 refine⟨h.1,fun w σ a hW hτ Q hQ=>?_⟩
 rw[rounds_succ]
 refine h.2 w σ a hW hτ _ fun a' w' haf=>?_
 cases e with
 | normal=>exact absurd rfl he
 | exit id=>exact hQ _ _ haf
 | ret=>exact hQ _ _ haf
theorem ek.code{n:Nat}(h:ek P n c τ H e τ1 H1):aT P (.loop c) τ H e τ1 H1:=
 ⟨h.1,fun w σ a hW hτ Q hQ=>wp_loop_rounds n (h.2 w σ a hW hτ Q hQ)⟩
def aR(P:Program)(c:Code)(τ:List AV)(L:SH)(Q:Ex→List AV→SH→Prop):Prop:=
 ∀H,Bd H→el L H→∃e τ' H' L',aT P c τ H e τ' H'∧Fr H.next L H L' H'∧Q e τ' L'
def al(P:Program)(f:FuncId)(args:List AV)(L:SH)(Q:AV→SH→Prop):Prop:=
 (∃fn c,P.funcs[f]? =some fn∧fn.body=some c)∧∀H,Bd H→el L H→∃v H' L',gy P f args H v H'∧Fr H.next L H L' H'∧Q v L'
variable {L:SH} {Q Q2:Ex→List AV→SH→Prop}
theorem aR.mono(h:aR P c τ L Q)(hq:∀e τ' L',Q e τ' L'→Q2 e τ' L'):aR P c τ L Q2:=fun H hb hs=>by
 obtain⟨e,τ',H',L',h1,h2,h3⟩:=h H hb hs
 exact⟨e,τ',H',L',h1,h2,hq _ _ _ h3⟩
theorem al.mono{f:FuncId}{args:List AV}{R R2:AV→SH→Prop}(h:al P f args L R)(hq:∀v L',R v L'→R2 v L'):al P f args L R2:=⟨h.1,fun H hb hs=>by
 obtain⟨v,H',L',h1,h2,h3⟩:=h.2 H hb hs
 exact⟨v,H',L',h1,h2,hq _ _ h3⟩⟩
theorem al.frame{f:FuncId}{args:List AV}{K R:SH}{R1 R2:AV→SH→Prop}(h:al P f args K R1)(hL:L.Perm (K++R))(hq:∀v K',R1 v K'→R2 v (K'++R)):al P f args L R2:=⟨h.1,fun H hb hs=>by
 obtain⟨v,H',K',h1,h2,h3⟩:=h.2 H hb (hs.perm hL).left
 exact⟨v,H',K'++R,h1,h2.frame hL hs,hq _ _ h3⟩⟩
theorem aR.stop(e:Ex)(hc:∀H,aT P c τ H e τ H)(h:Q e τ L):aR P c τ L Q:=fun H hb hs=>⟨e,τ,H,L,hc H,.refl hb hs,h⟩
theorem aR.skip(h:Q .normal τ L):aR P .skip τ L Q:=.stop .normal (fun H=>⟨Nat.le_refl _,fun w σ a hW hτ Q hQ=>wp_skip (hQ _ _ (.refl hW hτ))⟩) h
theorem aR.exit{id:Nat}(h:Q (.exit id) τ L):aR P (.exit id) τ L Q:=.stop (.exit id) (fun H=>⟨Nat.le_refl _,fun w σ a hW hτ Q hQ=>wp_exit (hQ _ _ (.refl hW hτ))⟩) h
theorem aR.ret(h:Q .ret τ L):aR P .ret τ L Q:=.stop .ret (fun H=>⟨Nat.le_refl _,fun w σ a hW hτ Q hQ=>wp_ret (hQ _ _ (.refl hW hτ))⟩) h
theorem aR.label{l:Nat}(h:Q .normal τ L):aR P (.label l) τ L Q:=.stop .normal (fun H=>⟨Nat.le_refl _,fun w σ a hW hτ Q hQ=>wp_label (hQ _ _ (.refl hW hτ))⟩) h
theorem aR.seq(h:aR P c1 τ L fun e τ' L'=>match e with | .normal=>aR P c2 τ' L' Q | e=>Q e τ' L'):aR P (.seq c1 c2) τ L Q:=fun H hb hs=>by
 obtain⟨e,τ1,H1,L1,h1,h2,h3⟩:=h H hb hs
 cases e with
 | normal=>
  obtain⟨e,τ2,H2,L2,k1,k2,k3⟩:=h3 H1 h2.bd h2.sub
  exact⟨e,τ2,H2,L2,h1.seq k1,h2.trans k2 h2.next,k3⟩
 | exit id=>exact⟨_,τ1,H1,L1,h1.seq_out (by simp),h2,h3⟩
 | ret=>exact⟨_,τ1,H1,L1,h1.seq_out (by simp),h2,h3⟩
theorem aR.cond{x:Operand}{t:Bool}(hb:dU τ x=.bool t)(h:aR P (if t then c1 else c2) τ L Q):aR P (.cond x c1 c2) τ L Q:=fun H hB hs=>by
 obtain⟨e,τ1,H1,L1,h1,h2,h3⟩:=h H hB hs
 exact⟨e,τ1,H1,L1,h1.cond hb,h2,h3⟩
theorem aR.block{id:Nat}(h:aR P c τ L fun e τ' L'=>Q (e.leave id) τ' L'):aR P (.block id c) τ L Q:=fun H hB hs=>by
 obtain⟨e,τ1,H1,L1,h1,h2,h3⟩:=h H hB hs
 exact⟨_,τ1,H1,L1,h1.block,h2,h3⟩
theorem aR.loop(I:Nat→List AV→SH→Prop)(hs:∀n τ L,I n τ L→aR P c τ L fun e τ' L'=>match e with | .normal=>∃m,m<n∧I m τ' L' | e=>Q e τ' L')(n:Nat)(h0:I n τ L):aR P (.loop c) τ L Q:=by
 have key:∀n τ L,I n τ L→∀H,Bd H→el L H→∃k e τ' H' L',ek P k c τ H e τ' H'∧Fr H.next L H L' H'∧Q e τ' L':=by
  intro n
  induction n using Nat.strongRecOn with
  | _ n ih=>
   intro τ L hI H hB hS
   obtain⟨e,τ1,H1,L1,h1,h2,h3⟩:=hs n τ L hI H hB hS
   cases e with
   | normal=>
    obtain⟨m,hm,hI1⟩:=h3
    obtain⟨k,e,τ2,H2,L2,k1,k2,k3⟩:=ih m hm τ1 L1 hI1 H1 h2.bd h2.sub
    exact⟨k+1,e,τ2,H2,L2,.next h1 k1,h2.trans k2 h2.next,k3⟩
   | exit id=>exact⟨1,_,τ1,H1,L1,.out h1 (by simp),h2,h3⟩
   | ret=>exact⟨1,_,τ1,H1,L1,.out h1 (by simp),h2,h3⟩
 intro H hB hS
 obtain⟨k,e,τ',H',L',h1,h2,h3⟩:=key n τ L h0 H hB hS
 exact⟨e,τ',H',L',h1.code,h2,h3⟩
def xA(τ τ1:List AV):Prop:=τ1.length=τ.length∧∀(i:Nat) (x:AV),τ1[i]? =some x→x=.junk∨τ[i]? =some x
theorem xA.tmps{T:Nat→Prop}{a:Act}(h:xA τ τ1)(ht:aQ w σ T τ a):aQ w σ T τ1 a:=by
 refine⟨⟨by rw[h.1];exact ht.1.1,fun i x u h1 h2=>?_⟩,ht.2⟩
 rcases h.2 i x h1 with rfl | h3
 ·exact .junk _
 ·exact ht.1.2 i x u h3 h2
theorem aR.dim(hd:xA τ τ1)(h:aR P c τ1 L Q):aR P c τ L Q:=fun H hB hs=>by
 obtain⟨e,τ',H',L',h1,h2,h3⟩:=h H hB hs
 exact⟨e,τ',H',L',⟨h1.1,fun w σ a hW hτ Q hQ=>h1.2 w σ a hW (hd.tmps hτ) Q hQ⟩,h2,h3⟩
end
end Go.Proofs.YtelgfgfgghpjgaaGreatDoor.Am
end
section
namespace Go.Proofs.YtelgfgfgghpjgaaGreatDoor.Am
open Go.RowKit
set_option linter.unusedVariables false
inductive nN (b:Nat) (x x':Blk):SH→SH→Prop where
 | here (L:SH):nN b x x' ((b,x)::L) ((b,x')::L)
 | there (p:Nat×Blk) {L L':SH}:nN b x x' L L'→nN b x x' (p::L) (p::L')
inductive oe (b:Nat) (x:Blk):SH→SH→Prop where
 | here (L:SH):oe b x ((b,x)::L) L
 | there (p:Nat×Blk) {L L':SH}:oe b x L L'→oe b x (p::L) (p::L')
theorem nN.mem{b:Nat}{x x':Blk}{L L':SH}(h:nN b x x' L L'):(b,x)∈L:=by
 induction h with
 | here L=>simp
 | there p h ih=>simp[ih]
theorem nN.names{b:Nat}{x x':Blk}{L L':SH}(h:nN b x x' L L'):L'.names=L.names:=by
 induction h with
 | here L=>rfl
 | there p h ih=>simp only[List.map_cons,ih]
theorem nN.get{b:Nat}{x x':Blk}{L L':SH}(h:nN b x x' L L')(hn:L.names.Nodup):∀p∈L',p=(b,x')∨(p∈L∧p.1≠b):=by
 induction h with
 | here L=>
  intro p hp
  rcases List.mem_cons.1 hp with rfl | hp
  ·exact .inl rfl
  ·refine .inr ⟨by simp[hp],fun he=>?_⟩
   simp only[List.map_cons,List.nodup_cons]at hn
   exact hn.1 (he▸List.mem_map_of_mem hp)
 | there q h ih=>
  intro p hp
  simp only[List.map_cons,List.nodup_cons]at hn
  rcases List.mem_cons.1 hp with rfl | hp
  ·refine .inr ⟨by simp,fun he=>hn.1 ?_⟩
   rw[he]
   exact List.mem_map_of_mem (f:=Prod.fst) h.mem
  ·rcases ih hn.2 p hp with rfl | ⟨h1,h2⟩
   ·exact .inl rfl
   ·exact .inr ⟨by simp[h1],h2⟩
theorem oe.perm{b:Nat}{x:Blk}{L L':SH}(h:oe b x L L'):L.Perm ((b,x)::L'):=by
 induction h with
 | here L=>exact .refl _
 | there p h ih=>exact(ih.cons p).trans (.swap _ _ _)
def va:SH→Nat→Option Blk
 | [],_=>none
 | (c,x)::L,b=>if c=b then some x else va L b
def vY:SH→Nat→Blk→SH
 | [],_,_=>[]
 | (c,x)::L,b,y=>if c=b then(c,y)::L else(c,x)::vY L b y
structure fX(b:Nat)(L:SH)(H:aa)(L':SH)(H':aa):Prop where
 next:H'.next=H.next
 bd:Bd H'
 sub:el L' H'
 keep:∀c x,H.get c=some x→c∉L.names→H'.get c=some x∧c∉L'.names
 dom:∀c,c≠b→H.get c=none→H'.get c=none
 fresh:∀c,c∈L'.names→c=b∨c∈L.names
theorem fX.refl{b:Nat}{L:SH}{H:aa}(hb:Bd H)(hs:el L H):fX b L H L H:=⟨rfl,hb,hs,fun _ _ h1 h2=>⟨h1,h2⟩,fun _ _ h=>h,fun _ h=>.inr h⟩
theorem el.not_mem{L:SH}{H:aa}(hs:el L H){b:Nat}(h:H.get b=none):b∉L.names:=fun hb=>by
 obtain⟨x,_,hx⟩:=hs.mem hb
 rw[h]at hx;cases hx
theorem fX.new{b:Nat}{L:SH}{H:aa}(hb:Bd H)(hs:el L H)(hlt:b<H.next)(h0:H.get b=none)(x:Blk):fX b L H ((b,x)::L) (H.new b x) where
 next:=rfl
 bd:=fun c hc=>by
  have hc':H.next≤c:=hc
  rw[aa.get_new,if_neg (by omega)];exact hb c hc'
 sub:=⟨by simp only[List.map_cons,List.nodup_cons];exact⟨hs.not_mem h0,hs.nd⟩,fun p hp=>by
  rcases List.mem_cons.1 hp with rfl | hp
  ·rw[aa.get_new,if_pos rfl]
  ·have:=hs.get p hp
   rw[aa.get_new,if_neg]
   ·exact this
   ·intro he;rw[←he,h0]at this;cases this⟩
 keep:=fun c y h1 h2=>by
  have hne:b≠c:=fun he=>by rw[←he,h0]at h1;cases h1
  refine⟨by rw[aa.get_new,if_neg hne];exact h1,fun hm=>?_⟩
  simp only[List.map_cons,List.mem_cons]at hm
  rcases hm with hm | hm
  ·exact hne hm.symm
  ·exact h2 hm
 dom:=fun c hc h=>by rw[aa.get_new,if_neg (fun e=>hc e.symm)];exact h
 fresh:=fun c hc=>by simpa using hc
theorem fX.put{b c:Nat}{L L':SH}{H:aa}{x x':Blk}(hb:Bd H)(hs:el L H)(hu:nN c x x' L L'):fX b L H L' (H.put c (some x')) where
 next:=rfl
 bd:=fun d hd=>by
  have hd':H.next≤d:=hd
  have h1:=hs.get _ hu.mem
  rw[aa.get_put,if_neg (fun e=>by subst e;rw[hb _ hd']at h1;cases h1)]
  exact hb d hd'
 sub:=⟨by rw[hu.names];exact hs.nd,fun p hp=>by
  rcases hu.get hs.nd p hp with rfl | ⟨h1,h2⟩
  ·rw[aa.get_put,if_pos rfl]
  ·rw[aa.get_put,if_neg (fun e=>h2 e.symm)];exact hs.get p h1⟩
 keep:=fun d y h1 h2=>by
  have hne:c≠d:=fun e=>h2 (e▸List.mem_map_of_mem (f:=Prod.fst) hu.mem)
  exact⟨by rw[aa.get_put,if_neg hne];exact h1,by rw[hu.names];exact h2⟩
 dom:=fun d _ h=>by
  rw[aa.get_put,if_neg]
  ·exact h
  ·intro e
   have h1:=hs.get _ hu.mem
   rw[e,h]at h1;cases h1
 fresh:=fun d hd=>by rw[hu.names]at hd;exact .inr hd
theorem fX.del{b c:Nat}{L L':SH}{H:aa}{x:Blk}(hb:Bd H)(hs:el L H)(hu:oe c x L L'):fX b L H L' (H.put c none):=by
 have hs':el ((c,x)::L') H:=hs.perm hu.perm
 have hn:∀d,d∈L.names↔d=c∨d∈L'.names:=fun d=>by rw[(hu.perm.map Prod.fst).mem_iff];simp
 have hnd:=hs'.nd
 simp only[List.map_cons,List.nodup_cons]at hnd
 refine⟨rfl,fun d hd=>?_,⟨hnd.2,fun p hp=>?_⟩,fun d y h1 h2=>?_,fun d _ h=>?_,fun d hd=>.inr ((hn d).2 (.inr hd))⟩
 ·have hd':H.next≤d:=hd
  rw[aa.get_put]
  split
  ·rfl
  ·exact hb d hd'
 ·rw[aa.get_put,if_neg (fun(e:c=p.1)=>hnd.1 (e▸List.mem_map_of_mem (f:=Prod.fst) hp))]
  exact hs'.get p (by simp[hp])
 ·rw[hn]at h2
  refine⟨by rw[aa.get_put,if_neg (fun e=>h2 (.inl e.symm))];exact h1,fun h=>h2 (.inr h)⟩
 ·rw[aa.get_put]
  split
  ·rfl
  ·exact h
theorem fX.trans{b:Nat}{L L' L'':SH}{H H' H'':aa}(h:fX b L H L' H')(k:fX b L' H' L'' H''):fX b L H L'' H'' where
 next:=k.next.trans h.next
 bd:=k.bd
 sub:=k.sub
 keep:=fun c x h1 h2=>by obtain⟨a1,a2⟩:=h.keep c x h1 h2;exact k.keep c x a1 a2
 dom:=fun c hc h0=>k.dom c hc (h.dom c hc h0)
 fresh:=fun c hc=>by
  rcases k.fresh c hc with h1 | h1
  ·exact .inl h1
  ·exact h.fresh c h1
namespace W0
def rowLd(ag:Bool)(n:Nat)(row:List AV)(off:Nat):Option AV:=
 if ag then(if off+n≤row.length then some (.agg ((row.drop off).take n))else none)else row[off]?
def fillR(cells:List AV):List (Nat×Nat×AV)→Option (List AV)
 | []=>some cells
 | (off,size,v)::rest=>match v.cells? with
  | some cs=>if cs.length=size∧off+size≤cells.length∧cs.all AV.one then fillR (aP cells off cs) rest else none
  | none=>none
section
variable (P:Program) (F:TypeId→Option (List TypeId))
def opt(x:Option AV)(K:AV→Prop):Prop:=∃v,x=some v∧K v
def pick(c x y:AV)(K:AV→Prop):Prop:=∃t,c=.bool t∧K (if t then x else y)
def un(op:UnOp)(x:AV)(K:AV→Prop):Prop:=opt (xy op x) K
def bin(op:BinOp)(t:TypeId)(x y:AV)(K:AV→Prop):Prop:=opt (cX P F op t x y) K
def conv(k:IntKind)(x:AV)(K:AV→Prop):Prop:=∃k' n,x=.int k' n∧K (.int k (k.wrap n))
def convS(x:AV)(K:AV→Prop):Prop:=∃s,x=.str s∧K (.str s)
def faddr(off:Nat)(x:AV)(K:AV→Prop):Prop:=match x with
 | .ptr b i o=>K (.ptr b i (o+off))
 | .pptr rows i o=>K (.pptr rows i (o+off))
 | _=>False
def fld(ag:Bool)(n off:Nat)(x:AV)(K:AV→Prop):Prop:=∃cs v,x=.agg cs∧rowLd ag n cs off=some v∧K v
def loadR(ag:Bool)(n:Nat)(a:AV)(L:SH)(K:AV→Prop):Prop:=match a with
 | .ptr b i off=>∃x r v,(b,x)∈L∧x.rows[i]? =some r∧rowLd ag n r off=some v∧K v
 | .pptr rows i off=>∃r v,rows[i]? =some r∧rowLd ag n r off=some v∧K v
 | _=>False
def storeR(n:Nat)(a v:AV)(L:SH)(K:SH→Prop):Prop:=match a with
 | .ptr b i off=>∃x r cs L',x.rows[i]? =some r∧v.cells? =some cs∧cs.length=n∧cs.all AV.one=true∧off+n≤r.length∧nN b x ⟨x.size,x.rows.set i (aP r off cs)⟩ L L'∧K L'
 | _=>False
def idxR(n:Nat)(x ix:AV)(L:SH)(K:AV→Prop):Prop:=match x with
 | .sl b j m=>∃k i y,ix=.int k i∧0≤i∧i.toNat<m∧(b,y)∈L∧y.size=n∧K (.ptr b (j+i.toNat) 0)
 | .lst rows=>∃k i r,ix=.int k i∧0≤i∧rows[i.toNat]? =some r∧r.length=n∧K (.pptr rows i.toNat 0)
 | _=>False
def idxP(len n:Nat)(x ix:AV)(K:AV→Prop):Prop:=∃k i,ix=.int k i∧0≤i∧i.toNat<len∧(match x with
 | .ptr b j off=>K (.ptr b j (off+i.toNat*n))
 | .pptr rows j off=>K (.pptr rows j (off+i.toNat*n))
 | _=>False)
def ixS(x ix:AV)(K:AV→Prop):Prop:=∃s k i b,x=.str s∧ix=.int k i∧0≤i∧s[i.toNat]? =some b∧K (.int .u8 b.toNat)
def ixA(ag:Bool)(len n:Nat)(x ix:AV)(K:AV→Prop):Prop:=∃cs k i v,x=.agg cs∧ix=.int k i∧0≤i∧i.toNat<len∧rowLd ag n cs (i.toNat*n)=some v∧K v
def ext(i:Nat)(x:AV)(K:AV→Prop):Prop:=∃vs v,x=.tup vs∧vs[i]? =some v∧K v
def nilchk(x:AV)(K:AV→Prop):Prop:=match x with
 | .ptr b i off=>K (.ptr b i off)
 | .pptr rows i off=>K (.pptr rows i off)
 | .fn f cs=>K (.fn f cs)
 | _=>False
def build(z:List AV)(parts:List (Nat×Nat×AV))(K:AV→Prop):Prop:=∃cs,fillR z parts=some cs∧K (.agg cs)
def alloc(cs:List AV)(L:SH)(K:AV→SH→Prop):Prop:=∀b,b∉L.names→K (.ptr b 0 0) ((b,⟨cs.length,[cs]⟩)::L)
def box(x:AV)(L:SH)(K:AV→SH→Prop):Prop:=∃cs,x.cells? =some cs∧cs.all AV.one=true∧∀b,b∉L.names→K (.ptr b 0 0) ((b,⟨cs.length,[cs]⟩)::L)
def bslice(n:Nat)(z:List AV)(len:Nat)(parts:List (Nat×AV))(L:SH)(K:AV→SH→Prop):Prop:=
 len*n≤2^24∧∃rows,bC n (List.replicate len z) parts=some rows∧∀b,b∉L.names→K (.sl b 0 len) ((b,⟨n,rows⟩)::L)
def mslice(n by_:Nat)(z:List AV)(l c:AV)(L:SH)(K:AV→SH→Prop):Prop:=
 ∃(k k':IntKind) (i j:Nat),l=.int k i∧c=.int k' j∧i≤j∧j≤2^62∧j*by_≤2^48∧∀b,b∉L.names→K (.sl b 0 i) ((b,⟨n,List.replicate i z⟩)::L)
def rowsR(L:SH)(n:Nat)(s:AV)(rows:List (List AV)):Prop:=match s with
 | .nils=>rows=[]
 | .emp=>rows=[]
 | .lst l=>rows=l∧∀r,l.head? =some r→r.length=n
 | .sl b i k=>∃x,(b,x)∈L∧x.size=n∧i+k≤x.rows.length∧rows=(x.rows.drop i).take k
 | _=>False
def appendR(n by_:Nat)(s x:AV)(L:SH)(K:AV→SH→Prop):Prop:=
 ∃l m,rowsR L n s l∧rowsR L n x m∧2*(l.length+m.length)*by_≤2^48∧2*(l.length+m.length)≤2^62∧(m.all fun r=>r.all AV.one)=true∧
 (match s with
  | .nils=>(m.length=0→K .nils L)∧(m.length≠0→∀b,b∉L.names→K (.sl b 0 m.length) ((b,⟨n,m⟩)::L))
  | .emp=>(m.length=0→K .emp L)∧(m.length≠0→∀b,b∉L.names→K (.sl b 0 m.length) ((b,⟨n,m⟩)::L))
  | .sl b' _ _=>∃y L',oe b' y L L'∧∀b,b∉L.names→K (.sl b 0 (l.length+m.length)) ((b,⟨n,l++m⟩)::L')
  | _=>False)
def len(x:AV)(K:AV→Prop):Prop:=∃n:Nat,pX x=some n∧K (.int .i64 (n:Int))
def lenS(x:AV)(K:AV→Prop):Prop:=∃s,x=.str s∧K (.int .i64 (s.length:Int))
def mnx(mx:Bool)(x y:AV)(K:AV→Prop):Prop:=∃k a c,x=.int k a∧y=.int k c∧K (.int k (if mx then(if c > a then c else a)else(if c<a then c else a)))
def sliceR(n:Nat)(x:AV)(lo hi mx:Option AV)(L:SH)(K:AV→Prop):Prop:=
 ∃len l h m,pX x=some len∧bn lo 0=some l∧bn hi len=some h∧bn mx len=some m∧l≤h∧h≤m∧m≤len∧
 (match x with
  | .nils=>K .nils
  | .sl b i _=>(∃y,(b,y)∈L∧y.size=n)∧K (.sl b (i+l) (h-l))
  | .lst rows=>(mx.isSome=false∧∀r,rows.head? =some r→r.length=n)∧K (.lst ((rows.drop l).take (h-l)))
  | _=>False)
def sliceS(x:AV)(lo hi:Option AV)(K:AV→Prop):Prop:=
 ∃s l h,x=.str s∧bn lo 0=some l∧bn hi s.length=some h∧l≤h∧h≤s.length∧K (.str ((s.drop l).take (h-l)))
def store(n:Nat)(a v:AV)(L:SH)(K:SH→Prop):Prop:=match a with
 | .ptr b i off=>(match va L b with
  | some x=>(match x.rows[i]?,v.cells? with
   | some r,some cs=>(cs.length=n∧cs.all AV.one=true∧off+n≤r.length)∧K (vY L b ⟨x.size,x.rows.set i (aP r off cs)⟩)
   | _,_=>False)
  | none=>False)
 | _=>False
def slice(n:Nat)(x:AV)(lo hi mx:Option AV)(L:SH)(K:AV→Prop):Prop:=match pX x with
 | some len=>(match bn lo 0,bn hi len,bn mx len with
  | some l,some h,some m=>(l≤h∧h≤m∧m≤len)∧(match x with
   | .nils=>K .nils
   | .sl b i _=>(match va L b with
    | some y=>y.size=n∧K (.sl b (i+l) (h-l))
    | none=>False)
   | .lst rows=>(mx.isSome=false∧∀r,rows.head? =some r→r.length=n)∧K (.lst ((rows.drop l).take (h-l)))
   | _=>False)
  | _,_,_=>False)
 | none=>False
def clearR(n:Nat)(z:List AV)(x:AV)(L:SH)(K:SH→Prop):Prop:=match x with
 | .nils=>K L
 | .sl b i k=>∃y L',y.size=n∧i+k≤y.rows.length∧nN b y ⟨y.size,y.rows.take i++List.replicate k z++y.rows.drop (i+k)⟩ L L'∧K L'
 | _=>False
def mkmap(L:SH)(K:AV→SH→Prop):Prop:=∀b,b∉L.names→K (.mp b) ((b,⟨0,[]⟩)::L)
def found(z:AV)(ok:Bool)(r:Option (Nat×AV)):AV:=match r with
 | some (_,v)=>if ok then .tup [v,.bool true]else v
 | none=>if ok then .tup [z,.bool false]else z
def lookR(z:AV)(ok:Bool)(m k:AV)(L:SH)(K:AV→Prop):Prop:=match m,k with
 | .mp b,.str s=>∃x,(b,x)∈L∧x.rows.all jv=true∧K (found z ok (cI s x.rows 0))
 | _,_=>False
def putR(s:List UInt8)(v:AV)(rows:List (List AV)):List (List AV):=match cI s rows 0 with
 | some (i,_)=>rows.set i [.str s,v]
 | none=>rows++[[.str s,v]]
def mupR(m k v:AV)(L:SH)(K:SH→Prop):Prop:=match m,k with
 | .mp b,.str s=>∃x L',x.rows.all jv=true∧v.konst=true∧nN b x ⟨x.size,putR s v x.rows⟩ L L'∧K L'
 | _,_=>False
def rngS(x:AV)(L:SH)(K:AV→SH→Prop):Prop:=∃s,x=.str s∧∀b,b∉L.names→K (.it b) ((b,⟨0,[[.str s,.int .i64 0]]⟩)::L)
def nextR(it:AV)(L:SH)(K:AV→SH→Prop):Prop:=match it with
  | .it b => ∃ x s k pos, (b, x) ∈ L ∧ x.rows = [[.str s, .int k pos]]∧
      (if pos<s.length then∃L',nN b x ⟨x.size,[[.str s,.int .i64 ((pos.toNat+(Utf8.decode ⟨s.toArray⟩ pos.toNat).2:Nat):Int)]]⟩ L L'∧K (.tup [.bool true,.int .i64 pos,.int .i32 (Utf8.decode ⟨s.toArray⟩ pos.toNat).1]) L'
       else K (.tup [.bool false]) L)
  | _=>False
def zof(t:TypeId):Option (List AV):=(bH P t).bind AV.cells?
def op(o:Op)(ρ:Operand→AV)(L:SH)(K:AV→SH→Prop):Prop:=
 let k:=fun v=>K v L
 match o with
 | .move x | .assign x=>K (ρ x) L
 | .pick c x y=>pick (ρ c) (ρ x) (ρ y) k
 | .alloc t=>match zof P t with
  | some cs=>alloc cs L K
  | none=>False
 | .box _ x=>box (ρ x) L K
 | .build t parts=>match P.underlying t,bH P t with
  | some (.struct fs),some (.agg z)=>if(fs.toList.all fun f=>(au P f.type).isSome)=true then
    (match aL (parts.toList.map fun p=>(fe P fs p.1).map fun q=>(q.1,q.2,ρ p.2))with
     | some ps=>build z ps k
     | none=>False)
   else False
  | some (.array _ e),some (.agg z)=>(match au P e with
   | some n=>build z (parts.toList.map fun p=>(p.1*n,n,ρ p.2)) k
   | none=>False)
  | _,_=>False
 | .buildSlice t len parts=>match P.underlying t with
  | some (.slice e)=>match au P e,zof P e with
   | some n,some z=>if z.length=n∧0<n then bslice n z len (parts.toList.map fun p=>(p.1,ρ p.2)) L K else False
   | _,_=>False
  | _=>False
 | .load t a=>match b0 P t,au P t with
  | some ag,some n=>loadR ag n (ρ a) L k
  | _,_=>False
 | .store t a x=>match au P t with
  | some n=>storeR n (ρ a) (ρ x) L (K (.tup []))
  | none=>False
 | .nilCheck x=>nilchk (ρ x) k
 | .binOp op t x y _=>bin P F op t (ρ x) (ρ y) k
 | .unOp op _ x=>un op (ρ x) k
 | .convert s d x=>match P.underlying s,P.underlying d with
  | some (.int _),some (.int kd)=>conv kd (ρ x) k
  | some .string,some .string=>convS (ρ x) k
  | _,_=>False
 | .makeFunc (.func f) first cap=>if first.size=0 then K (.fn f (cap.toList.map ρ)) L else False
 | .makeSlice t l c=>match P.underlying t with
  | some (.slice e)=>match au P e,dA P e,zof P e with
   | some n,some by_,some z=>if z.length=n∧0<n then mslice n by_ z (ρ l) (ρ c) L K else False
   | _,_,_=>False
  | _=>False
 | .slice t x lo hi mx=>if(hi.isNone&&mx.isSome)=true then False else match P.underlying t with
  | some (.slice e)=>(match au P e with
   | some n=>sliceR n (ρ x) (lo.map ρ) (hi.map ρ) (mx.map ρ) L k
   | none=>False)
  | some .string=>if mx.isNone=true then sliceS (ρ x) (lo.map ρ) (hi.map ρ) k else False
  | _=>False
 | .fieldAddr s x f=>match P.underlying s with
  | some (.struct fs)=>match fs[f]? with
   | some f=>(match au P f.type with
    | some n=>if n=0 then False else faddr f.offset (ρ x) k
    | none=>False)
   | none=>False
  | _=>False
 | .field s x f=>match P.underlying s with
  | some (.struct fs)=>match fs[f]? with
   | some f=>(match b0 P f.type,au P f.type with
    | some ag,some n=>fld ag n f.offset (ρ x) k
    | _,_=>False)
   | none=>False
  | _=>False
 | .indexAddr t x ix=>match P.underlying t with
  | some (.slice e)=>(match au P e with
   | some n=>idxR n (ρ x) (ρ ix) L k
   | none=>False)
  | some (.array len e)=>(match au P e with
   | some n=>idxP len n (ρ x) (ρ ix) k
   | none=>False)
  | _=>False
 | .index t x ix=>match P.underlying t with
  | some .string=>ixS (ρ x) (ρ ix) k
  | some (.array len e)=>(match b0 P e,au P e with
   | some ag,some n=>ixA ag len n (ρ x) (ρ ix) k
   | _,_=>False)
  | _=>False
 | .extract x i=>ext i (ρ x) k
 | .makeMap _ none=>mkmap L K
 | .lookup t m y ok=>match P.underlying t with
  | some (.map kt et)=>(match P.underlying kt,bH P et with
   | some .string,some z=>lookR z ok (ρ m) (ρ y) L k
   | _,_=>False)
  | _=>False
 | .mapUpdate t m y x=>match P.underlying t with
  | some (.map kt _)=>(match P.underlying kt with
   | some .string=>mupR (ρ m) (ρ y) (ρ x) L (K (.tup []))
   | _=>False)
  | _=>False
 | .range t x=>match P.underlying t with
  | some .string=>rngS (ρ x) L K
  | _=>False
 | .next it true=>nextR (ρ it) L K
 | .call c=>match c.callee with
  | .builtin .len=>(match c.args.toList,(c.argTypes[0]?).bind P.underlying with
   | [x],some (.slice _)=>len (ρ x) k
   | [x],some .string=>lenS (ρ x) k
   | [x],some (.array n _)=>(match ρ x with | .str _=>False | _=>K (.int .i64 n) L)
   | _,_=>False)
  | .builtin .append=>(match c.args.toList,c.argTypes.toList with
   | [s,x],[t,tx]=>(match P.underlying t,P.underlying tx with
    | some (.slice e),some (.slice _)=>(match au P e,dA P e,zof P e with
     | some n,some by_,some z=>if z.length=n∧0<n then appendR n by_ (ρ s) (ρ x) L K else False
     | _,_,_=>False)
    | _,_=>False)
   | _,_=>False)
  | .builtin .min=>(match c.args.toList with
   | [x,y]=>mnx false (ρ x) (ρ y) k
   | _=>False)
  | .builtin .max=>(match c.args.toList with
   | [x,y]=>mnx true (ρ x) (ρ y) k
   | _=>False)
  | .builtin .clear=>(match c.args.toList,c.argTypes.toList with
   | [x],[t]=>(match P.underlying t with
    | some (.slice e)=>(match au P e,zof P e with
     | some n,some z=>if(z.length=n∧0<n)∧z.all AV.one=true then clearR n z (ρ x) L (K (.tup []))else False
     | _,_=>False)
    | _=>False)
   | _,_=>False)
  | .value f=>(match ρ f with
   | .fn g cs=>al P g (c.args.toList.map ρ++cs) L K
   | _=>False)
  | _=>False
 | _=>False
end
end W0
end Go.Proofs.YtelgfgfgghpjgaaGreatDoor.Am
end
section
namespace Go.Proofs.YtelgfgfgghpjgaaGreatDoor.Am
open Go.RowKit
set_option linter.unusedVariables false
section
variable {P:Program} {F:TypeId→Option (List TypeId)} {ρ:Operand→AV} {L:SH} {K:AV→SH→Prop} {b:Nat} {H:aa}
theorem jL{t:TypeId}{ag:Bool}{n off:Nat}{row:List AV}{v:AV}(h1:b0 P t=some ag)(h2:au P t=some n)(h:W0.rowLd ag n row off=some v):cU P t row off=some v:=by
 unfold cU
 rw[h1,h2]
 cases ag with
 | true=>simpa[W0.rowLd]using h
 | false=>simpa[W0.rowLd]using h
theorem l0{place:Nat→Option (Nat×Nat)}:∀(parts:List (Nat×AV)) (ps:List (Nat×Nat×AV)) (z cs:List AV),aL (parts.map fun p=>(place p.1).map fun q=>(q.1,q.2,p.2))=some ps→W0.fillR z ps=some cs→js place z parts=some cs
 | [],ps,z,cs,h1,h2=>by cases h1;exact h2
 | (i,v)::parts,ps,z,cs,h1,h2=>by
  simp only[List.map_cons]at h1
  cases hp:place i with
  | none=>rw[hp]at h1;cases h1
  | some q=>
   rw[hp]at h1
   simp only[Option.map_some,aL]at h1
   split at h1
   ·rename_i l hl
    cases h1
    simp only[W0.fillR]at h2
    simp only[js,hp]
    split at h2
    ·rename_i cs' hc
     rw[hc]
     simp only[]
     split at h2
     ·rename_i hcond
      rw[if_pos hcond]
      exact l0 parts l _ cs hl h2
     ·cases h2
    ·cases h2
   ·cases h1
theorem jM{α β:Type}(f:α→β):∀l:List α,aL (l.map fun x=>some (f x))=some (l.map f)
 | []=>rfl
 | x::l=>by simp only[List.map_cons,aL,jM f l]
theorem pg{n:Nat}{s:AV}{rows:List (List AV)}(hs:el L H)(h:W0.rowsR L n s rows):ch H n s=some rows:=by
 unfold W0.rowsR at h
 split at h
 ·subst h;rfl
 ·subst h;rfl
 ·rename_i l
  obtain⟨hl,h1⟩:=h
  subst hl
  cases rows with
  | nil=>rfl
  | cons r l=>simp[ch,h1 r rfl]
 ·obtain⟨x,h1,h2,h3,rfl⟩:=h
  simp[ch,hs.get _ h1,h2,h3]
 ·exact h.elim
def W0.makes:Op→Bool
 | .alloc .. | .box .. | .buildSlice .. | .makeSlice .. | .makeMap .. | .range ..=>true
 | .call c=>match c.callee with
  | .builtin .append=>true
  | _=>false
 | _=>false
def sn(P:Program)(F:TypeId→Option (List TypeId))(o:Op)(ρ:Operand→AV)(b:Nat)(L:SH)(H:aa)(K:AV→SH→Prop):Prop:=
 (∃v H' L',ao P F o ρ b H=some (.val v H')∧fX b L H L' H'∧(b∈L'.names→W0.makes o=true∧b∈ac v)∧K v L')∨∃g args,ao P F o ρ b H=some (.call g args)∧al P g args L K
theorem rD{o:Op}{v:AV}(hb:Bd H)(hs:el L H)(h0:H.get b=none)(h:ao P F o ρ b H=some (.val v H))(hk:K v L):sn P F o ρ b L H K:=.inl ⟨v,H,L,h,.refl hb hs,fun hm=>absurd hm (hs.not_mem h0),hk⟩
theorem c8{o:Op}{v:AV}{x:Blk}(hb:Bd H)(hs:el L H)(hlt:b<H.next)(h0:H.get b=none)(hv:W0.makes o=true∧b∈ac v)(h:ao P F o ρ b H=some (.val v (H.new b x)))(hk:K v ((b,x)::L)):sn P F o ρ b L H K:=.inl ⟨v,_,_,h,.new hb hs hlt h0 x,fun _=>hv,hk⟩
theorem qP{t:TypeId}{ag:Bool}{n:Nat}{a:AV}{k:AV→Prop}(hs:el L H)(h1:b0 P t=some ag)(h2:au P t=some n)(h:W0.loadR ag n a L k):∃v,fN P H t a=some v∧k v:=by
 unfold W0.loadR at h
 split at h
 ·obtain⟨x,r,v,g1,g2,g3,g4⟩:=h
  exact⟨v,by simp[fN,hs.get _ g1,g2,jL h1 h2 g3],g4⟩
 ·obtain⟨r,v,g2,g3,g4⟩:=h
  exact⟨v,by simp[fN,g2,jL h1 h2 g3],g4⟩
 ·exact h.elim
theorem og{o:Op}(hb:Bd H)(hs:el L H)(hlt:b<H.next)(h0:H.get b=none)(h:W0.op P F o ρ L K):sn P F o ρ b L H K:=by
 have hnb:=hs.not_mem h0
 have goes_val:∀{o:Op} {v:AV} (_:Bd H) (_:el L H) (_:ao P F o ρ b H=some (.val v H)) (_:K v L),sn P F o ρ b L H K:=fun hb hs h hk=>rD hb hs h0 h hk
 cases o with
 | move x=>exact goes_val hb hs rfl h
 | assign x=>exact goes_val hb hs rfl h
 | pick c x y=>
  obtain⟨t,h1,h2⟩:=h
  exact goes_val hb hs (by simp[ao,h1]) h2
 | alloc t=>
  simp only[W0.op,W0.zof]at h
  split at h
  ·rename_i cs hc
   exact c8 hb hs hlt h0 ⟨rfl,by simp[ac]⟩ (by simp only[ao,hc]) (h b hnb)
  ·exact h.elim
 | box t x=>
  obtain⟨cs,h1,h2,h3⟩:=h
  exact c8 hb hs hlt h0 ⟨rfl,by simp[ac]⟩ (by simp only[ao,h1,h2,if_true]) (h3 b hnb)
 | build t parts=>
  simp only[W0.op]at h
  split at h
  ·rename_i fs z hu hz
   split at h
   ·rename_i hall
    split at h
    ·rename_i ps hps
     obtain⟨cs,h1,h2⟩:=h
     refine goes_val hb hs ?_ h2
     have:=l0 (place:=fe P fs) (parts.toList.map fun p=>(p.1,ρ p.2)) ps z cs (by rw[List.map_map];exact hps) h1
     simp only[ao,lK,hu,hz]
     rw[if_pos hall,this]
     rfl
    ·exact h.elim
   ·exact h.elim
  ·rename_i len e z hu hz
   split at h
   ·rename_i n hn
    obtain⟨cs,h1,h2⟩:=h
    refine goes_val hb hs ?_ h2
    have:=l0 (place:=fun i=>some (i*n,n)) (parts.toList.map fun p=>(p.1,ρ p.2)) (parts.toList.map fun p=>(p.1*n,n,ρ p.2)) z cs (by
     rw[List.map_map]
     exact jM (fun p:Nat×Operand=>(p.1*n,n,ρ p.2)) parts.toList) h1
    simp only[ao,lK,hu,hz,hn,Option.bind_some,this]
    rfl
   ·exact h.elim
  ·exact h.elim
 | buildSlice t len parts=>
  simp only[W0.op,W0.zof]at h
  split at h
  ·rename_i e hu
   split at h
   ·rename_i n z hn hz
    split at h
    ·rename_i hc
     obtain⟨h1,rows,h2,h3⟩:=h
     exact c8 hb hs hlt h0 ⟨rfl,by simp[ac]⟩ (by simp only[ao,hu,hn,hz];rw[if_pos ⟨hc.1,hc.2,h1⟩,h2];rfl) (h3 b hnb)
    ·exact h.elim
   ·exact h.elim
  ·exact h.elim
 | load t a=>
  simp only[W0.op]at h
  split at h
  ·rename_i ag n hag hn
   obtain⟨v,g1,g2⟩:=qP hs hag hn h
   exact goes_val hb hs (by simp[ao,g1]) g2
  ·exact h.elim
 | store t a x=>
  simp only[W0.op]at h
  split at h
  ·rename_i n hn
   unfold W0.storeR at h
   split at h
   ·rename_i c i off ha
    obtain⟨y,r,cs,L',g1,g2,g3,g4,g5,g6,g7⟩:=h
    have hg:=hs.get _ g6.mem
    simp only at hg
    refine .inl ⟨_,_,L',?_,.put hb hs g6,fun hm=>absurd (g6.names▸hm) hnb,g7⟩
    simp only[ao,cq,ha,g2,hn,hg,g1]
    rw[if_pos ⟨g3,g4,g5⟩]
    rfl
   ·exact h.elim
  ·exact h.elim
 | nilCheck x=>
  simp only[W0.op,W0.nilchk]at h
  split at h
  ·rename_i hx;exact goes_val hb hs (by simp[ao,hx]) h
  ·rename_i hx;exact goes_val hb hs (by simp[ao,hx]) h
  ·rename_i hx;exact goes_val hb hs (by simp[ao,hx]) h
  ·exact h.elim
 | binOp op t x y c=>
  obtain⟨v,h1,h2⟩:=h
  exact goes_val hb hs (by simp[ao,h1]) h2
 | unOp op t x=>
  obtain⟨v,h1,h2⟩:=h
  exact goes_val hb hs (by simp[ao,h1]) h2
 | convert s d x=>
  simp only[W0.op]at h
  split at h
  ·rename_i h1 h2
   obtain⟨k',n,h3,h4⟩:=h
   exact goes_val hb hs (by simp[ao,oL,h1,h2,h3]) h4
  ·rename_i h1 h2
   obtain⟨s,h3,h4⟩:=h
   exact goes_val hb hs (by simp[ao,oL,h1,h2,h3]) h4
  ·exact h.elim
 | makeFunc fn first cap=>
  cases fn with
  | func f=>
   simp only[W0.op]at h
   split at h
   ·rename_i h1;exact goes_val hb hs (by simp only[ao];rw[if_pos h1]) h
   ·exact h.elim
  | _=>exact h.elim
 | makeSlice t l c=>
  simp only[W0.op,W0.zof]at h
  split at h
  ·rename_i e hu
   split at h
   ·rename_i n by_ z hn hby hz
    split at h
    ·rename_i hc
     obtain⟨k,k',i,j,h1,h2,h3,h4,h5,h6⟩:=h
     refine c8 hb hs hlt h0 ⟨rfl,by simp[ac]⟩ ?_ (h6 b hnb)
     simp only[ao,hu,hn,hby,hz,h1,h2,ju]
     simp only[Int.natCast_nonneg,if_true,Int.toNat_natCast]
     rw[if_pos ⟨hc.1,hc.2,h3,h4,h5⟩]
    ·exact h.elim
   ·exact h.elim
  ·exact h.elim
 | slice t x lo hi mx=>
  simp only[W0.op]at h
  split at h
  ·exact h.elim
  ·rename_i hhm
   split at h
   ·rename_i e hu
    split at h
    ·rename_i n hn
     obtain⟨len,l,hh,m,g1,g2,g3,g4,g5,g6,g7,g8⟩:=h
     have key:∀v,eh P (ff H (ρ x)) t (ρ x) (lo.map ρ) (hi.map ρ) (mx.map ρ)=some v→K v L→sn P F (.slice t x lo hi mx) ρ b L H K:=fun v hv hk=>
      goes_val hb hs (by simp only[ao];rw[if_neg hhm,hv];rfl) hk
     split at g8
     ·rename_i hx
      refine key _ ?_ g8
      rw[hx]at g1
      simp only[eh,hu,hx,g1,g2,g3,g4]
      rw[if_pos ⟨⟨g5,g6,g7⟩,by rw[hn];rfl⟩]
     ·rename_i c i q hx
      obtain⟨⟨y,k1,k2⟩,k3⟩:=g8
      refine key _ ?_ k3
      have hg:=hs.get _ k1
      simp only at hg
      rw[hx]at g1
      simp only[eh,hu,hx,g1,g2,g3,g4]
      rw[if_pos ⟨⟨g5,g6,g7⟩,by rw[hn];rfl⟩]
      simp only[ff,hg,Option.map_some,k2]
      rw[if_pos ⟨rfl,hn⟩]
     ·rename_i rows hx
      obtain⟨⟨k0,k2⟩,k3⟩:=g8
      refine key _ ?_ k3
      rw[hx]at g1
      simp only[eh,hu,hx,g1,g2,g3,g4]
      rw[if_pos ⟨⟨g5,g6,g7⟩,by rw[hn];rfl⟩,if_neg (by rw[k0];simp)]
      cases rows with
      | nil=>simp
      | cons r rs=>simp only[hn,k2 r rfl,if_true]
     ·exact g8.elim
    ·exact h.elim
   ·rename_i hu
    split at h
    ·rename_i hmx
     obtain⟨s,l,hh,g1,g2,g3,g4,g5,g6⟩:=h
     refine goes_val hb hs ?_ g6
     have:mx=none:=by simpa using hmx
     subst this
     simp only[ao]
     rw[if_neg hhm]
     simp only[eh,hu,g1,Option.map_none]
     rw[show bn (Option.map ρ lo) 0=some l from g2,show bn (Option.map ρ hi) s.length=some hh from g3]
     simp[g4,g5]
    ·exact h.elim
   ·exact h.elim
 | fieldAddr s x f=>
  simp only[W0.op]at h
  split at h
  ·rename_i fs hu
   split at h
   ·rename_i fl hf
    split at h
    ·rename_i n hn
     split at h
     ·exact h.elim
     ·rename_i hn0
      unfold W0.faddr at h
      split at h
      ·rename_i hx
       exact goes_val hb hs (by simp[ao,dB,hu,hf,hn,hn0,hx]) h
      ·rename_i hx
       exact goes_val hb hs (by simp[ao,dB,hu,hf,hn,hn0,hx]) h
      ·exact h.elim
    ·exact h.elim
   ·exact h.elim
  ·exact h.elim
 | field s x f=>
  simp only[W0.op]at h
  split at h
  ·rename_i fs hu
   split at h
   ·rename_i fl hf
    split at h
    ·rename_i ag n hag hn
     obtain⟨cs,v,g1,g2,g3⟩:=h
     exact goes_val hb hs (by simp[ao,nZ,hu,hf,g1,jL hag hn g2]) g3
    ·exact h.elim
   ·exact h.elim
  ·exact h.elim
 | indexAddr t x ix=>
  simp only[W0.op]at h
  split at h
  ·rename_i e hu
   split at h
   ·rename_i n hn
    unfold W0.idxR at h
    split at h
    ·rename_i c j m hx
     obtain⟨k,i,y,g1,g2,g3,g4,g5,g6⟩:=h
     have hg:=hs.get _ g4
     simp only at hg
     refine goes_val hb hs ?_ g6
     have hneg:¬i<0:=by omega
     simp[ao,bx,hx,g1,hneg,hu,ff,hg,g3,g5,hn]
    ·rename_i rows hx
     obtain⟨k,i,r,g1,g2,g3,g4,g5⟩:=h
     refine goes_val hb hs ?_ g5
     have hneg:¬i<0:=by omega
     simp[ao,bx,hx,g1,hneg,hu,g3,g4,hn]
    ·exact h.elim
   ·exact h.elim
  ·rename_i len e hu
   split at h
   ·rename_i n hn
    obtain⟨k,i,g1,g2,g3,g4⟩:=h
    have hneg:¬i<0:=by omega
    split at g4
    ·rename_i hx
     exact goes_val hb hs (by simp[ao,bx,hx,g1,hneg,hu,g3,hn]) g4
    ·rename_i hx
     exact goes_val hb hs (by simp[ao,bx,hx,g1,hneg,hu,g3,hn]) g4
    ·exact g4.elim
   ·exact h.elim
  ·exact h.elim
 | index t x ix=>
  simp only[W0.op]at h
  split at h
  ·rename_i hu
   obtain⟨s,k,i,y,g1,g2,g3,g4,g5⟩:=h
   have hneg:¬i<0:=by omega
   exact goes_val hb hs (by simp[ao,lL,hu,g1,g2,hneg,g4]) g5
  ·rename_i len e hu
   split at h
   ·rename_i ag n hag hn
    obtain⟨cs,k,i,v,g1,g2,g3,g4,g5,g6⟩:=h
    refine goes_val hb hs ?_ g6
    simp only[ao,lL,hu,g1,g2]
    rw[if_pos ⟨g3,g4⟩,hn]
    simp only[Option.bind_some,jL hag hn g5]
    rfl
   ·exact h.elim
  ·exact h.elim
 | extract x i=>
  obtain⟨vs,v,g1,g2,g3⟩:=h
  exact goes_val hb hs (by simp[ao,g1,g2]) g3
 | call c=>
  simp only[W0.op]at h
  split at h
  ·rename_i hc
   split at h
   ·rename_i x e ha ht
    obtain⟨n,g1,g2⟩:=h
    refine goes_val hb hs ?_ g2
    cases hx:ρ x<;>rw[hx]at g1<;>first | (cases g1;done) | simp[ao,hc,ha,av,hx,ht,g1]
   ·rename_i x ha ht
    obtain⟨s,g1,g2⟩:=h
    exact goes_val hb hs (by simp[ao,hc,ha,av,g1,ht]) g2
   ·rename_i x n e ha ht
    split at h
    ·exact h.elim
    ·rename_i hne
     refine goes_val hb hs ?_ h
     cases hx:ρ x<;>first | (exact absurd hx (hne _)) | simp[ao,hc,ha,av,hx,ht]
   ·exact h.elim
  ·rename_i hc
   split at h
   ·rename_i s x t tx ha ht
    split at h
    ·rename_i e e' hu hux
     split at h
     ·rename_i n by_ z hn hby hz
      split at h
      ·rename_i hcn
       obtain⟨l,m,g1,g2,g3,g4,g5,g6⟩:=h
       have r1:=pg hs g1
       have r2:=pg hs g2
       have key:∀v H',aV P H b t (ρ s) (ρ x)=some (v,H')→ao P F (.call c) ρ b H=some (.val v H'):=fun v H' hv=>by
        simp only[ao,hc,ha,List.map_cons,List.map_nil,av,ht,hux,hv]
        rfl
       have hz':(bH P e).bind AV.cells? =some z:=hz
       split at g6
       ·rename_i hx
        by_cases hm:m.length=0
        ·exact goes_val hb hs (key _ _ (by rw[hx]at r1 ⊢;simp only[aV,hu,hn,hby,hz',r1,r2];rw[if_pos ⟨g3,g4,hcn.2,hcn.1,g5⟩,if_pos hm])) (g6.1 hm)
        ·exact c8 hb hs hlt h0 ⟨by simp[W0.makes,hc],by simp[ac]⟩ (key _ _ (by rw[hx]at r1 ⊢;simp only[aV,hu,hn,hby,hz',r1,r2];rw[if_pos ⟨g3,g4,hcn.2,hcn.1,g5⟩,if_neg hm])) (g6.2 hm b hnb)
       ·rename_i hx
        by_cases hm:m.length=0
        ·exact goes_val hb hs (key _ _ (by rw[hx]at r1 ⊢;simp only[aV,hu,hn,hby,hz',r1,r2];rw[if_pos ⟨g3,g4,hcn.2,hcn.1,g5⟩,if_pos hm])) (g6.1 hm)
        ·exact c8 hb hs hlt h0 ⟨by simp[W0.makes,hc],by simp[ac]⟩ (key _ _ (by rw[hx]at r1 ⊢;simp only[aV,hu,hn,hby,hz',r1,r2];rw[if_pos ⟨g3,g4,hcn.2,hcn.1,g5⟩,if_neg hm])) (g6.2 hm b hnb)
       ·rename_i b' i' k' hx
        obtain⟨y,L',k1,k2⟩:=g6
        have f1:=fX.del (b:=b) hb hs k1
        have hb':b≠b':=fun e=>by
         have:=hs.get _ (k1.perm.mem_iff.2 List.mem_cons_self)
         rw[←e,h0]at this;cases this
        have f2:fX b L' (H.put b' none) ((b,⟨n,l++m⟩)::L') ((H.put b' none).new b ⟨n,l++m⟩):=.new f1.bd f1.sub hlt (by rw[aa.get_put,if_neg (fun e=>hb' e.symm)];exact h0) _
        exact .inl ⟨_,_,_,key _ _ (by rw[hx]at r1 ⊢;simp only[aV,hu,hn,hby,hz',r1,r2];rw[if_pos ⟨g3,g4,hcn.2,hcn.1,g5⟩]),f1.trans f2,fun _=>⟨by simp[W0.makes,hc],by simp[ac]⟩,k2 b hnb⟩
       ·exact g6.elim
      ·exact h.elim
     ·exact h.elim
    ·exact h.elim
   ·exact h.elim
  ·rename_i hc
   split at h
   ·rename_i x y ha
    obtain⟨k,a,d,g1,g2,g3⟩:=h
    exact goes_val hb hs (by simp[ao,hc,ha,av,g1,g2]) g3
   ·exact h.elim
  ·rename_i hc
   split at h
   ·rename_i x y ha
    obtain⟨k,a,d,g1,g2,g3⟩:=h
    exact goes_val hb hs (by simp[ao,hc,ha,av,g1,g2]) g3
   ·exact h.elim
  ·rename_i hc
   split at h
   ·rename_i x t ha ht
    split at h
    ·rename_i e hu
     split at h
     ·rename_i n z hn hz
      have hz':(bH P e).bind AV.cells? =some z:=hz
      split at h
      ·rename_i hcn
       have key:∀H',b6 P H t (ρ x)=some H'→ao P F (.call c) ρ b H=some (.val (.tup []) H'):=fun H' hv=>by
        simp only[ao,hc,ha,List.map_cons,List.map_nil,av,ht,hv]
        rfl
       unfold W0.clearR at h
       split at h
       ·rename_i hx
        exact goes_val hb hs (key _ (by rw[hx];simp only[b6,hu,hn,hz'])) h
       ·rename_i d i k hx
        obtain⟨y,L',g1,g2,g3,g4⟩:=h
        have hg:=hs.get _ g3.mem
        simp only at hg
        refine .inl ⟨_,_,L',key _ ?_,.put hb hs g3,fun hm=>absurd (g3.names▸hm) hnb,g4⟩
        rw[hx]
        simp only[b6,hu,hn,hz',hg]
        rw[if_pos ⟨⟨g1,hcn.1.1⟩,⟨hcn.1.2,g2⟩,hcn.2⟩]
       ·exact h.elim
      ·exact h.elim
     ·exact h.elim
    ·exact h.elim
   ·exact h.elim
  ·rename_i f hc
   split at h
   ·rename_i g cs hf
    exact .inr ⟨g,_,by simp[ao,hc,hf],h⟩
   ·exact h.elim
  ·exact h.elim
 | makeMap t r=>
  cases r with
  | none=>exact c8 hb hs hlt h0 ⟨rfl,by simp[ac]⟩ rfl (h b hnb)
  | some r=>exact h.elim
 | lookup t m k ok=>
  simp only[W0.op]at h
  split at h
  ·rename_i kt et hu
   split at h
   ·rename_i z hk hz
    unfold W0.lookR at h
    split at h
    ·rename_i c s hm hks
     obtain⟨x,g1,g2,g3⟩:=h
     have hg:=hs.get _ g1
     simp only at hg
     refine goes_val hb hs ?_ g3
     simp only[ao,d7,hu,hm,hks,hk,hz,hg]
     rw[if_pos g2];rfl
    ·exact h.elim
   ·exact h.elim
  ·exact h.elim
 | mapUpdate t m k x=>
  simp only[W0.op]at h
  split at h
  ·rename_i kt et hu
   split at h
   ·rename_i hk
    unfold W0.mupR at h
    split at h
    ·rename_i c s hm hks
     obtain⟨y,L',g1,g2,g3,g4⟩:=h
     have hg:=hs.get _ g3.mem
     simp only at hg
     refine .inl ⟨_,_,L',?_,.put hb hs g3,fun hm=>absurd (g3.names▸hm) hnb,g4⟩
     simp only[ao,bW,hu,hm,hks,hk,hg]
     rw[if_pos ⟨g1,g2⟩];rfl
    ·exact h.elim
   ·exact h.elim
  ·exact h.elim
 | range t x=>
  simp only[W0.op]at h
  split at h
  ·rename_i hu
   obtain⟨s,hx,h1⟩:=h
   exact c8 hb hs hlt h0 ⟨rfl,by simp[ac]⟩ (by simp only[ao,hu,hx]) (h1 b hnb)
  ·exact h.elim
 | next it s=>
  cases s with
  | false=>exact h.elim
  | true=>
   simp only[W0.op]at h
   unfold W0.nextR at h
   split at h
   ·rename_i c hi
    obtain⟨x,s,k,pos,g1,g2,g3⟩:=h
    have hg:=hs.get _ g1
    simp only at hg
    split at g3
    ·rename_i hp
     obtain⟨L',g4,g5⟩:=g3
     refine .inl ⟨_,_,L',?_,.put hb hs g4,fun hm=>absurd (g4.names▸hm) hnb,g5⟩
     simp only[ao,dg,hi,hg,g2]
     rw[if_pos hp];rfl
    ·rename_i hp
     refine goes_val hb hs ?_ g3
     simp only[ao,dg,hi,hg,g2]
     rw[if_neg hp];rfl
   ·exact h.elim
 | _=>exact h.elim
end
end Go.Proofs.YtelgfgfgghpjgaaGreatDoor.Am
end
