/- A part of the proof; the statement is proved in the last part. -/
import Derived.Test.YtljkdffikfkcgaaGreatQ2a
import Derived.LoopN
set_option linter.unusedSimpArgs false
set_option linter.unusedVariables false
section
namespace Go.Proofs.YtljkdffikfkcgaaGreat.Am
set_option linter.unusedVariables false
def bU(w:World)(σ:bz)(T:Nat→Prop)(τ:List AV)(a:Act):Prop:=du w σ T τ a.tmps.toList∧a.defers=[]
theorem bU.mono{w w':World}{σ σ':bz}{T T':Nat→Prop}(e:ew w σ T w' σ' T'){τ:List AV}{a:Act}(h:bU w σ T τ a):bU w' σ' T' τ a:=⟨h.1.mono e,h.2⟩
section
variable {P:Program} {F:TypeId→Option (List TypeId)} {w:World} {σ:bz} {T:Nat→Prop}
theorem iK:bq w σ T bj undef:=.tup [] [] rfl (by simp)
theorem bU.eval{τ:List AV}{a:Act}(h:bU w σ T τ a)(x:Operand):bq w σ T (gV τ x) (a.eval x):=by
 cases x with
 | tmp t=>
  simp only[gV,Act.eval]
  have hl:=h.1.1
  simp only[Array.length_toList]at hl
  rcases Nat.lt_or_ge t τ.length with ht | ht
  ·have e1:τ.getD t bj=τ[t]:=by simp[List.getD,ht]
   have ht':t<a.tmps.size:=hl▸ht
   have e2:a.tmps.getD t undef=a.tmps[t]:=by simp[Array.getD,ht']
   rw[e1,e2]
   exact h.1.2 t _ _ (List.getElem?_eq_getElem ht) (by rw[Array.getElem?_toList,Array.getElem?_eq_getElem ht'])
  ·have e1:τ.getD t bj=bj:=by simp[List.getD,List.getElem?_eq_none ht]
   have ht':¬t<a.tmps.size:=Nat.not_lt.2 (hl▸ht)
   have e2:a.tmps.getD t undef=undef:=by simp[Array.getD,ht']
   rw[e1,e2]
   exact iK
 | const v=>
  simp only[gV,Act.eval]
  cases hv:DW v with
  | none=>exact .junk _
  | some a=>exact Aj hv
 | global g=>exact .junk _
 | func f=>exact .fn f [] [] rfl (by simp)
theorem bU.put{τ:List AV}{a:Act}(h:bU w σ T τ a)(dst:Option Tmp){v:AV}{v':Value}(hv:bq w σ T v v'):bU w σ T (eF τ dst v) (a.put dst v'):=by
 cases dst with
 | none=>exact h
 | some d=>
  refine⟨⟨by simpa[eF,Act.put]using h.1.1,fun i x u h1 h2=>?_⟩,h.2⟩
  simp only[eF,Act.put,Array.toList_setIfInBounds,List.getElem?_set]at h1 h2
  by_cases hd:d=i
  ·subst hd
   simp only[if_true]at h1 h2
   split at h1
   ·split at h2
    ·cases h1;cases h2;exact hv
    ·cases h2
   ·cases h1
  ·rw[if_neg hd]at h1 h2
   exact h.1.2 i x u h1 h2
theorem fX{ops:Array Oper}{o:Oper}{τ:List AV}{a:Act}{t:Bool}(h:bU w σ T τ a)(hw:cS ops o τ=some t):Region.wanted o (yielded ops a.tmps)=t:=by
 unfold cS at hw
 unfold Region.wanted
 split at hw
 ·rename_i hg;cases hw;rw[hg]
 ·rename_i j want hg
  rw[hg]
  simp only[]
  unfold yielded
  split at hw
  ·rename_i d hd
   rw[hd]
   simp only[Option.bind_some]
   have get:∀x,τ[d]? =some x→∃u,a.tmps[d]? =some u∧bq w σ T x u:=fun x hx=>by
    have hl:=h.1.1
    simp only[Array.length_toList]at hl
    have hlt:=ax hx
    exact⟨a.tmps[d],Array.getElem?_eq_getElem (by omega),h.1.2 d x _ hx (by rw[Array.getElem?_toList,Array.getElem?_eq_getElem (by omega)])⟩
   split at hw
   ·rename_i b hb
    obtain⟨u,h1,h2⟩:=get _ hb
    rw[h1]
    cases h2
    cases hw
    rfl
   ·rename_i hb
    obtain⟨u,h1,h2⟩:=get _ hb
    rw[h1]
    cases hw
    cases h2 with
    | tup _ vs hl hr=>
    have:vs=[]:=by cases vs with
     | nil=>rfl
     | cons x l=>simp at hl
    subst this
    rfl
   ·cases hw
  ·cases hw
end
def nD(P:Program)(f:FuncId)(args:List AV)(H:ah)(v:AV)(H':ah):Prop:=
 ∀(w:World) (σ:bz) (vs:List Value),bn w σ H→du w σ (aS σ H) args vs→Calls P f vs.toArray w fun e w'=>
  ∃v' σ',e=.returned v'∧bq w' σ' (aS σ' H') v v'∧bn w' σ' H'∧ew w σ (aS σ H) w' σ' (aS σ' H')∧∀c pl,σ' c=some pl→σ c=some pl∨H.next≤c
structure dL(P:Program)(call:FuncId→List AV→ah→Option (AV×ah)):Prop where
 ok:∀f args H v H',call f args H=some (v,H')→nD P f args H v H'
 next:∀f args H v H',call f args H=some (v,H')→H.next≤H'.next
 body:∀f args H v H',call f args H=some (v,H')→∃fn c,P.funcs[f]? =some fn∧fn.body=some c
def mU(w:World)(σ:bz)(H:ah)(τ':List AV)(H':ah)(a':Act)(w':World):Prop:=
 ∃σ',bU w' σ' (aS σ' H') τ' a'∧bn w' σ' H'∧ew w σ (aS σ H) w' σ' (aS σ' H')∧∀c pl,σ' c=some pl→σ c=some pl∨H.next≤c
section
variable {P:Program} {F:TypeId→Option (List TypeId)} {call:FuncId→List AV→ah→Option (AV×ah)} {ops:Array Oper} {base:Nat} {Q:Exit→Act→World→Prop}
theorem vG{o:Op}{ρ:Operand→AV}{b:Nat}{H H':ah}{v:AV}(h:aX P F o ρ b H=some (.val v H')):H'.next=H.next:=by
 cases o with
 | store t a x=>
  simp only[aX]at h
  cases hs:eH P H t (ρ a) (ρ x)with
  | none=>rw[hs]at h;cases h
  | some K=>
   rw[hs]at h
   cases h
   unfold eH at hs
   repeat' (first | (cases hs;rfl) | (cases hs;done) | split at hs)
 | call c=>
  simp only[aX]at h
  split at h
  ·rename_i bi _
   cases hbi:aV P H b bi c.argTypes (c.args.toList.map ρ)with
   | none=>rw[hbi]at h;cases h
   | some r=>
    obtain⟨v0,K⟩:=r
    rw[hbi]at h
    cases h
    unfold aV at hbi
    split at hbi
    ·repeat' (first | (cases hbi;rfl) | (cases hbi;done) | split at hbi)
    ·split at hbi
     ·rw[Option.map_eq_some_iff]at hbi
      obtain⟨n,_,hn⟩:=hbi
      cases hn
      rfl
     ·cases hbi;rfl
     ·cases hbi
    ·split at hbi
     ·split at hbi
      ·unfold cu at hbi
       repeat' (first | (cases hbi;rfl) | (cases hbi;done) | split at hbi)
      ·cases hbi
     ·cases hbi
    ·repeat' (first | (cases hbi;rfl) | (cases hbi;done) | split at hbi)
    ·repeat' (first | (cases hbi;rfl) | (cases hbi;done) | split at hbi)
    ·split at hbi
     ·rw[Option.map_eq_some_iff]at hbi
      obtain⟨K1,hk,hn⟩:=hbi
      cases hn
      unfold dO at hk
      repeat' (first | (cases hk;rfl) | (cases hk;done) | split at hk)
     ·cases hbi
    ·cases hbi
  ·split at h<;>cases h
  ·cases h
 | makeFunc fn first cap=>cases fn<;>simp only[aX]at h<;>(try split at h)<;>cases h<;>rfl
 | buildSlice t len parts=>
  simp only[aX]at h
  split at h
  ·split at h
   ·split at h
    ·rename_i n z _ _ _
     cases hf:db n (List.replicate len z) (parts.toList.map fun p=>(p.1,ρ p.2))with
     | none=>rw[hf]at h;cases h
     | some rows=>rw[hf]at h;cases h;rfl
    ·cases h
   ·cases h
  ·cases h
 | _=>
  simp only[aX]at h
  first
   | (obtain⟨_,rfl⟩:=eJ h;rfl)
   | (repeat' (first | (cases h;rfl) | (cases h;done) | (obtain⟨_,rfl⟩:=eJ h;rfl) | split at h))
theorem jp(hc:dL P call){i:Nat}{τ τ':List AV}{H H':ah}(h:gY P F call ops base i τ H=some (τ',H')):H.next≤H'.next:=by
 unfold gY at h
 split at h
 ·cases h
 ·split at h
  ·split at h
   ·rename_i hop;cases h;rw[vG hop];exact Nat.le_refl _
   ·split at h
    ·rename_i hcall;cases h;exact hc.next _ _ _ _ _ hcall
    ·cases h
   ·cases h
  ·cases h;exact Nat.le_refl _
  ·cases h
theorem Au(fit:Fit P F)(hc:dL P call){i:Nat}{τ τ':List AV}{H H':ah}{w:World}{σ:bz}{a:Act}(h:gY P F call ops base i τ H=some (τ',H'))(hW:bn w σ H)(hτ:bU w σ (aS σ H) τ a)
  (hb:σ (base+i)=none) (hlt:base+i<H.next) {K:Act→World→Prop}
  (hK:∀a' w' σ',bU w' σ' (aS σ' H') τ' a'→bn w' σ' H'→ew w σ (aS σ H) w' σ' (aS σ' H')→(∀c pl,σ' c=some pl→σ c=some pl∨c=base+i∨H.next≤c)→K a' w'):wpOp P ops Q i K a w:=by
 unfold gY at h
 split at h
 ·cases h
 ·rename_i o ho
  unfold wpOp
  rw[ho]
  simp only[]
  split at h
  ·rename_i hwant
   rw[if_pos (fX hτ hwant)]
   left
   unfold Oper.wp
   split at h
   ·rename_i v K' hop
    cases h
    obtain⟨v',w',σ',h1,h2,h3,h4,h5⟩:=yI fit hW hb hlt (o:=o) hτ.eval hop
    have hk:=hK (a.put o.dst v') w' σ' ((hτ.mono h4).put o.dst h2) h3 h4 (fun c pl hcp=>by
     rcases h5 c pl hcp with h6 | h6
     ·exact .inl h6
     ·exact .inr (.inl h6))
    rcases h1 with h1 | ⟨h1,rfl⟩
    ·rw[h1];exact hk
    ·rw[h1];exact hk
   ·rename_i f args hop
    split at h
    ·rename_i v K' hcall
     cases h
     obtain⟨fn,c,hf,hbd⟩:=hc.body _ _ _ _ _ hcall
     obtain⟨vs,h1,h2⟩:=At fit (o:=o) (b:=base+i) hτ.eval hop hf hbd
     rw[h1]
     refine(hc.ok _ _ _ _ _ hcall w σ vs hW h2).mono ?_
     rintro e w' ⟨v',σ',rfl,g1,g2,g3,g4⟩
     exact hK (a.put o.dst v') w' σ' ((hτ.mono g3).put o.dst g1) g2 g3 (fun c pl hcp=>by
      rcases g4 c pl hcp with h6 | h6
      ·exact .inl h6
      ·exact .inr (.inr h6))
    ·cases h
   ·cases h
  ·rename_i hwant
   rw[if_neg (by rw[fX hτ hwant];simp)]
   cases h
   exact hK _ w σ (hτ.put o.dst iK) hW (ew.refl _ _ _) (fun c pl hcp=>.inl hcp)
  ·cases h
theorem yJ(hc:dL P call):∀(l:List Nat) (τ:List AV) (H:ah) (τ':List AV) (H':ah),jm P F call ops base l τ H=some (τ',H')→H.next≤H'.next
 | [],τ,H,τ',H',h=>by cases h;exact Nat.le_refl _
 | i::l,τ,H,τ',H',h=>by
  unfold jm at h
  split at h
  ·rename_i τ1 H1 hs
   exact Nat.le_trans (jp hc hs) (yJ hc l _ _ _ _ h)
  ·cases h
theorem vH(fit:Fit P F)(hc:dL P call):∀(l:List Nat) (τ:List AV) (H:ah) (τ':List AV) (H':ah),jm P F call ops base l τ H=some (τ',H')→l.Nodup→∀(w:World) (σ:bz) (a:Act),
  bn w σ H→bU w σ (aS σ H) τ a→(∀i∈l,σ (base+i)=none∧base+i<H.next)→(∀a' w' σ',bU w' σ' (aS σ' H') τ' a'→bn w' σ' H'→ew w σ (aS σ H) w' σ' (aS σ' H')→
   (∀c pl,σ' c=some pl→σ c=some pl∨(∃i∈l,c=base+i)∨H.next≤c)→Q .normal a' w')→wpOps P ops Q l a w
 | [],τ,H,τ',H',h,_,w,σ,a,hW,hτ,_,hQ=>by
  cases h
  exact hQ a w σ hτ hW (ew.refl _ _ _) (fun c pl hcp=>.inl hcp)
 | i::l,τ,H,τ',H',h,hnd,w,σ,a,hW,hτ,hfr,hQ=>by
  unfold jm at h
  split at h
  ·rename_i τ1 H1 hs
   rw[wpOps_cons]
   refine Au fit hc hs hW hτ (hfr i (by simp)).1 (hfr i (by simp)).2 fun a1 w1 σ1 t1 r1 e1 n1=>?_
   have hnd':=List.nodup_cons.1 hnd
   refine vH fit hc l τ1 H1 τ' H' h hnd'.2 w1 σ1 a1 r1 t1 (fun j hj=>?_) (fun a' w' σ' t2 r2 e2 n2=>hQ a' w' σ' t2 r2 (e1.trans e2) (fun c pl hcp=>?_))
   ·have hji:j≠i:=by rintro rfl;exact hnd'.1 hj
    have hj0:=hfr j (by simp[hj])
    refine⟨?_,Nat.lt_of_lt_of_le hj0.2 (jp hc hs)⟩
    cases hs1:σ1 (base+j)with
    | none=>rfl
    | some pl=>
     rcases n1 _ pl hs1 with h1 | h1 | h1
     ·rw[hj0.1]at h1;cases h1
     ·omega
     ·omega
   ·rcases n2 c pl hcp with h1 | ⟨q,hq,rfl⟩ | h1
    ·rcases n1 c pl h1 with h2 | h2 | h2
     ·exact .inl h2
     ·exact .inr (.inl ⟨i,by simp,h2⟩)
     ·exact .inr (.inr h2)
    ·exact .inr (.inl ⟨q,by simp[hq],rfl⟩)
    ·exact .inr (.inr (Nat.le_trans (jp hc hs) h1))
  ·cases h
def Av:Ex→Exit
 | .normal=>.normal
 | .exit id=>.exit id
 | .ret=>.ret
def ch(P:Program)(c:Code)(τ:List AV)(H:ah)(e:Ex)(τ':List AV)(H':ah):Prop:=
 H.next≤H'.next∧∀(w:World) (σ:bz) (a:Act),bn w σ H→bU w σ (aS σ H) τ a→∀Q:Exit→Act→World→Prop,(∀a' w',mU w σ H τ' H' a' w'→Q (Av e) a' w')→c.wp P Q a w
theorem mU.refl{w:World}{σ:bz}{H:ah}{τ:List AV}{a:Act}(hW:bn w σ H)(hτ:bU w σ (aS σ H) τ a):mU w σ H τ H a w:=⟨σ,hτ,hW,ew.refl _ _ _,fun c pl h=>.inl h⟩
theorem eK(fit:Fit P F)(hc:dL P call){τ:List AV}{H:ah}{τ':List AV}{H':ah}{id:Nat}(h:cT P F call ops false τ H=some (τ',H')):ch P (.region id ops false) τ H .normal τ' H':=by
 simp only[cT,Bool.false_eq_true,if_false]at h
 refine⟨Nat.le_trans (Nat.le_add_right _ _) (yJ hc _ _ _ _ _ h),fun w σ a hW hτ Q hQ=>?_⟩
 have hW1:bn w σ {H with next:=H.next+ops.size}:=hW.congr (fun _=>rfl) (Nat.le_add_right _ _)
 have ho:aS σ {H with next:=H.next+ops.size}=aS σ H:=aS.congr fun _=>rfl
 refine wp_region (vH fit hc _ τ _ τ' H' h List.nodup_range w σ a hW1 (by rw[ho];exact hτ) (fun i hi=>?_) (fun a' w' σ' t r e n=>hQ a' w' ⟨σ',t,r,by rw[ho]at e;exact e,fun c pl hcp=>?_⟩))
 ·rw[List.mem_range]at hi
  refine⟨?_,Nat.add_lt_add_left hi _⟩
  cases hs:σ (H.next+i)with
  | none=>rfl
  | some pl=>have:=hW.named _ pl hs;omega
 ·rcases n c pl hcp with h1 | ⟨i,_,rfl⟩ | h1
  ·exact .inl h1
  ·exact .inr (Nat.le_add_right _ _)
  ·exact .inr (Nat.le_trans (Nat.le_add_right _ _) h1)
theorem mU.trans{w w1 w2:World}{σ σ1:bz}{H H1 H2:ah}{τ2:List AV}{a2:Act}(e:ew w σ (aS σ H) w1 σ1 (aS σ1 H1))(n:∀c pl,σ1 c=some pl→σ c=some pl∨H.next≤c)(hn:H.next≤H1.next)(h:mU w1 σ1 H1 τ2 H2 a2 w2):mU w σ H τ2 H2 a2 w2:=by
 obtain⟨σ2,t,r,e2,n2⟩:=h
 refine⟨σ2,t,r,e.trans e2,fun c pl hc=>?_⟩
 rcases n2 c pl hc with h1 | h1
 ·exact n c pl h1
 ·exact .inr (Nat.le_trans hn h1)
def iL(tmps:Array Value):ResultVar→Sem Value
 | .tmp t=>Pure.pure (tmps.getD t undef)
 | .cell a t=>do loadVar t (←asAddr (tmps.getD a undef))
theorem BT(fn:Func)(tmps:Array Value):results fn tmps=(do let vs←fn.results.mapM (iL tmps);Pure.pure (if h:vs.size=1 then vs[0]else .tuple vs)):=by
 unfold results
 congr 2
theorem zo{w:World}{σ:bz}{H:ah}(hW:bn w σ H){τ:List AV}{a:Act}(hτ:bU w σ (aS σ H) τ a)(r:ResultVar){v:AV}(h:gZ P τ H r=some v):
  ∃v',(iL a.tmps r).run P w=.ok v' w∧bq w σ (aS σ H) v v':=by
 cases r with
 | tmp t=>cases h;exact⟨_,rfl,hτ.eval (.tmp t)⟩
 | cell x t=>
  simp only[gZ]at h
  have hx:=hτ.eval (.tmp x)
  simp only[gV,Act.eval]at hx
  obtain⟨v',h1,h2⟩:=vC hW hx h
  refine⟨v',?_,h2⟩
  unfold jH at h
  split at h
  ·rename_i heq
   rw[heq]at hx
   simp only[iL]
   generalize a.tmps.getD x undef=u at hx h1
   cases hx
   simpa[Instr.loadAt,Instr.sureAddr,asAddr]using h1
  ·rename_i heq
   rw[heq]at hx
   simp only[iL]
   generalize a.tmps.getD x undef=u at hx h1
   cases hx
   simpa[Instr.loadAt,Instr.sureAddr,asAddr]using h1
  ·cases h
theorem resultList{w:World}{σ:bz}{H:ah}(hW:bn w σ H){τ:List AV}{a:Act}(hτ:bU w σ (aS σ H) τ a):∀(rs:List ResultVar) (vs:List AV),cI (rs.map (gZ P τ H))=some vs→
  ∃us:List Value,(rs.mapM (iL a.tmps)).run P w=.ok us w∧du w σ (aS σ H) vs us
 | [],vs,h=>by cases h;exact⟨[],rfl,rfl,by simp⟩
 | r::rs,vs,h=>by
  simp only[List.map_cons]at h
  cases hr:gZ P τ H r with
  | none=>rw[hr]at h;cases h
  | some v=>
   rw[hr]at h
   simp only[cI]at h
   split at h
   ·rename_i l hl
    cases h
    obtain⟨v',h1,h2⟩:=zo hW hτ r hr
    obtain⟨us,h3,h4⟩:=resultList hW hτ rs l hl
    refine⟨v'::us,?_,by simp[h4.1],fun i x u g1 g2=>?_⟩
    ·rw[List.mapM_cons]
     simp only[Sem.run_bind,h1,Result.andThen_ok,h3,Sem.run_pure]
    ·match i with
     | 0=>cases g1;cases g2;exact h2
     | i+1=>exact h4.2 i x u (by simpa using g1) (by simpa using g2)
   ·cases h
theorem mV{w:World}{σ:bz}{H:ah}(hW:bn w σ H){τ:List AV}{a:Act}(hτ:bU w σ (aS σ H) τ a){fn:Func}{v:AV}(h:iG P τ H fn.results.toList=some v):
  ∃v',(results fn a.tmps).run P w=.ok v' w∧bq w σ (aS σ H) v v':=by
 unfold iG at h
 rw[BT,Array.mapM_eq_mapM_toList]
 split at h
 ·rename_i v0 hv
  cases h
  obtain⟨us,h1,h2⟩:=resultList hW hτ _ _ hv
  have hl:=h2.1
  match us,hl with
  | [u],_=>
   exact⟨u,by simp[h1],h2.2 0 _ u rfl rfl⟩
 ·rename_i vs hne hv
  cases h
  obtain⟨us,h1,h2⟩:=resultList hW hτ _ _ hv
  have hl:us.length≠1:=by
   rw[←h2.1]
   intro h
   match vs,h with
   | [x],_=>exact hne x rfl
  exact⟨.tuple us.toArray,by simp[h1,hl],.tup _ _ h2.1 h2.2⟩
 ·cases h
theorem qm{ex:Code→List AV→ah→Option (Ex×List AV×ah)}{Good:Code→Prop}(hgood:∀(g:Nat) (fn:Func) (c:Code),P.funcs[g]? =some fn→fn.body=some c→Good c)
  (h:∀c τ H e τ' H',Good c→ex c τ H=some (e,τ',H')→ch P c τ H e τ' H'):dL P (jn P ex):=by
 have key:∀f args H v H',jn P ex f args H=some (v,H')→∃fn c e τ' K,P.funcs[f]? =some fn∧fn.body=some c∧ex c (args++List.replicate (fn.ntmps-args.length) bj) {H with log:=[]}=some (e,τ',K)∧
   (e=.normal∨e=.ret)∧iG P τ' K fn.results.toList=some v∧H'.next=K.next∧∀b,H'.get b=K.get b:=by
  intro f args H v H' hc
  unfold jn at hc
  split at hc
  ·rename_i fn hf
   split at hc
   ·rename_i c hb
    split at hc
    ·cases hc
    ·rename_i e τ' K hne hex
     split at hc
     ·rename_i v0 hr
      cases hc
      refine⟨fn,c,e,τ',K,hf,hb,hex,?_,hr,rfl,fun _=>rfl⟩
      cases e with
      | normal=>exact .inl rfl
      | ret=>exact .inr rfl
      | exit id=>exact absurd rfl (hne id)
     ·cases hc
    ·cases hc
   ·cases hc
  ·cases hc
 refine⟨fun f args H v H' hc=>?_,fun f args H v H' hc=>?_,fun f args H v H' hc=>?_⟩
 ·obtain⟨fn,c,e,τ',K,hf,hb,hex,he,hr,hn,hg⟩:=key f args H v H' hc
  obtain⟨n1,k1⟩:=h _ _ _ _ _ _ (hgood _ _ _ hf hb) hex
  intro w σ vs hW hvs
  have ho:aS σ {H with log:=[]}=aS σ H:=aS.congr fun _=>rfl
  refine calls_of_wp hf hb (k1 w σ _ (hW.congr (fun _=>rfl) (Nat.le_refl _)) ⟨?_,rfl⟩ _ fun a' w' haf=>?_)
  ·rw[ho]
   refine⟨by simp[hvs.1],fun i x u h1 h2=>?_⟩
   simp only[Array.toList_append,Array.toList_replicate]at h2
   rcases Nat.lt_or_ge i args.length with hi | hi
   ·rw[List.getElem?_append_left hi]at h1
    rw[List.getElem?_append_left (by rw[←hvs.1];exact hi)]at h2
    exact hvs.2 i x u h1 h2
   ·rw[List.getElem?_append_right hi,List.getElem?_replicate]at h1
    rw[List.getElem?_append_right (by rw[←hvs.1];exact hi),List.getElem?_replicate]at h2
    split at h1
    ·split at h2
     ·cases h1;cases h2;exact iK
     ·cases h2
    ·cases h1
  ·obtain⟨σ',t1,r1,e1,m1⟩:=haf
   obtain⟨v',g1,g2⟩:=mV (P:=P) r1 t1 hr
   have hoK:aS σ' H'=aS σ' K:=aS.congr hg
   have hpost:a'.defers=[]∧∃v,(results fn a'.tmps).run P w'=.ok v w'∧∃v' σ',Ending.returned v=.returned v'∧bq w' σ' (aS σ' H') _ v'∧bn w' σ' H'∧ew w σ (aS σ H) w' σ' (aS σ' H')∧∀c pl,σ' c=some pl→σ c=some pl∨H.next≤c:=
    ⟨t1.2,v',g1,v',σ',rfl,by rw[hoK];exact g2,r1.congr hg (by rw[hn];exact Nat.le_refl _),by rw[hoK];rw[ho]at e1;exact e1,m1⟩
   rcases he with rfl | rfl
   ·exact hpost
   ·exact hpost
 ·obtain⟨fn,c,e,τ',K,hf,hb,hex,he,hr,hn,hg⟩:=key f args H v H' hc
  rw[hn]
  exact(h _ _ _ _ _ _ (hgood _ _ _ hf hb) hex).1
 ·obtain⟨fn,c,e,τ',K,hf,hb,_⟩:=key f args H v H' hc
  exact⟨fn,c,hf,hb⟩
end
end Go.Proofs.YtljkdffikfkcgaaGreat.Am
end
section
namespace Go.Proofs.YtljkdffikfkcgaaGreat.Am
set_option linter.unusedVariables false
def Bd(H:ah):Prop:=∀b,H.next≤b→H.get b=none
structure vk(H H':ah):Prop where
 next:H.next≤H'.next
 dom:∀b,b<H.next→H.get b=none→H'.get b=none
 keep:∀b,b<H.next→b∉H'.log→H'.get b=H.get b
 log:∀b,b∈H.log→b∈H'.log
 bd:Bd H→Bd H'
theorem vk.refl(H:ah):vk H H:=⟨Nat.le_refl _,fun _ _ h=>h,fun _ _ _=>rfl,fun _ h=>h,fun h=>h⟩
theorem vk.trans{H H' H'':ah}(h:vk H H')(k:vk H' H''):vk H H'':=
  ⟨Nat.le_trans h.next k.next,fun b hb h0=>k.dom b (Nat.lt_of_lt_of_le hb h.next) (h.dom b hb h0),
   fun b hb hl=>(k.keep b (Nat.lt_of_lt_of_le hb h.next) hl).trans (h.keep b hb (fun h1=>hl (k.log b h1))),fun b hb=>k.log b (h.log b hb),fun hb=>k.bd (h.bd hb)⟩
section
variable {P:Program} {F:TypeId→Option (List TypeId)}
structure Aw(o:Op)(ρ:Operand→AV)(b:Nat)(H H':ah):Prop where
 next:H'.next=H.next
 keep:∀c,c≠b→c∉aH o ρ→H'.get c=H.get c
 keepL:∀c,c≠b→c∉H'.log→H'.get c=H.get c
 dom:∀c,c≠b→H.get c=none→H'.get c=none
 log:∀c,c∈H.log→c∈H'.log
theorem Aw.same(o:Op)(ρ:Operand→AV)(b:Nat)(H:ah):Aw o ρ b H H:=⟨rfl,fun _ _ _=>rfl,fun _ _ _=>rfl,fun _ _ h=>h,fun _ h=>h⟩
theorem Aw.new(o:Op)(ρ:Operand→AV)(b:Nat)(H:ah)(x:Blk):Aw o ρ b H (H.new b x):=
 ⟨rfl,fun c hc _=>by rw[ah.get_new,if_neg (fun e=>hc e.symm)],fun c hc _=>by rw[ah.get_new,if_neg (fun e=>hc e.symm)],fun c hc h=>by rw[ah.get_new,if_neg (fun e=>hc e.symm)];exact h,fun _ h=>h⟩
theorem zp{o:Op}{ρ:Operand→AV}{b:Nat}{H H':ah}{v:AV}(h:aX P F o ρ b H=some (.val v H')):Aw o ρ b H H':=by
 cases o with
 | store t a x=>
  simp only[aX]at h
  cases hs:eH P H t (ρ a) (ρ x)with
  | none=>rw[hs]at h;cases h
  | some K=>
   rw[hs]at h
   cases h
   unfold eH at hs
   split at hs
   ·rename_i c i off cs n ha hcs hn
    split at hs
    ·rename_i y hy
     split at hs
     ·rename_i r hr
      split at hs
      ·cases hs
       have hw:aH (.store t a x) ρ=[c]:=by simp[aH,ha,ac]
       refine⟨rfl,fun d hd hn=>?_,fun d hd hl=>?_,fun d hd h0=>?_,fun d hl=>List.mem_cons_of_mem _ hl⟩
       ·rw[ah.get_put,if_neg (by rintro rfl;exact hn (by rw[hw];simp))]
       ·rw[ah.get_put,if_neg (by rintro rfl;exact hl (by simp[ah.put]))]
       ·rw[ah.get_put]
        split
        ·rename_i e;subst e;rw[hy]at h0;cases h0
        ·exact h0
      ·cases hs
     ·cases hs
    ·cases hs
   ·cases hs
 | call c=>
  simp only[aX]at h
  split at h
  ·rename_i bi hcal
   cases hbi:aV P H b bi c.argTypes (c.args.toList.map ρ)with
   | none=>rw[hbi]at h;cases h
   | some r=>
    obtain⟨v0,K⟩:=r
    rw[hbi]at h
    cases h
    unfold aV at hbi
    split at hbi
    ·split at hbi
     ·cases hbi;exact .same _ _ _ _
     ·cases hbi
    ·split at hbi
     ·rw[Option.map_eq_some_iff]at hbi
      obtain⟨n,_,hn⟩:=hbi
      cases hn
      exact .same _ _ _ _
     ·cases hbi;exact .same _ _ _ _
     ·cases hbi
    ·rename_i s x heq
     split at hbi
     ·split at hbi
      ·obtain⟨a0,a1,hargs,h0,h1⟩:=lh heq
       unfold cu at hbi
       split at hbi
       ·split at hbi
        ·split at hbi
         ·rename_i l m hl hm
          split at hbi
          ·split at hbi
           ·split at hbi
            ·cases hbi;exact .same _ _ _ _
            ·cases hbi;exact .new _ _ _ _ _
           ·split at hbi
            ·cases hbi;exact .same _ _ _ _
            ·cases hbi;exact .new _ _ _ _ _
           ·rename_i b' i k
            cases hbi
            have hw:aH (.call c) ρ=[b']:=by simp[aH,hcal,hargs,h0,ac]
            refine⟨rfl,fun d hd hn=>?_,fun d hd hl=>?_,fun d hd h0=>?_,fun d hl=>List.mem_cons_of_mem _ hl⟩
            ·rw[ah.get_new,if_neg (fun e=>hd e.symm),ah.get_put,if_neg (by rintro rfl;exact hn (by rw[hw];simp))]
            ·rw[ah.get_new,if_neg (fun e=>hd e.symm),ah.get_put,if_neg (by rintro rfl;exact hl (by simp[ah.put,ah.new]))]
            ·rw[ah.get_new,if_neg (fun e=>hd e.symm),ah.get_put]
             split
             ·rfl
             ·exact h0
           ·cases hbi
          ·cases hbi
         ·cases hbi
        ·cases hbi
       ·cases hbi
      ·cases hbi
     ·cases hbi
    ·split at hbi
     ·cases hbi;exact .same _ _ _ _
     ·cases hbi
    ·split at hbi
     ·cases hbi;exact .same _ _ _ _
     ·cases hbi
    ·rename_i x heq
     split at hbi
     ·rename_i t htt
      cases hcl:dO P H t x with
      | none=>rw[hcl]at hbi;cases hbi
      | some K1=>
       rw[hcl]at hbi
       cases hbi
       obtain⟨a0,hargs,h0⟩:=lg heq
       unfold dO at hcl
       split at hcl
       ·split at hcl
        ·split at hcl
         ·cases hcl;exact .same _ _ _ _
         ·rename_i d i k
          split at hcl
          ·rename_i y hy
           split at hcl
           ·cases hcl
            have hw:aH (.call c) ρ=[d]:=by simp[aH,hcal,hargs,h0,ac]
            refine⟨rfl,fun d' hd hn=>?_,fun d' hd hl=>?_,fun d' hd h0=>?_,fun d' hl=>List.mem_cons_of_mem _ hl⟩
            ·rw[ah.get_put,if_neg (by rintro rfl;exact hn (by rw[hw];simp))]
            ·rw[ah.get_put,if_neg (by rintro rfl;exact hl (by simp[ah.put]))]
            ·rw[ah.get_put]
             split
             ·rename_i e;subst e;rw[hy]at h0;cases h0
             ·exact h0
           ·cases hcl
          ·cases hcl
         ·cases hcl
        ·cases hcl
       ·cases hcl
     ·cases hbi
    ·cases hbi
  ·split at h<;>cases h
  ·cases h
 | makeFunc fn first cap=>cases fn<;>simp only[aX]at h<;>(try split at h)<;>cases h<;>exact .same _ _ _ _
 | buildSlice t len parts=>
  simp only[aX]at h
  split at h
  ·split at h
   ·split at h
    ·rename_i n z _ _ _
     cases hf:db n (List.replicate len z) (parts.toList.map fun p=>(p.1,ρ p.2))with
     | none=>rw[hf]at h;cases h
     | some rows=>rw[hf]at h;cases h;exact .new _ _ _ _ _
    ·cases h
   ·cases h
  ·cases h
 | _=>
  simp only[aX]at h
  first
   | (obtain⟨_,rfl⟩:=eJ h;exact .same _ _ _ _)
   | (repeat' (first | (cases h;exact .same _ _ _ _) | (cases h;exact .new _ _ _ _ _) | (cases h;done) | (obtain⟨_,rfl⟩:=eJ h;exact .same _ _ _ _) | split at h))
theorem ez(base mask:Nat):∀(k:Nat) (H:ah),(cQ base mask k H).next=H.next∧(cQ base mask k H).log=H.log
 | 0,H=>⟨rfl,rfl⟩
 | k+1,H=>by
  unfold cQ
  split
  ·exact ez base mask k H
  ·exact ez base mask k _
theorem fp(base mask:Nat):∀(k:Nat) (H:ah) (c:Nat),(cQ base mask k H).get c=if(∃j,j<k∧mask.testBit j=false∧c=base+j)then none else H.get c
 | 0,H,c=>by simp[cQ]
 | k+1,H,c=>by
  unfold cQ
  rw[fp base mask k]
  by_cases h1:∃j,j<k∧mask.testBit j=false∧c=base+j
  ·obtain⟨j,hj⟩:=h1
   rw[if_pos ⟨j,hj⟩,if_pos ⟨j,by omega,hj.2⟩]
  ·rw[if_neg h1]
   by_cases hm:mask.testBit k=true
   ·rw[if_pos hm,if_neg]
    rintro⟨j,hj,hb,hc⟩
    by_cases hjk:j=k
    ·subst hjk;rw[hm]at hb;cases hb
    ·exact h1 ⟨j,by omega,hb,hc⟩
   ·rw[if_neg hm]
    show(H.tr.set (base+k) none).get c=_
    rw[Tr.get_set]
    by_cases hc:base+k=c
    ·rw[if_pos hc,if_pos ⟨k,by omega,by simpa using hm,hc.symm⟩]
    ·rw[if_neg hc,if_neg]
     ·rfl
     rintro⟨j,hj,hb,hc'⟩
     by_cases hjk:j=k
     ·subst hjk;exact hc hc'.symm
     ·exact h1 ⟨j,by omega,hb,hc'⟩
theorem e7(base mask:Nat)(H:ah):∀(k:Nat) (K:ah),(fK base mask H k K).next=K.next∧(fK base mask H k K).log=K.log
 | 0,K=>⟨rfl,rfl⟩
 | k+1,K=>by
  unfold fK
  split
  ·exact e7 base mask H k K
  ·exact e7 base mask H k _
theorem iM(base mask:Nat)(H:ah):∀(k:Nat) (K:ah) (c:Nat),(fK base mask H k K).get c=if(∃j,j<k∧mask.testBit j=false∧c=base+j)then H.get c else K.get c
 | 0,K,c=>by simp[fK]
 | k+1,K,c=>by
  unfold fK
  rw[iM base mask H k]
  by_cases h1:∃j,j<k∧mask.testBit j=false∧c=base+j
  ·obtain⟨j,hj⟩:=h1
   rw[if_pos ⟨j,hj⟩,if_pos ⟨j,by omega,hj.2⟩]
  ·rw[if_neg h1]
   by_cases hm:mask.testBit k=true
   ·rw[if_pos hm,if_neg]
    rintro⟨j,hj,hb,hc⟩
    by_cases hjk:j=k
    ·subst hjk;rw[hm]at hb;cases hb
    ·exact h1 ⟨j,by omega,hb,hc⟩
   ·rw[if_neg hm]
    show(K.tr.set (base+k) (H.tr.get (base+k))).get c=_
    rw[Tr.get_set]
    by_cases hc:base+k=c
    ·rw[if_pos hc,if_pos ⟨k,by omega,by simpa using hm,hc.symm⟩,←hc];rfl
    ·rw[if_neg hc,if_neg]
     ·rfl
     rintro⟨j,hj,hb,hc'⟩
     by_cases hjk:j=k
     ·subst hjk;exact hc hc'.symm
     ·exact h1 ⟨j,by omega,hb,hc'⟩
structure Hf(B:Nat)(W:Nat→Prop)(H H':ah):Prop where
 next:H.next≤H'.next
 dom:∀b,b<B→H.get b=none→H'.get b=none
 keep:∀b,b<B→¬W b→H'.get b=H.get b
 bd:Bd H→Bd H'
theorem Hf.refl(B:Nat)(W:Nat→Prop)(H:ah):Hf B W H H:=⟨Nat.le_refl _,fun _ _ h=>h,fun _ _ _=>rfl,fun h=>h⟩
theorem Hf.trans{B:Nat}{W W':Nat→Prop}{H H' H'':ah}(h:Hf B W H H')(k:Hf B W' H' H'')(hW:∀b,W b→W' b):Hf B W' H H'':=
 ⟨Nat.le_trans h.next k.next,fun b hb h0=>k.dom b hb (h.dom b hb h0),fun b hb hn=>(k.keep b hb hn).trans (h.keep b hb (fun hw=>hn (hW b hw))),fun hb=>k.bd (h.bd hb)⟩
variable {call:FuncId→List AV→ah→Option (AV×ah)} {ops:Array Oper} {base:Nat}
theorem D0{o:Op}{ρ:Operand→AV}{b:Nat}{H H':ah}{v:AV}(h:aX P F o ρ b H=some (.val v H'))(hb:b<H.next)(h0:Bd H):Bd H':=by
 have hc:=zp h
 intro c hcn
 rw[hc.next]at hcn
 exact hc.dom c (by omega) (h0 c hcn)
theorem Df(hc:∀f args H v H',Bd H→call f args H=some (v,H')→vk H H'){B i:Nat}{τ τ':List AV}{H H':ah}(hbd:Bd H)(hB:B≤base)(hlt:base+i<H.next)(h:gY P F call ops base i τ H=some (τ',H')):Hf B (·∈H'.log) H H'∧∀c,c∈H.log→c∈H'.log:=by
 unfold gY at h
 split at h
 ·cases h
 ·split at h
  ·split at h
   ·rename_i hop
    cases h
    have hcg:=zp hop
    exact⟨⟨by rw[hcg.next];exact Nat.le_refl _,fun c hcb h0=>hcg.dom c (by omega) h0,fun c hcb hn=>hcg.keepL c (by omega) hn,D0 hop hlt⟩,hcg.log⟩
   ·split at h
    ·rename_i hcall
     cases h
     have hcg:=hc _ _ _ _ _ hbd hcall
     exact⟨⟨hcg.next,fun c hcb h0=>hcg.dom c (by omega) h0,fun c hcb hn=>hcg.keep c (by omega) hn,hcg.bd⟩,hcg.log⟩
    ·cases h
   ·cases h
  ·cases h;exact⟨.refl _ _ _,fun _ h=>h⟩
  ·cases h
theorem Ax(hc:∀f args H v H',Bd H→call f args H=some (v,H')→vk H H'){B:Nat}(hB:B≤base):∀(l:List Nat) (τ τ':List AV) (H H':ah),Bd H→(∀i∈l,base+i<H.next)→jm P F call ops base l τ H=some (τ',H')→
  Hf B (·∈H'.log) H H'∧∀c,c∈H.log→c∈H'.log
 | [],τ,τ',H,H',_,_,h=>by cases h;exact⟨.refl _ _ _,fun _ h=>h⟩
 | i::l,τ,τ',H,H',hbd,hl,h=>by
  unfold jm at h
  split at h
  ·rename_i τ1 H1 hs
   obtain⟨h1,l1⟩:=Df hc hbd hB (hl i (by simp)) hs
   obtain⟨h2,l2⟩:=Ax hc hB l _ _ _ _ (h1.bd hbd) (fun j hj=>Nat.lt_of_lt_of_le (hl j (by simp[hj])) h1.next) h
   exact⟨h1.trans h2 l2,fun c hcl=>l2 c (l1 c hcl)⟩
  ·cases h
def touched(r:Option mR)(c:Nat):Prop:=∃x,r=some x∧(c∈x.writes∨c∈x.made∨(x.isCall=true∧x.lo≤c∧c<x.hi))
structure Hg(base i:Nat)(H H':ah)(r:Option mR):Prop where
 next:H.next≤H'.next
 log:H'.log=H.log
 keep:Bd H→∀c,¬touched r c→H'.get c=H.get c
 dom:∀c,c<H.next→c≠base+i→H.get c=none→H'.get c=none
 bd:Bd H→Bd H'
 made:∀x,r=some x→(∀c∈x.made,c=base+i)∧(x.isCall=true→x.lo=H.next)
theorem fY(hc:∀f args H v H',Bd H→call f args H=some (v,H')→vk H H'){i mask:Nat}{τ τ':List AV}{H H':ah}{r:Option mR}(hbd:Bd H)(hlt:base+i<H.next)(h:aZ P F call ops base i mask τ H=some (τ',H',r)):Hg base i H H' r:=by
 unfold aZ at h
 split at h
 ·cases h
 ·rename_i o ho
  split at h
  ·split at h
   ·rename_i v K hop
    cases h
    have hcg:=zp hop
    refine⟨by show H.next≤K.next;rw[hcg.next];exact Nat.le_refl _,rfl,fun _ c hn=>?_,fun c _ hcb h0=>hcg.dom c hcb h0,fun h0 c hcn=>D0 hop hlt h0 c hcn,fun x hx=>?_⟩
    ·refine hcg.keep c (fun e=>hn ⟨_,rfl,.inr (.inl (by simp[e]))⟩) (fun hw=>hn ⟨_,rfl,.inl hw⟩)
    ·cases hx;exact⟨by simp,by simp⟩
   ·rename_i f args hop
    split at h
    ·rename_i v K hcall
     cases h
     have hn1:(cQ base mask i H).next=H.next:=(ez base mask i H).1
     have hbd1:Bd ({cQ base mask i H with log:=[]}:ah):=fun d hd=>by
      show(cQ base mask i H).get d=none
      rw[fp]
      split
      ·rfl
      ·exact hbd d (by simp only[hn1]at hd;exact hd)
     have hcg:=hc _ _ _ _ _ hbd1 hcall
     have hn2:=hcg.next
     simp only[hn1]at hn2
     refine⟨by show H.next≤(fK base mask H i K).next;rw[(e7 base mask H i K).1];exact hn2,rfl,fun h0 c hn=>?_,fun c hcn hcb h0=>?_,fun h0 c hcn=>?_,fun x hx=>?_⟩
     ·show(fK base mask H i K).get c=H.get c
      rw[iM]
      split
      ·rfl
      ·rename_i hh
       have hg:({cQ base mask i H with log:=[]}:ah).get c=H.get c:=by
        show(cQ base mask i H).get c=_
        rw[fp,if_neg hh]
       rcases Nat.lt_or_ge c H.next with hcn | hcn
       ·by_cases hl:c∈K.log
        ·cases hgc:(cQ base mask i H).get c with
         | none=>
          have h1:({cQ base mask i H with log:=[]}:ah).get c=none:=hgc
          rw[hcg.dom c (by simp only[hn1];exact hcn) h1,←hg,h1]
         | some y=>exact absurd ⟨_,rfl,.inl (List.mem_filter.2 ⟨hl,by simp[hgc]⟩)⟩ hn
        ·rw[hcg.keep c (by simp only[hn1];exact hcn) hl];exact hg
       ·rcases Nat.lt_or_ge c K.next with hck | hck
        ·exact absurd ⟨_,rfl,.inr (.inr ⟨rfl,hcn,hck⟩)⟩ hn
        ·have hbd:Bd ({cQ base mask i H with log:=[]}:ah):=fun d hd=>by
          show(cQ base mask i H).get d=none
          rw[fp]
          split
          ·rfl
          ·exact h0 d (by simp only[hn1]at hd;exact hd)
         rw[hcg.bd hbd c hck,h0 c hcn]
     ·show(fK base mask H i K).get c=none
      rw[iM]
      split
      ·exact h0
      ·rename_i hh
       refine hcg.dom c (by simp only[hn1];exact hcn) ?_
       show(cQ base mask i H).get c=none
       rw[fp,if_neg hh]
       exact h0
     ·show(fK base mask H i K).get c=none
      have hcn':K.next≤c:=by
       have:(fK base mask H i K).next≤c:=hcn
       rwa [(e7 base mask H i K).1]at this
      rw[iM]
      split
      ·exact h0 c (by omega)
      ·have hbd:Bd ({cQ base mask i H with log:=[]}:ah):=fun d hd=>by
        show(cQ base mask i H).get d=none
        rw[fp]
        split
        ·rfl
        ·exact h0 d (by simp only[hn1]at hd;exact hd)
       exact hcg.bd hbd c hcn'
     ·cases hx;exact⟨by simp,fun _=>rfl⟩
    ·cases h
   ·cases h
  ·cases h
   exact⟨Nat.le_refl _,rfl,fun _ _ _=>rfl,fun _ _ _ h=>h,fun h=>h,fun x hx=>by cases hx⟩
  ·cases h
theorem sE(hc:∀f args H v H',Bd H→call f args H=some (v,H')→vk H H'){B:Nat}(hB:B≤base){before:List Nat}:∀(l:List Nat) (τ τ':List AV) (H K:ah) (rs rs':List mR),Bd H→(∀i∈l,base+i<H.next)→B≤H.next→
  dm P F call ops base before l τ H rs=some (τ',K,rs')→H.next≤K.next∧K.log=H.log∧Bd K∧(∀b,b<B→H.get b=none→K.get b=none)∧(∀b,b<B→b∉rs'.flatMap (·.writes)→K.get b=H.get b)∧(∀x∈rs,x∈rs')
 | [],τ,τ',H,K,rs,rs',hbd,_,_,h=>by cases h;exact⟨Nat.le_refl _,rfl,hbd,fun _ _ h=>h,fun _ _ _=>rfl,fun _ h=>h⟩
 | i::l,τ,τ',H,K,rs,rs',hbd,hl,hBn,h=>by
  unfold dm at h
  split at h
  ·rename_i τ1 H1 hs
   have d:=fY hc hbd (hl i (by simp)) hs
   obtain⟨a1,a2,a3,a4,a5,a6⟩:=sE hc hB l _ _ _ _ _ _ (d.bd hbd) (fun j hj=>Nat.lt_of_lt_of_le (hl j (by simp[hj])) d.next) (Nat.le_trans hBn d.next) h
   refine⟨Nat.le_trans d.next a1,a2.trans d.log,a3,fun b hb h0=>a4 b hb (d.dom b (by omega) (by omega) h0),fun b hb hn=>(a5 b hb hn).trans (d.keep hbd b ?_),a6⟩
   rintro⟨x,hx,_⟩
   cases hx
  ·rename_i τ1 H1 r hs
   split at h
   ·have d:=fY hc hbd (hl i (by simp)) hs
    obtain⟨a1,a2,a3,a4,a5,a6⟩:=sE hc hB l _ _ _ _ _ _ (d.bd hbd) (fun j hj=>Nat.lt_of_lt_of_le (hl j (by simp[hj])) d.next) (Nat.le_trans hBn d.next) h
    refine⟨Nat.le_trans d.next a1,a2.trans d.log,a3,fun b hb h0=>a4 b hb (d.dom b (by omega) (by omega) h0),fun b hb hn=>(a5 b hb hn).trans (d.keep hbd b ?_),fun x hx=>a6 x (by simp[hx])⟩
    rintro⟨x,hx,h1 | h1 | ⟨h1,h2,_⟩⟩
    ·cases hx
     exact hn (List.mem_flatMap.2 ⟨r,a6 r (by simp),h1⟩)
    ·have:=(d.made x hx).1 b h1;omega
    ·have:=(d.made x hx).2 h1;omega
   ·cases h
  ·cases h
theorem BU(hc:∀f args H v H',Bd H→call f args H=some (v,H')→vk H H'){draw:Bool}{τ τ':List AV}{H H':ah}(hbd:Bd H)(h:cT P F call ops draw τ H=some (τ',H')):vk H H':=by
 have hbd0:Bd {H with next:=H.next+ops.size}:=fun b hb=>hbd b (Nat.le_trans (Nat.le_add_right _ _) hb)
 cases draw with
 | false=>
  simp only[cT,Bool.false_eq_true,if_false]at h
  obtain⟨o,l⟩:=Ax hc (Nat.le_refl H.next) _ _ _ _ _ hbd0 (fun i hi=>by rw[List.mem_range]at hi;exact Nat.add_lt_add_left hi _) h
  exact⟨Nat.le_trans (Nat.le_add_right _ _) o.next,o.dom,o.keep,l,fun _=>o.bd hbd0⟩
 | true=>
  simp only[cT,if_true]at h
  split at h
  ·rename_i τ1 K rs hd
   cases h
   obtain⟨a1,a2,a3,a4,a5,_⟩:=sE hc (Nat.le_refl H.next) _ _ _ _ _ _ _ hbd0 (fun i hi=>by rw[List.mem_range]at hi;exact Nat.add_lt_add_left hi _) (Nat.le_add_right _ _) hd
   refine⟨Nat.le_trans (Nat.le_add_right _ _) a1,a4,fun b hb hn=>a5 b hb (fun hw=>hn ?_),fun b hb=>?_,fun _=>a3⟩
   ·simp only[List.mem_append];exact .inl hw
   ·simp only[List.mem_append];right;rw[a2];exact hb
  ·cases h
theorem vI{ex:Code→List AV→ah→Option (Ex×List AV×ah)}(h:∀c τ H e τ' H',Bd H→ex c τ H=some (e,τ',H')→vk H H'){f:FuncId}{args:List AV}{H:ah}{v:AV}{H':ah}(hbd:Bd H)
  (hc:jn P ex f args H=some (v,H')):vk H H':=by
 unfold jn at hc
 split at hc
 ·split at hc
  ·split at hc
   ·cases hc
   ·rename_i e τ' K hne hex
    split at hc
    ·cases hc
     have hk:=h _ _ {H with log:=[]} _ _ _ hbd hex
     refine⟨hk.next,hk.dom,fun b hb hn=>hk.keep b hb (fun hl=>hn ?_),fun b hb=>?_,fun _=>hk.bd hbd⟩
     ·simp only[List.mem_append,List.mem_filter,decide_eq_true_eq];exact .inl ⟨hl,hb⟩
     ·simp only[List.mem_append];exact .inr hb
    ·cases hc
   ·cases hc
  ·cases hc
 ·cases hc
theorem D1(f:Nat):∀(c:Code) (τ:List AV) (H:ah) (e:Ex) (τ':List AV) (H':ah),Bd H→eW P F f c τ H=some (e,τ',H')→vk H H':=by
 induction f with
 | zero=>intro c τ H e τ' H' _ h;cases h
 | succ f ih=>
  intro c τ H e τ' H' hbd h
  cases c with
  | skip=>cases h;exact .refl _
  | label l=>cases h;exact .refl _
  | exit id=>cases h;exact .refl _
  | ret=>cases h;exact .refl _
  | region id ops draw=>
   simp only[eW]at h
   split at h
   ·rename_i hr;cases h;exact BU (fun f args H v H' hb hcall=>vI ih hb hcall) hbd hr
   ·cases h
  | seq x y=>
   simp only[eW]at h
   split at h
   ·rename_i h1
    have k1:=ih _ _ _ _ _ _ hbd h1
    exact k1.trans (ih _ _ _ _ _ _ (k1.bd hbd) h)
   ·exact ih _ _ _ _ _ _ hbd h
  | cond x c1 c2=>
   simp only[eW]at h
   split at h
   ·exact ih _ _ _ _ _ _ hbd h
   ·exact ih _ _ _ _ _ _ hbd h
   ·cases h
  | block id c1=>
   simp only[eW]at h
   split at h
   ·rename_i h1
    split at h
    ·cases h;exact ih _ _ _ _ _ _ hbd h1
    ·cases h;exact ih _ _ _ _ _ _ hbd h1
   ·exact ih _ _ _ _ _ _ hbd h
  | loop c1=>
   simp only[eW]at h
   split at h
   ·rename_i h1
    have k1:=ih _ _ _ _ _ _ hbd h1
    exact k1.trans (ih _ _ _ _ _ _ (k1.bd hbd) h)
   ·exact ih _ _ _ _ _ _ hbd h
  | _=>simp[eW]at h
end
end Go.Proofs.YtljkdffikfkcgaaGreat.Am
end
section
namespace Go.Proofs.YtljkdffikfkcgaaGreat.Am
set_option linter.unusedVariables false
def bZ:Op→List Operand
 | .move x | .assign x | .box _ x | .load _ x | .nilCheck x | .unOp _ _ x | .convert _ _ x | .fieldAddr _ x _ | .field _ x _ | .extract x _=>[x]
 | .pick c a b=>[c,a,b]
 | .build _ ps | .buildSlice _ _ ps=>ps.toList.map (·.2)
 | .store _ a v | .binOp _ _ a v _ | .makeSlice _ a v | .indexAddr _ a v | .index _ a v=>[a,v]
 | .makeFunc _ _ c=>c.toList
 | .slice _ x l h m=>x::(l.toList++h.toList++m.toList)
 | .call c=>(match c.callee with | .value f=>[f] | _=>[])++c.args.toList
 | _=>[]
section
variable {P:Program} {F:TypeId→Option (List TypeId)}
theorem Cz{ρ ρ2:Operand→AV}{l:List Operand}(h:∀x∈l,ρ x=ρ2 x):l.map ρ=l.map ρ2:=List.map_congr_left h
theorem yK{ρ ρ2:Operand→AV}{ps:List (Nat×Operand)}(h:∀x∈ps.map (·.2),ρ x=ρ2 x):(ps.map fun p=>(p.1,ρ p.2))=ps.map fun p=>(p.1,ρ2 p.2):=
 List.map_congr_left fun p hp=>by rw[h p.2 (List.mem_map.2 ⟨p,hp,rfl⟩)]
theorem kj{ρ ρ2:Operand→AV}:∀{l:List Operand},(∀x∈l,ρ x=ρ2 x)→(l.flatMap fun x=>ac (ρ x))=l.flatMap fun x=>ac (ρ2 x)
 | [],_=>rfl
 | a::l,h=>by simp only[List.flatMap_cons];rw[h a (by simp),kj fun x hx=>h x (by simp[hx])]
theorem CA{o:Op}{ρ ρ2:Operand→AV}(h:∀x∈bZ o,ρ x=ρ2 x)(b:Nat)(H:ah):aX P F o ρ b H=aX P F o ρ2 b H∧aT o ρ=aT o ρ2∧aH o ρ=aH o ρ2:=by
 cases o with
 | build t ps=>refine⟨?_,rfl,rfl⟩;simp only[aX];rw[yK h]
 | buildSlice t n ps=>refine⟨?_,rfl,rfl⟩;simp only[aX];rw[yK h]
 | makeFunc fn first c=>
  refine⟨?_,rfl,rfl⟩
  cases fn<;>simp only[aX]
  rw[Cz (l:=c.toList) h]
 | slice t x l hi m=>
  have hx:=h x (by simp[bZ])
  have hl:l.map ρ=l.map ρ2:=by cases l with
   | none=>rfl
   | some y=>simp[h y (by simp[bZ])]
  have hh:hi.map ρ=hi.map ρ2:=by cases hi with
   | none=>rfl
   | some y=>simp[h y (by simp[bZ])]
  have hm:m.map ρ=m.map ρ2:=by cases m with
   | none=>rfl
   | some y=>simp[h y (by simp[bZ])]
  exact⟨by simp only[aX];rw[hx,hl,hh,hm],by simp only[aT];rw[hx],rfl⟩
 | call c=>
  have ha:c.args.toList.map ρ=c.args.toList.map ρ2:=Cz fun x hx=>h x (by simp only[bZ,List.mem_append];exact .inr hx)
  have hm:∀x∈c.args.toList,ρ x=ρ2 x:=fun x hx=>h x (by simp only[bZ,List.mem_append];exact .inr hx)
  have hr:aT (.call c) ρ=aT (.call c) ρ2:=by
   simp only[aT]
   split
   ·exact kj hm
   ·exact kj hm
   ·rfl
  have hk:aH (.call c) ρ=aH (.call c) ρ2:=by
   simp only[aH]
   split
   ·exact kj fun x hx=>hm x (List.mem_of_mem_take hx)
   ·exact kj hm
   ·rfl
  refine⟨?_,hr,hk⟩
  simp only[aX]
  split
  ·rw[ha]
  ·rename_i f hf
   rw[h f (by simp only[bZ,hf];simp),ha]
  ·rfl
 | store t a v=>refine⟨by simp only[aX];rw[h a (by simp[bZ]),h v (by simp[bZ])],by simp only[aT];rw[h a (by simp[bZ])],by simp only[aH];rw[h a (by simp[bZ])]⟩
 | load t a=>refine⟨by simp only[aX];rw[h a (by simp[bZ])],by simp only[aT];rw[h a (by simp[bZ])],rfl⟩
 | indexAddr t a v=>refine⟨by simp only[aX];rw[h a (by simp[bZ]),h v (by simp[bZ])],by simp only[aT];rw[h a (by simp[bZ])],rfl⟩
 | pick c x y=>refine⟨by simp only[aX];rw[h c (by simp[bZ]),h x (by simp[bZ]),h y (by simp[bZ])],rfl,rfl⟩
 | binOp op t x y u=>refine⟨by simp only[aX];rw[h x (by simp[bZ]),h y (by simp[bZ])],rfl,rfl⟩
 | makeSlice t x y=>refine⟨by simp only[aX];rw[h x (by simp[bZ]),h y (by simp[bZ])],rfl,rfl⟩
 | index t x y=>refine⟨by simp only[aX];rw[h x (by simp[bZ]),h y (by simp[bZ])],rfl,rfl⟩
 | move x=>refine⟨by simp only[aX];rw[h x (by simp[bZ])],rfl,rfl⟩
 | assign x=>refine⟨by simp only[aX];rw[h x (by simp[bZ])],rfl,rfl⟩
 | box t x=>refine⟨by simp only[aX];rw[h x (by simp[bZ])],rfl,rfl⟩
 | nilCheck x=>refine⟨by simp only[aX];rw[h x (by simp[bZ])],rfl,rfl⟩
 | unOp op t x=>refine⟨by simp only[aX];rw[h x (by simp[bZ])],rfl,rfl⟩
 | convert s d x=>refine⟨by simp only[aX];rw[h x (by simp[bZ])],rfl,rfl⟩
 | fieldAddr s x f=>refine⟨by simp only[aX];rw[h x (by simp[bZ])],rfl,rfl⟩
 | field s x f=>refine⟨by simp only[aX];rw[h x (by simp[bZ])],rfl,rfl⟩
 | extract x i=>refine⟨by simp only[aX];rw[h x (by simp[bZ])],rfl,rfl⟩
 | _=>exact⟨rfl,rfl,rfl⟩
def Ay(P:Program)(F:TypeId→Option (List TypeId))(o:Op)(ρ:Operand→AV)(b:Nat)(v:AV)(H' K:ah):Prop:=
 ∃K',aX P F o ρ b K=some (.val v K')∧K'.next=K.next∧∀c,K'.get c=if c∈aH o ρ∨c=b then H'.get c else K.get c
theorem Ay.same{o:Op}{ρ:Operand→AV}{b:Nat}{v:AV}{H K:ah}(hb:K.get b=H.get b)(hw:aH o ρ=[])(h:aX P F o ρ b K=some (.val v K)):Ay P F o ρ b v H K:=by
 refine⟨K,h,rfl,fun c=>?_⟩
 rw[hw]
 split
 ·rename_i hc
  rcases hc with hc | hc
  ·simp at hc
  ·rw[hc];exact hb
 ·rfl
theorem Ay.new{o:Op}{ρ:Operand→AV}{b:Nat}{v:AV}{H K:ah}{x:Blk}(hw:aH o ρ=[])(h:aX P F o ρ b K=some (.val v (K.new b x))):Ay P F o ρ b v (H.new b x) K:=by
 refine⟨_,h,rfl,fun c=>?_⟩
 rw[hw,ah.get_new,ah.get_new]
 by_cases hc:b=c
 ·rw[if_pos hc,if_pos hc,if_pos (.inr hc.symm)]
 ·rw[if_neg hc,if_neg]
  rintro(h1 | h1)
  ·simp at h1
  ·exact hc h1.symm
theorem qn{H K:ah}{n:Nat}{x:AV}(hr:∀c∈ac x,K.get c=H.get c):el K n x=el H n x:=by
 cases x<;>simp only[el]
 rw[hr _ (by simp[ac])]
theorem Az{H K:ah}{x:AV}(hr:∀c∈dt x,K.get c=H.get c):jl K x=jl H x:=by
 cases x<;>simp only[jl]
 rw[hr _ (by simp[dt])]
theorem Dg{o:Op}{ρ:Operand→AV}{b:Nat}{v:AV}{H H':ah}(h:aX P F o ρ b H=some (.val v H'))(K:ah)(hr:∀c∈aT o ρ,K.get c=H.get c)(hb:K.get b=H.get b):Ay P F o ρ b v H' K:=by
 cases o with
 | load t a=>
  simp only[aX]at h
  obtain⟨h1,rfl⟩:=eJ h
  refine .same hb rfl ?_
  have:jH P K t (ρ a)=jH P H' t (ρ a):=by
   simp only[aT]at hr
   generalize ρ a=x at hr
   cases x<;>simp only[jH]
   rw[hr _ (by simp[ac])]
  simp only[aX,this,h1,Option.map_some]
 | indexAddr t x ix=>
  simp only[aX]at h
  obtain⟨h1,rfl⟩:=eJ h
  refine .same hb rfl ?_
  have:c8 P (jl K (ρ x)) t (ρ x) (ρ ix)=some v:=by
   rw[Az hr]
   exact h1
  simp only[aX,this,Option.map_some]
 | slice t x lo hi mx=>
  simp only[aX]at h
  split at h
  ·cases h
  ·rename_i hcnd
   obtain⟨h1,rfl⟩:=eJ h
   refine .same hb rfl ?_
   have:iw P (jl K (ρ x)) t (ρ x) (lo.map ρ) (hi.map ρ) (mx.map ρ)=some v:=by
    rw[Az hr]
    exact h1
   simp only[aX,this,Option.map_some]
   rw[if_neg hcnd]
 | store t a x=>
  simp only[aX]at h
  cases hst:eH P H t (ρ a) (ρ x)with
  | none=>rw[hst]at h;cases h
  | some H1=>
   rw[hst]at h
   cases h
   simp only[aT]at hr
   have hst2:=hst
   unfold eH at hst
   split at hst
   ·rename_i c i off cs n ha hcs hn
    rw[ha]at hr
    have hkc:=hr c (by simp[ac])
    split at hst
    ·rename_i y hy
     split at hst
     ·rename_i r hrw
      split at hst
      ·rename_i hcond
       cases hst
       refine⟨K.put c (some {y with rows:=y.rows.set i (bJ r off cs)}),?_,rfl,fun d=>?_⟩
       ·simp only[aX,eH,ha,hcs,hn,hkc,hy,hrw]
        rw[if_pos hcond]
        rfl
       ·have hw:aH (.store t a x) ρ=[c]:=by simp[aH,ha,ac]
        rw[hw,ah.get_put,ah.get_put]
        by_cases hd:c=d
        ·rw[if_pos hd,if_pos hd,if_pos (.inl (by simp[hd]))]
        ·rw[if_neg hd,if_neg hd]
         split
         ·rename_i hc
          rcases hc with hc | hc
          ·simp at hc;exact absurd hc.symm hd
          ·rw[hc];exact hb
         ·rfl
      ·cases hst
     ·cases hst
    ·cases hst
   ·cases hst
 | call c=>
  simp only[aX]at h
  split at h
  ·rename_i bi hcal
   cases hbi:aV P H b bi c.argTypes (c.args.toList.map ρ)with
   | none=>rw[hbi]at h;cases h
   | some r=>
    obtain⟨v0,H1⟩:=r
    rw[hbi]at h
    cases h
    have fin:∀{K':ah} {u:AV},aV P K b bi c.argTypes (c.args.toList.map ρ)=some (u,K')→aX P F (.call c) ρ b K=some (.val u K'):=fun hk=>by
     simp only[aX,hcal,hk,Option.map_some]
    have wnil:bi≠.append∧bi≠.clear→aH (.call c) ρ=[]:=fun hne=>by
     simp only[aH,hcal]
     cases bi<;>first | rfl | exact absurd rfl hne.1 | exact absurd rfl hne.2
    have hbi0:=hbi
    unfold aV at hbi
    split at hbi
    ·rename_i s heq
     split at hbi
     ·rename_i hty
      cases hbi
      exact .same hb (wnil (by simp)) (fin (by rw[heq];simp only[aV,hty]))
     ·cases hbi
    ·rename_i x hne heq
     have e:H1=H:=by
      split at hbi
      ·rw[Option.map_eq_some_iff]at hbi
       obtain⟨n,_,hn⟩:=hbi
       cases hn
       rfl
      ·cases hbi;rfl
      ·cases hbi
     subst e
     refine .same hb (wnil (by simp)) (fin ?_)
     rw[heq]
     unfold aV
     split
     ·rename_i s e1 e2;cases e2;exact absurd rfl (hne s)
     ·rename_i x' hne' e1 e2
      cases e2
      split at hbi
      ·rw[Option.map_eq_some_iff]at hbi
       obtain⟨n,hl,hn⟩:=hbi
       cases hn
       simp only[hl,Option.map_some]
      ·cases hbi;rfl
      ·cases hbi
     ·rename_i e1 e2;cases e2
     ·rename_i e1 e2;cases e2
     ·rename_i e1 e2;cases e2
     ·rename_i e1 e2;cases e1
     ·rename_i e1 e2 e3 e4 e5 e6;simp_all
    ·rename_i s x heq
     obtain⟨a0,a1,hargs,h0,h1⟩:=lh heq
     split at hbi
     ·rename_i t tx htt
      split at hbi
      ·rename_i e' hu'
       have hrs:∀c'∈ac s,K.get c'=H.get c':=fun c' hc'=>hr c' (by simp[aT,hcal,hargs,h0,hc'])
       have hrx:∀c'∈ac x,K.get c'=H.get c':=fun c' hc'=>hr c' (by simp[aT,hcal,hargs,h1,hc'])
       have red:∀{K':ah} {u:AV},cu P K b t s x=some (u,K')→aV P K b .append c.argTypes (c.args.toList.map ρ)=some (u,K'):=fun hk=>by
        rw[heq]
        simp only[aV,htt,hu',hk]
       unfold cu at hbi
       split at hbi
       ·rename_i e hu
        split at hbi
        ·rename_i n by_ z hn hby hz
         split at hbi
         ·rename_i l m hl hm
          have hl':el K n s=some l:=by rw[qn hrs];exact hl
          have hm':el K n x=some m:=by rw[qn hrx];exact hm
          split at hbi
          ·rename_i hcond
           split at hbi
           ·split at hbi
            ·rename_i hm0
             cases hbi
             refine .same hb (by simp[aH,hcal,hargs,h0,ac]) (fin (red ?_))
             simp only[cu,hu,hn,hby,hz,hl',hm']
             rw[if_pos hcond,if_pos hm0]
            ·rename_i hm0
             cases hbi
             refine .new (by simp[aH,hcal,hargs,h0,ac]) (fin (red ?_))
             simp only[cu,hu,hn,hby,hz,hl',hm']
             rw[if_pos hcond,if_neg hm0]
           ·split at hbi
            ·rename_i hm0
             cases hbi
             refine .same hb (by simp[aH,hcal,hargs,h0,ac]) (fin (red ?_))
             simp only[cu,hu,hn,hby,hz,hl',hm']
             rw[if_pos hcond,if_pos hm0]
            ·rename_i hm0
             cases hbi
             refine .new (by simp[aH,hcal,hargs,h0,ac]) (fin (red ?_))
             simp only[cu,hu,hn,hby,hz,hl',hm']
             rw[if_pos hcond,if_neg hm0]
           ·rename_i b' i k
            cases hbi
            have hw:aH (.call c) ρ=[b']:=by simp[aH,hcal,hargs,h0,ac]
            refine⟨(K.put b' none).new b ⟨n,l++m⟩,fin (red ?_),rfl,fun d=>?_⟩
            ·simp only[cu,hu,hn,hby,hz,hl',hm']
             rw[if_pos hcond]
            ·rw[hw,ah.get_new,ah.get_new,ah.get_put,ah.get_put]
             by_cases hd:b=d
             ·rw[if_pos hd,if_pos hd,if_pos (.inr hd.symm)]
             ·rw[if_neg hd,if_neg hd]
              by_cases hd':b'=d
              ·rw[if_pos hd',if_pos hd',if_pos (.inl (by simp[hd']))]
              ·rw[if_neg hd',if_neg hd',if_neg]
               rintro(h1 | h1)
               ·simp at h1;exact hd' h1.symm
               ·exact hd h1.symm
           ·cases hbi
          ·cases hbi
         ·cases hbi
        ·cases hbi
       ·cases hbi
      ·cases hbi
     ·cases hbi
    ·rename_i k a k' c' heq
     split at hbi
     ·rename_i hk;cases hbi;exact .same hb (wnil (by simp)) (fin (by rw[heq];simp only[aV];rw[if_pos hk]))
     ·cases hbi
    ·rename_i k a k' c' heq
     split at hbi
     ·rename_i hk;cases hbi;exact .same hb (wnil (by simp)) (fin (by rw[heq];simp only[aV];rw[if_pos hk]))
     ·cases hbi
    ·rename_i x heq
     split at hbi
     ·rename_i t htt
      cases hcl:dO P H t x with
      | none=>rw[hcl]at hbi;cases hbi
      | some K1=>
       rw[hcl]at hbi
       cases hbi
       obtain⟨a0,hargs,h0⟩:=lg heq
       have red:∀{K':ah},dO P K t x=some K'→aV P K b .clear c.argTypes (c.args.toList.map ρ)=some (.tup [],K'):=fun hk=>by
        rw[heq]
        simp only[aV,htt,hk,Option.map_some]
       unfold dO at hcl
       split at hcl
       ·rename_i e hu
        split at hcl
        ·rename_i n z hn hz
         split at hcl
         ·cases hcl
          exact .same hb (by simp[aH,hcal,hargs,h0,ac]) (fin (red (by simp only[dO,hu,hn,hz])))
         ·rename_i d i k
          split at hcl
          ·rename_i y hy
           split at hcl
           ·rename_i hcond
            cases hcl
            have hkd:K.get d=some y:=by rw[hr d (by simp[aT,hcal,hargs,h0,ac])];exact hy
            have hw:aH (.call c) ρ=[d]:=by simp[aH,hcal,hargs,h0,ac]
            refine⟨K.put d (some {y with rows:=y.rows.take i++List.replicate k z++y.rows.drop (i+k)}),fin (red ?_),rfl,fun q=>?_⟩
            ·simp only[dO,hu,hn,hz,hkd]
             rw[if_pos hcond]
            ·rw[hw,ah.get_put,ah.get_put]
             by_cases hd:d=q
             ·rw[if_pos hd,if_pos hd,if_pos (.inl (by simp[hd]))]
             ·rw[if_neg hd,if_neg hd]
              split
              ·rename_i hc
               rcases hc with hc | hc
               ·simp at hc;exact absurd hc.symm hd
               ·rw[hc];exact hb
              ·rfl
           ·cases hcl
          ·cases hcl
         ·cases hcl
        ·cases hcl
       ·cases hcl
     ·cases hbi
    ·cases hbi
  ·split at h<;>cases h
  ·cases h
 | alloc t=>
  simp only[aX]at h
  split at h
  ·rename_i cs hcs;cases h;exact .new rfl (by simp only[aX,hcs])
  ·cases h
 | box t x=>
  simp only[aX]at h
  split at h
  ·rename_i cs hcs
   split at h
   ·rename_i ho;cases h;exact .new rfl (by simp only[aX,hcs];rw[if_pos ho])
   ·cases h
  ·cases h
 | buildSlice t len parts=>
  simp only[aX]at h
  split at h
  ·rename_i e hu
   split at h
   ·rename_i n z hn hz
    split at h
    ·rename_i hc
     cases hf:db n (List.replicate len z) (parts.toList.map fun p=>(p.1,ρ p.2))with
     | none=>rw[hf]at h;cases h
     | some rows=>rw[hf]at h;cases h;exact .new rfl (by simp only[aX,hu,hn,hz];rw[if_pos hc,hf];rfl)
    ·cases h
   ·cases h
  ·cases h
 | makeSlice t l c=>
  simp only[aX]at h
  split at h
  ·rename_i e hu
   split at h
   ·rename_i n by_ z l' c' hn hby hz hl hc
    split at h
    ·rename_i hcond;cases h;exact .new rfl (by simp only[aX,hu,hn,hby,hz,hl,hc];rw[if_pos hcond])
    ·cases h
   ·cases h
  ·cases h
 | makeFunc fn first cap=>
  cases fn<;>simp only[aX]at h<;>(try (cases h;done))
  split at h
  ·rename_i hf;cases h;exact .same hb rfl (by simp only[aX];rw[if_pos hf])
  ·cases h
 | pick c x y=>
  simp only[aX]at h
  split at h
  ·rename_i t hc;cases h;exact .same hb rfl (by simp only[aX,hc])
  ·cases h
 | nilCheck x=>
  simp only[aX]at h
  split at h<;>(try (cases h;done))<;>(rename_i heq;cases h;exact .same hb rfl (by simp only[aX,heq]))
 | extract x i=>
  simp only[aX]at h
  split at h
  ·rename_i vs hx
   obtain⟨h1,rfl⟩:=eJ h
   exact .same hb rfl (by simp only[aX,hx,h1];rfl)
  ·cases h
 | move x=>simp only[aX]at h;cases h;exact .same hb rfl (by simp only[aX])
 | assign x=>simp only[aX]at h;cases h;exact .same hb rfl (by simp only[aX])
 | build t ps=>simp only[aX]at h;obtain⟨h1,rfl⟩:=eJ h;exact .same hb rfl (by simp only[aX,h1];rfl)
 | binOp op t x y u=>simp only[aX]at h;obtain⟨h1,rfl⟩:=eJ h;exact .same hb rfl (by simp only[aX,h1];rfl)
 | unOp op t x=>simp only[aX]at h;obtain⟨h1,rfl⟩:=eJ h;exact .same hb rfl (by simp only[aX,h1];rfl)
 | convert s d x=>simp only[aX]at h;obtain⟨h1,rfl⟩:=eJ h;exact .same hb rfl (by simp only[aX,h1];rfl)
 | fieldAddr s x f=>simp only[aX]at h;obtain⟨h1,rfl⟩:=eJ h;exact .same hb rfl (by simp only[aX,h1];rfl)
 | field s x f=>simp only[aX]at h;obtain⟨h1,rfl⟩:=eJ h;exact .same hb rfl (by simp only[aX,h1];rfl)
 | index t x y=>simp only[aX]at h;obtain⟨h1,rfl⟩:=eJ h;exact .same hb rfl (by simp only[aX,h1];rfl)
 | _=>simp[aX]at h
theorem vJ{o:Op}{ρ:Operand→AV}{b:Nat}{g:FuncId}{args:List AV}{H:ah}(h:aX P F o ρ b H=some (.call g args))(K:ah):aX P F o ρ b K=some (.call g args):=by
 cases o with
 | call c=>
  simp only[aX]at h ⊢
  split at h
  ·rename_i bi _
   cases hbi:aV P H b bi c.argTypes (c.args.toList.map ρ)with
   | none=>rw[hbi]at h;cases h
   | some r=>rw[hbi]at h;cases h
  ·rename_i f hf
   exact h
  ·cases h
 | makeFunc fn first cap=>cases fn<;>simp only[aX]at h<;>(try split at h)<;>simp at h
 | _=>
  exfalso
  simp only[aX]at h
  repeat' (first | (cases h;done) | (simp at h;done) | split at h)
end
end Go.Proofs.YtljkdffikfkcgaaGreat.Am
end
section
namespace Go.Proofs.YtljkdffikfkcgaaGreat.Am
set_option linter.unusedVariables false
theorem AA(f:Edge→Nat)(p:Edge→Bool)(k:Nat):∀(l:List Edge) (s:Nat),(l.foldl (fun s e=>if p e then s ||| f e else s) s).testBit k=true→s.testBit k=true∨∃e∈l,p e=true∧(f e).testBit k=true
 | [],s,h=>.inl h
 | e::l,s,h=>by
  rw[List.foldl_cons]at h
  rcases AA f p k l _ h with h1 | ⟨e',h1,h2⟩
  ·split at h1
   ·rename_i hp
    rw[Nat.testBit_or,Bool.or_eq_true]at h1
    rcases h1 with h1 | h1
    ·exact .inl h1
    ·exact .inr ⟨e,by simp,hp,h1⟩
   ·exact .inl h1
  ·exact .inr ⟨e',by simp[h1],h2⟩
def nE(acc:List Nat)(o:Oper):Nat:=o.after.toList.foldl (fun s e=>if Region.binds .any e then s ||| 2^e.on ||| acc.getD e.on 0 else s) 0
theorem BV{acc:List Nat}{o:Oper}{k:Nat}(h:(nE acc o).testBit k=true):∃e∈o.after.toList,Region.binds .any e=true∧(k=e.on∨(acc.getD e.on 0).testBit k=true):=by
 have hf:nE acc o=o.after.toList.foldl (fun s e=>if Region.binds .any e then s ||| (2^e.on ||| acc.getD e.on 0)else s) 0:=by
  unfold nE
  congr 1
  funext s e
  split
  ·rw[Nat.or_assoc]
  ·rfl
 rw[hf]at h
 rcases AA (fun e=>2^e.on ||| acc.getD e.on 0) (Region.binds .any) k _ _ h with h1 | ⟨e,h1,h2,h3⟩
 ·simp at h1
 ·refine⟨e,h1,h2,?_⟩
  rw[Nat.testBit_or,Bool.or_eq_true]at h3
  rcases h3 with h3 | h3
  ·rw[Nat.testBit_two_pow]at h3
   exact .inl (by have h4:=h3;simp at h4;exact h4.symm)
  ·exact .inr h3
theorem vK:∀(l:List Oper) (acc:List Nat),acc.length+l.length=(bE l acc).length∧(∀i,i<acc.length→(bE l acc).getD i 0=acc.getD i 0)∧
  ∀(i:Nat) (o:Oper),l[i]? =some o→∃acc',(bE l acc).getD (acc.length+i) 0=nE acc' o∧(∀j,acc'.getD j 0=(bE l acc).getD j 0∨acc'.getD j 0=0)∧(∀j,acc.length+i≤j→acc'.getD j 0=0)
 | [],acc=>by simp[bE]
 | o::l,acc=>by
  obtain⟨h1,h2,h3⟩:=vK l (acc++[nE acc o])
  have hm:bE (o::l) acc=bE l (acc++[nE acc o]):=rfl
  rw[hm]
  simp only[List.length_append,List.length_singleton]at h1 h2 h3
  have keep:∀i,i<acc.length→(bE l (acc++[nE acc o])).getD i 0=acc.getD i 0:=fun i hi=>by
   rw[h2 i (by omega)]
   simp[List.getD,List.getElem?_append_left hi]
  refine⟨by simp;omega,keep,fun i q hq=>?_⟩
  match i with
  | 0=>
   simp only[List.getElem?_cons_zero,Option.some.injEq]at hq
   subst hq
   refine⟨acc,?_,fun j=>?_,fun j hj=>?_⟩
   ·rw[Nat.add_zero,h2 acc.length (by omega)]
    simp[List.getD]
   ·rcases Nat.lt_or_ge j acc.length with hj | hj
    ·exact .inl (keep j hj).symm
    ·exact .inr (by simp[List.getD,List.getElem?_eq_none hj])
   ·simp[List.getD,List.getElem?_eq_none (show acc.length≤j by omega)]
  | i+1=>
   simp only[List.getElem?_cons_succ]at hq
   obtain⟨acc',g1,g2,g3⟩:=h3 i q hq
   exact⟨acc',by rw[←g1];congr 1;omega,g2,fun j hj=>g3 j (by omega)⟩
theorem Dh{ops:Array Oper}{i:Nat}{o:Oper}(ho:ops[i]? =some o){k:Nat}(h:((bE ops.toList []).getD i 0).testBit k=true):
  ∃e∈o.after.toList,Region.binds .any e=true∧(k=e.on∨(e.on<i∧((bE ops.toList []).getD e.on 0).testBit k=true)):=by
 obtain⟨_,_,h3⟩:=vK ops.toList []
 obtain⟨acc',g1,g2,g3⟩:=h3 i o (by rw[Array.getElem?_toList];exact ho)
 simp only[List.length_nil,Nat.zero_add]at g1 g3
 rw[g1]at h
 obtain⟨e,e1,e2,e3⟩:=BV h
 refine⟨e,e1,e2,?_⟩
 rcases e3 with e3 | e3
 ·exact .inl e3
 ·right
  rcases Nat.lt_or_ge e.on i with hlt | hge
  ·refine⟨hlt,?_⟩
   rcases g2 e.on with h4 | h4
   ·rw[h4]at e3;exact e3
   ·rw[h4]at e3;simp at e3
  ·rw[g3 e.on hge]at e3;simp at e3
def zq(ops:Array Oper)(L:Nat→Bool):Prop:=∀(i:Nat) (o:Oper),ops[i]? =some o→L i=true→∀e∈o.after.toList,Region.binds .any e=true→L e.on=true
theorem zq.ahead{ops:Array Oper}{L:Nat→Bool}(hL:zq ops L):∀(i:Nat) (o:Oper),ops[i]? =some o→(∀e∈o.after.toList,Region.binds .any e=true→L e.on=true)→∀k,((bE ops.toList []).getD i 0).testBit k=true→L k=true:=by
 intro i
 induction i using Nat.strongRecOn with
 | _ i ih=>
  intro o ho he k hk
  obtain⟨e,e1,e2,e3⟩:=Dh ho hk
  have hLe:=he e e1 e2
  rcases e3 with rfl | ⟨hlt,h4⟩
  ·exact hLe
  ·have hlt':e.on<ops.size:=by
    have:i<ops.size:=(Array.getElem?_eq_some_iff.1 ho).1
    omega
   have ho':ops[e.on]? =some ops[e.on]:=Array.getElem?_eq_getElem hlt'
   exact ih e.on hlt _ ho' (fun e' h5 h6=>hL e.on _ ho' hLe e' h5 h6) k h4
def bP(p:Nat→Bool):Nat→Option Nat
 | 0=>none
 | k+1=>if p k then some k else bP p k
theorem g9{p q:Nat→Bool}:∀{k:Nat},(∀i,i<k→p i=q i)→bP p k=bP q k
 | 0,_=>rfl
 | k+1,h=>by
  unfold bP
  rw[h k (by omega),g9 fun i hi=>h i (by omega)]
theorem nF{p:Nat→Bool}{k m:Nat}(hkm:k≤m)(h:∀i,k≤i→i<m→p i=false):bP p m=bP p k:=by
 induction m with
 | zero=>rw[show k=0 by omega]
 | succ m ih=>
  rcases Nat.eq_or_lt_of_le hkm with rfl | hlt
  ·rfl
  ·rw[bP,h m (by omega) (by omega),if_neg (by simp)]
   exact ih (by omega) fun i h1 h2=>h i h1 (by omega)
theorem km{p L:Nat→Bool}{n i:Nat}(hi:i<n)(hLi:L i=false)(h:∀j,j<n→j≠i→p j=true→(j<i→L j=true)∧(i<j→L j=false)):
  bP (fun j=>L j&&p j) n=bP p i:=by
 rw[nF (k:=i) (by omega)]
 ·refine g9 fun j hj=>?_
  cases hp:p j with
  | false=>simp
  | true=>simp[(h j (by omega) (by omega) hp).1 hj]
 ·intro j h1 h2
  rcases Nat.eq_or_lt_of_le h1 with rfl | hlt
  ·simp[hLi]
  ·cases hp:p j with
   | false=>simp
   | true=>simp[(h j h2 (by omega) hp).2 hlt]
theorem sF{p L:Nat→Bool}{n i:Nat}(hi:i<n)(hLi:L i=false)(hpi:p i=true)(h:∀j,j<n→j≠i→p j=true→(i<j→L j=false)):
  bP (fun j=>(if j=i then true else L j)&&p j) n=some i:=by
 rw[nF (k:=i+1) (by omega)]
 ·simp[bP,hpi]
 ·intro j h1 h2
  cases hp:p j with
  | false=>simp
  | true=>simp[h j h2 (by omega) hp (by omega),show¬j=i by omega]
theorem jq{p L:Nat→Bool}{n i:Nat}(hpi:p i=false):bP (fun j=>(if j=i then true else L j)&&p j) n=bP (fun j=>L j&&p j) n:=by
 refine g9 fun j _=>?_
 by_cases hj:j=i
 ·subst hj;simp[hpi]
 ·simp[hj]
end Go.Proofs.YtljkdffikfkcgaaGreat.Am
end
section
namespace Go.Proofs.YtljkdffikfkcgaaGreat.Am
set_option linter.unusedVariables false
section
variable (P:Program) (F:TypeId→Option (List TypeId)) (call:FuncId→List AV→ah→Option (AV×ah)) (ops:Array Oper) (base:Nat) (τ0:List AV) (H0:ah)
def dv:Nat→List AV×ah
 | 0=>(τ0,H0)
 | i+1=>match aZ P F call ops base i ((bE ops.toList []).getD i 0) (dv i).1 (dv i).2 with
  | some (τ,H,_)=>(τ,H)
  | none=>dv i
def eM(i:Nat):Option mR:=
 match aZ P F call ops base i ((bE ops.toList []).getD i 0) (dv P F call ops base τ0 H0 i).1 (dv P F call ops base τ0 H0 i).2 with
 | some (_,_,r)=>r
 | none=>none
structure iN:Prop where
 step:∀i,i<ops.size→aZ P F call ops base i ((bE ops.toList []).getD i 0) (dv P F call ops base τ0 H0 i).1 (dv P F call ops base τ0 H0 i).2 =
  some ((dv P F call ops base τ0 H0 (i+1)).1,(dv P F call ops base τ0 H0 (i+1)).2,eM P F call ops base τ0 H0 i)
 free:∀i j x r,j<i→i<ops.size→eM P F call ops base τ0 H0 j=some x→eM P F call ops base τ0 H0 i=some r→((bE ops.toList []).getD i 0).testBit j=true∨iF x r=false
end
section
variable {P:Program} {F:TypeId→Option (List TypeId)} {call:FuncId→List AV→ah→Option (AV×ah)} {ops:Array Oper} {base:Nat} {τ0:List AV} {H0:ah}
theorem AB{i mask:Nat}{τ τ':List AV}{H H':ah}{x:mR}(h:aZ P F call ops base i mask τ H=some (τ',H',some x)):x.op=i:=by
 unfold aZ at h
 repeat' (first | (cases h;rfl) | (cases h;done) | split at h)
theorem D2:∀(m k:Nat) (rs rs':List mR) (τ':List AV) (K:ah),
  dm P F call ops base (bE ops.toList []) (List.range' k m) (dv P F call ops base τ0 H0 k).1 (dv P F call ops base τ0 H0 k).2 rs=some (τ',K,rs')→(∀j x,j<k→eM P F call ops base τ0 H0 j=some x→x∈rs∧x.op=j)→
  (∀i,k≤i→i<k+m→aZ P F call ops base i ((bE ops.toList []).getD i 0) (dv P F call ops base τ0 H0 i).1 (dv P F call ops base τ0 H0 i).2 =
   some ((dv P F call ops base τ0 H0 (i+1)).1,(dv P F call ops base τ0 H0 (i+1)).2,eM P F call ops base τ0 H0 i))∧
  (∀i j x r,k≤i→i<k+m→j<i→eM P F call ops base τ0 H0 j=some x→eM P F call ops base τ0 H0 i=some r→((bE ops.toList []).getD i 0).testBit j=true∨iF x r=false)∧
  (τ',K)=dv P F call ops base τ0 H0 (k+m)
 | 0,k,rs,rs',τ',K,h,_=>by
  simp only[List.range'_zero,dm,Option.some.injEq,Prod.mk.injEq]at h
  obtain⟨rfl,rfl,rfl⟩:=h
  exact⟨fun i h1 h2=>by omega,fun i j x r h1 h2=>by omega,rfl⟩
 | m+1,k,rs,rs',τ',K,h,hrs=>by
  rw[List.range'_succ]at h
  unfold dm at h
  cases hd:aZ P F call ops base k ((bE ops.toList []).getD k 0) (dv P F call ops base τ0 H0 k).1 (dv P F call ops base τ0 H0 k).2 with
  | none=>rw[hd]at h;cases h
  | some q=>
   obtain⟨τ1,H1,r⟩:=q
   rw[hd]at h
   have e1:dv P F call ops base τ0 H0 (k+1)=(τ1,H1):=by rw[dv,hd]
   have e2:eM P F call ops base τ0 H0 k=r:=by rw[eM,hd]
   have next:∀rs2,dm P F call ops base (bE ops.toList []) (List.range' (k+1) m) τ1 H1 rs2=some (τ',K,rs')→(∀x,r=some x→x∈rs2)→(∀x∈rs,x∈rs2)→
     (∀j x,j<k→eM P F call ops base τ0 H0 j=some x→∀y,r=some y→((bE ops.toList []).getD k 0).testBit j=true∨iF x y=false)→_:=fun rs2 h2 hr2 hsub hfree=>by
    obtain⟨a1,a2,a3⟩:=D2 m (k+1) rs2 rs' τ' K (by rw[e1];exact h2) (fun j x hj hx=>by
     rcases Nat.eq_or_lt_of_le (Nat.le_of_lt_succ hj)with rfl | hlt
     ·rw[e2]at hx
      refine⟨hr2 x hx,?_⟩
      rw[hx]at hd
      exact AB hd
     ·obtain⟨b1,b2⟩:=hrs j x hlt hx
      exact⟨hsub x b1,b2⟩)
    refine(⟨fun i h1 h2=>?_,fun i j x y h1 h2 hji hx hy=>?_,by rw[a3];congr 1;omega⟩:(∀i,k≤i→i<k+(m+1)→aZ P F call ops base i ((bE ops.toList []).getD i 0) (dv P F call ops base τ0 H0 i).1 (dv P F call ops base τ0 H0 i).2 =
     some ((dv P F call ops base τ0 H0 (i+1)).1,(dv P F call ops base τ0 H0 (i+1)).2,eM P F call ops base τ0 H0 i))∧
     (∀i j x r,k≤i→i<k+(m+1)→j<i→eM P F call ops base τ0 H0 j=some x→eM P F call ops base τ0 H0 i=some r→((bE ops.toList []).getD i 0).testBit j=true∨iF x r=false)∧
     (τ',K)=dv P F call ops base τ0 H0 (k+(m+1)))
    ·rcases Nat.eq_or_lt_of_le h1 with rfl | hlt
     ·rw[hd,e1,e2]
     ·exact a1 i hlt (by omega)
    ·rcases Nat.eq_or_lt_of_le h1 with rfl | hlt
     ·rw[e2]at hy;exact hfree j x hji hx y hy
     ·exact a2 i j x y hlt (by omega) hji hx hy
   cases r with
   | none=>exact next rs h (by simp) (fun x hx=>hx) (by simp)
   | some y=>
    simp only[]at h
    split at h
    ·rename_i hall
     refine next (y::rs) h (by simp) (fun x hx=>by simp[hx]) (fun j x hj hx y' hy'=>?_)
     cases hy'
     rw[List.all_eq_true]at hall
     obtain⟨b1,b2⟩:=hrs j x hj hx
     have:=hall x b1
     rw[b2]at this
     simpa using this
    ·cases h
end
end Go.Proofs.YtljkdffikfkcgaaGreat.Am
end
section
namespace Go.Proofs.YtljkdffikfkcgaaGreat.Am
set_option linter.unusedVariables false
theorem bq.sig{w:World}{σ σ':bz}{T:Nat→Prop}(hm:σ'.map=σ.map){a:AV}{v:Value}(h:bq w σ T a v):bq w σ' T a v:=by
 have e:∀{b pl},σ.map b=some pl→σ'.map b=some pl:=fun hb=>by rw[hm];exact hb
 induction h with
 | int k n=>exact .int k n
 | bool b=>exact .bool b
 | str s=>exact .str s
 | nilp=>exact .nilp
 | ptr b i off pl h=>exact .ptr b i off pl (e h)
 | pptr rows i off b o sz hl h ih=>exact .pptr rows i off b o sz hl ih
 | nils=>exact .nils
 | emp a=>exact .emp a
 | sl b i n pl a cap h hn hm' ha=>exact .sl b i n pl a cap (e h) hn hm' ha
 | lst0 a cap hm'=>exact .lst0 a cap hm'
 | lst rows b o sz cap hl hn hm' h ih=>exact .lst rows b o sz cap hl hn hm' ih
 | agg cs vs hl h ih=>exact .agg cs vs hl ih
 | tup cs vs hl h ih=>exact .tup cs vs hl ih
 | fn f cs vs hl h ih=>exact .fn f cs vs hl ih
 | nilf=>exact .nilf
 | junk v=>exact .junk v
theorem qi.sig{w:World}{σ σ':bz}{T:Nat→Prop}(hm:σ'.map=σ.map){x:Blk}{pl:fo}{cs:Array Value}{e:TypeId}(h:qi w σ T x pl cs e):qi w σ' T x pl cs e:=
 ⟨h.size,h.block,h.even,h.room,fun i r j a u h1 h2 h3=>(h.rep i r j a u h1 h2 h3).sig hm⟩
def bz.part(σ:bz)(K Hc:ah):bz:=⟨σ.map,fun c=>aS σ K c∧¬zl σ Hc c⟩
section
variable {w w':World} {σ σ':bz} {K Hc H1 K':ah}
theorem zl.sub(hsub:∀c x,Hc.get c=some x→K.get c=some x){d:Nat}(h:zl σ Hc d):zl σ K d:=by
 obtain⟨b,x,pl,h1,h2,h3⟩:=h
 exact⟨b,x,pl,hsub b x h1,h2,h3⟩
theorem vL(hsub:∀c x,Hc.get c=some x→K.get c=some x):aS (σ.part K Hc) Hc=aS σ K:=by
 funext d
 apply propext
 constructor
 ·rintro(h | h)
  ·exact h.1
  ·exact .inr (zl.sub hsub h)
 ·intro h
  by_cases ht:zl σ Hc d
  ·exact .inr ht
  ·exact .inl ⟨h,ht⟩
theorem bn.part(hW:bn w σ K)(hsub:∀c x,Hc.get c=some x→K.get c=some x)(hn:K.next≤Hc.next):bn w (σ.part K Hc) Hc:=by
 refine⟨fun b pl hb=>Nat.lt_of_lt_of_le (hW.named b pl hb) hn,hW.lt,fun b x hb=>?_,fun c hc=>⟨?_,hc.2⟩,fun b b' x x' pl pl' h1 h2 h3 h4 h5=>hW.inj b b' x x' pl pl' (hsub _ _ h1) (hsub _ _ h2) h3 h4 h5⟩
 ·obtain⟨pl,cs,e,h1,h2⟩:=hW.live b x (hsub b x hb)
  rw[vL hsub]
  exact⟨pl,cs,e,h1,qi.sig (σ:=σ) (σ':=σ.part K Hc) rfl h2⟩
 ·rcases hc.1 with h | ⟨b,x,pl,h1,h2,rfl⟩
  ·exact(hW.apart c h).1
  ·exact hW.lt b pl h2
theorem bn.whole(hW:bn w σ K)(hsub:∀c x,Hc.get c=some x→K.get c=some x)(hn:Hc.next=K.next)(hW1:bn w' σ' H1)(hE:ew w (σ.part K Hc) (aS (σ.part K Hc) Hc) w' σ' (aS σ' H1))
  (hdom:∀c,c<Hc.next→Hc.get c=none→H1.get c=none) (hK':∀c,K'.get c=if Hc.get c=none∧c<K.next then K.get c else H1.get c) (hn':H1.next≤K'.next) :
  bn w' ⟨σ'.map,σ.fr⟩ K'∧ew w σ (aS σ K) w' ⟨σ'.map,σ.fr⟩ (aS ⟨σ'.map,σ.fr⟩ K')∧aS ⟨σ'.map,σ.fr⟩ K'=aS σ' H1:=by
 have hfr:∀c,σ'.fr c↔(aS σ K c∧¬zl σ Hc c):=fun c=>by rw[hE.eqfr];exact Iff.rfl
 have hmap:∀b pl,σ.map b=some pl→σ'.map b=some pl:=fun b pl h=>hE.sig b pl h

 have rest:∀b x,Hc.get b=none→K.get b=some x→∃pl,σ.map b=some pl∧σ'.fr pl.block:=fun b x h0 hx=>by
  obtain⟨pl,cs,e,h1,h2⟩:=hW.live b x hx
  refine⟨pl,h1,(hfr _).2 ⟨.inr ⟨b,x,pl,hx,h1,rfl⟩,?_⟩⟩
  rintro⟨b2,x2,pl2,g1,g2,g3⟩
  have:=hW.inj b2 b x2 x pl2 pl (hsub _ _ g1) hx g2 h1 g3
  subst this
  rw[h0]at g1;cases g1
 have get':∀b x,K'.get b=some x→(Hc.get b=none∧b<K.next∧K.get b=some x)∨H1.get b=some x:=fun b x hx=>by
  rw[hK']at hx
  split at hx
  ·rename_i hc;exact .inl ⟨hc.1,hc.2,hx⟩
  ·exact .inr hx
 have frK:∀c,σ.fr c→σ'.fr c:=fun c hc=>(hfr c).2 ⟨.inl hc,fun ht=>(hW.apart c hc).2 (zl.sub hsub ht)⟩
 have howns:aS ⟨σ'.map,σ.fr⟩ K'=aS σ' H1:=by
  funext d
  apply propext
  constructor
  ·rintro(h | ⟨b,x,pl,h1,h2,rfl⟩)
   ·exact .inl (frK d h)
   ·rcases get' b x h1 with⟨g1,g2,g3⟩ | g1
    ·obtain⟨pl0,e1,e2⟩:=rest b x g1 g3
     have h2':σ'.map b=some pl:=h2
     rw[hmap b pl0 e1]at h2'
     cases h2'
     exact .inl e2
    ·exact .inr ⟨b,x,pl,g1,h2,rfl⟩
  ·rintro(h | ⟨b,x,pl,h1,h2,rfl⟩)
   ·obtain⟨h3,h4⟩:=(hfr d).1 h
    rcases h3 with h3 | ⟨b,x,pl,g1,g2,g3⟩
    ·exact .inl h3
    ·have h0:Hc.get b=none:=by
      cases hg:Hc.get b with
      | none=>rfl
      | some y=>exact absurd ⟨b,y,pl,hg,g2,g3⟩ h4
     exact .inr ⟨b,x,pl,by rw[hK',if_pos ⟨h0,hW.named b pl g2⟩];exact g1,hmap b pl g2,g3⟩
   ·refine .inr ⟨b,x,pl,?_,h2,rfl⟩
    rw[hK',if_neg]
    ·exact h1
    ·rintro⟨h3,h4⟩
     rw[hdom b (by omega) h3]at h1;cases h1
 have hE2:ew w σ (aS σ K) w' ⟨σ'.map,σ.fr⟩ (aS ⟨σ'.map,σ.fr⟩ K'):=by
  rw[howns]
  have ho:=vL (σ:=σ) hsub
  exact⟨hE.os,hE.tape,hE.output,hE.size,fun c hc hT=>hE.keep c hc (by rw[ho];exact hT),hE.shape,hmap,rfl,fun c hc=>hE.frame c ((hfr c).1 (frK c hc)),fun c hc=>by have:=hE.own c hc;rwa [ho]at this⟩
 refine⟨⟨fun b pl hb=>Nat.lt_of_lt_of_le (hW1.named b pl hb) hn',hW1.lt,fun b x hx=>?_,fun c hc=>⟨?_,?_⟩,?_⟩,hE2,howns⟩
 ·rcases get' b x hx with⟨g1,g2,g3⟩ | g1
  ·obtain⟨pl,cs,e,h1,h2⟩:=hW.live b x g3
   obtain⟨pl0,e1,e2⟩:=rest b x g1 g3
   have h1':σ.map b=some pl:=h1
   rw[e1]at h1'
   cases h1'
   refine⟨pl,cs,e,hmap b pl e1,?_⟩
   exact h2.mono hE2 (hE.frame _ ((hfr _).1 e2))
  ·obtain⟨pl,cs,e,h1,h2⟩:=hW1.live b x g1
   rw[howns]
   exact⟨pl,cs,e,h1,qi.sig (σ:=σ') (σ':=⟨σ'.map,σ.fr⟩) rfl h2⟩
 ·have:=(hW.apart c hc).1
  have:=hE.size
  omega
 ·rintro⟨b,x,pl,h1,h2,h3⟩
  rcases get' b x h1 with⟨g1,g2,g3⟩ | g1
  ·obtain⟨pl0,e1,e2⟩:=rest b x g1 g3
   have h2':σ'.map b=some pl:=h2
   rw[hmap b pl0 e1]at h2'
   cases h2'
   exact(hW.apart c hc).2 ⟨b,x,pl,g3,e1,h3⟩
  ·exact(hW1.apart c (frK c hc)).2 ⟨b,x,pl,g1,h2,h3⟩
 ·intro b b' x x' pl pl' h1 h2 h3 h4 h5
  have h3':σ'.map b=some pl:=h3
  have h4':σ'.map b'=some pl':=h4
  rcases get' b x h1 with⟨g1,g2,g3⟩ | g1
  ·obtain⟨pl0,e1,e2⟩:=rest b x g1 g3
   rw[hmap b pl0 e1]at h3'
   cases h3'
   rcases get' b' x' h2 with⟨k1,k2,k3⟩ | k1
   ·obtain⟨pl1,f1,f2⟩:=rest b' x' k1 k3
    rw[hmap b' pl1 f1]at h4'
    cases h4'
    exact hW.inj b b' x x' pl pl' g3 k3 e1 f1 h5
   ·exact absurd ⟨b',x',pl',k1,h4,h5.symm⟩ (hW1.apart _ e2).2
  ·rcases get' b' x' h2 with⟨k1,k2,k3⟩ | k1
   ·obtain⟨pl1,f1,f2⟩:=rest b' x' k1 k3
    rw[hmap b' pl1 f1]at h4'
    cases h4'
    exact absurd ⟨b,x,pl,g1,h3,h5⟩ (hW1.apart _ f2).2
   ·exact hW1.inj b b' x x' pl pl' g1 k1 h3 h4 h5
end
end Go.Proofs.YtljkdffikfkcgaaGreat.Am
end
section
namespace Go.Proofs.YtljkdffikfkcgaaGreat.Am
set_option linter.unusedVariables false
def fB(ops:Array Oper)(o:Oper):List Tmp:=
 o.dst.toList++(bZ o.op).filterMap (fun | .tmp t=>some t | _=>none)++(match o.guard with | none=>[] | some (j,_)=>((ops[j]?).bind (·.dst)).toList)
def jr(ops:Array Oper):Prop:=∀(i j:Nat) (oi oj:Oper),j<i→ops[i]? =some oi→ops[j]? =some oj→
 ((bE ops.toList []).getD i 0).testBit j=true∨((∀t,oj.dst=some t→t∉fB ops oi)∧(∀t,oi.dst=some t→t∉fB ops oj))
def wr(ops:Array Oper)(t:Tmp)(i:Nat):Bool:=match ops[i]? with | some o=>o.dst==some t | none=>false
def cm(r:Option mR)(c:Nat):Bool:=match r with
 | none=>false
 | some x=>x.writes.contains c||x.made.contains c||(x.isCall&&decide (x.lo≤c)&&decide (c<x.hi))
theorem nG{r:Option mR}{c:Nat}:cm r c=true↔touched r c:=by
 cases r with
 | none=>simp[cm,touched]
 | some x=>simp[cm,touched,or_assoc,and_assoc]
def fq(r:Option mR):Bool:=match r with | none=>false | some x=>x.isCall
section
variable {P:Program} {F:TypeId→Option (List TypeId)} {call:FuncId→List AV→ah→Option (AV×ah)} {ops:Array Oper} {base:Nat} {τ0:List AV} {H0:ah}
theorem AC{i mask:Nat}{τ τ':List AV}{H H':ah}{r:Option mR}(h:aZ P F call ops base i mask τ H=some (τ',H',r)):∃o v,ops[i]? =some o∧τ'=eF τ o.dst v:=by
 unfold aZ at h
 split at h
 ·cases h
 ·rename_i o ho
  refine⟨o,?_⟩
  repeat' (first | (cases h;exact⟨_,ho,rfl⟩) | (cases h;done) | split at h)
structure cJ(P:Program)(F:TypeId→Option (List TypeId))(call:FuncId→List AV→ah→Option (AV×ah))(ops:Array Oper)(base:Nat)(τ0:List AV)(H0:ah):Prop where
 bd:∀i,i≤ops.size→Bd (dv P F call ops base τ0 H0 i).2
 le:∀i,i≤ops.size→H0.next≤(dv P F call ops base τ0 H0 i).2.next
 fresh:∀i j,i≤j→j<ops.size→(dv P F call ops base τ0 H0 i).2.get (base+j)=none
 len:∀i,i≤ops.size→(dv P F call ops base τ0 H0 i).1.length=τ0.length
 chg:∀i,i<ops.size→Hg base i (dv P F call ops base τ0 H0 i).2 (dv P F call ops base τ0 H0 (i+1)).2 (eM P F call ops base τ0 H0 i)
theorem Di(hch:∀f args H v H',Bd H→call f args H=some (v,H')→vk H H')(run:iN P F call ops base τ0 H0)(hbd:Bd H0)(hn:base+ops.size=H0.next)(hfr:∀j,j<ops.size→H0.get (base+j)=none):cJ P F call ops base τ0 H0:=by
 have key:∀i,i≤ops.size→Bd (dv P F call ops base τ0 H0 i).2∧H0.next≤(dv P F call ops base τ0 H0 i).2.next∧(∀j,i≤j→j<ops.size→(dv P F call ops base τ0 H0 i).2.get (base+j)=none)∧(dv P F call ops base τ0 H0 i).1.length=τ0.length:=by
  intro i
  induction i with
  | zero=>intro _;exact⟨hbd,Nat.le_refl _,fun j _ hj=>hfr j hj,rfl⟩
  | succ i ih=>
   intro hi
   obtain⟨a1,a2,a3,a4⟩:=ih (by omega)
   have hst:=run.step i (by omega)
   have d:=fY hch a1 (by omega) hst
   obtain⟨o,v,_,hv⟩:=AC hst
   refine⟨d.bd a1,Nat.le_trans a2 d.next,fun j h1 h2=>d.dom _ (by omega) (by omega) (a3 j (by omega) h2),?_⟩
   rw[hv,←a4]
   cases o.dst<;>simp[eF]
 exact⟨fun i hi=>(key i hi).1,fun i hi=>(key i hi).2.1,fun i j h1 h2=>(key i (by omega)).2.2.1 j h1 h2,fun i hi=>(key i hi).2.2.2,fun i hi=>fY hch (key i (by omega)).1 (by have:=(key i (by omega)).2.1;omega) (run.step i hi)⟩
def ko(P:Program)(F:TypeId→Option (List TypeId))(call:FuncId→List AV→ah→Option (AV×ah))(ops:Array Oper)(base:Nat)(τ0:List AV)(H0:ah)(L:Nat→Bool)(t:Tmp):Option AV:=
 match bP (fun j=>L j&&wr ops t j) ops.size with
 | some j=>(dv P F call ops base τ0 H0 (j+1)).1[t]?
 | none=>τ0[t]?
def hget(P:Program)(F:TypeId→Option (List TypeId))(call:FuncId→List AV→ah→Option (AV×ah))(ops:Array Oper)(base:Nat)(τ0:List AV)(H0:ah)(L:Nat→Bool)(c:Nat):Option Blk:=
 match bP (fun j=>L j&&cm (eM P F call ops base τ0 H0 j) c) ops.size with
 | some j=>(dv P F call ops base τ0 H0 (j+1)).2.get c
 | none=>H0.get c
def zr(P:Program)(F:TypeId→Option (List TypeId))(call:FuncId→List AV→ah→Option (AV×ah))(ops:Array Oper)(base:Nat)(τ0:List AV)(H0:ah)(L:Nat→Bool):Nat:=
 match bP (fun j=>L j&&fq (eM P F call ops base τ0 H0 j)) ops.size with
 | some j=>(dv P F call ops base τ0 H0 (j+1)).2.next
 | none=>H0.next
theorem F9{τ:List AV}{d:Option Tmp}{v:AV}{t:Tmp}(h:(d==some t)=false):(eF τ d v)[t]? =τ[t]? :=by
 cases d with
 | none=>rfl
 | some d=>
  have:d≠t:=by simpa using h
  simp only[eF,List.getElem?_set]
  rw[if_neg this]
theorem BW(run:iN P F call ops base τ0 H0)(t:Tmp):∀k,k≤ops.size→(dv P F call ops base τ0 H0 k).1[t]? =match bP (wr ops t) k with | some j=>(dv P F call ops base τ0 H0 (j+1)).1[t]? | none=>τ0[t]?
 | 0,_=>rfl
 | k+1,hk=>by
  unfold bP
  cases hw:wr ops t k with
  | true=>simp
  | false=>
   simp only[Bool.false_eq_true,if_false]
   rw[←BW run t k (by omega)]
   obtain⟨o,v,ho,hv⟩:=AC (run.step k (by omega))
   rw[hv]
   simp only[wr,ho]at hw
   exact F9 hw
theorem BX(run:iN P F call ops base τ0 H0)(rf:cJ P F call ops base τ0 H0)(c:Nat):∀k,k≤ops.size→(dv P F call ops base τ0 H0 k).2.get c=match bP (fun j=>cm (eM P F call ops base τ0 H0 j) c) k with | some j=>(dv P F call ops base τ0 H0 (j+1)).2.get c | none=>H0.get c
 | 0,_=>rfl
 | k+1,hk=>by
  unfold bP
  cases hw:cm (eM P F call ops base τ0 H0 k) c with
  | true=>simp
  | false=>
   simp only[Bool.false_eq_true,if_false]
   rw[←BX run rf c k (by omega)]
   exact(rf.chg k (by omega)).keep (rf.bd k (by omega)) c (fun ht=>by rw[nG.2 ht]at hw;cases hw)
theorem xV{i mask:Nat}{τ τ':List AV}{H H':ah}{r:Option mR}(h:aZ P F call ops base i mask τ H=some (τ',H',r))(hc:fq r=false):H'.next=H.next:=by
 unfold aZ at h
 split at h
 ·cases h
 ·split at h
  ·split at h
   ·rename_i hop;cases h;have:=vG hop;exact this
   ·split at h
    ·cases h;simp[fq]at hc
    ·cases h
   ·cases h
  ·cases h;rfl
  ·cases h
theorem BY(run:iN P F call ops base τ0 H0):∀k,k≤ops.size→(dv P F call ops base τ0 H0 k).2.next=match bP (fun j=>fq (eM P F call ops base τ0 H0 j)) k with | some j=>(dv P F call ops base τ0 H0 (j+1)).2.next | none=>H0.next
 | 0,_=>rfl
 | k+1,hk=>by
  unfold bP
  cases hw:fq (eM P F call ops base τ0 H0 k)with
  | true=>simp
  | false=>
   simp only[Bool.false_eq_true,if_false]
   rw[←BY run k (by omega)]
   exact xV (run.step k (by omega)) hw
structure Next(ops:Array Oper)(L:Nat→Bool)(i:Nat):Prop where
 lt:i<ops.size
 not:L i=false
 closed:zq ops L
 edges:∀(o:Oper),ops[i]? =some o→∀e∈o.after.toList,Region.binds .any e=true→L e.on=true
theorem Next.before{L:Nat→Bool}{i:Nat}(h:Next ops L i){j:Nat}(hb:((bE ops.toList []).getD i 0).testBit j=true):L j=true:=
 h.closed.ahead i _ (Array.getElem?_eq_getElem h.lt) (h.edges _ (Array.getElem?_eq_getElem h.lt)) j hb
theorem Next.behind{L:Nat→Bool}{i:Nat}(h:Next ops L i){j:Nat}(hj:j<ops.size)(hb:((bE ops.toList []).getD j 0).testBit i=true):L j=false:=by
 cases hL:L j with
 | false=>rfl
 | true=>
  have:=h.closed.ahead j _ (Array.getElem?_eq_getElem hj) (h.closed j _ (Array.getElem?_eq_getElem hj) hL) i hb
  rw[h.not]at this;cases this
theorem Ga(run:iN P F call ops base τ0 H0)(hst:jr ops){L:Nat→Bool}{i:Nat}(nx:Next ops L i){o:Oper}(ho:ops[i]? =some o){t:Tmp}(ht:t∈fB ops o):
  ko P F call ops base τ0 H0 L t=(dv P F call ops base τ0 H0 i).1[t]? :=by
 have hord:∀j,j<ops.size→j≠i→wr ops t j=true→(j<i→L j=true)∧(i<j→L j=false):=fun j hj hne hw=>by
  have hoj:ops[j]? =some ops[j]:=Array.getElem?_eq_getElem hj
  simp only[wr,hoj]at hw
  have hd:(ops[j]).dst=some t:=by simpa using hw
  refine⟨fun hlt=>?_,fun hlt=>?_⟩
  ·rcases hst i j o _ hlt ho hoj with h1 | ⟨h1,_⟩
   ·exact nx.before h1
   ·exact absurd ht (h1 t hd)
  ·rcases hst j i _ o hlt hoj ho with h1 | ⟨_,h1⟩
   ·exact nx.behind hj h1
   ·exact absurd ht (h1 t hd)
 rw[BW run t i (by have:=nx.lt;omega),ko,km nx.lt nx.not hord]
end
end Go.Proofs.YtljkdffikfkcgaaGreat.Am
end
section
namespace Go.Proofs.YtljkdffikfkcgaaGreat.Am
set_option linter.unusedVariables false
theorem iO{l m:List Nat}(h:apart l m=true){x:Nat}(hx:x∈l):x∉m:=by
 unfold apart at h
 rw[List.all_eq_true]at h
 have:=h x hx
 simpa using this
structure Jy(x y:mR):Prop where
 wr:∀c∈x.writes,c∉y.reads
 ww:∀c∈x.writes,c∉y.writes
 rw:∀c∈x.reads,c∉y.writes
 mr:∀c∈x.made,c∉y.reads
 mw:∀c∈x.made,c∉y.writes
 cc:x.isCall=true→y.isCall=false
 cw:x.isCall=true→∀c,c∉y.writes
 cr:x.isCall=true→∀c∈y.reads,¬(x.lo≤c∧c<x.hi)
 wc:y.isCall=true→∀c,c∉x.writes
theorem dx{x y:mR}(h:iF x y=false):Jy x y:=by
 unfold iF at h
 simp only[Bool.or_eq_false_iff,Bool.not_eq_false',Bool.and_eq_true,Bool.and_eq_false_iff]at h
 obtain⟨⟨⟨⟨⟨⟨h1,h2⟩,h3⟩,h4⟩,h5⟩,h6⟩,h7⟩:=h
 refine⟨fun c hc=>iO h1 hc,fun c hc=>iO h2 hc,fun c hc=>iO h3 hc,fun c hc=>iO h4 hc,fun c hc=>iO h5 hc,fun hx=>?_,fun hx c hc=>?_,fun hx c hc hr=>?_,fun hy c hc=>?_⟩
 ·rcases h6 with h6 | ⟨⟨h6,_⟩,_⟩
  ·rw[hx]at h6;cases h6
  ·exact h6
 ·rcases h6 with h6 | ⟨⟨_,h6⟩,_⟩
  ·rw[hx]at h6;cases h6
  ·simp at h6;rw[h6]at hc;simp at hc
 ·rcases h6 with h6 | ⟨_,h6⟩
  ·rw[hx]at h6;cases h6
  ·rw[List.any_eq_false]at h6
   exact h6 c hc (by simpa using hr)
 ·rcases h7 with h7 | h7
  ·rw[hy]at h7;cases h7
  ·simp at h7;rw[h7]at hc;simp at hc
section
variable {P:Program} {F:TypeId→Option (List TypeId)} {call:FuncId→List AV→ah→Option (AV×ah)} {ops:Array Oper} {base:Nat} {τ0:List AV} {H0:ah}
theorem yL(rf:cJ P F call ops base τ0 H0){i:Nat}:∀{j:Nat},i≤j→j≤ops.size→(dv P F call ops base τ0 H0 i).2.next≤(dv P F call ops base τ0 H0 j).2.next
 | 0,h1,_=>by rw[show i=0 by omega];exact Nat.le_refl _
 | j+1,h1,h2=>by
  rcases Nat.eq_or_lt_of_le h1 with rfl | hlt
  ·exact Nat.le_refl _
  ·exact Nat.le_trans (yL rf (show i≤j by omega) (by omega)) (rf.chg j (by omega)).next
theorem later(run:iN P F call ops base τ0 H0)(rf:cJ P F call ops base τ0 H0){i j c:Nat}{r y:mR}{b:Blk}(hij:i<j)(hj:j<ops.size)(hi:eM P F call ops base τ0 H0 i=some r)(hy:eM P F call ops base τ0 H0 j=some y)(ht:touched (eM P F call ops base τ0 H0 j) c)
  (hl:(dv P F call ops base τ0 H0 i).2.get c=some b):((bE ops.toList []).getD j 0).testBit i=true∨(Jy r y∧(c∈y.writes∨(y.isCall=true∧False))):=by
 rcases run.free j i r y hij hj hi hy with h1 | h1
 ·exact .inl h1
 ·right
  refine⟨dx h1,?_⟩
  obtain⟨x,hx,ht⟩:=ht
  rw[hy]at hx
  cases hx
  rcases ht with ht | ht | ⟨t1,t2,_⟩
  ·exact .inl ht
  ·have:=((rf.chg j hj).made y hy).1 c ht
   subst this
   rw[rf.fresh i j (by omega) hj]at hl;cases hl
  ·have h2:=((rf.chg j hj).made y hy).2 t1
   have h3:=yL rf (show i≤j by omega) (by omega)
   rw[rf.bd i (by omega) c (by omega)]at hl;cases hl
theorem CB(run:iN P F call ops base τ0 H0)(rf:cJ P F call ops base τ0 H0){L:Nat→Bool}{i:Nat}(nx:Next ops L i){c:Nat}
  (hord:∀j,j<ops.size→j≠i→touched (eM P F call ops base τ0 H0 j) c→(j<i→((bE ops.toList []).getD i 0).testBit j=true)∧(i<j→((bE ops.toList []).getD j 0).testBit i=true)) :
  hget P F call ops base τ0 H0 L c=(dv P F call ops base τ0 H0 i).2.get c:=by
 rw[BX run rf c i (by have:=nx.lt;omega),hget,km (p:=fun j=>cm (eM P F call ops base τ0 H0 j) c) nx.lt nx.not]
 intro j hj hne ht
 obtain⟨h1,h2⟩:=hord j hj hne (nG.1 ht)
 exact⟨fun hlt=>nx.before (h1 hlt),fun hlt=>nx.behind hj (h2 hlt)⟩
theorem D3(run:iN P F call ops base τ0 H0)(rf:cJ P F call ops base τ0 H0){i c:Nat}{r:mR}{b:Blk}(hi:i<ops.size)(hr:eM P F call ops base τ0 H0 i=some r)(hc:c∈r.reads)(hl:(dv P F call ops base τ0 H0 i).2.get c=some b):
  ∀j,j<ops.size→j≠i→touched (eM P F call ops base τ0 H0 j) c→(j<i→((bE ops.toList []).getD i 0).testBit j=true)∧(i<j→((bE ops.toList []).getD j 0).testBit i=true):=by
 intro j hj hne ht
 obtain⟨x,hx,ht'⟩:=ht
 refine⟨fun hlt=>?_,fun hlt=>?_⟩
 ·rcases run.free i j x r hlt hi hx hr with h1 | h1
  ·exact h1
  ·exfalso
   have fr:=dx h1
   rcases ht' with t | t | ⟨t1,t2,t3⟩
   ·exact fr.wr c t hc
   ·exact fr.mr c t hc
   ·exact fr.cr t1 c hc ⟨t2,t3⟩
 ·rcases later run rf hlt hj hr hx ⟨x,hx,ht'⟩ hl with h1 | ⟨h1,h2 | ⟨_,h2⟩⟩
  ·exact h1
  ·exact absurd h2 (h1.rw c hc)
  ·exact h2.elim
theorem AD{o:Op}{ρ:Operand→AV}{b c:Nat}{v:AV}{H H':ah}(h:aX P F o ρ b H=some (.val v H'))(hc:c∈aT o ρ):∃x,H.get c=some x:=by
 cases o with
 | load t a=>
  simp only[aX]at h
  obtain⟨h1,_⟩:=eJ h
  simp only[aT]at hc
  generalize ρ a=y at h1 hc
  cases y<;>simp[ac]at hc<;>simp[jH]at h1
  subst hc
  cases hg:H.get _ with
  | none=>rw[hg]at h1;simp at h1
  | some x=>exact⟨x,rfl⟩
 | store t a x=>
  simp only[aX]at h
  cases hst:eH P H t (ρ a) (ρ x)with
  | none=>rw[hst]at h;cases h
  | some K=>
   simp only[aT]at hc
   unfold eH at hst
   split at hst
   ·rename_i d i off cs n ha hcs hn
    rw[ha]at hc
    simp[ac]at hc
    subst hc
    split at hst
    ·rename_i y hy;exact⟨y,hy⟩
    ·cases hst
   ·cases hst
 | indexAddr t x ix=>
  simp only[aX]at h
  obtain⟨h1,_⟩:=eJ h
  simp only[aT]at hc
  generalize ρ x=y at h1 hc
  cases y<;>simp[dt]at hc
  subst hc
  cases hg:H.get c with
  | some x=>exact⟨x,rfl⟩
  | none=>
   exfalso
   simp only[c8,jl,hg,Option.map_none,Option.isSome_none,Bool.false_eq_true,false_and,and_false,if_false]at h1
   split at h1
   ·split at h1
    ·cases h1
    ·split at h1<;>simp_all
   ·cases h1
 | slice t x lo hi mx=>
  simp only[aX]at h
  split at h
  ·cases h
  ·obtain⟨h1,_⟩:=eJ h
   simp only[aT]at hc
   generalize ρ x=y at h1 hc
   cases y<;>simp[dt]at hc
   subst hc
   cases hg:H.get c with
   | some x=>exact⟨x,rfl⟩
   | none=>
    exfalso
    simp only[iw,jl,hg,Option.map_none,Option.isSome_none,Bool.false_eq_true,false_and,if_false]at h1
    split at h1
    ·split at h1
     ·split at h1<;>cases h1
     ·cases h1
    ·cases h1
    ·cases h1
 | call k=>
  simp only[aT]at hc
  split at hc
  ·rename_i hk
   simp only[aX,hk]at h
   cases hbi:aV P H b .append k.argTypes (k.args.toList.map ρ)with
   | none=>rw[hbi]at h;cases h
   | some q=>
    unfold aV at hbi
    split at hbi
    ·rename_i e _;cases e
    ·rename_i _ e _;cases e
    ·rename_i s x e heq
     obtain⟨a0,a1,hargs,h0,h1⟩:=lh heq
     rw[hargs]at hc
     simp only[List.flatMap_cons,List.flatMap_nil,List.append_nil,h0,h1,List.mem_append]at hc
     split at hbi
     ·split at hbi
      ·unfold cu at hbi
       split at hbi
       ·split at hbi
        ·split at hbi
         ·rename_i l m hl hm
          have aux:∀{y:AV} {q n},el H n y=some q→c∈ac y→∃x,H.get c=some x:=fun {y} {q} {n} hy hcy=>by
           cases y<;>simp[ac]at hcy<;>simp[el]at hy
           subst hcy
           split at hy
           ·rename_i x hx;exact⟨x,hx⟩
           ·cases hy
          rcases hc with hc | hc
          ·exact aux hl hc
          ·exact aux hm hc
         ·cases hbi
        ·cases hbi
       ·cases hbi
      ·cases hbi
     ·cases hbi
    ·rename_i e _;cases e
    ·rename_i e _;cases e
    ·rename_i e _;cases e
    ·cases hbi
  ·rename_i hk
   simp only[aX,hk]at h
   cases hbi:aV P H b .clear k.argTypes (k.args.toList.map ρ)with
   | none=>rw[hbi]at h;cases h
   | some q=>
    unfold aV at hbi
    split at hbi
    ·rename_i e _;cases e
    ·rename_i _ e _;cases e
    ·rename_i e _;cases e
    ·rename_i e _;cases e
    ·rename_i e _;cases e
    ·rename_i x e heq
     obtain⟨a0,hargs,h0⟩:=lg heq
     rw[hargs]at hc
     simp only[List.flatMap_cons,List.flatMap_nil,List.append_nil,h0]at hc
     split at hbi
     ·rw[Option.map_eq_some_iff]at hbi
      obtain⟨K1,hk1,_⟩:=hbi
      unfold dO at hk1
      split at hk1
      ·split at hk1
       ·split at hk1
        ·simp[ac]at hc
        ·simp[ac]at hc
         subst hc
         split at hk1
         ·rename_i y hy;exact⟨y,hy⟩
         ·cases hk1
        ·cases hk1
       ·cases hk1
      ·cases hk1
     ·cases hbi
    ·cases hbi
  ·simp at hc
 | _=>simp[aT]at hc
theorem qo{o:Op}{ρ:Operand→AV}{c:Nat}(hc:c∈aH o ρ):c∈aT o ρ:=by
 cases o with
 | store t a x=>exact hc
 | call k=>
  simp only[aH]at hc
  simp only[aT]
  split at hc
  ·rename_i hk
   rw[List.mem_flatMap]at hc ⊢
   obtain⟨x,h1,h2⟩:=hc
   exact⟨x,List.mem_of_mem_take h1,h2⟩
  ·exact hc
  ·simp at hc
 | _=>simp[aH]at hc
end
end Go.Proofs.YtljkdffikfkcgaaGreat.Am
end
section
namespace Go.Proofs.YtljkdffikfkcgaaGreat.Am
set_option linter.unusedVariables false
def fZ(L:Nat→Bool)(i:Nat):Nat→Bool:=fun j=>if j=i then true else L j
theorem vM{p:Nat→Bool}:∀{k j:Nat},bP p k=some j→j<k
 | 0,j,h=>by cases h
 | k+1,j,h=>by
  unfold bP at h
  split at h
  ·cases h;omega
  ·have:=vM h;omega
def yM(H:ah):List Nat→ah→ah
 | [],K=>K
 | c::l,K=>yM H l {K with tr:=K.tr.set c (H.get c)}
theorem AE(H:ah):∀(l:List Nat) (K:ah) (c:Nat),(yM H l K).get c=if c∈l then H.get c else K.get c
 | [],K,c=>by simp[yM]
 | d::l,K,c=>by
  rw[yM,AE H l]
  by_cases h1:c∈l
  ·rw[if_pos h1,if_pos (by simp[h1])]
  ·rw[if_neg h1]
   show(K.tr.set d (H.get d)).get c=_
   rw[Tr.get_set]
   by_cases h2:d=c
   ·subst h2;rw[if_pos rfl,if_pos (by simp)]
   ·rw[if_neg h2,if_neg (by simp[h1];exact fun e=>h2 e.symm)];rfl
section
variable {P:Program} {F:TypeId→Option (List TypeId)} {call:FuncId→List AV→ah→Option (AV×ah)} {ops:Array Oper} {base:Nat} {τ0:List AV} {H0:ah}
def Jv(P:Program)(F:TypeId→Option (List TypeId))(call:FuncId→List AV→ah→Option (AV×ah))(ops:Array Oper)(base:Nat)(τ0:List AV)(H0:ah)(w0:World)(σ0:bz)(L:Nat→Bool)(a:Act)(w:World):Prop:=
 ∃σ K,bn w σ K∧(∀c,K.get c=hget P F call ops base τ0 H0 L c)∧K.next=zr P F call ops base τ0 H0 L∧a.tmps.size=τ0.length∧a.defers=[]∧(∀t x u,ko P F call ops base τ0 H0 L t=some x→a.tmps[t]? =some u→bq w σ (aS σ K) x u)∧
  ew w0 σ0 (aS σ0 H0) w σ (aS σ K)∧(∀c pl,σ c=some pl→σ0 c=some pl∨base≤c)∧(∀i,i<ops.size→L i=false→σ (base+i)=none)
def tl(P:Program)(F:TypeId→Option (List TypeId))(call:FuncId→List AV→ah→Option (AV×ah))(ops:Array Oper)(base:Nat)(τ0:List AV)(H0:ah)(L:Nat→Bool):List AV:=
 (List.range τ0.length).map fun t=>(ko P F call ops base τ0 H0 L t).getD bj
theorem AF(rf:cJ P F call ops base τ0 H0)(L:Nat→Bool)(t:Tmp):(t<τ0.length→∃x,ko P F call ops base τ0 H0 L t=some x)∧(τ0.length≤t→ko P F call ops base τ0 H0 L t=none):=by
 unfold ko
 split
 ·rename_i j hj
  have hl:=rf.len (j+1) (vM hj)
  exact⟨fun ht=>⟨_,List.getElem?_eq_getElem (by rw[hl];exact ht)⟩,fun ht=>List.getElem?_eq_none (by rw[hl];exact ht)⟩
 ·exact⟨fun ht=>⟨_,List.getElem?_eq_getElem ht⟩,fun ht=>List.getElem?_eq_none ht⟩
theorem D4(rf:cJ P F call ops base τ0 H0)(L:Nat→Bool)(t:Tmp):(tl P F call ops base τ0 H0 L)[t]? =ko P F call ops base τ0 H0 L t:=by
 unfold tl
 rw[List.getElem?_map]
 rcases Nat.lt_or_ge t τ0.length with h | h
 ·rw[List.getElem?_range h]
  obtain⟨x,hx⟩:=(AF rf L t).1 h
  simp[hx]
 ·rw[List.getElem?_eq_none (by simpa using h),(AF rf L t).2 h];rfl
theorem Jz(rf:cJ P F call ops base τ0 H0){L:Nat→Bool}{a:Act}{w:World}{σ:bz}{T:Nat→Prop}(h1:a.tmps.size=τ0.length)(h2:a.defers=[])(h3:∀t x u,ko P F call ops base τ0 H0 L t=some x→a.tmps[t]? =some u→bq w σ T x u):
  bU w σ T (tl P F call ops base τ0 H0 L) a:=
 ⟨⟨by simp[tl,h1],fun t x u hx hu=>h3 t x u (by rw[←D4 rf];exact hx) (by rw[←Array.getElem?_toList];exact hu)⟩,h2⟩
theorem Gb{l m:List AV}{t:Nat}(h:l[t]? =m[t]?):l.getD t bj=m.getD t bj:=by simp[List.getD,h]
theorem D5(run:iN P F call ops base τ0 H0)(rf:cJ P F call ops base τ0 H0)(hst:jr ops){L:Nat→Bool}{i:Nat}(nx:Next ops L i){o:Oper}(ho:ops[i]? =some o):
  (∀x∈bZ o.op,gV (dv P F call ops base τ0 H0 i).1 x=gV (tl P F call ops base τ0 H0 L) x)∧cS ops o (tl P F call ops base τ0 H0 L)=cS ops o (dv P F call ops base τ0 H0 i).1:=by
 have ht:∀t∈fB ops o,(tl P F call ops base τ0 H0 L)[t]? =(dv P F call ops base τ0 H0 i).1[t]? :=fun t h=>by rw[D4 rf,Ga run hst nx ho h]
 refine⟨fun x hx=>?_,?_⟩
 ·cases x with
  | tmp t=>exact(Gb (ht t (by
    simp only[fB,List.mem_append]
    exact .inl (.inr (List.mem_filterMap.2 ⟨.tmp t,hx,rfl⟩))))).symm
  | const v=>rfl
  | global g=>rfl
  | func f=>rfl
 ·unfold cS
  cases hg:o.guard with
  | none=>rfl
  | some q=>
   obtain⟨j,want⟩:=q
   simp only[]
   cases hd:(ops[j]?).bind (·.dst)with
   | none=>rfl
   | some d=>
    simp only[]
    rw[ht d (by simp only[fB,List.mem_append,hg,hd];right;simp)]
theorem vN(run:iN P F call ops base τ0 H0)(rf:cJ P F call ops base τ0 H0)(hst:jr ops){L:Nat→Bool}{i:Nat}(nx:Next ops L i){o:Oper}(ho:ops[i]? =some o){v:AV}{v':Value}{a:Act}{w w':World}{σ σ':bz}{T T':Nat→Prop}
  (hv:(dv P F call ops base τ0 H0 (i+1)).1=eF (dv P F call ops base τ0 H0 i).1 o.dst v) (hr:bq w' σ' T' v v') (h1:a.tmps.size=τ0.length) (h3:∀t x u,ko P F call ops base τ0 H0 L t=some x→a.tmps[t]? =some u→bq w σ T x u) (hE:∀x u,bq w σ T x u→bq w' σ' T' x u) :
  (a.put o.dst v').tmps.size=τ0.length∧∀t x u,ko P F call ops base τ0 H0 (fZ L i) t=some x→(a.put o.dst v').tmps[t]? =some u→bq w' σ' T' x u:=by
 refine⟨by cases o.dst<;>simp[Act.put,h1],fun t x u hx hu=>?_⟩
 by_cases hw:wr ops t i=true
 ·have hd:o.dst=some t:=by simpa[wr,ho]using hw
  have hl:bP (fun j=>fZ L i j&&wr ops t j) ops.size=some i:=by
   refine sF nx.lt nx.not hw fun j hj hne hwj hlt=>?_
   have hoj:ops[j]? =some ops[j]:=Array.getElem?_eq_getElem hj
   have hdj:(ops[j]).dst=some t:=by simpa[wr,hoj]using hwj
   rcases hst j i _ o hlt hoj ho with h4 | ⟨h4,_⟩
   ·exact nx.behind hj h4
   ·exact absurd (by simp[fB,hdj]) (h4 t hd)
  unfold ko at hx
  rw[hl]at hx
  simp only[hv,hd,eF,List.getElem?_set]at hx
  simp only[hd,Act.put,Array.getElem?_setIfInBounds]at hu
  simp only[if_true]at hx hu
  split at hx
  ·split at hu
   ·cases hx;cases hu;exact hr
   ·cases hu
  ·cases hx
 ·have hw':wr ops t i=false:=by simpa using hw
  have hd:(o.dst==some t)=false:=by simpa[wr,ho]using hw'
  have hl:bP (fun j=>fZ L i j&&wr ops t j) ops.size=bP (fun j=>L j&&wr ops t j) ops.size:=jq hw'
  have hx':ko P F call ops base τ0 H0 L t=some x:=by unfold ko at hx ⊢;rw[hl]at hx;exact hx
  refine hE x u (h3 t x u hx' ?_)
  rw[←hu]
  cases hdd:o.dst with
  | none=>rfl
  | some d=>
   have:d≠t:=by rw[hdd]at hd;simpa using hd
   simp[Act.put,this]
end
end Go.Proofs.YtljkdffikfkcgaaGreat.Am
end
section
namespace Go.Proofs.YtljkdffikfkcgaaGreat.Am
set_option linter.unusedVariables false
section
variable {P:Program} {F:TypeId→Option (List TypeId)} {call:FuncId→List AV→ah→Option (AV×ah)} {ops:Array Oper} {base:Nat} {τ0:List AV} {H0:ah}
theorem CC(rf:cJ P F call ops base τ0 H0)(L:Nat→Bool):H0.next≤zr P F call ops base τ0 H0 L:=by
 unfold zr
 split
 ·rename_i j hj;exact rf.le (j+1) (vM hj)
 ·exact Nat.le_refl _
theorem sG{L:Nat→Bool}{i c:Nat}(h:cm (eM P F call ops base τ0 H0 i) c=false):hget P F call ops base τ0 H0 (fZ L i) c=hget P F call ops base τ0 H0 L c:=by
 have hl:bP (fun j=>fZ L i j&&cm (eM P F call ops base τ0 H0 j) c) ops.size=bP (fun j=>L j&&cm (eM P F call ops base τ0 H0 j) c) ops.size:=jq (p:=fun j=>cm (eM P F call ops base τ0 H0 j) c) h
 unfold hget
 rw[hl]
theorem AG{L:Nat→Bool}{i c:Nat}(nx:Next ops L i)(h:cm (eM P F call ops base τ0 H0 i) c=true)(hl:∀j,j<ops.size→j≠i→touched (eM P F call ops base τ0 H0 j) c→i<j→((bE ops.toList []).getD j 0).testBit i=true):hget P F call ops base τ0 H0 (fZ L i) c=(dv P F call ops base τ0 H0 (i+1)).2.get c:=by
 have hw:bP (fun j=>fZ L i j&&cm (eM P F call ops base τ0 H0 j) c) ops.size=some i:=sF (p:=fun j=>cm (eM P F call ops base τ0 H0 j) c) nx.lt nx.not h fun j hj hne ht hlt=>nx.behind hj (hl j hj hne (nG.1 ht) hlt)
 unfold hget
 rw[hw]
theorem D6(fit:Fit P F)(hs:dL P call)(hch:∀f args H v H',Bd H→call f args H=some (v,H')→vk H H')(run:iN P F call ops base τ0 H0)(rf:cJ P F call ops base τ0 H0)(hst:jr ops)(hb:base+ops.size=H0.next)
  {w0:World} {σ0:bz} {L:Nat→Bool} {i:Nat} {a:Act} {w:World} (nx:Next ops L i) (h:Jv P F call ops base τ0 H0 w0 σ0 L a w) {Q:Exit→Act→World→Prop}:wpOp P ops Q i (Jv P F call ops base τ0 H0 w0 σ0 (fZ L i)) a w:=by
 obtain⟨σ,K,hW,hK,hn,hsz,hdf,hrep,hE0,hnm,hfr⟩:=h
 have hi:=nx.lt
 obtain⟨o,ho⟩:∃o,ops[i]? =some o:=⟨_,Array.getElem?_eq_getElem hi⟩
 obtain⟨hu,hwt⟩:=D5 run rf hst nx ho
 have htm:=Jz rf hsz hdf hrep
 have hbi:σ (base+i)=none:=hfr i hi nx.not
 have hKb:K.get (base+i)=none:=by
  cases hg:K.get (base+i)with
  | none=>rfl
  | some x=>obtain⟨pl,_,_,h1,_⟩:=hW.live _ x hg;rw[hbi]at h1;cases h1
 have hSb:(dv P F call ops base τ0 H0 i).2.get (base+i)=none:=rf.fresh i i (Nat.le_refl _) hi
 have hlt:base+i<K.next:=by have:=CC rf L;rw[hn];omega
 have hfresh:∀{σ':bz},(∀c pl,σ' c=some pl→σ c=some pl∨c=base+i∨K.next≤c)→∀j,j<ops.size→fZ L i j=false→σ' (base+j)=none:=fun {σ'} hσ j hj hLj=>by
  have hji:j≠i:=by rintro rfl;simp[fZ]at hLj
  have hL:L j=false:=by simpa[fZ,hji]using hLj
  cases hg:σ' (base+j)with
  | none=>rfl
  | some pl=>
   have hge:=CC rf L
   rcases hσ _ pl hg with h1 | h1 | h1
   ·rw[hfr j hj hL]at h1;cases h1
   ·omega
   ·omega
 have hstep:=run.step i hi
 unfold aZ at hstep
 rw[ho]at hstep
 simp only[]at hstep
 unfold wpOp
 rw[ho]
 simp only[]
 split at hstep
 ·rename_i hwant
  rw[←hwt]at hwant
  rw[if_pos (fX htm hwant)]
  left
  unfold Oper.wp
  split at hstep
  ·rename_i v H' hop
   simp only[Option.some.injEq,Prod.mk.injEq]at hstep
   obtain⟨e1,e2,e3⟩:=hstep
   obtain⟨q1,q2,q3⟩:=CA (P:=P) (F:=F) hu (base+i) (dv P F call ops base τ0 H0 i).2
   have hop2:aX P F o.op (gV (tl P F call ops base τ0 H0 L)) (base+i) (dv P F call ops base τ0 H0 i).2=some (.val v H'):=by rw[←q1];exact hop
   have hreads:∀c,c∈aT o.op (gV (tl P F call ops base τ0 H0 L))→∃x,(dv P F call ops base τ0 H0 i).2.get c=some x∧∀j,j<ops.size→j≠i→touched (eM P F call ops base τ0 H0 j) c→(j<i→((bE ops.toList []).getD i 0).testBit j=true)∧(i<j→((bE ops.toList []).getD j 0).testBit i=true):=fun c hc=>by
    obtain⟨x,hx⟩:=AD hop2 hc
    exact⟨x,hx,D3 run rf hi e3.symm (by show c∈aT o.op (gV (dv P F call ops base τ0 H0 i).1);rw[q2];exact hc) hx⟩
   have hr:∀c∈aT o.op (gV (tl P F call ops base τ0 H0 L)),K.get c=(dv P F call ops base τ0 H0 i).2.get c:=fun c hc=>by
    obtain⟨x,_,h1⟩:=hreads c hc
    rw[hK]
    exact CB run rf nx h1
   obtain⟨K',l1,l2,l3⟩:=Dg hop2 K hr (by rw[hKb,hSb])
   obtain⟨v',w',σ',h1,h2,h3,h4,h5⟩:=yI fit hW hbi hlt (o:=o) htm.eval l1
   have htouch:∀c,cm (eM P F call ops base τ0 H0 i) c=true↔(c∈aH o.op (gV (tl P F call ops base τ0 H0 L))∨c=base+i):=fun c=>by
    rw[←e3,←q3]
    simp[cm]
   have hinv:Jv P F call ops base τ0 H0 w0 σ0 (fZ L i) (a.put o.dst v') w':=by
    obtain⟨t1,t2⟩:=vN run rf hst nx ho e1.symm h2 hsz hrep (fun x u hxu=>hxu.mono h4)
    refine⟨σ',K',h3,fun c=>?_,?_,t1,by cases o.dst<;>exact hdf,t2,hE0.trans h4,fun c pl hc=>?_,hfresh (fun c pl hc=>?_)⟩
    ·rw[l3]
     cases ht:cm (eM P F call ops base τ0 H0 i) c with
     | true=>
      have hc:=(htouch c).1 ht
      rw[if_pos hc,AG nx ht,←e2]
      ·rfl
      ·intro j hj hne hjt hlt'
       rcases hc with hc | hc
       ·obtain⟨x,_,h6⟩:=hreads c (qo hc)
        exact(h6 j hj hne hjt).2 hlt'
       ·obtain⟨y,hy,hyt⟩:=hjt
        rcases run.free j i _ y hlt' hj e3.symm hy with h6 | h6
        ·exact h6
        ·exfalso
         have fr:=dx h6
         rcases hyt with t | t | ⟨t3,t4,_⟩
         ·exact fr.mw c (by simp[hc]) t
         ·have:=((rf.chg j hj).made y hy).1 c t;omega
         ·have:=((rf.chg j hj).made y hy).2 t3
          have:=rf.le j (by omega)
          omega
     | false=>
      rw[if_neg (fun hc=>by rw[(htouch c).2 hc]at ht;cases ht),sG ht,hK]
    ·rw[l2,hn]
     have:fq (eM P F call ops base τ0 H0 i)=false:=by rw[←e3];rfl
     have hl:bP (fun j=>fZ L i j&&fq (eM P F call ops base τ0 H0 j)) ops.size=bP (fun j=>L j&&fq (eM P F call ops base τ0 H0 j)) ops.size:=jq (p:=fun j=>fq (eM P F call ops base τ0 H0 j)) this
     unfold zr
     rw[hl]
    ·rcases h5 c pl hc with h6 | h6
     ·exact hnm c pl h6
     ·exact .inr (by omega)
    ·rcases h5 c pl hc with h6 | h6
     ·exact .inl h6
     ·exact .inr (.inl h6)
   rcases h1 with h1 | ⟨h1,rfl⟩
   ·rw[h1];exact hinv
   ·rw[h1];exact hinv
  ·rename_i f args hop
   split at hstep
   ·rename_i v H1 hcall
    simp only[Option.some.injEq,Prod.mk.injEq]at hstep
    obtain⟨e1,e2,e3⟩:=hstep
    obtain⟨q1,q2,q3⟩:=CA (P:=P) (F:=F) hu (base+i) (dv P F call ops base τ0 H0 i).2
    have hop2:aX P F o.op (gV (tl P F call ops base τ0 H0 L)) (base+i) (dv P F call ops base τ0 H0 i).2=some (.call f args):=by rw[←q1];exact hop
    have hopK:=vJ hop2 K
    obtain⟨fn,cd,hf,hbd⟩:=hs.body _ _ _ _ _ hcall
    obtain⟨vs,g1,g2⟩:=At fit (o:=o) (b:=base+i) htm.eval hopK hf hbd
    have hHg:=fp base ((bE ops.toList []).getD i 0) i (dv P F call ops base τ0 H0 i).2
    have hHn:=(ez base ((bE ops.toList []).getD i 0) i (dv P F call ops base τ0 H0 i).2).1
    generalize hHc:cQ base ((bE ops.toList []).getD i 0) i (dv P F call ops base τ0 H0 i).2=Hh at hcall e3 hHg hHn
    have hbdc:Bd ({Hh with log:=[]}:ah):=fun d hd=>by
     show Hh.get d=none
     rw[hHg]
     split
     ·rfl
     ·exact rf.bd i (by omega) d (by rw[←hHn];exact hd)
    have hcg:vk ({Hh with log:=[]}:ah) H1:=hch _ _ _ _ _ hbdc hcall
    generalize hHc2:({Hh with log:=[]}:ah)=Hc at hcall hcg hbdc
    have hHg:∀c,Hc.get c=if(∃j,j<i∧((bE ops.toList []).getD i 0).testBit j=false∧c=base+j)then none else(dv P F call ops base τ0 H0 i).2.get c:=fun c=>by rw[←hHc2];exact hHg c
    have hHn:Hc.next=(dv P F call ops base τ0 H0 i).2.next:=by rw[←hHc2];exact hHn
    have hHh:∀c,Hh.get c=Hc.get c:=fun c=>by rw[←hHc2];rfl
    have htouch:∀c,cm (eM P F call ops base τ0 H0 i) c=true↔((c∈H1.log∧(Hc.get c).isSome=true)∨((dv P F call ops base τ0 H0 i).2.next≤c∧c<H1.next)):=fun c=>by
     rw[←e3]
     simp[cm,hHh]
    have hKn:K.next=(dv P F call ops base τ0 H0 i).2.next:=by
     rw[hn,BY run i (by omega),zr,km (p:=fun j=>fq (eM P F call ops base τ0 H0 j)) hi nx.not]
     intro j hj hne hcj
     cases hx:eM P F call ops base τ0 H0 j with
     | none=>rw[hx]at hcj;cases hcj
     | some x=>
      rw[hx]at hcj
      refine⟨fun hl=>?_,fun hl=>?_⟩
      ·rcases run.free i j x _ hl hi hx e3.symm with h6 | h6
       ·exact nx.before h6
       ·have:=(dx h6).cc hcj;cases this
      ·rcases run.free j i _ x hl hj e3.symm hx with h6 | h6
       ·exact nx.behind hj h6
       ·have:=(dx h6).cc rfl
        have h7:x.isCall=true:=hcj
        rw[h7]at this;cases this
    have hsub:∀c x,Hc.get c=some x→K.get c=some x:=fun c x hx=>by
     rw[hHg]at hx
     split at hx
     ·cases hx
     ·rename_i hnh
      rw[hK,CB run rf nx ?_]
      ·exact hx
      ·intro j hj hne ht
       obtain⟨y,hy,hyt⟩:=ht
       refine⟨fun hl=>?_,fun hl=>?_⟩
       ·cases hbit:((bE ops.toList []).getD i 0).testBit j with
        | true=>rfl
        | false=>
         exfalso
         rcases run.free i j y _ hl hi hy e3.symm with h6 | h6
         ·rw[hbit]at h6;cases h6
         ·have fr:=dx h6
          rcases hyt with t | t | ⟨t3,_,_⟩
          ·exact fr.wc rfl c t
          ·exact hnh ⟨j,hl,hbit,((rf.chg j hj).made y hy).1 c t⟩
          ·have:=fr.cc t3;cases this
       ·rcases later run rf hl hj e3.symm hy ⟨y,hy,hyt⟩ hx with h6 | ⟨fr,h6 | ⟨_,h6⟩⟩
        ·exact h6
        ·exact absurd h6 (fr.cw rfl c)
        ·exact h6.elim
    have hnK:Hc.next=K.next:=by rw[hHn,hKn]
    have hWc:=hW.part hsub (by rw[hnK];exact Nat.le_refl _)
    rw[g1]
    refine(hs.ok _ _ _ _ _ hcall w (σ.part K Hc) vs hWc ⟨g2.1,fun q x u hx hu=>by rw[vL hsub];exact bq.sig (σ:=σ) (σ':=σ.part K Hc) rfl (g2.2 q x u hx hu)⟩).mono ?_
    rintro e w' ⟨v',σ',rfl,k1,k2,k3,k4⟩
    have hK1:=hcg.next
    obtain⟨K',hK'n,hK'g⟩:∃K':ah,K'.next=H1.next∧∀c,K'.get c=if cm (eM P F call ops base τ0 H0 i) c=true then H1.get c else K.get c:=by
     refine⟨{yM H1 (H1.log.filter (fun c=>(Hc.get c).isSome)++List.range' K.next (H1.next-K.next)) K with next:=H1.next},rfl,fun c=>?_⟩
     show(yM H1 _ K).get c=_
     rw[AE]
     have:c∈(H1.log.filter (fun c=>(Hc.get c).isSome)++List.range' K.next (H1.next-K.next))↔cm (eM P F call ops base τ0 H0 i) c=true:=by
      rw[htouch,List.mem_append,List.mem_filter,List.mem_range'_1,hKn]
      constructor
      ·rintro(h6 | h6)
       ·exact .inl h6
       ·exact .inr (by omega)
      ·rintro(h6 | h6)
       ·exact .inl h6
       ·exact .inr (by omega)
     by_cases ht:cm (eM P F call ops base τ0 H0 i) c=true
     ·rw[if_pos (this.2 ht),if_pos ht]
     ·rw[if_neg (fun h6=>ht (this.1 h6)),if_neg ht]
    have hbd1:Bd H1:=hcg.bd hbdc
    have hform:∀c,K'.get c=if Hc.get c=none∧c<K.next then K.get c else H1.get c:=fun c=>by
     rw[hK'g]
     by_cases ht:cm (eM P F call ops base τ0 H0 i) c=true
     ·rw[if_pos ht,if_neg]
      rintro⟨h6,h7⟩
      rcases(htouch c).1 ht with⟨_,h8⟩ | ⟨h8,_⟩
      ·rw[h6]at h8;cases h8
      ·omega
     ·rw[if_neg ht]
      split
      ·rfl
      ·rename_i hnn
       cases hg:Hc.get c with
       | some x=>
        have hcl:c∉H1.log:=fun h6=>ht ((htouch c).2 (.inl ⟨h6,by rw[hg];rfl⟩))
        have hcn:c<Hc.next:=by
         rcases Nat.lt_or_ge c Hc.next with h6 | h6
         ·exact h6
         ·rw[hbdc c h6]at hg;cases hg
        rw[hcg.keep c hcn hcl,hg]
        exact hsub c x hg
       | none=>
        have hcn:K.next≤c:=by
         rcases Nat.lt_or_ge c K.next with h6 | h6
         ·exact absurd ⟨hg,h6⟩ hnn
         ·exact h6
        have hc1:H1.next≤c:=by
         rcases Nat.lt_or_ge c H1.next with h6 | h6
         ·exact absurd ((htouch c).2 (.inr ⟨by rw[←hKn];exact hcn,h6⟩)) ht
         ·exact h6
        rw[hbd1 c hc1]
        cases hg2:K.get c with
        | none=>rfl
        | some x=>
         obtain⟨pl,_,_,h6,_⟩:=hW.live c x hg2
         have:=hW.named c pl h6
         omega
    obtain⟨z1,z2,z3⟩:=hW.whole hsub hnK k2 k3 hcg.dom hform (by rw[hK'n];exact Nat.le_refl _)
    obtain⟨t1,t2⟩:=vN run rf hst nx ho (v:=v) (v':=v') (w':=w') (σ':=⟨σ'.map,σ.fr⟩) (T':=aS ⟨σ'.map,σ.fr⟩ K') e1.symm (by rw[z3];exact bq.sig (σ:=σ') (σ':=⟨σ'.map,σ.fr⟩) rfl k1) hsz hrep (fun x u hxu=>hxu.mono z2)
    refine(⟨⟨σ'.map,σ.fr⟩,K',z1,fun c=>?_,?_,t1,by cases o.dst<;>exact hdf,t2,hE0.trans z2,fun c pl hc=>?_,hfresh (fun c pl hc=>?_)⟩:Jv P F call ops base τ0 H0 w0 σ0 (fZ L i) (a.put o.dst v') w')
    ·rw[hK'g]
     cases ht:cm (eM P F call ops base τ0 H0 i) c with
     | true=>
      have hnhid:¬ ∃j,j<i∧((bE ops.toList []).getD i 0).testBit j=false∧c=base+j:=by
       intro hh
       rcases(htouch c).1 ht with⟨_,h8⟩ | ⟨h8,_⟩
       ·rw[hHg,if_pos hh]at h8;cases h8
       ·obtain⟨j,hj,_,rfl⟩:=hh
        have:=rf.le i (by omega)
        omega
      rw[if_pos rfl,AG nx ht,←e2]
      ·show H1.get c=(fK _ _ _ _ _).get c
       rw[iM,if_neg hnhid]
      ·intro j hj hne hjt hl
       obtain⟨y,hy,hyt⟩:=hjt
       rcases run.free j i _ y hl hj e3.symm hy with h6 | h6
       ·exact h6
       ·exfalso
        have fr:=dx h6
        rcases hyt with t | t | ⟨t3,_,_⟩
        ·exact fr.cw rfl c t
        ·have hcj:=((rf.chg j hj).made y hy).1 c t
         rcases(htouch c).1 ht with⟨_,h8⟩ | ⟨h8,_⟩
         ·rw[hHg,if_neg hnhid,hcj,rf.fresh i j (by omega) hj]at h8;cases h8
         ·have:=rf.le i (by omega)
          omega
        ·have h7:=fr.cc rfl
         rw[t3]at h7;cases h7
     | false=>rw[if_neg (by simp),sG ht,hK]
    ·rw[hK'n]
     have hcb:fq (eM P F call ops base τ0 H0 i)=true:=by rw[←e3];rfl
     have hl:bP (fun j=>fZ L i j&&fq (eM P F call ops base τ0 H0 j)) ops.size=some i:=sF (p:=fun j=>fq (eM P F call ops base τ0 H0 j)) hi nx.not hcb (fun j hj hne hcj hl=>by
      cases hx:eM P F call ops base τ0 H0 j with
      | none=>rw[hx]at hcj;cases hcj
      | some x=>
       rw[hx]at hcj
       rcases run.free j i _ x hl hj e3.symm hx with h6 | h6
       ·exact nx.behind hj h6
       ·have:=(dx h6).cc rfl
        have h7:x.isCall=true:=hcj
        rw[h7]at this;cases this)
     unfold zr
     rw[hl]
     simp only[]
     rw[←e2]
     exact(e7 _ _ _ _ _).1.symm
    ·rcases k4 c pl hc with h6 | h6
     ·exact hnm c pl h6
     ·exact .inr (by have:=rf.le i (by omega);omega)
    ·rcases k4 c pl hc with h6 | h6
     ·exact .inl h6
     ·exact .inr (.inr (by omega))
   ·cases hstep
  ·cases hstep
 ·rename_i hwant
  rw[←hwt]at hwant
  rw[if_neg (by rw[fX htm hwant];simp)]
  simp only[Option.some.injEq,Prod.mk.injEq]at hstep
  obtain⟨e1,e2,e3⟩:=hstep
  obtain⟨t1,t2⟩:=vN run rf hst nx ho e1.symm iK hsz hrep (fun x u hxu=>hxu)
  have ht:∀c,cm (eM P F call ops base τ0 H0 i) c=false:=fun c=>by rw[←e3];rfl
  refine⟨σ,K,hW,fun c=>by rw[sG (ht c),hK],?_,t1,by cases o.dst<;>exact hdf,t2,hE0,hnm,hfresh (fun c pl hc=>.inl hc)⟩
  rw[hn]
  have:fq (eM P F call ops base τ0 H0 i)=false:=by rw[←e3];rfl
  have hl:bP (fun j=>fZ L i j&&fq (eM P F call ops base τ0 H0 j)) ops.size=bP (fun j=>L j&&fq (eM P F call ops base τ0 H0 j)) ops.size:=jq (p:=fun j=>fq (eM P F call ops base τ0 H0 j)) this
  unfold zr
  rw[hl]
 ·cases hstep
end
end Go.Proofs.YtljkdffikfkcgaaGreat.Am
end
section
namespace Go.Proofs.YtljkdffikfkcgaaGreat.Am
set_option linter.unusedVariables false
def qp(ops:Array Oper):Prop:=∀(i:Nat) (o:Oper),ops[i]? =some o→∀e∈o.after.toList,Region.binds .any e=true→e.on<i
def hD:Code→Prop
 | .region _ ops draw=>draw=true→jr ops∧qp ops
 | .seq a b=>hD a∧hD b
 | .cond _ a b=>hD a∧hD b
 | .block _ b=>hD b
 | .loop b=>hD b
 | _=>True
section
variable {P:Program} {F:TypeId→Option (List TypeId)} {call:FuncId→List AV→ah→Option (AV×ah)} {ops:Array Oper} {base:Nat} {τ0:List AV} {H0:ah}
theorem js(hs:dL P call){before:List Nat}:∀(l:List Nat) (τ τ':List AV) (H K:ah) (rs rs':List mR),dm P F call ops base before l τ H rs=some (τ',K,rs')→H.next≤K.next
 | [],τ,τ',H,K,rs,rs',h=>by cases h;exact Nat.le_refl _
 | i::l,τ,τ',H,K,rs,rs',h=>by
  have key:∀{mask τ1 H1 r},aZ P F call ops base i mask τ H=some (τ1,H1,r)→H.next≤H1.next:=fun {mask τ1 H1 r} hd=>by
   unfold aZ at hd
   split at hd
   ·cases hd
   ·split at hd
    ·split at hd
     ·rename_i hop;cases hd;have:=vG hop;exact Nat.le_of_eq this.symm
     ·split at hd
      ·rename_i hcall
       cases hd
       have:=hs.next _ _ _ _ _ hcall
       show H.next≤(fK _ _ _ _ _).next
       rw[(e7 _ _ _ _ _).1]
       have h2:=(ez base mask i H).1
       simp only[]at this
       omega
      ·cases hd
     ·cases hd
    ·cases hd;exact Nat.le_refl _
    ·cases hd
  unfold dm at h
  split at h
  ·rename_i hd;exact Nat.le_trans (key hd) (js hs l _ _ _ _ _ _ h)
  ·rename_i hd
   split at h
   ·exact Nat.le_trans (key hd) (js hs l _ _ _ _ _ _ h)
   ·cases h
  ·cases h
def cnt(L:Nat→Bool):Nat→Nat
 | 0=>0
 | k+1=>cnt L k+(if L k then 0 else 1)
theorem AH{L:Nat→Bool}:∀{n:Nat},cnt L n=0→∀i,i<n→L i=true
 | n+1,h,i,hi=>by
  unfold cnt at h
  rcases Nat.eq_or_lt_of_le (Nat.le_of_lt_succ hi)with rfl | hlt
  ·cases hL:L i with
   | true=>rfl
   | false=>rw[hL]at h;simp at h
  ·exact AH (by omega) i hlt
theorem yN{L M:Nat→Bool}:∀{n:Nat},(∀i,i<n→L i=M i)→cnt L n=cnt M n
 | 0,_=>rfl
 | n+1,h=>by rw[cnt,cnt,yN fun i hi=>h i (by omega),h n (by omega)]
theorem CD{L:Nat→Bool}{i:Nat}(hL:L i=false):∀{n:Nat},i<n→cnt (fZ L i) n+1=cnt L n
 | n+1,hi=>by
  unfold cnt
  rcases Nat.eq_or_lt_of_le (Nat.le_of_lt_succ hi)with rfl | hlt
  ·rw[yN (M:=L) fun j hj=>by simp[fZ,show¬j=i by omega]]
   simp[fZ,hL]
  ·have:=CD hL hlt
   have e:fZ L i n=L n:=by simp[fZ,show¬n=i by omega]
   rw[e]
   omega
theorem yO:∀n,cnt (fun _=>false) n=n
 | 0=>rfl
 | n+1=>by simp[cnt,yO n]
theorem yP{L:Nat→Bool}:∀n,(∀i,i<n→L i=true)∨∃i,i<n∧L i=false∧∀j,j<i→L j=true
 | 0=>.inl fun i hi=>by omega
 | n+1=>by
  rcases yP (L:=L) n with h | ⟨i,h1,h2,h3⟩
  ·by_cases hL:L n=true
   ·left
    intro i hi
    rcases Nat.eq_or_lt_of_le (Nat.le_of_lt_succ hi)with rfl | hlt
    ·exact hL
    ·exact h i hlt
   ·exact .inr ⟨n,by omega,by simpa using hL,h⟩
  ·exact .inr ⟨i,by omega,h2,h3⟩
theorem sH{l:Array Bool}{i:Nat}(hi:i<l.size):l.getD i true=l.getD i false:=by simp[Array.getD,hi]
theorem Dj(fit:Fit P F)(hs:dL P call)(hch:∀f args H v H',Bd H→call f args H=some (v,H')→vk H H')(run:iN P F call ops base τ0 H0)(rf:cJ P F call ops base τ0 H0)(hst:jr ops)(hed:qp ops)(hb:base+ops.size=H0.next)
  {w0:World} {σ0:bz} {Q:Exit→Act→World→Prop} (hQ:∀a w,Jv P F call ops base τ0 H0 w0 σ0 (fun i=>decide (i<ops.size)) a w→Q .normal a w) :
  ∀(fuel:Nat) (listed:Array Bool) (a:Act) (w:World),listed.size=ops.size→zq ops (fun i=>listed.getD i false)→cnt (fun i=>listed.getD i false) ops.size≤fuel→
   Jv P F call ops base τ0 H0 w0 σ0 (fun i=>listed.getD i false) a w→wpAny P .any ops Q fuel listed a w:=by
 intro fuel
 induction fuel with
 | zero=>
  intro listed a w hsz hcl hf hI
  have hall:=AH (by omega:cnt (fun i=>listed.getD i false) ops.size=0)
  unfold wpAny
  refine⟨?_,?_⟩
  ·unfold Region.ready
   rw[List.filter_eq_nil_iff]
   intro i hi
   rw[List.mem_range]at hi
   have:=hall i hi
   rw[sH (by omega),this]
   simp
  ·refine hQ a w ?_
   have e:(fun i=>listed.getD i false)=fun i=>decide (i<ops.size):=by
    funext i
    by_cases hi:i<ops.size
    ·rw[hall i hi];simp[hi]
    ·simp[Array.getD,hsz,hi]
   rw[←e];exact hI
 | succ fuel ih=>
  intro listed a w hsz hcl hf hI
  unfold wpAny
  refine⟨fun hr=>?_,fun i hi=>?_⟩
  ·rcases yP (L:=fun i=>listed.getD i false) ops.size with hall | ⟨i,h1,h2,h3⟩
   ·refine hQ a w ?_
    have e:(fun i=>listed.getD i false)=fun i=>decide (i<ops.size):=by
     funext i
     by_cases hi:i<ops.size
     ·rw[hall i hi];simp[hi]
     ·simp[Array.getD,hsz,hi]
    rw[←e];exact hI
   ·exfalso
    unfold Region.ready at hr
    rw[List.filter_eq_nil_iff]at hr
    have ho:ops[i]? =some ops[i]:=Array.getElem?_eq_getElem h1
    refine hr i (by rw[List.mem_range];exact h1) ?_
    rw[sH (by omega),ho]
    rw[h2]
    simp only[Bool.not_false,Bool.true_and,Option.map_some,Option.getD_some]
    rw[Array.all_eq_true_iff_forall_mem]
    intro e he
    cases hbn:Region.binds .any e with
    | false=>rfl
    | true=>
     have:=h3 e.on (hed i _ ho e (by rw[Array.mem_toList_iff];exact he) hbn)
     rw[this];rfl
  ·unfold Region.ready at hi
   rw[List.mem_filter,List.mem_range]at hi
   obtain⟨hi1,hi2⟩:=hi
   obtain⟨o,ho⟩:∃o,ops[i]? =some o:=⟨_,Array.getElem?_eq_getElem hi1⟩
   rw[Bool.and_eq_true,ho]at hi2
   obtain⟨hi2,hi3⟩:=hi2
   have hnot:listed.getD i false=false:=by
    rw[←sH (by omega)]
    simpa using hi2
   simp only[Option.map_some,Option.getD_some]at hi3
   rw[Array.all_eq_true_iff_forall_mem]at hi3
   have nx:Next ops (fun i=>listed.getD i false) i:=⟨hi1,hnot,hcl,fun o' ho' e he hbn=>by
    rw[ho]at ho'
    cases ho'
    have:=hi3 e (by rw[←Array.mem_toList_iff];exact he)
    rw[hbn]at this
    simpa using this⟩
   have eL:(fun j=>(listed.setIfInBounds i true).getD j false)=fZ (fun j=>listed.getD j false) i:=by
    funext j
    unfold fZ
    by_cases hj:j=i
    ·subst hj
     rw[if_pos rfl]
     simp[Array.getD,show j<listed.size by omega]
    ·rw[if_neg hj]
     by_cases hjl:j<listed.size
     ·simp[Array.getD,hjl,show¬i=j by omega]
     ·simp[Array.getD,hjl]
   refine wpOp_mono (fun a' w' hI'=>?_) (D6 fit hs hch run rf hst hb nx hI)
   refine ih _ a' w' (by simpa using hsz) ?_ ?_ (by rw[eL];exact hI')
   ·rw[eL]
    intro j oj hoj hLj e he hbn
    unfold fZ at hLj ⊢
    split
    ·rfl
    ·split at hLj
     ·rename_i _ hji
      subst hji
      exact nx.edges oj hoj e he hbn
     ·exact hcl j oj hoj hLj e he hbn
   ·rw[eL]
    have:=CD (L:=fun j=>listed.getD j false) hnot hi1
    omega
theorem vO(fit:Fit P F)(hs:dL P call)(hch:∀f args H v H',Bd H→call f args H=some (v,H')→vk H H')(hst:jr ops)(hed:qp ops){τ τ':List AV}{H H':ah}(h:cT P F call ops true τ H=some (τ',H')):
  H.next≤H'.next∧∀(id:Nat) (w:World) (σ:bz) (a:Act),bn w σ H→bU w σ (aS σ H) τ a→∀Q:Exit→Act→World→Prop,(∀a' w',mU w σ H τ' H' a' w'→Q .normal a' w')→(Code.region id ops true).wp P Q a w:=by
 simp only[cT,if_true]at h
 split at h
 ·rename_i τq K rs hd
  cases h
  refine⟨Nat.le_trans (Nat.le_add_right _ _) (js hs _ _ _ _ _ _ _ hd),fun id w σ a hW hτ Q hQ=>?_⟩
  have hbd:Bd H:=fun b hb=>by
   cases hg:H.get b with
   | none=>rfl
   | some x=>
    obtain⟨pl,_,_,h1,_⟩:=hW.live b x hg
    have:=hW.named b pl h1
    omega
  have hn:H.next+ops.size=({H with next:=H.next+ops.size}:ah).next:=rfl
  have hg0:∀b,({H with next:=H.next+ops.size}:ah).get b=H.get b:=fun _=>rfl
  have hW0:bn w σ {H with next:=H.next+ops.size}:=hW.congr hg0 (Nat.le_add_right _ _)
  have ho0:aS σ {H with next:=H.next+ops.size}=aS σ H:=aS.congr hg0
  generalize hH0:({H with next:=H.next+ops.size}:ah)=H0 at hd hn hg0 hW0 ho0
  have hbd0:Bd H0:=fun b hb=>by rw[hg0];exact hbd b (by omega)
  rw[List.range_eq_range']at hd
  obtain⟨a1,a2,a3⟩:=D2 (P:=P) (F:=F) (call:=call) (ops:=ops) (base:=H.next) (τ0:=τ) (H0:=H0) ops.size 0 [] rs τ' K hd (fun j x hj=>by omega)
  simp only[Nat.zero_add]at a1 a2 a3
  have run:iN P F call ops H.next τ H0:=⟨fun i hi=>a1 i (Nat.zero_le _) hi,fun i j x r hji hi hx hr=>a2 i j x r (Nat.zero_le _) hi hji hx hr⟩
  have rf:=Di hch run hbd0 hn (fun j hj=>by rw[hg0];exact hbd _ (Nat.le_add_right _ _))
  have hnone:∀(p:Nat→Bool) n,bP (fun j=>false&&p j) n=none:=fun p n=>by
   rw[nF (k:=0) (Nat.zero_le _) (fun i _ _=>by simp)];rfl
  have hall:∀(p:Nat→Bool) n,bP (fun j=>decide (j<n)&&p j) n=bP p n:=fun p n=>g9 fun i hi=>by simp[hi]
  refine wp_region_any fit.order (Dj (w0:=w) (σ0:=σ) fit hs hch run rf hst hed hn ?_ ops.size _ a _ (by simp) ?_ ?_ ?_)
  ·intro a' w' hI
   obtain⟨σ',K',k1,k2,k3,k4,k5,k6,k7,k8,_⟩:=hI
   have eS:(dv P F call ops H.next τ H0 ops.size)=(τ',K):=a3.symm
   have hget':∀c,K'.get c=K.get c:=fun c=>by
    have:=BX run rf c ops.size (Nat.le_refl _)
    rw[eS]at this
    rw[k2,hget,hall]
    exact this.symm
   have hnx:K'.next=K.next:=by
    have:=BY run ops.size (Nat.le_refl _)
    rw[eS]at this
    rw[k3,zr,hall]
    exact this.symm
   have htg:∀t,ko P F call ops H.next τ H0 (fun i=>decide (i<ops.size)) t=τ'[t]? :=fun t=>by
    have:=BW run t ops.size (Nat.le_refl _)
    rw[eS]at this
    rw[ko,hall]
    exact this.symm
   have hlen:τ'.length=τ.length:=by have:=rf.len ops.size (Nat.le_refl _);rw[eS]at this;exact this
   have hoK:aS σ' ({K with log:=rs.flatMap (·.writes)++K.log}:ah)=aS σ' K':=aS.congr fun b=>(hget' b).symm
   refine hQ a' w' ⟨σ',⟨⟨by simp[hlen,k4],fun t x u hx hu=>?_⟩,k5⟩,k1.congr (fun b=>(hget' b).symm) (by rw[hnx];exact Nat.le_refl _),by rw[hoK,←ho0];exact k7,fun c pl hc=>k8 c pl hc⟩
   rw[hoK]
   exact k6 t x u (by rw[htg];exact hx) (by rw[←Array.getElem?_toList];exact hu)
  ·intro i o ho hL
   simp[Array.getD]at hL
  ·have:(fun i=>(Array.replicate ops.size false).getD i false)=fun _=>false:=by funext i;simp[Array.getD]
   rw[this,yO]
   exact Nat.le_refl _
  ·have:(fun i=>(Array.replicate ops.size false).getD i false)=fun _=>false:=by funext i;simp[Array.getD]
   rw[this]
   refine⟨σ,H0,hW0.same rfl rfl rfl rfl,fun c=>by rw[hget,hnone],by rw[zr,hnone],by have:=hτ.1.1;simpa using this.symm,hτ.2,fun t x u hx hu=>?_,ew.same σ _ rfl rfl rfl rfl,fun c pl hc=>.inl hc,fun i hi _=>?_⟩
   ·rw[ko,hnone]at hx
    have:=hτ.1.2 t x u hx (by rw[Array.getElem?_toList];exact hu)
    rw[←ho0]at this
    have e:ew w σ (aS σ H0) {w with drawn:=w.drawn+1} σ (aS σ H0):=ew.same σ _ rfl rfl rfl rfl
    exact this.mono e
   ·cases hg:σ (H.next+i)with
    | none=>rfl
    | some pl=>have:=hW.named _ pl hg;omega
 ·cases h
def iy(P:Program)(n:Nat)(c:Code)(τ:List AV)(H:ah)(e:Ex)(τ':List AV)(H':ah):Prop:=
 H.next≤H'.next∧∀(w:World) (σ:bz) (a:Act),bn w σ H→bU w σ (aS σ H) τ a→∀Q:Exit→Act→World→Prop,(∀a' w',mU w σ H τ' H' a' w'→Q (Av e) a' w')→Code.rounds P c Q n a w
theorem AI(fit:Fit P F)(hgood:∀(g:Nat) (fn:Func) (c:Code),P.funcs[g]? =some fn→fn.body=some c→hD c)(f:Nat):(∀(c:Code) (τ:List AV) (H:ah) (e:Ex) (τ':List AV) (H':ah),hD c→eW P F f c τ H=some (e,τ',H')→ch P c τ H e τ' H')∧
  (∀(c:Code) (τ:List AV) (H:ah) (e:Ex) (τ':List AV) (H':ah),hD c→eW P F f (.loop c) τ H=some (e,τ',H')→iy P f c τ H e τ' H'):=by
 induction f with
 | zero=>exact⟨fun c τ H e τ' H' _ h=>(by cases h),fun c τ H e τ' H' _ h=>(by cases h)⟩
 | succ f ih0=>
  obtain⟨ih,ihl⟩:=ih0
  have hs:=qm (P:=P) hgood ih
  have hch:∀g args H v H',Bd H→jn P (eW P F f) g args H=some (v,H')→vk H H':=fun g args H v H' hb hc=>vI (D1 f) hb hc
  have hloop:∀(c:Code) (τ:List AV) (H:ah) (e:Ex) (τ':List AV) (H':ah),hD c→eW P F (f+1) (.loop c) τ H=some (e,τ',H')→iy P (f+1) c τ H e τ' H':=by
   intro c1 τ H e τ' H' dr h
   simp only[eW]at h
   split at h
   ·rename_i τ1 H1 h1
    obtain⟨n1,k1⟩:=ih c1 τ H .normal τ1 H1 dr h1
    obtain⟨n2,k2⟩:=ihl c1 τ1 H1 e τ' H' dr h
    refine⟨Nat.le_trans n1 n2,fun w σ a hW hτ Q hQ=>?_⟩
    rw[rounds_succ]
    refine k1 w σ a hW hτ _ fun a' w' haf=>?_
    obtain⟨σ1,t1,r1,e1,m1⟩:=haf
    exact k2 w' σ1 a' r1 t1 Q fun a2 w2 haf2=>hQ a2 w2 (haf2.trans e1 m1 n1)
   ·rename_i hne
    obtain⟨n1,k1⟩:=ih c1 τ H e τ' H' dr h
    refine⟨n1,fun w σ a hW hτ Q hQ=>?_⟩
    rw[rounds_succ]
    refine k1 w σ a hW hτ _ fun a' w' haf=>?_
    cases e with
    | normal=>exact absurd h (hne _ _)
    | exit id=>exact hQ _ _ haf
    | ret=>exact hQ _ _ haf
  refine⟨?_,hloop⟩
  intro c τ H e τ' H' dr h
  cases c with
  | skip=>cases h;exact⟨Nat.le_refl _,fun w σ a hW hτ Q hQ=>wp_skip (hQ _ _ (.refl hW hτ))⟩
  | label l=>cases h;exact⟨Nat.le_refl _,fun w σ a hW hτ Q hQ=>wp_label (hQ _ _ (.refl hW hτ))⟩
  | exit id=>cases h;exact⟨Nat.le_refl _,fun w σ a hW hτ Q hQ=>wp_exit (hQ _ _ (.refl hW hτ))⟩
  | ret=>cases h;exact⟨Nat.le_refl _,fun w σ a hW hτ Q hQ=>wp_ret (hQ _ _ (.refl hW hτ))⟩
  | region id ops draw=>
   simp only[eW]at h
   split at h
   ·rename_i τ1 H1 hr
    cases h
    cases draw with
    | false=>exact eK fit hs hr
    | true=>
     obtain⟨h1,h2⟩:=vO fit hs hch (dr rfl).1 (dr rfl).2 hr
     exact⟨h1,fun w σ a hW hτ Q hQ=>h2 id w σ a hW hτ Q hQ⟩
   ·cases h
  | seq x y=>
   simp only[eW]at h
   split at h
   ·rename_i τ1 H1 h1
    obtain⟨n1,k1⟩:=ih x τ H .normal τ1 H1 dr.1 h1
    obtain⟨n2,k2⟩:=ih y τ1 H1 e τ' H' dr.2 h
    refine⟨Nat.le_trans n1 n2,fun w σ a hW hτ Q hQ=>wp_seq (k1 w σ a hW hτ _ fun a' w' haf=>?_)⟩
    obtain⟨σ1,t1,r1,e1,m1⟩:=haf
    exact k2 w' σ1 a' r1 t1 Q fun a2 w2 haf2=>hQ a2 w2 (haf2.trans e1 m1 n1)
   ·rename_i hne
    obtain⟨n1,k1⟩:=ih x τ H e τ' H' dr.1 h
    refine⟨n1,fun w σ a hW hτ Q hQ=>wp_seq (k1 w σ a hW hτ _ fun a' w' haf=>?_)⟩
    cases e with
    | normal=>exact absurd h (hne _ _)
    | exit id=>exact hQ _ _ haf
    | ret=>exact hQ _ _ haf
  | cond x c1 c2=>
   simp only[eW]at h
   split at h
   ·rename_i hb
    obtain⟨n1,k1⟩:=ih c1 τ H e τ' H' dr.1 h
    refine⟨n1,fun w σ a hW hτ Q hQ=>wp_cond_true ?_ (k1 w σ a hW hτ Q hQ)⟩
    have:=hτ.eval x
    rw[hb]at this
    generalize a.eval x=u at this
    cases this
    rfl
   ·rename_i hb
    obtain⟨n1,k1⟩:=ih c2 τ H e τ' H' dr.2 h
    refine⟨n1,fun w σ a hW hτ Q hQ=>wp_cond_false ?_ (k1 w σ a hW hτ Q hQ)⟩
    have:=hτ.eval x
    rw[hb]at this
    generalize a.eval x=u at this
    cases this
    rfl
   ·cases h
  | block id c1=>
   simp only[eW]at h
   split at h
   ·rename_i id' τ1 H1 h1
    obtain⟨n1,k1⟩:=ih c1 τ H _ τ1 H1 dr h1
    split at h
    ·rename_i hid
     cases h
     exact⟨n1,fun w σ a hW hτ Q hQ=>wp_block (k1 w σ a hW hτ _ fun a' w' haf=>by simp only[Av,Exit.inBlock,hid,if_true];exact hQ _ _ haf)⟩
    ·rename_i hid
     cases h
     exact⟨n1,fun w σ a hW hτ Q hQ=>wp_block (k1 w σ a hW hτ _ fun a' w' haf=>by simp only[Av,Exit.inBlock,hid,if_false];exact hQ _ _ haf)⟩
   ·rename_i hne
    obtain⟨n1,k1⟩:=ih c1 τ H e τ' H' dr h
    refine⟨n1,fun w σ a hW hτ Q hQ=>wp_block (k1 w σ a hW hτ _ fun a' w' haf=>?_)⟩
    cases e with
    | normal=>exact hQ _ _ haf
    | exit id=>exact absurd h (hne _ _ _)
    | ret=>exact hQ _ _ haf
  | loop c1=>
   obtain⟨n1,k1⟩:=hloop c1 τ H e τ' H' dr h
   exact⟨n1,fun w σ a hW hτ Q hQ=>wp_loop_rounds (f+1) (k1 w σ a hW hτ Q hQ)⟩
  | _=>simp[eW]at h
theorem BZ(fit:Fit P F)(hgood:∀(g:Nat) (fn:Func) (c:Code),P.funcs[g]? =some fn→fn.body=some c→hD c)(f:Nat)(c:Code)(τ:List AV)(H:ah)(e:Ex)(τ':List AV)(H':ah)(dr:hD c)(h:eW P F f c τ H=some (e,τ',H')):ch P c τ H e τ' H':=
 (AI fit hgood f).1 c τ H e τ' H' dr h
end
end Go.Proofs.YtljkdffikfkcgaaGreat.Am
end
section
namespace Go.Proofs.YtljkdffikfkcgaaGreat.Am
open Go.RowKit
set_option linter.unusedVariables false
def CE(ops:Array Oper):Bool:=
 let M:=bE ops.toList []
 let N:=ops.toList.map fun o=>(o.dst,fB ops o)
 (List.range ops.size).all fun i=>(List.range i).all fun j=>
  (M.getD i 0).testBit j ||
  (match N[i]?,N[j]? with
   | some (di,ni),some (dj,nj)=>(match dj with | some t=>!ni.contains t | none=>true)&&(match di with | some t=>!nj.contains t | none=>true)
   | _,_=>true)
def zt(ops:Array Oper):Bool:=(List.range ops.size).all fun i=>match ops[i]? with
 | some o=>o.after.toList.all fun e=>!Region.binds .any e||decide (e.on<i)
 | none=>true
def gf:Code→Bool
 | .region _ ops draw=>!draw||(CE ops&&zt ops)
 | .seq a b=>gf a&&gf b
 | .cond _ a b=>gf a&&gf b
 | .block _ b=>gf b
 | .loop b=>gf b
 | _=>true
theorem AJ{ops:Array Oper}(h:CE ops=true):jr ops:=by
 intro i j oi oj hji hoi hoj
 have hi:i<ops.size:=(Array.getElem?_eq_some_iff.1 hoi).1
 unfold CE at h
 simp only[List.all_eq_true,List.mem_range]at h
 have h1:=h i hi j hji
 have ei:(ops.toList.map fun o=>(o.dst,fB ops o))[i]? =some (oi.dst,fB ops oi):=by rw[List.getElem?_map,Array.getElem?_toList,hoi];rfl
 have ej:(ops.toList.map fun o=>(o.dst,fB ops o))[j]? =some (oj.dst,fB ops oj):=by rw[List.getElem?_map,Array.getElem?_toList,hoj];rfl
 rw[ei,ej]at h1
 simp only[Bool.or_eq_true,Bool.and_eq_true]at h1
 rcases h1 with h1 | ⟨h1,h2⟩
 ·exact .inl h1
 ·right
  refine⟨fun t ht=>?_,fun t ht=>?_⟩
  ·rw[ht]at h1;simpa using h1
  ·rw[ht]at h2;simpa using h2
theorem yQ{ops:Array Oper}(h:zt ops=true):qp ops:=by
 intro i o ho e he hb
 have hi:i<ops.size:=(Array.getElem?_eq_some_iff.1 ho).1
 unfold zt at h
 simp only[List.all_eq_true,List.mem_range]at h
 have h1:=h i hi
 rw[ho]at h1
 simp only[List.all_eq_true]at h1
 have:=h1 e he
 rw[hb]at this
 simpa using this
theorem e8:∀(c:Code),gf c=true→hD c
 | .region _ ops draw,h=>fun hd=>by
  subst hd
  simp only[gf,Bool.not_true,Bool.false_or,Bool.and_eq_true]at h
  exact⟨AJ h.1,yQ h.2⟩
 | .seq a b,h=>by simp only[gf,Bool.and_eq_true]at h;exact⟨e8 a h.1,e8 b h.2⟩
 | .cond _ a b,h=>by simp only[gf,Bool.and_eq_true]at h;exact⟨e8 a h.1,e8 b h.2⟩
 | .block _ b,h=>e8 b h
 | .loop b,h=>e8 b h
 | .skip,_=>trivial
 | .rangeFunc ..,_=>trivial
 | .exit _,_=>trivial
 | .scope _,_=>trivial
 | .label _,_=>trivial
 | .goto _,_=>trivial
 | .ret,_=>trivial
 | .refuse _,_=>trivial
def AK (fn : Func) : Bool := (fn.name != "runtime.NumGoroutine") && (match fn.body with | some c => gf c | none => true)
theorem Hj {P : Program} (h : P.funcs.toList.all AK = true) : (∀ (g : Nat) (fn : Func), P.funcs[g]? = some fn → fn.name ≠ "runtime.NumGoroutine") ∧ ∀ (g : Nat) (fn : Func) (c : Code), P.funcs[g]? = some fn → fn.body = some c → hD c := by
 rw[List.all_eq_true]at h
 have key:∀(g:Nat) (fn:Func),P.funcs[g]? =some fn→AK fn=true:=fun g fn hg=>h fn (by rw[Array.mem_toList_iff];exact Array.mem_of_getElem? hg)
 refine⟨fun g fn hg=>?_,fun g fn c hg hc=>?_⟩
 ·have:=key g fn hg
  simp only[AK,Bool.and_eq_true]at this
  simpa using this.1
 ·have:=key g fn hg
  simp only[AK,Bool.and_eq_true,hc]at this
  exact e8 c this.2
end Go.Proofs.YtljkdffikfkcgaaGreat.Am
end
section
namespace Go.Proofs.YtljkdffikfkcgaaGreat.Am
open Go.RowKit
set_option linter.unusedVariables false
inductive bF:AV→Prop where
 | int (k:IntKind) (n:Int):bF (.int k n)
 | bool (b:Bool):bF (.bool b)
 | str (s:List UInt8):bF (.str s)
 | nilp:bF .nilp
 | nils:bF .nils
 | emp:bF .emp
 | nilf:bF .nilf
 | junk:bF .junk
 | lst (rows:List (List AV)) (h:∀(i:Nat) (r:List AV) (j:Nat) (a:AV),rows[i]? =some r→r[j]? =some a→bF a):bF (.lst rows)
 | agg (cs:List AV) (h:∀(i:Nat) (a:AV),cs[i]? =some a→bF a):bF (.agg cs)
 | tup (cs:List AV) (h:∀(i:Nat) (a:AV),cs[i]? =some a→bF a):bF (.tup cs)
 | fn (f:FuncId) (cs:List AV) (h:∀(i:Nat) (a:AV),cs[i]? =some a→bF a):bF (.fn f cs)
section
variable {P:Program} {F:TypeId→Option (List TypeId)} {w w':World} {σ σ':bz} {T T':Nat→Prop}
theorem nA.shrink{rows:List (List AV)}{b o sz:Nat}(h:nA w T rows b o sz)(hT:∀c,T' c→T c):nA w T' rows b o sz:=⟨fun ht=>h.out (hT b ht),h.even,h.cell,h.pos,h.ne⟩
theorem bF.rep{a:AV}(hp:bF a):∀{v:Value},bq w σ T a v→(∀c,T' c→T c)→bq w σ' T' a v:=by
 induction hp with
 | int k n=>intro v h _;cases h;exact .int k n
 | bool b=>intro v h _;cases h;exact .bool b
 | str s=>intro v h _;cases h;exact .str _
 | nilp=>intro v h _;cases h;exact .nilp
 | nils=>intro v h _;cases h;exact .nils
 | emp=>intro v h _;cases h;exact .emp _
 | nilf=>intro v h _;cases h;exact .nilf
 | junk=>intro v h _;exact .junk v
 | lst rows h ih=>
  intro v hr hT
  cases hr with
  | lst0 a cap hm=>exact .lst0 a cap hm
  | lst _ b o sz cap hl hn hm hc=>exact .lst rows b o sz cap (hl.shrink hT) hn hm fun i r j a u h1 h2 h3=>ih i r j a h1 h2 (hc i r j a u h1 h2 h3) hT
 | agg cs h ih=>
  intro v hr hT
  cases hr with
  | agg _ vs hl hc=>exact .agg cs vs hl fun i a v h1 h2=>ih i a h1 (hc i a v h1 h2) hT
 | tup cs h ih=>
  intro v hr hT
  cases hr with
  | tup _ vs hl hc=>exact .tup cs vs hl fun i a v h1 h2=>ih i a h1 (hc i a v h1 h2) hT
 | fn f cs h ih=>
  intro v hr hT
  cases hr with
  | fn _ _ vs hl hc=>exact .fn f cs vs hl fun i a v h1 h2=>ih i a h1 (hc i a v h1 h2) hT
theorem dF(b:Nat):ah.empty.get b=none:=Tr.get_leaf b
def D7(P:Program)(f:FuncId)(args:List AV)(v:AV):Prop:=
 ∀(w:World) (σ:bz) (vs:List Value),bn w σ ah.empty→du w σ (aS σ ah.empty) args vs→Calls P f vs.toArray w fun e w'=>
  ∃v' σ' H',e=.returned v'∧bq w' σ' (aS σ' H') v v'∧ew w σ (aS σ ah.empty) w' σ' (aS σ' H')
theorem JA{f:FuncId}{args:List AV}{v:AV}(hv:bF v)(ha:∀(i:Nat) (a:AV),args[i]? =some a→bF a)(h:D7 P f args v)(H:ah):nD P f args H v H:=by
 intro w σ vs hW hvs
 have hown:aS ⟨fun _=>none,aS σ H⟩ ah.empty=aS σ H:=by
  funext c
  apply propext
  constructor
  ·rintro(h1 | ⟨b,x,pl,h1,_,_⟩)
   ·exact h1
   ·rw[dF]at h1;cases h1
  ·exact .inl
 have hlt:∀c,aS σ H c→c<w.heap.size:=fun c hc=>by
  rcases hc with hc | ⟨b,x,pl,h1,h2,rfl⟩
  ·exact(hW.apart c hc).1
  ·exact hW.lt b pl h2
 have hWe:bn w ⟨fun _=>none,aS σ H⟩ ah.empty:=⟨fun b pl hb=>(by cases hb),fun b pl hb=>(by cases hb),fun b x hb=>(by rw[dF]at hb;cases hb),
  fun c hc=>⟨hlt c hc,fun⟨b,x,pl,h1,_,_⟩=>(by rw[dF]at h1;cases h1)⟩,fun b b' x x' pl pl' hb=>(by rw[dF]at hb;cases hb)⟩
 refine(h w _ vs hWe ⟨hvs.1,fun i a u h1 h2=>(ha i a h1).rep (hvs.2 i a u h1 h2) (fun c hc=>by rw[hown]at hc;exact hc)⟩).mono ?_
 rintro e w' ⟨v',σ',H1,rfl,k1,k3⟩
 have hE:ew w σ (aS σ H) w' σ (aS σ H):=
  ⟨k3.os,k3.tape,k3.output,k3.size,fun c hc hT=>k3.keep c hc (by rw[hown];exact hT),k3.shape,fun _ _ h=>h,rfl,fun c hc=>k3.frame c (.inl hc),fun c hc=>.inl hc⟩
 refine⟨v',σ,rfl,hv.rep k1 (fun c hc=>.inl (by rw[k3.eqfr];exact hc)),⟨hW.named,fun b pl hb=>Nat.lt_of_lt_of_le (hW.lt b pl hb) k3.size,fun b x hb=>?_,fun c hc=>⟨Nat.lt_of_lt_of_le (hW.apart c hc).1 k3.size,(hW.apart c hc).2⟩,hW.inj⟩,hE,fun c pl hc=>.inl hc⟩
 obtain⟨pl,cs,e,h1,h2⟩:=hW.live b x hb
 exact⟨pl,cs,e,h1,h2.mono hE (k3.frame _ (.inr ⟨b,x,pl,hb,h1,rfl⟩))⟩
def zu(P:Program)(c:Code)(Q:Ex→List AV→ah→Prop)(τ:List AV)(H:ah):Prop:=
 ∀(w:World) (σ:bz) (a:Act),bn w σ H→bU w σ (aS σ H) τ a→∀Q':Exit→Act→World→Prop,
  (∀e τ' H' a' w',Q e τ' H'→H.next≤H'.next→mU w σ H τ' H' a' w'→Q' (Av e) a' w')→c.wp P Q' a w
variable {c c1 c2:Code} {Q Q2:Ex→List AV→ah→Prop} {τ:List AV} {H:ah}
theorem zu.of_ok{e:Ex}{τ':List AV}{H':ah}(h:ch P c τ H e τ' H')(hQ:Q e τ' H'):zu P c Q τ H:=
 fun w σ a hW hτ Q' hQ'=>h.2 w σ a hW hτ Q' fun a' w' haf=>hQ' e τ' H' a' w' hQ h.1 haf
def Ex.then(next:List AV→ah→Prop)(Q:Ex→List AV→ah→Prop):Ex→List AV→ah→Prop
 | .normal,τ,H=>next τ H
 | e,τ,H=>Q e τ H
theorem zu.cond{x:Operand}{t:Bool}(hx:gV τ x=.bool t)(h:zu P (if t then c1 else c2) Q τ H):zu P (.cond x c1 c2) Q τ H:=by
 intro w σ a hW hτ Q' hQ'
 have hr:=hτ.eval x
 rw[hx]at hr
 refine wp_cond (t:=t) ?_ (h w σ a hW hτ Q' hQ')
 generalize a.eval x=u at hr
 cases hr
 rfl
theorem zu.exit{id:Nat}(h:Q (.exit id) τ H):zu P (.exit id) Q τ H:=fun w σ a hW hτ Q' hQ'=>wp_exit (hQ' (.exit id) τ H _ _ h (Nat.le_refl _) (.refl hW hτ))
theorem zu.ret(h:Q .ret τ H):zu P .ret Q τ H:=fun w σ a hW hτ Q' hQ'=>wp_ret (hQ' .ret τ H _ _ h (Nat.le_refl _) (.refl hW hτ))
def Ex.inBlock(id:Nat)(Q:Ex→List AV→ah→Prop):Ex→List AV→ah→Prop
 | .exit id',τ,H=>if id'=id then Q .normal τ H else Q (.exit id') τ H
 | e,τ,H=>Q e τ H
theorem zu.block{id:Nat}(h:zu P c (Ex.inBlock id Q) τ H):zu P (.block id c) Q τ H:=by
 intro w σ a hW hτ Q' hQ'
 refine wp_block (h w σ a hW hτ _ fun e τ1 H1 a1 w1 hq hn haf=>?_)
 cases e with
 | normal=>exact hQ' _ _ _ _ _ hq hn haf
 | ret=>exact hQ' _ _ _ _ _ hq hn haf
 | exit id'=>
  simp only[Ex.inBlock]at hq
  simp only[Av,Exit.inBlock]
  split
  ·rename_i he;rw[if_pos he]at hq;exact hQ' .normal _ _ _ _ hq hn haf
  ·rename_i he;rw[if_neg he]at hq;exact hQ' (.exit id') _ _ _ _ hq hn haf
theorem tT{Q':Exit→Act→World→Prop}:∀{n m:Nat} {a:Act} {w:World},n≤m→Code.rounds P c Q' n a w→Code.rounds P c Q' m a w
 | 0,m,a,w,_,h=>h.elim
 | n+1,m,a,w,hm,h=>by
  obtain⟨k,rfl⟩:∃k,m=k+1:=⟨m-1,by omega⟩
  rw[rounds_succ]at h ⊢
  refine wp_mono h fun e a' w' he=>?_
  cases e with
  | normal=>exact tT (by omega) he
  | _=>exact he
theorem zu.loop(I:Nat→List AV→ah→Prop)(hs:∀n τ H,I n τ H→zu P c (Ex.then (fun τ' H'=>∃m,m<n∧I m τ' H') Q) τ H)(n:Nat)(h0:I n τ H):zu P (.loop c) Q τ H:=by
 have key:∀n τ H,I n τ H→∀(w:World) (σ:bz) (a:Act),bn w σ H→bU w σ (aS σ H) τ a→∀Q':Exit→Act→World→Prop,
   (∀e τ' H' a' w',Q e τ' H'→H.next≤H'.next→mU w σ H τ' H' a' w'→Q' (Av e) a' w')→Code.rounds P c Q' (n+1) a w:=by
  intro n
  induction n using Nat.strongRecOn with
  | _ n ih=>
   intro τ H hI w σ a hW hτ Q' hQ'
   rw[rounds_succ]
   refine hs n τ H hI w σ a hW hτ _ fun e τ1 H1 a1 w1 hq hn haf=>?_
   cases e with
   | normal=>
    obtain⟨m,hm,hI1⟩:=hq
    obtain⟨σ1,t1,r1,e1,m1⟩:=haf
    exact tT (by omega) (ih m hm τ1 H1 hI1 w1 σ1 a1 r1 t1 Q' fun e2 τ2 H2 a2 w2 q2 n2 haf2=>hQ' e2 τ2 H2 a2 w2 q2 (Nat.le_trans hn n2) (haf2.trans e1 m1 hn))
   | exit id=>exact hQ' _ _ _ _ _ hq hn haf
   | ret=>exact hQ' _ _ _ _ _ hq hn haf
 intro w σ a hW hτ Q' hQ'
 exact wp_loop_rounds (n+1) (key n τ H h0 w σ a hW hτ Q' hQ')
end
def B0:FuncId→List AV→ah→Option (AV×ah):=fun _ _ _=>none
theorem qq(P:Program):dL P B0:=⟨fun _ _ _ _ _ h=>(by cases h),fun _ _ _ _ _ h=>(by cases h),fun _ _ _ _ _ h=>(by cases h)⟩
theorem zu.reg{P:Program}{F:TypeId→Option (List TypeId)}{call:FuncId→List AV→ah→Option (AV×ah)}(fit:Fit P F)(hs:dL P call){ops:Array Oper}{id:Nat}{Q:Ex→List AV→ah→Prop}{τ:List AV}{H:ah}{τ':List AV}{H':ah}(h:cT P F call ops false τ H=some (τ',H'))(hQ:Q .normal τ' H'):zu P (.region id ops false) Q τ H:=
 .of_ok (eK fit hs h) hQ
theorem zu.ops{P:Program}{F:TypeId→Option (List TypeId)}{call:FuncId→List AV→ah→Option (AV×ah)}(fit:Fit P F)(hs:dL P call){ops:Array Oper}{id:Nat}{Q:Ex→List AV→ah→Prop}{τ:List AV}{H:ah}{τ':List AV}{H':ah}(h:jm P F call ops H.next (List.range ops.size) τ {H with next:=H.next+ops.size}=some (τ',H'))(hQ:Q .normal τ' H'):zu P (.region id ops false) Q τ H:=
 .of_ok (eK fit hs (by simp only[cT,Bool.false_eq_true,if_false];exact h)) hQ
end Go.Proofs.YtljkdffikfkcgaaGreat.Am
end
section
namespace Go.Proofs.YtljkdffikfkcgaaGreat.Am
open Go.RowKit
set_option linter.unusedVariables false
abbrev SH:=List (Nat×Blk)
abbrev SH.names(L:SH):List Nat:=L.map Prod.fst
structure iz(L:SH)(H:ah):Prop where
 nd:L.names.Nodup
 get:∀p∈L,H.get p.1=some p.2
structure Fr(B:Nat)(L:SH)(H:ah)(L':SH)(H':ah):Prop where
 next:H.next≤H'.next
 bd:Bd H'
 sub:iz L' H'
 keep:∀b x,H.get b=some x→b∉L.names→H'.get b=some x∧b∉L'.names
 dom:∀b,b<B→H.get b=none→H'.get b=none
 fresh:∀b,b∈L'.names→b<B→b∈L.names
theorem iz.mem{L:SH}{H:ah}(h:iz L H){b:Nat}(hb:b∈L.names):∃x,(b,x)∈L∧H.get b=some x:=by
 obtain⟨p,hp,rfl⟩:=List.mem_map.1 hb
 exact⟨p.2,hp,h.get p hp⟩
theorem iz.congr{L:SH}{H H':ah}(h:iz L H)(hg:∀b,H'.get b=H.get b):iz L H':=⟨h.nd,fun p hp=>by rw[hg];exact h.get p hp⟩
theorem Fr.refl{B:Nat}{L:SH}{H:ah}(hb:Bd H)(h:iz L H):Fr B L H L H:=⟨Nat.le_refl _,hb,h,fun _ _ h1 h2=>⟨h1,h2⟩,fun _ _ h=>h,fun _ h _=>h⟩
theorem Fr.trans{B B':Nat}{L L' L'':SH}{H H' H'':ah}(h:Fr B L H L' H')(k:Fr B' L' H' L'' H'')(hB:B≤B'):Fr B L H L'' H'' where
 next:=Nat.le_trans h.next k.next
 bd:=k.bd
 sub:=k.sub
 keep:=fun b x h1 h2=>by obtain⟨a1,a2⟩:=h.keep b x h1 h2;exact k.keep b x a1 a2
 dom:=fun b hb h0=>k.dom b (Nat.lt_of_lt_of_le hb hB) (h.dom b hb h0)
 fresh:=fun b h1 h2=>h.fresh b (k.fresh b h1 (Nat.lt_of_lt_of_le h2 hB)) h2
theorem Fr.low{B B':Nat}{L L':SH}{H H':ah}(h:Fr B' L H L' H')(hB:B≤B'):Fr B L H L' H':=
 ⟨h.next,h.bd,h.sub,h.keep,fun b hb=>h.dom b (Nat.lt_of_lt_of_le hb hB),fun b h1 h2=>h.fresh b h1 (Nat.lt_of_lt_of_le h2 hB)⟩
theorem iz.perm{L L':SH}{H:ah}(h:iz L H)(hp:L.Perm L'):iz L' H:=⟨(hp.map Prod.fst).nodup_iff.1 h.nd,fun p hq=>h.get p (hp.mem_iff.2 hq)⟩
theorem iz.left{K R:SH}{H:ah}(h:iz (K++R) H):iz K H:=⟨by have:=h.nd;unfold SH.names at *;rw[List.map_append]at this;exact(List.nodup_append.1 this).1,fun p hp=>h.get p (List.mem_append_left _ hp)⟩
theorem iz.right{K R:SH}{H:ah}(h:iz (K++R) H):iz R H:=⟨by have:=h.nd;unfold SH.names at *;rw[List.map_append]at this;exact(List.nodup_append.1 this).2.1,fun p hp=>h.get p (List.mem_append_right _ hp)⟩
theorem iz.disj{K R:SH}{H:ah}(h:iz (K++R) H){b:Nat}(h1:b∈K.names)(h2:b∈R.names):False:=by
 have:=h.nd
 unfold SH.names at *
 rw[List.map_append]at this
 exact(List.nodup_append.1 this).2.2 b h1 b h2 rfl
theorem Fr.frame{B:Nat}{K K' R L:SH}{H H':ah}(h:Fr B K H K' H')(hL:L.Perm (K++R))(hs:iz L H):Fr B L H (K'++R) H':=by
 have hs':=hs.perm hL
 have hr:∀p∈R,H'.get p.1=some p.2∧p.1∉K'.names:=fun p hp=>
  h.keep p.1 p.2 (hs'.right.get p hp) (fun hk=>hs'.disj hk (List.mem_map_of_mem hp))
 have hn:∀b,b∈L.names↔b∈K.names∨b∈R.names:=fun b=>by
  rw[(hL.map Prod.fst).mem_iff,List.map_append,List.mem_append]
 refine⟨h.next,h.bd,⟨?_,fun p hp=>?_⟩,fun b x h1 h2=>?_,h.dom,fun b h1 h2=>?_⟩
 ·unfold SH.names
  rw[List.map_append,List.nodup_append]
  refine⟨h.sub.nd,hs'.right.nd,fun a ha b hb he=>?_⟩
  subst he
  obtain⟨p,hp,rfl⟩:=List.mem_map.1 hb
  exact(hr p hp).2 ha
 ·rcases List.mem_append.1 hp with hp | hp
  ·exact h.sub.get p hp
  ·exact(hr p hp).1
 ·rw[hn]at h2
  have h3:b∉K.names:=fun hk=>h2 (.inl hk)
  obtain⟨a1,a2⟩:=h.keep b x h1 h3
  refine⟨a1,fun hk=>?_⟩
  unfold SH.names at hk
  rw[List.map_append,List.mem_append]at hk
  rcases hk with hk | hk
  ·exact a2 hk
  ·exact h2 (.inr hk)
 ·unfold SH.names at h1
  rw[List.map_append,List.mem_append]at h1
  rw[hn]
  rcases h1 with h1 | h1
  ·exact .inl (h.fresh b h1 h2)
  ·exact .inr h1
section
variable {P:Program} {F:TypeId→Option (List TypeId)} {w w':World} {σ σ':bz} {T T':Nat→Prop}
theorem bq.shrink{a:AV}{v:Value}(h:bq w σ T a v)(hT:∀c,T' c→T c):bq w σ T' a v:=by
 induction h with
 | int k n=>exact .int k n
 | bool b=>exact .bool b
 | str s=>exact .str s
 | nilp=>exact .nilp
 | ptr b i off pl h=>exact .ptr b i off pl h
 | pptr rows i off b o sz hl h ih=>exact .pptr rows i off b o sz (hl.shrink hT) ih
 | nils=>exact .nils
 | emp a=>exact .emp a
 | sl b i n pl a cap h hn hm ha=>exact .sl b i n pl a cap h hn hm ha
 | lst0 a cap hm=>exact .lst0 a cap hm
 | lst rows b o sz cap hl hn hm h ih=>exact .lst rows b o sz cap (hl.shrink hT) hn hm ih
 | agg cs vs hl h ih=>exact .agg cs vs hl ih
 | tup cs vs hl h ih=>exact .tup cs vs hl ih
 | fn f cs vs hl h ih=>exact .fn f cs vs hl ih
 | nilf=>exact .nilf
 | junk v=>exact .junk v
theorem qi.shrink{x:Blk}{pl:fo}{cs:Array Value}{e:TypeId}(h:qi w σ T x pl cs e)(hT:∀c,T' c→T c):qi w σ T' x pl cs e:=
 ⟨h.size,h.block,h.even,h.room,fun i r j a u h1 h2 h3=>(h.rep i r j a u h1 h2 h3).shrink hT⟩
theorem aS.less{H H':ah}(h:∀b x,H'.get b=some x→H.get b=some x)(c:Nat)(hc:aS σ H' c):aS σ H c:=by
 rcases hc with hc | ⟨b,x,pl,h1,h2,h3⟩
 ·exact .inl hc
 ·exact .inr ⟨b,x,pl,h b x h1,h2,h3⟩
theorem bn.less{H H':ah}(hW:bn w σ H)(h:∀b x,H'.get b=some x→H.get b=some x)(hn:H.next≤H'.next):bn w σ H' where
 named:=fun b pl hb=>Nat.lt_of_lt_of_le (hW.named b pl hb) hn
 lt:=hW.lt
 live:=fun b x hb=>by
  obtain⟨pl,cs,e,h1,h2⟩:=hW.live b x (h b x hb)
  exact⟨pl,cs,e,h1,h2.shrink (aS.less h)⟩
 apart:=fun c hc=>⟨(hW.apart c hc).1,fun⟨b,x,pl,h1,h2,h3⟩=>(hW.apart c hc).2 ⟨b,x,pl,h b x h1,h2,h3⟩⟩
 inj:=fun b b' x x' pl pl' h1 h2=>hW.inj b b' x x' pl pl' (h b x h1) (h b' x' h2)
def JB(τ:List AV)(H:ah)(τ1:List AV)(H1:ah):Prop:=
 H.next≤H1.next∧(∀b x,H1.get b=some x→H.get b=some x)∧∀(w:World) (σ:bz) (a:Act),bn w σ H→bU w σ (aS σ H) τ a→bU w σ (aS σ H1) τ1 a
variable {c c1 c2:Code} {τ τ1 τ2:List AV} {H H1 H2:ah} {e:Ex}
theorem ch.shift(h:ch P c τ H e τ1 H1)(k:JB τ1 H1 τ2 H2):ch P c τ H e τ2 H2:=by
 refine⟨Nat.le_trans h.1 k.1,fun w σ a hW hτ Q hQ=>h.2 w σ a hW hτ Q fun a' w' haf=>hQ a' w' ?_⟩
 obtain⟨σ',t,r,e1,m⟩:=haf
 exact⟨σ',k.2.2 w' σ' a' r t,r.less k.2.1 k.1,⟨e1.os,e1.tape,e1.output,e1.size,e1.keep,e1.shape,e1.sig,e1.eqfr,e1.frame,fun c hc=>e1.own c (aS.less k.2.1 c hc)⟩,m⟩
theorem ch.seq(h:ch P c1 τ H .normal τ1 H1)(k:ch P c2 τ1 H1 e τ2 H2):ch P (.seq c1 c2) τ H e τ2 H2:=by
 refine⟨Nat.le_trans h.1 k.1,fun w σ a hW hτ Q hQ=>wp_seq (h.2 w σ a hW hτ _ fun a' w' haf=>?_)⟩
 obtain⟨σ1,t1,r1,e1,m1⟩:=haf
 exact k.2 w' σ1 a' r1 t1 Q fun a2 w2 haf2=>hQ a2 w2 (haf2.trans e1 m1 h.1)
theorem ch.seq_out(h:ch P c1 τ H e τ1 H1)(he:e≠.normal):ch P (.seq c1 c2) τ H e τ1 H1:=by
 refine⟨h.1,fun w σ a hW hτ Q hQ=>wp_seq (h.2 w σ a hW hτ _ fun a' w' haf=>?_)⟩
 cases e with
 | normal=>exact absurd rfl he
 | exit id=>exact hQ _ _ haf
 | ret=>exact hQ _ _ haf
theorem ch.cond{x:Operand}{t:Bool}(hb:gV τ x=.bool t)(h:ch P (if t then c1 else c2) τ H e τ1 H1):ch P (.cond x c1 c2) τ H e τ1 H1:=by
 refine⟨h.1,fun w σ a hW hτ Q hQ=>wp_cond (t:=t) ?_ (h.2 w σ a hW hτ Q hQ)⟩
 have:=hτ.eval x
 rw[hb]at this
 generalize a.eval x=u at this
 cases this
 rfl
def Ex.leave(id:Nat):Ex→Ex
 | .exit id'=>if id'=id then .normal else .exit id'
 | e=>e
theorem ch.block{id:Nat}(h:ch P c τ H e τ1 H1):ch P (.block id c) τ H (e.leave id) τ1 H1:=by
 refine⟨h.1,fun w σ a hW hτ Q hQ=>wp_block (h.2 w σ a hW hτ _ fun a' w' haf=>?_)⟩
 have:=hQ a' w' haf
 cases e with
 | normal=>exact this
 | ret=>exact this
 | exit id'=>
  simp only[Av,Exit.inBlock]
  simp only[Ex.leave]at this
  by_cases hid:id'=id
  ·simp only[hid,if_true]at this ⊢;exact this
  ·simp only[hid,if_false]at this ⊢;exact this
theorem iy.next{n:Nat}(h:ch P c τ H .normal τ1 H1)(k:iy P n c τ1 H1 e τ2 H2):iy P (n+1) c τ H e τ2 H2:=by
 refine⟨Nat.le_trans h.1 k.1,fun w σ a hW hτ Q hQ=>?_⟩
 rw[rounds_succ]
 refine h.2 w σ a hW hτ _ fun a' w' haf=>?_
 obtain⟨σ1,t1,r1,e1,m1⟩:=haf
 exact k.2 w' σ1 a' r1 t1 Q fun a2 w2 haf2=>hQ a2 w2 (haf2.trans e1 m1 h.1)
theorem iy.out(h:ch P c τ H e τ1 H1)(he:e≠.normal):iy P 1 c τ H e τ1 H1:=by
 refine⟨h.1,fun w σ a hW hτ Q hQ=>?_⟩
 rw[rounds_succ]
 refine h.2 w σ a hW hτ _ fun a' w' haf=>?_
 cases e with
 | normal=>exact absurd rfl he
 | exit id=>exact hQ _ _ haf
 | ret=>exact hQ _ _ haf
theorem iy.code{n:Nat}(h:iy P n c τ H e τ1 H1):ch P (.loop c) τ H e τ1 H1:=
 ⟨h.1,fun w σ a hW hτ Q hQ=>wp_loop_rounds n (h.2 w σ a hW hτ Q hQ)⟩
def bV(P:Program)(c:Code)(τ:List AV)(L:SH)(Q:Ex→List AV→SH→Prop):Prop:=
 ∀H,Bd H→iz L H→∃e τ' H' L',ch P c τ H e τ' H'∧Fr H.next L H L' H'∧Q e τ' L'
def aj(P:Program)(f:FuncId)(args:List AV)(L:SH)(Q:AV→SH→Prop):Prop:=
 (∃fn c,P.funcs[f]? =some fn∧fn.body=some c)∧∀H,Bd H→iz L H→∃v H' L',nD P f args H v H'∧Fr H.next L H L' H'∧Q v L'
variable {L:SH} {Q Q2:Ex→List AV→SH→Prop}
theorem bV.mono(h:bV P c τ L Q)(hq:∀e τ' L',Q e τ' L'→Q2 e τ' L'):bV P c τ L Q2:=fun H hb hs=>by
 obtain⟨e,τ',H',L',h1,h2,h3⟩:=h H hb hs
 exact⟨e,τ',H',L',h1,h2,hq _ _ _ h3⟩
theorem aj.mono{f:FuncId}{args:List AV}{R R2:AV→SH→Prop}(h:aj P f args L R)(hq:∀v L',R v L'→R2 v L'):aj P f args L R2:=⟨h.1,fun H hb hs=>by
 obtain⟨v,H',L',h1,h2,h3⟩:=h.2 H hb hs
 exact⟨v,H',L',h1,h2,hq _ _ h3⟩⟩
theorem aj.frame{f:FuncId}{args:List AV}{K R:SH}{R1 R2:AV→SH→Prop}(h:aj P f args K R1)(hL:L.Perm (K++R))(hq:∀v K',R1 v K'→R2 v (K'++R)):aj P f args L R2:=⟨h.1,fun H hb hs=>by
 obtain⟨v,H',K',h1,h2,h3⟩:=h.2 H hb (hs.perm hL).left
 exact⟨v,H',K'++R,h1,h2.frame hL hs,hq _ _ h3⟩⟩
theorem bV.stop(e:Ex)(hc:∀H,ch P c τ H e τ H)(h:Q e τ L):bV P c τ L Q:=fun H hb hs=>⟨e,τ,H,L,hc H,.refl hb hs,h⟩
theorem bV.skip(h:Q .normal τ L):bV P .skip τ L Q:=.stop .normal (fun H=>⟨Nat.le_refl _,fun w σ a hW hτ Q hQ=>wp_skip (hQ _ _ (.refl hW hτ))⟩) h
theorem bV.exit{id:Nat}(h:Q (.exit id) τ L):bV P (.exit id) τ L Q:=.stop (.exit id) (fun H=>⟨Nat.le_refl _,fun w σ a hW hτ Q hQ=>wp_exit (hQ _ _ (.refl hW hτ))⟩) h
theorem bV.ret(h:Q .ret τ L):bV P .ret τ L Q:=.stop .ret (fun H=>⟨Nat.le_refl _,fun w σ a hW hτ Q hQ=>wp_ret (hQ _ _ (.refl hW hτ))⟩) h
theorem bV.label{l:Nat}(h:Q .normal τ L):bV P (.label l) τ L Q:=.stop .normal (fun H=>⟨Nat.le_refl _,fun w σ a hW hτ Q hQ=>wp_label (hQ _ _ (.refl hW hτ))⟩) h
theorem bV.seq(h:bV P c1 τ L fun e τ' L'=>match e with | .normal=>bV P c2 τ' L' Q | e=>Q e τ' L'):bV P (.seq c1 c2) τ L Q:=fun H hb hs=>by
 obtain⟨e,τ1,H1,L1,h1,h2,h3⟩:=h H hb hs
 cases e with
 | normal=>
  obtain⟨e,τ2,H2,L2,k1,k2,k3⟩:=h3 H1 h2.bd h2.sub
  exact⟨e,τ2,H2,L2,h1.seq k1,h2.trans k2 h2.next,k3⟩
 | exit id=>exact⟨_,τ1,H1,L1,h1.seq_out (by simp),h2,h3⟩
 | ret=>exact⟨_,τ1,H1,L1,h1.seq_out (by simp),h2,h3⟩
theorem bV.cond{x:Operand}{t:Bool}(hb:gV τ x=.bool t)(h:bV P (if t then c1 else c2) τ L Q):bV P (.cond x c1 c2) τ L Q:=fun H hB hs=>by
 obtain⟨e,τ1,H1,L1,h1,h2,h3⟩:=h H hB hs
 exact⟨e,τ1,H1,L1,h1.cond hb,h2,h3⟩
theorem bV.block{id:Nat}(h:bV P c τ L fun e τ' L'=>Q (e.leave id) τ' L'):bV P (.block id c) τ L Q:=fun H hB hs=>by
 obtain⟨e,τ1,H1,L1,h1,h2,h3⟩:=h H hB hs
 exact⟨_,τ1,H1,L1,h1.block,h2,h3⟩
theorem bV.loop(I:Nat→List AV→SH→Prop)(hs:∀n τ L,I n τ L→bV P c τ L fun e τ' L'=>match e with | .normal=>∃m,m<n∧I m τ' L' | e=>Q e τ' L')(n:Nat)(h0:I n τ L):bV P (.loop c) τ L Q:=by
 have key:∀n τ L,I n τ L→∀H,Bd H→iz L H→∃k e τ' H' L',iy P k c τ H e τ' H'∧Fr H.next L H L' H'∧Q e τ' L':=by
  intro n
  induction n using Nat.strongRecOn with
  | _ n ih=>
   intro τ L hI H hB hS
   obtain⟨e,τ1,H1,L1,h1,h2,h3⟩:=hs n τ L hI H hB hS
   cases e with
   | normal=>
    obtain⟨m,hm,hI1⟩:=h3
    obtain⟨k,e,τ2,H2,L2,k1,k2,k3⟩:=ih m hm τ1 L1 hI1 H1 h2.bd h2.sub
    exact⟨k+1,e,τ2,H2,L2,.next h1 k1,h2.trans k2 h2.next,k3⟩
   | exit id=>exact⟨1,_,τ1,H1,L1,.out h1 (by simp),h2,h3⟩
   | ret=>exact⟨1,_,τ1,H1,L1,.out h1 (by simp),h2,h3⟩
 intro H hB hS
 obtain⟨k,e,τ',H',L',h1,h2,h3⟩:=key n τ L h0 H hB hS
 exact⟨e,τ',H',L',h1.code,h2,h3⟩
def KQ(τ τ1:List AV):Prop:=τ1.length=τ.length∧∀(i:Nat) (x:AV),τ1[i]? =some x→x=.junk∨τ[i]? =some x
theorem KQ.tmps{T:Nat→Prop}{a:Act}(h:KQ τ τ1)(ht:bU w σ T τ a):bU w σ T τ1 a:=by
 refine⟨⟨by rw[h.1];exact ht.1.1,fun i x u h1 h2=>?_⟩,ht.2⟩
 rcases h.2 i x h1 with rfl | h3
 ·exact .junk _
 ·exact ht.1.2 i x u h3 h2
theorem bV.dim(hd:KQ τ τ1)(h:bV P c τ1 L Q):bV P c τ L Q:=fun H hB hs=>by
 obtain⟨e,τ',H',L',h1,h2,h3⟩:=h H hB hs
 exact⟨e,τ',H',L',⟨h1.1,fun w σ a hW hτ Q hQ=>h1.2 w σ a hW (hd.tmps hτ) Q hQ⟩,h2,h3⟩
end
end Go.Proofs.YtljkdffikfkcgaaGreat.Am
end
