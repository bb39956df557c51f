/- AM, part 14: what the evaluator says of code is so (regions whose order is drawn: part 15). -/
import Derived.Test.YtdaejmkoenhbkaaSnd
import Derived.LoopN
namespace Go.Proofs.Ytdaejmkoenhbkaa.Am
set_option linter.unusedVariables false

def TmpsOk (w : World) (σ : Sig) (T : Nat → Prop) (τ : List AV) (a : Act) : Prop := Reps w σ T τ a.tmps.toList ∧ a.defers = []
theorem TmpsOk.mono {w w' : World} {σ σ' : Sig} {T T' : Nat → Prop} (e : Ext w σ T w' σ' T') {τ : List AV} {a : Act} (h : TmpsOk w σ T τ a) : TmpsOk w' σ' T' τ a := ⟨h.1.mono e, h.2⟩
section
variable {P : Program} {F : TypeId → Option (List TypeId)} {w : World} {σ : Sig} {T : Nat → Prop}
theorem undef_rep : Rep w σ T undefA undef := .tup [] [] rfl (by simp)
theorem TmpsOk.eval {τ : List AV} {a : Act} (h : TmpsOk w σ T τ a) (x : Operand) : Rep w σ T (aev τ x) (a.eval x) := by
  cases x with
  | tmp t =>
    simp only [aev, Act.eval]
    have hl := h.1.1
    simp only [Array.length_toList] at hl
    rcases Nat.lt_or_ge t τ.length with ht | ht
    · have e1 : τ.getD t undefA = τ[t] := by simp [List.getD, ht]
      have ht' : t < a.tmps.size := hl ▸ ht
      have e2 : a.tmps.getD t undef = a.tmps[t] := by simp [Array.getD, ht']
      rw [e1, e2]
      exact h.1.2 t _ _ (List.getElem?_eq_getElem ht) (by rw [Array.getElem?_toList, Array.getElem?_eq_getElem ht'])
    · have e1 : τ.getD t undefA = undefA := by simp [List.getD, List.getElem?_eq_none ht]
      have ht' : ¬ t < a.tmps.size := Nat.not_lt.2 (hl ▸ ht)
      have e2 : a.tmps.getD t undef = undef := by simp [Array.getD, ht']
      rw [e1, e2]
      exact undef_rep
  | const v =>
    simp only [aev, Act.eval]
    cases hv : avOf v with
    | none => exact .junk _
    | some a => exact avOf_rep hv
  | global g => exact .junk _
  | func f => exact .fn f [] [] rfl (by simp)
theorem TmpsOk.put {τ : List AV} {a : Act} (h : TmpsOk w σ T τ a) (dst : Option Tmp) {v : AV} {v' : Value} (hv : Rep w σ T v v') : TmpsOk w σ T (putA τ dst v) (a.put dst v') := by
  cases dst with
  | none => exact h
  | some d =>
    refine ⟨⟨by simpa [putA, Act.put] using h.1.1, fun i x u h1 h2 => ?_⟩, h.2⟩
    simp only [putA, Act.put, Array.toList_setIfInBounds, List.getElem?_set] at h1 h2
    by_cases hd : d = i
    · subst hd
      simp only [if_true] at h1 h2
      split at h1
      · split at h2
        · cases h1; cases h2; exact hv
        · cases h2
      · cases h1
    · rw [if_neg hd] at h1 h2
      exact h.1.2 i x u h1 h2
theorem wanted_sound {ops : Array Oper} {o : Oper} {τ : List AV} {a : Act} {t : Bool} (h : TmpsOk w σ T τ a) (hw : wantedA ops o τ = some t) : Region.wanted o (yielded ops a.tmps) = t := by
  unfold wantedA at hw
  unfold Region.wanted
  split at hw
  · rename_i hg; cases hw; rw [hg]
  · rename_i j want hg
    rw [hg]
    simp only []
    unfold yielded
    split at hw
    · rename_i d hd
      rw [hd]
      simp only [Option.bind_some]
      have get : ∀ x, τ[d]? = some x → ∃ u, a.tmps[d]? = some u ∧ Rep w σ T x u := fun x hx => by
        have hl := h.1.1
        simp only [Array.length_toList] at hl
        have hlt := lt_of_some hx
        exact ⟨a.tmps[d], Array.getElem?_eq_getElem (by omega), h.1.2 d x _ hx (by rw [Array.getElem?_toList, Array.getElem?_eq_getElem (by omega)])⟩
      split at hw
      · rename_i b hb
        obtain ⟨u, h1, h2⟩ := get _ hb
        rw [h1]
        cases h2
        cases hw
        rfl
      · rename_i hb
        obtain ⟨u, h1, h2⟩ := get _ hb
        rw [h1]
        cases hw
        cases h2 with
        | tup _ vs hl hr =>
        have : vs = [] := by cases vs with
          | nil => rfl
          | cons x l => simp at hl
        subst this
        rfl
      · cases hw
    · cases hw
end

/-- a call does what the evaluator says -/
def CallOk (P : Program) (f : FuncId) (args : List AV) (H : Heap) (v : AV) (H' : Heap) : Prop :=
  ∀ (w : World) (σ : Sig) (vs : List Value), WRel w σ H → Reps w σ (Own σ H) args vs → Calls P f vs.toArray w fun e w' =>
    ∃ v' σ', e = .returned v' ∧ Rep w' σ' (Own σ' H') v v' ∧ WRel w' σ' H' ∧ Ext w σ (Own σ H) w' σ' (Own σ' H') ∧ ∀ c pl, σ' c = some pl → σ c = some pl ∨ H.next ≤ c
structure Sound (P : Program) (call : FuncId → List AV → Heap → Option (AV × Heap)) : Prop where
  ok : ∀ f args H v H', call f args H = some (v, H') → CallOk P f args H v H'
  next : ∀ f args H v H', call f args H = some (v, H') → H.next ≤ H'.next
  body : ∀ f args H v H', call f args H = some (v, H') → ∃ fn c, P.funcs[f]? = some fn ∧ fn.body = some c
/-- what holds behind a piece of code -/
def After (w : World) (σ : Sig) (H : Heap) (τ' : List AV) (H' : Heap) (a' : Act) (w' : World) : Prop :=
  ∃ σ', TmpsOk w' σ' (Own σ' H') τ' a' ∧ WRel w' σ' H' ∧ Ext w σ (Own σ H) w' σ' (Own σ' H') ∧ ∀ c pl, σ' c = some pl → σ c = some pl ∨ H.next ≤ c
section
variable {P : Program} {F : TypeId → Option (List TypeId)} {call : FuncId → List AV → Heap → Option (AV × Heap)} {ops : Array Oper} {base : Nat} {Q : Exit → Act → World → Prop}

theorem aop_next {o : Op} {ρ : Operand → AV} {b : Nat} {H H' : Heap} {v : AV} (h : aop P F o ρ b H = some (.val v H')) : H'.next = H.next := by
  cases o with
  | store t a x =>
    simp only [aop] at h
    cases hs : storeA P H t (ρ a) (ρ x) with
    | none => rw [hs] at h; cases h
    | some K =>
      rw [hs] at h
      cases h
      unfold storeA at hs
      repeat' (first | (cases hs; rfl) | (cases hs; done) | split at hs)
  | call c =>
    simp only [aop] at h
    split at h
    · rename_i bi _
      cases hbi : builtinA P H b bi c.argTypes (c.args.toList.map ρ) with
      | none => rw [hbi] at h; cases h
      | some r =>
        obtain ⟨v0, K⟩ := r
        rw [hbi] at h
        cases h
        unfold builtinA at hbi
        split at hbi
        · repeat' (first | (cases hbi; rfl) | (cases hbi; done) | split at hbi)
        · split at hbi
          · rw [Option.map_eq_some_iff] at hbi
            obtain ⟨n, _, hn⟩ := hbi
            cases hn
            rfl
          · cases hbi; rfl
          · cases hbi
        · split at hbi
          · split at hbi
            · unfold appendA at hbi
              repeat' (first | (cases hbi; rfl) | (cases hbi; done) | split at hbi)
            · cases hbi
          · cases hbi
        · repeat' (first | (cases hbi; rfl) | (cases hbi; done) | split at hbi)
        · repeat' (first | (cases hbi; rfl) | (cases hbi; done) | split at hbi)
        · split at hbi
          · rw [Option.map_eq_some_iff] at hbi
            obtain ⟨K1, hk, hn⟩ := hbi
            cases hn
            unfold clearA at hk
            repeat' (first | (cases hk; rfl) | (cases hk; done) | split at hk)
          · cases hbi
        · cases hbi
    · split at h <;> cases h
    · cases h
  | makeFunc fn first cap => cases fn <;> simp only [aop] at h <;> (try split at h) <;> cases h <;> rfl
  | buildSlice t len parts =>
    simp only [aop] at h
    split at h
    · split at h
      · split at h
        · rename_i n z _ _ _
          cases hf : fillRows n (List.replicate len z) (parts.toList.map fun p => (p.1, ρ p.2)) with
          | none => rw [hf] at h; cases h
          | some rows => rw [hf] at h; cases h; rfl
        · cases h
      · cases h
    · cases h
  | _ =>
    simp only [aop] at h
    first
      | (obtain ⟨_, rfl⟩ := vOpt h; rfl)
      | (repeat' (first | (cases h; rfl) | (cases h; done) | (obtain ⟨_, rfl⟩ := vOpt h; rfl) | split at h))
theorem stepA_next (hc : Sound P call) {i : Nat} {τ τ' : List AV} {H H' : Heap} (h : stepA P F call ops base i τ H = some (τ', H')) : H.next ≤ H'.next := by
  unfold stepA at h
  split at h
  · cases h
  · split at h
    · split at h
      · rename_i hop; cases h; rw [aop_next hop]; exact Nat.le_refl _
      · split at h
        · rename_i hcall; cases h; exact hc.next _ _ _ _ _ hcall
        · cases h
      · cases h
    · cases h; exact Nat.le_refl _
    · cases h
theorem stepA_sound (fit : Fit P F) (hc : Sound P call) {i : Nat} {τ τ' : List AV} {H H' : Heap} {w : World} {σ : Sig} {a : Act} (h : stepA P F call ops base i τ H = some (τ', H')) (hW : WRel w σ H) (hτ : TmpsOk w σ (Own σ H) τ a)
    (hb : σ (base + i) = none) (hlt : base + i < H.next) {K : Act → World → Prop}
    (hK : ∀ a' w' σ', TmpsOk w' σ' (Own σ' H') τ' a' → WRel w' σ' H' → Ext w σ (Own σ H) w' σ' (Own σ' H') → (∀ c pl, σ' c = some pl → σ c = some pl ∨ c = base + i ∨ H.next ≤ c) → K a' w') : wpOp P ops Q i K a w := by
  unfold stepA at h
  split at h
  · cases h
  · rename_i o ho
    unfold wpOp
    rw [ho]
    simp only []
    split at h
    · rename_i hwant
      rw [if_pos (wanted_sound hτ hwant)]
      left
      unfold Oper.wp
      split at h
      · rename_i v K' hop
        cases h
        obtain ⟨v', w', σ', h1, h2, h3, h4, h5⟩ := aop_sound fit hW hb hlt (o := o) hτ.eval hop
        have hk := hK (a.put o.dst v') w' σ' ((hτ.mono h4).put o.dst h2) h3 h4 (fun c pl hcp => by
          rcases h5 c pl hcp with h6 | h6
          · exact .inl h6
          · exact .inr (.inl h6))
        rcases h1 with h1 | ⟨h1, rfl⟩
        · rw [h1]; exact hk
        · rw [h1]; exact hk
      · rename_i f args hop
        split at h
        · rename_i v K' hcall
          cases h
          obtain ⟨fn, c, hf, hbd⟩ := hc.body _ _ _ _ _ hcall
          obtain ⟨vs, h1, h2⟩ := aop_call fit (o := o) (b := base + i) hτ.eval hop hf hbd
          rw [h1]
          refine (hc.ok _ _ _ _ _ hcall w σ vs hW h2).mono ?_
          rintro e w' ⟨v', σ', rfl, g1, g2, g3, g4⟩
          exact hK (a.put o.dst v') w' σ' ((hτ.mono g3).put o.dst g1) g2 g3 (fun c pl hcp => by
            rcases g4 c pl hcp with h6 | h6
            · exact .inl h6
            · exact .inr (.inr h6))
        · cases h
      · cases h
    · rename_i hwant
      rw [if_neg (by rw [wanted_sound hτ hwant]; simp)]
      cases h
      exact hK _ w σ (hτ.put o.dst undef_rep) hW (Ext.refl _ _ _) (fun c pl hcp => .inl hcp)
    · cases h
theorem opsA_next (hc : Sound P call) : ∀ (l : List Nat) (τ : List AV) (H : Heap) (τ' : List AV) (H' : Heap), opsA P F call ops base l τ H = some (τ', H') → H.next ≤ H'.next
  | [], τ, H, τ', H', h => by cases h; exact Nat.le_refl _
  | i :: l, τ, H, τ', H', h => by
    unfold opsA at h
    split at h
    · rename_i τ1 H1 hs
      exact Nat.le_trans (stepA_next hc hs) (opsA_next hc l _ _ _ _ h)
    · cases h
theorem opsA_sound (fit : Fit P F) (hc : Sound P call) : ∀ (l : List Nat) (τ : List AV) (H : Heap) (τ' : List AV) (H' : Heap), opsA P F call ops base l τ H = some (τ', H') → l.Nodup → ∀ (w : World) (σ : Sig) (a : Act),
    WRel w σ H → TmpsOk w σ (Own σ H) τ a → (∀ i ∈ l, σ (base + i) = none ∧ base + i < H.next) → (∀ a' w' σ', TmpsOk w' σ' (Own σ' H') τ' a' → WRel w' σ' H' → Ext w σ (Own σ H) w' σ' (Own σ' H') →
      (∀ c pl, σ' c = some pl → σ c = some pl ∨ (∃ i ∈ l, c = base + i) ∨ H.next ≤ c) → Q .normal a' w') → wpOps P ops Q l a w
  | [], τ, H, τ', H', h, _, w, σ, a, hW, hτ, _, hQ => by
    cases h
    exact hQ a w σ hτ hW (Ext.refl _ _ _) (fun c pl hcp => .inl hcp)
  | i :: l, τ, H, τ', H', h, hnd, w, σ, a, hW, hτ, hfr, hQ => by
    unfold opsA at h
    split at h
    · rename_i τ1 H1 hs
      rw [wpOps_cons]
      refine stepA_sound fit hc hs hW hτ (hfr i (by simp)).1 (hfr i (by simp)).2 fun a1 w1 σ1 t1 r1 e1 n1 => ?_
      have hnd' := List.nodup_cons.1 hnd
      refine opsA_sound fit hc l τ1 H1 τ' H' h hnd'.2 w1 σ1 a1 r1 t1 (fun j hj => ?_) (fun a' w' σ' t2 r2 e2 n2 => hQ a' w' σ' t2 r2 (e1.trans e2) (fun c pl hcp => ?_))
      · have hji : j ≠ i := by rintro rfl; exact hnd'.1 hj
        have hj0 := hfr j (by simp [hj])
        refine ⟨?_, Nat.lt_of_lt_of_le hj0.2 (stepA_next hc hs)⟩
        cases hs1 : σ1 (base + j) with
        | none => rfl
        | some pl =>
          rcases n1 _ pl hs1 with h1 | h1 | h1
          · rw [hj0.1] at h1; cases h1
          · omega
          · omega
      · rcases n2 c pl hcp with h1 | ⟨q, hq, rfl⟩ | h1
        · rcases n1 c pl h1 with h2 | h2 | h2
          · exact .inl h2
          · exact .inr (.inl ⟨i, by simp, h2⟩)
          · exact .inr (.inr h2)
        · exact .inr (.inl ⟨q, by simp [hq], rfl⟩)
        · exact .inr (.inr (Nat.le_trans (stepA_next hc hs) h1))
    · cases h

def exOf : Ex → Exit
  | .normal => .normal
  | .exit id => .exit id
  | .ret => .ret
/-- a piece of code does what the evaluator says -/
def CodeOk (P : Program) (c : Code) (τ : List AV) (H : Heap) (e : Ex) (τ' : List AV) (H' : Heap) : Prop :=
  H.next ≤ H'.next ∧ ∀ (w : World) (σ : Sig) (a : Act), WRel w σ H → TmpsOk w σ (Own σ H) τ a → ∀ Q : Exit → Act → World → Prop, (∀ a' w', After w σ H τ' H' a' w' → Q (exOf e) a' w') → c.wp P Q a w
theorem After.refl {w : World} {σ : Sig} {H : Heap} {τ : List AV} {a : Act} (hW : WRel w σ H) (hτ : TmpsOk w σ (Own σ H) τ a) : After w σ H τ H a w := ⟨σ, hτ, hW, Ext.refl _ _ _, fun c pl h => .inl h⟩
theorem region_sound (fit : Fit P F) (hc : Sound P call) {τ : List AV} {H : Heap} {τ' : List AV} {H' : Heap} {id : Nat} (h : regionA P F call ops false τ H = some (τ', H')) : CodeOk P (.region id ops false) τ H .normal τ' H' := by
  simp only [regionA, Bool.false_eq_true, if_false] at h
  refine ⟨Nat.le_trans (Nat.le_add_right _ _) (opsA_next hc _ _ _ _ _ h), fun w σ a hW hτ Q hQ => ?_⟩
  have hW1 : WRel w σ { H with next := H.next + ops.size } := hW.congr (fun _ => rfl) (Nat.le_add_right _ _)
  have ho : Own σ { H with next := H.next + ops.size } = Own σ H := Own.congr fun _ => rfl
  refine wp_region (opsA_sound fit hc _ τ _ τ' H' h List.nodup_range w σ a hW1 (by rw [ho]; exact hτ) (fun i hi => ?_) (fun a' w' σ' t r e n => hQ a' w' ⟨σ', t, r, by rw [ho] at e; exact e, fun c pl hcp => ?_⟩))
  · rw [List.mem_range] at hi
    refine ⟨?_, Nat.add_lt_add_left hi _⟩
    cases hs : σ (H.next + i) with
    | none => rfl
    | some pl => have := hW.named _ pl hs; omega
  · rcases n c pl hcp with h1 | ⟨i, _, rfl⟩ | h1
    · exact .inl h1
    · exact .inr (Nat.le_add_right _ _)
    · exact .inr (Nat.le_trans (Nat.le_add_right _ _) h1)
theorem After.trans {w w1 w2 : World} {σ σ1 : Sig} {H H1 H2 : Heap} {τ2 : List AV} {a2 : Act} (e : Ext w σ (Own σ H) w1 σ1 (Own σ1 H1)) (n : ∀ c pl, σ1 c = some pl → σ c = some pl ∨ H.next ≤ c) (hn : H.next ≤ H1.next) (h : After w1 σ1 H1 τ2 H2 a2 w2) : After w σ H τ2 H2 a2 w2 := by
  obtain ⟨σ2, t, r, e2, n2⟩ := h
  refine ⟨σ2, t, r, e.trans e2, fun c pl hc => ?_⟩
  rcases n2 c pl hc with h1 | h1
  · exact n c pl h1
  · exact .inr (Nat.le_trans hn h1)
/-- a result variable, in the model -/
def resultRun (tmps : Array Value) : ResultVar → Sem Value
  | .tmp t => Pure.pure (tmps.getD t undef)
  | .cell a t => do loadVar t (← asAddr (tmps.getD a undef))
theorem results_eq (fn : Func) (tmps : Array Value) : results fn tmps = (do let vs ← fn.results.mapM (resultRun tmps); Pure.pure (if h : vs.size = 1 then vs[0] else .tuple vs)) := by
  unfold results
  congr 2
theorem result_sound {w : World} {σ : Sig} {H : Heap} (hW : WRel w σ H) {τ : List AV} {a : Act} (hτ : TmpsOk w σ (Own σ H) τ a) (r : ResultVar) {v : AV} (h : resultA P τ H r = some v) :
    ∃ v', (resultRun a.tmps r).run P w = .ok v' w ∧ Rep w σ (Own σ H) v v' := by
  cases r with
  | tmp t => cases h; exact ⟨_, rfl, hτ.eval (.tmp t)⟩
  | cell x t =>
    simp only [resultA] at h
    have hx := hτ.eval (.tmp x)
    simp only [aev, Act.eval] at hx
    obtain ⟨v', h1, h2⟩ := load_sound hW hx h
    refine ⟨v', ?_, h2⟩
    unfold loadA at h
    split at h
    · rename_i heq
      rw [heq] at hx
      simp only [resultRun]
      generalize a.tmps.getD x undef = u at hx h1
      cases hx
      simpa [Instr.loadAt, Instr.sureAddr, asAddr] using h1
    · rename_i heq
      rw [heq] at hx
      simp only [resultRun]
      generalize a.tmps.getD x undef = u at hx h1
      cases hx
      simpa [Instr.loadAt, Instr.sureAddr, asAddr] using h1
    · cases h
theorem resultList {w : World} {σ : Sig} {H : Heap} (hW : WRel w σ H) {τ : List AV} {a : Act} (hτ : TmpsOk w σ (Own σ H) τ a) : ∀ (rs : List ResultVar) (vs : List AV), allSome (rs.map (resultA P τ H)) = some vs →
    ∃ us : List Value, (rs.mapM (resultRun a.tmps)).run P w = .ok us w ∧ Reps w σ (Own σ H) vs us
  | [], vs, h => by cases h; exact ⟨[], rfl, rfl, by simp⟩
  | r :: rs, vs, h => by
    simp only [List.map_cons] at h
    cases hr : resultA P τ H r with
    | none => rw [hr] at h; cases h
    | some v =>
      rw [hr] at h
      simp only [allSome] at h
      split at h
      · rename_i l hl
        cases h
        obtain ⟨v', h1, h2⟩ := result_sound hW hτ r hr
        obtain ⟨us, h3, h4⟩ := resultList hW hτ rs l hl
        refine ⟨v' :: us, ?_, by simp [h4.1], fun i x u g1 g2 => ?_⟩
        · rw [List.mapM_cons]
          simp only [Sem.run_bind, h1, Result.andThen_ok, h3, Sem.run_pure]
        · match i with
          | 0 => cases g1; cases g2; exact h2
          | i + 1 => exact h4.2 i x u (by simpa using g1) (by simpa using g2)
      · cases h
theorem results_sound {w : World} {σ : Sig} {H : Heap} (hW : WRel w σ H) {τ : List AV} {a : Act} (hτ : TmpsOk w σ (Own σ H) τ a) {fn : Func} {v : AV} (h : resultsA P τ H fn.results.toList = some v) :
    ∃ v', (results fn a.tmps).run P w = .ok v' w ∧ Rep w σ (Own σ H) v v' := by
  unfold resultsA at h
  rw [results_eq, Array.mapM_eq_mapM_toList]
  split at h
  · rename_i v0 hv
    cases h
    obtain ⟨us, h1, h2⟩ := resultList hW hτ _ _ hv
    have hl := h2.1
    match us, hl with
    | [u], _ =>
      exact ⟨u, by simp [h1], h2.2 0 _ u rfl rfl⟩
  · rename_i vs hne hv
    cases h
    obtain ⟨us, h1, h2⟩ := resultList hW hτ _ _ hv
    have hl : us.length ≠ 1 := by
      rw [← h2.1]
      intro h
      match vs, h with
      | [x], _ => exact hne x rfl
    exact ⟨.tuple us.toArray, by simp [h1, hl], .tup _ _ h2.1 h2.2⟩
  · cases h
theorem callBy_sound {ex : Code → List AV → Heap → Option (Ex × List AV × Heap)} {Good : Code → Prop} (hgood : ∀ (g : Nat) (fn : Func) (c : Code), P.funcs[g]? = some fn → fn.body = some c → Good c)
    (h : ∀ c τ H e τ' H', Good c → ex c τ H = some (e, τ', H') → CodeOk P c τ H e τ' H') : Sound P (callBy P ex) := by
  have key : ∀ f args H v H', callBy P ex f args H = some (v, H') → ∃ fn c e τ' K, P.funcs[f]? = some fn ∧ fn.body = some c ∧ ex c (args ++ List.replicate (fn.ntmps - args.length) undefA) { H with log := [] } = some (e, τ', K) ∧
      (e = .normal ∨ e = .ret) ∧ resultsA P τ' K fn.results.toList = some v ∧ H'.next = K.next ∧ ∀ b, H'.get b = K.get b := by
    intro f args H v H' hc
    unfold callBy at hc
    split at hc
    · rename_i fn hf
      split at hc
      · rename_i c hb
        split at hc
        · cases hc
        · rename_i e τ' K hne hex
          split at hc
          · rename_i v0 hr
            cases hc
            refine ⟨fn, c, e, τ', K, hf, hb, hex, ?_, hr, rfl, fun _ => rfl⟩
            cases e with
            | normal => exact .inl rfl
            | ret => exact .inr rfl
            | exit id => exact absurd rfl (hne id)
          · cases hc
        · cases hc
      · cases hc
    · cases hc
  refine ⟨fun f args H v H' hc => ?_, fun f args H v H' hc => ?_, fun f args H v H' hc => ?_⟩
  · obtain ⟨fn, c, e, τ', K, hf, hb, hex, he, hr, hn, hg⟩ := key f args H v H' hc
    obtain ⟨n1, k1⟩ := h _ _ _ _ _ _ (hgood _ _ _ hf hb) hex
    intro w σ vs hW hvs
    have ho : Own σ { H with log := [] } = Own σ H := Own.congr fun _ => rfl
    refine calls_of_wp hf hb (k1 w σ _ (hW.congr (fun _ => rfl) (Nat.le_refl _)) ⟨?_, rfl⟩ _ fun a' w' haf => ?_)
    · rw [ho]
      refine ⟨by simp [hvs.1], fun i x u h1 h2 => ?_⟩
      simp only [Array.toList_append, Array.toList_replicate] at h2
      rcases Nat.lt_or_ge i args.length with hi | hi
      · rw [List.getElem?_append_left hi] at h1
        rw [List.getElem?_append_left (by rw [← hvs.1]; exact hi)] at h2
        exact hvs.2 i x u h1 h2
      · rw [List.getElem?_append_right hi, List.getElem?_replicate] at h1
        rw [List.getElem?_append_right (by rw [← hvs.1]; exact hi), List.getElem?_replicate] at h2
        split at h1
        · split at h2
          · cases h1; cases h2; exact undef_rep
          · cases h2
        · cases h1
    · obtain ⟨σ', t1, r1, e1, m1⟩ := haf
      obtain ⟨v', g1, g2⟩ := results_sound (P := P) r1 t1 hr
      have hoK : Own σ' H' = Own σ' K := Own.congr hg
      have hpost : a'.defers = [] ∧ ∃ v, (results fn a'.tmps).run P w' = .ok v w' ∧ ∃ v' σ', Ending.returned v = .returned v' ∧ Rep w' σ' (Own σ' H') _ v' ∧ WRel w' σ' H' ∧ Ext w σ (Own σ H) w' σ' (Own σ' H') ∧ ∀ c pl, σ' c = some pl → σ c = some pl ∨ H.next ≤ c :=
        ⟨t1.2, v', g1, v', σ', rfl, by rw [hoK]; exact g2, r1.congr hg (by rw [hn]; exact Nat.le_refl _), by rw [hoK]; rw [ho] at e1; exact e1, m1⟩
      rcases he with rfl | rfl
      · exact hpost
      · exact hpost
  · obtain ⟨fn, c, e, τ', K, hf, hb, hex, he, hr, hn, hg⟩ := key f args H v H' hc
    rw [hn]
    exact (h _ _ _ _ _ _ (hgood _ _ _ hf hb) hex).1
  · obtain ⟨fn, c, e, τ', K, hf, hb, _⟩ := key f args H v H' hc
    exact ⟨fn, c, hf, hb⟩
end
end Go.Proofs.Ytdaejmkoenhbkaa.Am
