/- AM, part 24: the evaluator is sound. -/
import Derived.Test.YtdaejmkoenhbkaaDrv
namespace Go.Proofs.Ytdaejmkoenhbkaa.Am
set_option linter.unusedVariables false
/-- edges come from earlier operations -/
def EdgesOk (ops : Array Oper) : Prop := ∀ (i : Nat) (o : Oper), ops[i]? = some o → ∀ e ∈ o.after.toList, Region.binds .any e = true → e.on < i
/-- every region of a code whose order is drawn has its temporaries in order -/
def Draws : Code → Prop
  | .region _ ops draw => draw = true → StatOk ops ∧ EdgesOk ops
  | .seq a b => Draws a ∧ Draws b
  | .cond _ a b => Draws a ∧ Draws b
  | .block _ b => Draws b
  | .loop b => Draws b
  | _ => True
section
variable {P : Program} {F : TypeId → Option (List TypeId)} {call : FuncId → List AV → Heap → Option (AV × Heap)} {ops : Array Oper} {base : Nat} {τ0 : List AV} {H0 : Heap}
theorem drawA_next (hs : Sound P call) {before : List Nat} : ∀ (l : List Nat) (τ τ' : List AV) (H K : Heap) (rs rs' : List Rec), drawA P F call ops base before l τ H rs = some (τ', K, rs') → H.next ≤ K.next
  | [], τ, τ', H, K, rs, rs', h => by cases h; exact Nat.le_refl _
  | i :: l, τ, τ', H, K, rs, rs', h => by
    have key : ∀ {mask τ1 H1 r}, drawStep P F call ops base i mask τ H = some (τ1, H1, r) → H.next ≤ H1.next := fun {mask τ1 H1 r} hd => by
      unfold drawStep at hd
      split at hd
      · cases hd
      · split at hd
        · split at hd
          · rename_i hop; cases hd; have := aop_next hop; exact Nat.le_of_eq this.symm
          · split at hd
            · rename_i hcall
              cases hd
              have := hs.next _ _ _ _ _ hcall
              show H.next ≤ (showA _ _ _ _ _).next
              rw [(show_next _ _ _ _ _).1]
              have h2 := (hide_next base mask i H).1
              simp only [] at this
              omega
            · cases hd
          · cases hd
        · cases hd; exact Nat.le_refl _
        · cases hd
    unfold drawA at h
    split at h
    · rename_i hd; exact Nat.le_trans (key hd) (drawA_next hs l _ _ _ _ _ _ h)
    · rename_i hd
      split at h
      · exact Nat.le_trans (key hd) (drawA_next hs l _ _ _ _ _ _ h)
      · cases h
    · cases h
def cnt (L : Nat → Bool) : Nat → Nat
  | 0 => 0
  | k + 1 => cnt L k + (if L k then 0 else 1)
theorem cnt_zero {L : Nat → Bool} : ∀ {n : Nat}, cnt L n = 0 → ∀ i, i < n → L i = true
  | n + 1, h, i, hi => by
    unfold cnt at h
    rcases Nat.eq_or_lt_of_le (Nat.le_of_lt_succ hi) with rfl | hlt
    · cases hL : L i with
      | true => rfl
      | false => rw [hL] at h; simp at h
    · exact cnt_zero (by omega) i hlt
theorem cnt_congr {L M : Nat → Bool} : ∀ {n : Nat}, (∀ i, i < n → L i = M i) → cnt L n = cnt M n
  | 0, _ => rfl
  | n + 1, h => by rw [cnt, cnt, cnt_congr fun i hi => h i (by omega), h n (by omega)]
theorem cnt_add {L : Nat → Bool} {i : Nat} (hL : L i = false) : ∀ {n : Nat}, i < n → cnt (addL L i) n + 1 = cnt L n
  | n + 1, hi => by
    unfold cnt
    rcases Nat.eq_or_lt_of_le (Nat.le_of_lt_succ hi) with rfl | hlt
    · rw [cnt_congr (M := L) fun j hj => by simp [addL, show ¬ j = i by omega]]
      simp [addL, hL]
    · have := cnt_add hL hlt
      have e : addL L i n = L n := by simp [addL, show ¬ n = i by omega]
      rw [e]
      omega
theorem cnt_false : ∀ n, cnt (fun _ => false) n = n
  | 0 => rfl
  | n + 1 => by simp [cnt, cnt_false n]
theorem least_not {L : Nat → Bool} : ∀ n, (∀ i, i < n → L i = true) ∨ ∃ i, i < n ∧ L i = false ∧ ∀ j, j < i → L j = true
  | 0 => .inl fun i hi => by omega
  | n + 1 => by
    rcases least_not (L := L) n with h | ⟨i, h1, h2, h3⟩
    · by_cases hL : L n = true
      · left
        intro i hi
        rcases Nat.eq_or_lt_of_le (Nat.le_of_lt_succ hi) with rfl | hlt
        · exact hL
        · exact h i hlt
      · exact .inr ⟨n, by omega, by simpa using hL, h⟩
    · exact .inr ⟨i, by omega, h2, h3⟩
theorem getD_dflt {l : Array Bool} {i : Nat} (hi : i < l.size) : l.getD i true = l.getD i false := by simp [Array.getD, hi]
theorem any_sound (fit : Fit P F) (hs : Sound P call) (hch : ∀ f args H v H', Bd H → call f args H = some (v, H') → Chg H H') (run : RunOk P F call ops base τ0 H0) (rf : RunFacts P F call ops base τ0 H0) (hst : StatOk ops) (hed : EdgesOk ops) (hb : base + ops.size = H0.next)
    {w0 : World} {σ0 : Sig} {Q : Exit → Act → World → Prop} (hQ : ∀ a w, Inv P F call ops base τ0 H0 w0 σ0 (fun i => decide (i < ops.size)) a w → Q .normal a w) :
    ∀ (fuel : Nat) (listed : Array Bool) (a : Act) (w : World), listed.size = ops.size → Closed ops (fun i => listed.getD i false) → cnt (fun i => listed.getD i false) ops.size ≤ fuel →
      Inv P F call ops base τ0 H0 w0 σ0 (fun i => listed.getD i false) a w → wpAny P .any ops Q fuel listed a w := by
  intro fuel
  induction fuel with
  | zero =>
    intro listed a w hsz hcl hf hI
    have hall := cnt_zero (by omega : cnt (fun i => listed.getD i false) ops.size = 0)
    unfold wpAny
    refine ⟨?_, ?_⟩
    · unfold Region.ready
      rw [List.filter_eq_nil_iff]
      intro i hi
      rw [List.mem_range] at hi
      have := hall i hi
      rw [getD_dflt (by omega), this]
      simp
    · refine hQ a w ?_
      have e : (fun i => listed.getD i false) = fun i => decide (i < ops.size) := by
        funext i
        by_cases hi : i < ops.size
        · rw [hall i hi]; simp [hi]
        · simp [Array.getD, hsz, hi]
      rw [← e]; exact hI
  | succ fuel ih =>
    intro listed a w hsz hcl hf hI
    unfold wpAny
    refine ⟨fun hr => ?_, fun i hi => ?_⟩
    · rcases least_not (L := fun i => listed.getD i false) ops.size with hall | ⟨i, h1, h2, h3⟩
      · refine hQ a w ?_
        have e : (fun i => listed.getD i false) = fun i => decide (i < ops.size) := by
          funext i
          by_cases hi : i < ops.size
          · rw [hall i hi]; simp [hi]
          · simp [Array.getD, hsz, hi]
        rw [← e]; exact hI
      · exfalso
        unfold Region.ready at hr
        rw [List.filter_eq_nil_iff] at hr
        have ho : ops[i]? = some ops[i] := Array.getElem?_eq_getElem h1
        refine hr i (by rw [List.mem_range]; exact h1) ?_
        rw [getD_dflt (by omega), ho]
        rw [h2]
        simp only [Bool.not_false, Bool.true_and, Option.map_some, Option.getD_some]
        rw [Array.all_eq_true_iff_forall_mem]
        intro e he
        cases hbn : Region.binds .any e with
        | false => rfl
        | true =>
          have := h3 e.on (hed i _ ho e (by rw [Array.mem_toList_iff]; exact he) hbn)
          rw [this]; rfl
    · unfold Region.ready at hi
      rw [List.mem_filter, List.mem_range] at hi
      obtain ⟨hi1, hi2⟩ := hi
      obtain ⟨o, ho⟩ : ∃ o, ops[i]? = some o := ⟨_, Array.getElem?_eq_getElem hi1⟩
      rw [Bool.and_eq_true, ho] at hi2
      obtain ⟨hi2, hi3⟩ := hi2
      have hnot : listed.getD i false = false := by
        rw [← getD_dflt (by omega)]
        simpa using hi2
      simp only [Option.map_some, Option.getD_some] at hi3
      rw [Array.all_eq_true_iff_forall_mem] at hi3
      have nx : Next ops (fun i => listed.getD i false) i := ⟨hi1, hnot, hcl, fun o' ho' e he hbn => by
        rw [ho] at ho'
        cases ho'
        have := hi3 e (by rw [← Array.mem_toList_iff]; exact he)
        rw [hbn] at this
        simpa using this⟩
      have eL : (fun j => (listed.setIfInBounds i true).getD j false) = addL (fun j => listed.getD j false) i := by
        funext j
        unfold addL
        by_cases hj : j = i
        · subst hj
          rw [if_pos rfl]
          simp [Array.getD, show j < listed.size by omega]
        · rw [if_neg hj]
          by_cases hjl : j < listed.size
          · simp [Array.getD, hjl, show ¬ i = j by omega]
          · simp [Array.getD, hjl]
      refine wpOp_mono (fun a' w' hI' => ?_) (inv_step fit hs hch run rf hst hb nx hI)
      refine ih _ a' w' (by simpa using hsz) ?_ ?_ (by rw [eL]; exact hI')
      · rw [eL]
        intro j oj hoj hLj e he hbn
        unfold addL at hLj ⊢
        split
        · rfl
        · split at hLj
          · rename_i _ hji
            subst hji
            exact nx.edges oj hoj e he hbn
          · exact hcl j oj hoj hLj e he hbn
      · rw [eL]
        have := cnt_add (L := fun j => listed.getD j false) hnot hi1
        omega
theorem draw_sound (fit : Fit P F) (hs : Sound P call) (hch : ∀ f args H v H', Bd H → call f args H = some (v, H') → Chg H H') (hst : StatOk ops) (hed : EdgesOk ops) {τ τ' : List AV} {H H' : Heap} (h : regionA P F call ops true τ H = some (τ', H')) :
    H.next ≤ H'.next ∧ ∀ (id : Nat) (w : World) (σ : Sig) (a : Act), WRel w σ H → TmpsOk w σ (Own σ H) τ a → ∀ Q : Exit → Act → World → Prop, (∀ a' w', After w σ H τ' H' a' w' → Q .normal a' w') → (Code.region id ops true).wp P Q a w := by
  simp only [regionA, if_true] at h
  split at h
  · rename_i τq K rs hd
    cases h
    refine ⟨Nat.le_trans (Nat.le_add_right _ _) (drawA_next hs _ _ _ _ _ _ _ hd), fun id w σ a hW hτ Q hQ => ?_⟩
    have hbd : Bd H := fun b hb => by
      cases hg : H.get b with
      | none => rfl
      | some x =>
        obtain ⟨pl, _, _, h1, _⟩ := hW.live b x hg
        have := hW.named b pl h1
        omega
    have hn : H.next + ops.size = ({ H with next := H.next + ops.size } : Heap).next := rfl
    have hg0 : ∀ b, ({ H with next := H.next + ops.size } : Heap).get b = H.get b := fun _ => rfl
    have hW0 : WRel w σ { H with next := H.next + ops.size } := hW.congr hg0 (Nat.le_add_right _ _)
    have ho0 : Own σ { H with next := H.next + ops.size } = Own σ H := Own.congr hg0
    generalize hH0 : ({ H with next := H.next + ops.size } : Heap) = H0 at hd hn hg0 hW0 ho0
    have hbd0 : Bd H0 := fun b hb => by rw [hg0]; exact hbd b (by omega)
    rw [List.range_eq_range'] at hd
    obtain ⟨a1, a2, a3⟩ := run_ok (P := P) (F := F) (call := call) (ops := ops) (base := H.next) (τ0 := τ) (H0 := H0) ops.size 0 [] rs τ' K hd (fun j x hj => by omega)
    simp only [Nat.zero_add] at a1 a2 a3
    have run : RunOk P F call ops H.next τ H0 := ⟨fun i hi => a1 i (Nat.zero_le _) hi, fun i j x r hji hi hx hr => a2 i j x r (Nat.zero_le _) hi hji hx hr⟩
    have rf := run_facts hch run hbd0 hn (fun j hj => by rw [hg0]; exact hbd _ (Nat.le_add_right _ _))
    have hnone : ∀ (p : Nat → Bool) n, lastW (fun j => false && p j) n = none := fun p n => by
      rw [lastW_none (k := 0) (Nat.zero_le _) (fun i _ _ => by simp)]; rfl
    have hall : ∀ (p : Nat → Bool) n, lastW (fun j => decide (j < n) && p j) n = lastW p n := fun p n => lastW_congr fun i hi => by simp [hi]
    refine wp_region_any fit.order (any_sound (w0 := w) (σ0 := σ) fit hs hch run rf hst hed hn ?_ ops.size _ a _ (by simp) ?_ ?_ ?_)
    · intro a' w' hI
      obtain ⟨σ', K', k1, k2, k3, k4, k5, k6, k7, k8, _⟩ := hI
      have eS : (itS P F call ops H.next τ H0 ops.size) = (τ', K) := a3.symm
      have hget' : ∀ c, K'.get c = K.get c := fun c => by
        have := text_h run rf c ops.size (Nat.le_refl _)
        rw [eS] at this
        rw [k2, hget, hall]
        exact this.symm
      have hnx : K'.next = K.next := by
        have := text_n run ops.size (Nat.le_refl _)
        rw [eS] at this
        rw [k3, nget, hall]
        exact this.symm
      have htg : ∀ t, tget P F call ops H.next τ H0 (fun i => decide (i < ops.size)) t = τ'[t]? := fun t => by
        have := text_t run t ops.size (Nat.le_refl _)
        rw [eS] at this
        rw [tget, hall]
        exact this.symm
      have hlen : τ'.length = τ.length := by have := rf.len ops.size (Nat.le_refl _); rw [eS] at this; exact this
      have hoK : Own σ' ({ K with log := rs.flatMap (·.writes) ++ K.log } : Heap) = Own σ' K' := Own.congr fun b => (hget' b).symm
      refine hQ a' w' ⟨σ', ⟨⟨by simp [hlen, k4], fun t x u hx hu => ?_⟩, k5⟩, k1.congr (fun b => (hget' b).symm) (by rw [hnx]; exact Nat.le_refl _), by rw [hoK, ← ho0]; exact k7, fun c pl hc => k8 c pl hc⟩
      rw [hoK]
      exact k6 t x u (by rw [htg]; exact hx) (by rw [← Array.getElem?_toList]; exact hu)
    · intro i o ho hL
      simp [Array.getD] at hL
    · have : (fun i => (Array.replicate ops.size false).getD i false) = fun _ => false := by funext i; simp [Array.getD]
      rw [this, cnt_false]
      exact Nat.le_refl _
    · have : (fun i => (Array.replicate ops.size false).getD i false) = fun _ => false := by funext i; simp [Array.getD]
      rw [this]
      refine ⟨σ, H0, hW0.same rfl rfl rfl rfl, fun c => by rw [hget, hnone], by rw [nget, hnone], by have := hτ.1.1; simpa using this.symm, hτ.2, fun t x u hx hu => ?_, Ext.same σ _ rfl rfl rfl rfl, fun c pl hc => .inl hc, fun i hi _ => ?_⟩
      · rw [tget, hnone] at hx
        have := hτ.1.2 t x u hx (by rw [Array.getElem?_toList]; exact hu)
        rw [← ho0] at this
        have e : Ext w σ (Own σ H0) { w with drawn := w.drawn + 1 } σ (Own σ H0) := Ext.same σ _ rfl rfl rfl rfl
        exact this.mono e
      · cases hg : σ (H.next + i) with
        | none => rfl
        | some pl => have := hW.named _ pl hg; omega
  · cases h
def LoopOk (P : Program) (n : Nat) (c : Code) (τ : List AV) (H : Heap) (e : Ex) (τ' : List AV) (H' : Heap) : Prop :=
  H.next ≤ H'.next ∧ ∀ (w : World) (σ : Sig) (a : Act), WRel w σ H → TmpsOk w σ (Own σ H) τ a → ∀ Q : Exit → Act → World → Prop, (∀ a' w', After w σ H τ' H' a' w' → Q (exOf e) a' w') → Code.rounds P c Q n a w
theorem exec_sound' (fit : Fit P F) (hgood : ∀ (g : Nat) (fn : Func) (c : Code), P.funcs[g]? = some fn → fn.body = some c → Draws c) (f : Nat) : (∀ (c : Code) (τ : List AV) (H : Heap) (e : Ex) (τ' : List AV) (H' : Heap), Draws c → exec P F f c τ H = some (e, τ', H') → CodeOk P c τ H e τ' H') ∧
    (∀ (c : Code) (τ : List AV) (H : Heap) (e : Ex) (τ' : List AV) (H' : Heap), Draws c → exec P F f (.loop c) τ H = some (e, τ', H') → LoopOk P f c τ H e τ' H') := by
  induction f with
  | zero => exact ⟨fun c τ H e τ' H' _ h => (by cases h), fun c τ H e τ' H' _ h => (by cases h)⟩
  | succ f ih0 =>
    obtain ⟨ih, ihl⟩ := ih0
    have hs := callBy_sound (P := P) hgood ih
    have hch : ∀ g args H v H', Bd H → callBy P (exec P F f) g args H = some (v, H') → Chg H H' := fun g args H v H' hb hc => callBy_chg (exec_chg f) hb hc
    have hloop : ∀ (c : Code) (τ : List AV) (H : Heap) (e : Ex) (τ' : List AV) (H' : Heap), Draws c → exec P F (f + 1) (.loop c) τ H = some (e, τ', H') → LoopOk P (f + 1) c τ H e τ' H' := by
      intro c1 τ H e τ' H' dr h
      simp only [exec] at h
      split at h
      · rename_i τ1 H1 h1
        obtain ⟨n1, k1⟩ := ih c1 τ H .normal τ1 H1 dr h1
        obtain ⟨n2, k2⟩ := ihl c1 τ1 H1 e τ' H' dr h
        refine ⟨Nat.le_trans n1 n2, fun w σ a hW hτ Q hQ => ?_⟩
        rw [rounds_succ]
        refine k1 w σ a hW hτ _ fun a' w' haf => ?_
        obtain ⟨σ1, t1, r1, e1, m1⟩ := haf
        exact k2 w' σ1 a' r1 t1 Q fun a2 w2 haf2 => hQ a2 w2 (haf2.trans e1 m1 n1)
      · rename_i hne
        obtain ⟨n1, k1⟩ := ih c1 τ H e τ' H' dr h
        refine ⟨n1, fun w σ a hW hτ Q hQ => ?_⟩
        rw [rounds_succ]
        refine k1 w σ a hW hτ _ fun a' w' haf => ?_
        cases e with
        | normal => exact absurd h (hne _ _)
        | exit id => exact hQ _ _ haf
        | ret => exact hQ _ _ haf
    refine ⟨?_, hloop⟩
    intro c τ H e τ' H' dr h
    cases c with
    | skip => cases h; exact ⟨Nat.le_refl _, fun w σ a hW hτ Q hQ => wp_skip (hQ _ _ (.refl hW hτ))⟩
    | label l => cases h; exact ⟨Nat.le_refl _, fun w σ a hW hτ Q hQ => wp_label (hQ _ _ (.refl hW hτ))⟩
    | exit id => cases h; exact ⟨Nat.le_refl _, fun w σ a hW hτ Q hQ => wp_exit (hQ _ _ (.refl hW hτ))⟩
    | ret => cases h; exact ⟨Nat.le_refl _, fun w σ a hW hτ Q hQ => wp_ret (hQ _ _ (.refl hW hτ))⟩
    | region id ops draw =>
      simp only [exec] at h
      split at h
      · rename_i τ1 H1 hr
        cases h
        cases draw with
        | false => exact region_sound fit hs hr
        | true =>
          obtain ⟨h1, h2⟩ := draw_sound fit hs hch (dr rfl).1 (dr rfl).2 hr
          exact ⟨h1, fun w σ a hW hτ Q hQ => h2 id w σ a hW hτ Q hQ⟩
      · cases h
    | seq x y =>
      simp only [exec] at h
      split at h
      · rename_i τ1 H1 h1
        obtain ⟨n1, k1⟩ := ih x τ H .normal τ1 H1 dr.1 h1
        obtain ⟨n2, k2⟩ := ih y τ1 H1 e τ' H' dr.2 h
        refine ⟨Nat.le_trans n1 n2, fun w σ a hW hτ Q hQ => wp_seq (k1 w σ a hW hτ _ fun a' w' haf => ?_)⟩
        obtain ⟨σ1, t1, r1, e1, m1⟩ := haf
        exact k2 w' σ1 a' r1 t1 Q fun a2 w2 haf2 => hQ a2 w2 (haf2.trans e1 m1 n1)
      · rename_i hne
        obtain ⟨n1, k1⟩ := ih x τ H e τ' H' dr.1 h
        refine ⟨n1, fun w σ a hW hτ Q hQ => wp_seq (k1 w σ a hW hτ _ fun a' w' haf => ?_)⟩
        cases e with
        | normal => exact absurd h (hne _ _)
        | exit id => exact hQ _ _ haf
        | ret => exact hQ _ _ haf
    | cond x c1 c2 =>
      simp only [exec] at h
      split at h
      · rename_i hb
        obtain ⟨n1, k1⟩ := ih c1 τ H e τ' H' dr.1 h
        refine ⟨n1, fun w σ a hW hτ Q hQ => wp_cond_true ?_ (k1 w σ a hW hτ Q hQ)⟩
        have := hτ.eval x
        rw [hb] at this
        generalize a.eval x = u at this
        cases this
        rfl
      · rename_i hb
        obtain ⟨n1, k1⟩ := ih c2 τ H e τ' H' dr.2 h
        refine ⟨n1, fun w σ a hW hτ Q hQ => wp_cond_false ?_ (k1 w σ a hW hτ Q hQ)⟩
        have := hτ.eval x
        rw [hb] at this
        generalize a.eval x = u at this
        cases this
        rfl
      · cases h
    | block id c1 =>
      simp only [exec] at h
      split at h
      · rename_i id' τ1 H1 h1
        obtain ⟨n1, k1⟩ := ih c1 τ H _ τ1 H1 dr h1
        split at h
        · rename_i hid
          cases h
          exact ⟨n1, fun w σ a hW hτ Q hQ => wp_block (k1 w σ a hW hτ _ fun a' w' haf => by simp only [exOf, Exit.inBlock, hid, if_true]; exact hQ _ _ haf)⟩
        · rename_i hid
          cases h
          exact ⟨n1, fun w σ a hW hτ Q hQ => wp_block (k1 w σ a hW hτ _ fun a' w' haf => by simp only [exOf, Exit.inBlock, hid, if_false]; exact hQ _ _ haf)⟩
      · rename_i hne
        obtain ⟨n1, k1⟩ := ih c1 τ H e τ' H' dr h
        refine ⟨n1, fun w σ a hW hτ Q hQ => wp_block (k1 w σ a hW hτ _ fun a' w' haf => ?_)⟩
        cases e with
        | normal => exact hQ _ _ haf
        | exit id => exact absurd h (hne _ _ _)
        | ret => exact hQ _ _ haf
    | loop c1 =>
      obtain ⟨n1, k1⟩ := hloop c1 τ H e τ' H' dr h
      exact ⟨n1, fun w σ a hW hτ Q hQ => wp_loop_rounds (f + 1) (k1 w σ a hW hτ Q hQ)⟩
    | _ => simp [exec] at h
theorem exec_sound (fit : Fit P F) (hgood : ∀ (g : Nat) (fn : Func) (c : Code), P.funcs[g]? = some fn → fn.body = some c → Draws c) (f : Nat) (c : Code) (τ : List AV) (H : Heap) (e : Ex) (τ' : List AV) (H' : Heap) (dr : Draws c) (h : exec P F f c τ H = some (e, τ', H')) : CodeOk P c τ H e τ' H' :=
  (exec_sound' fit hgood f).1 c τ H e τ' H' dr h
end
end Go.Proofs.Ytdaejmkoenhbkaa.Am
