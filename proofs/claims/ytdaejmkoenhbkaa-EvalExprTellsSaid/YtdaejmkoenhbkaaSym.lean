/- AM, part 26: rules for states that are not closed. -/
import Derived.Test.YtdaejmkoenhbkaaClo
namespace Go.Proofs.Ytdaejmkoenhbkaa.Am
open Go.RowKit
set_option linter.unusedVariables false
/-- values without names of the abstract heap -/
inductive PureV : AV → Prop where
  | int (k : IntKind) (n : Int) : PureV (.int k n)
  | bool (b : Bool) : PureV (.bool b)
  | str (s : List UInt8) : PureV (.str s)
  | nilp : PureV .nilp
  | nils : PureV .nils
  | emp : PureV .emp
  | nilf : PureV .nilf
  | junk : PureV .junk
  | lst (rows : List (List AV)) (h : ∀ (i : Nat) (r : List AV) (j : Nat) (a : AV), rows[i]? = some r → r[j]? = some a → PureV a) : PureV (.lst rows)
  | agg (cs : List AV) (h : ∀ (i : Nat) (a : AV), cs[i]? = some a → PureV a) : PureV (.agg cs)
  | tup (cs : List AV) (h : ∀ (i : Nat) (a : AV), cs[i]? = some a → PureV a) : PureV (.tup cs)
  | fn (f : FuncId) (cs : List AV) (h : ∀ (i : Nat) (a : AV), cs[i]? = some a → PureV a) : PureV (.fn f cs)
section
variable {P : Program} {F : TypeId → Option (List TypeId)} {w w' : World} {σ σ' : Sig} {T T' : Nat → Prop}
theorem Lies.shrink {rows : List (List AV)} {b o sz : Nat} (h : Lies w T rows b o sz) (hT : ∀ c, T' c → T c) : Lies w T' rows b o sz := ⟨fun ht => h.out (hT b ht), h.even, h.cell, h.pos, h.ne⟩
theorem PureV.rep {a : AV} (hp : PureV a) : ∀ {v : Value}, Rep w σ T a v → (∀ c, T' c → T c) → Rep w σ' T' a v := by
  induction hp with
  | int k n => intro v h _; cases h; exact .int k n
  | bool b => intro v h _; cases h; exact .bool b
  | str s => intro v h _; cases h; exact .str _
  | nilp => intro v h _; cases h; exact .nilp
  | nils => intro v h _; cases h; exact .nils
  | emp => intro v h _; cases h; exact .emp _
  | nilf => intro v h _; cases h; exact .nilf
  | junk => intro v h _; exact .junk v
  | lst rows h ih =>
    intro v hr hT
    cases hr with
    | lst0 a cap hm => exact .lst0 a cap hm
    | lst _ b o sz cap hl hn hm hc => exact .lst rows b o sz cap (hl.shrink hT) hn hm fun i r j a u h1 h2 h3 => ih i r j a h1 h2 (hc i r j a u h1 h2 h3) hT
  | agg cs h ih =>
    intro v hr hT
    cases hr with
    | agg _ vs hl hc => exact .agg cs vs hl fun i a v h1 h2 => ih i a h1 (hc i a v h1 h2) hT
  | tup cs h ih =>
    intro v hr hT
    cases hr with
    | tup _ vs hl hc => exact .tup cs vs hl fun i a v h1 h2 => ih i a h1 (hc i a v h1 h2) hT
  | fn f cs h ih =>
    intro v hr hT
    cases hr with
    | fn _ _ vs hl hc => exact .fn f cs vs hl fun i a v h1 h2 => ih i a h1 (hc i a v h1 h2) hT
theorem empty_get (b : Nat) : Heap.empty.get b = none := Tr.get_leaf b
/-- over the empty heap a call returns v, whatever it leaves in the heap -/
def CallV (P : Program) (f : FuncId) (args : List AV) (v : AV) : Prop :=
  ∀ (w : World) (σ : Sig) (vs : List Value), WRel w σ Heap.empty → Reps w σ (Own σ Heap.empty) args vs → Calls P f vs.toArray w fun e w' =>
    ∃ v' σ' H', e = .returned v' ∧ Rep w' σ' (Own σ' H') v v' ∧ Ext w σ (Own σ Heap.empty) w' σ' (Own σ' H')
/-- a function that was looked at over the empty heap does the same over every heap, and leaves it alone -/
theorem lift {f : FuncId} {args : List AV} {v : AV} (hv : PureV v) (ha : ∀ (i : Nat) (a : AV), args[i]? = some a → PureV a) (h : CallV P f args v) (H : Heap) : CallOk P f args H v H := by
  intro w σ vs hW hvs
  have hown : Own ⟨fun _ => none, Own σ H⟩ Heap.empty = Own σ H := by
    funext c
    apply propext
    constructor
    · rintro (h1 | ⟨b, x, pl, h1, _, _⟩)
      · exact h1
      · rw [empty_get] at h1; cases h1
    · exact .inl
  have hlt : ∀ c, Own σ H c → c < w.heap.size := fun c hc => by
    rcases hc with hc | ⟨b, x, pl, h1, h2, rfl⟩
    · exact (hW.apart c hc).1
    · exact hW.lt b pl h2
  have hWe : WRel w ⟨fun _ => none, Own σ H⟩ Heap.empty := ⟨fun b pl hb => (by cases hb), fun b pl hb => (by cases hb), fun b x hb => (by rw [empty_get] at hb; cases hb),
    fun c hc => ⟨hlt c hc, fun ⟨b, x, pl, h1, _, _⟩ => (by rw [empty_get] at h1; cases h1)⟩, fun b b' x x' pl pl' hb => (by rw [empty_get] at hb; cases hb)⟩
  refine (h w _ vs hWe ⟨hvs.1, fun i a u h1 h2 => (ha i a h1).rep (hvs.2 i a u h1 h2) (fun c hc => by rw [hown] at hc; exact hc)⟩).mono ?_
  rintro e w' ⟨v', σ', H1, rfl, k1, k3⟩
  have hE : Ext w σ (Own σ H) w' σ (Own σ H) :=
    ⟨k3.os, k3.tape, k3.output, k3.size, fun c hc hT => k3.keep c hc (by rw [hown]; exact hT), k3.shape, fun _ _ h => h, rfl, fun c hc => k3.frame c (.inl hc), fun c hc => .inl hc⟩
  refine ⟨v', σ, rfl, hv.rep k1 (fun c hc => .inl (by rw [k3.eqfr]; exact hc)), ⟨hW.named, fun b pl hb => Nat.lt_of_lt_of_le (hW.lt b pl hb) k3.size, fun b x hb => ?_, fun c hc => ⟨Nat.lt_of_lt_of_le (hW.apart c hc).1 k3.size, (hW.apart c hc).2⟩, hW.inj⟩, hE, fun c pl hc => .inl hc⟩
  obtain ⟨pl, cs, e, h1, h2⟩ := hW.live b x hb
  exact ⟨pl, cs, e, h1, h2.mono hE (k3.frame _ (.inr ⟨b, x, pl, hb, h1, rfl⟩))⟩

/-! ### Code, with the end described -/
def AWp (P : Program) (c : Code) (Q : Ex → List AV → Heap → Prop) (τ : List AV) (H : Heap) : Prop :=
  ∀ (w : World) (σ : Sig) (a : Act), WRel w σ H → TmpsOk w σ (Own σ H) τ a → ∀ Q' : Exit → Act → World → Prop,
    (∀ e τ' H' a' w', Q e τ' H' → H.next ≤ H'.next → After w σ H τ' H' a' w' → Q' (exOf e) a' w') → c.wp P Q' a w
variable {c c1 c2 : Code} {Q Q2 : Ex → List AV → Heap → Prop} {τ : List AV} {H : Heap}
theorem AWp.of_ok {e : Ex} {τ' : List AV} {H' : Heap} (h : CodeOk P c τ H e τ' H') (hQ : Q e τ' H') : AWp P c Q τ H :=
  fun w σ a hW hτ Q' hQ' => h.2 w σ a hW hτ Q' fun a' w' haf => hQ' e τ' H' a' w' hQ h.1 haf
theorem AWp.mono (h : AWp P c Q τ H) (hq : ∀ e τ' H', Q e τ' H' → Q2 e τ' H') : AWp P c Q2 τ H :=
  fun w σ a hW hτ Q' hQ' => h w σ a hW hτ Q' fun e τ' H' a' w' hq1 => hQ' e τ' H' a' w' (hq e τ' H' hq1)
def Ex.then (next : List AV → Heap → Prop) (Q : Ex → List AV → Heap → Prop) : Ex → List AV → Heap → Prop
  | .normal, τ, H => next τ H
  | e, τ, H => Q e τ H
theorem AWp.seq (h : AWp P c1 (Ex.then (AWp P c2 Q) Q) τ H) : AWp P (.seq c1 c2) Q τ H := by
  intro w σ a hW hτ Q' hQ'
  refine wp_seq (h w σ a hW hτ _ fun e τ1 H1 a1 w1 hq hn haf => ?_)
  cases e with
  | normal =>
    obtain ⟨σ1, t1, r1, e1, m1⟩ := haf
    exact hq w1 σ1 a1 r1 t1 Q' fun e2 τ2 H2 a2 w2 q2 n2 haf2 => hQ' e2 τ2 H2 a2 w2 q2 (Nat.le_trans hn n2) (haf2.trans e1 m1 hn)
  | exit id => exact hQ' _ _ _ _ _ hq hn haf
  | ret => exact hQ' _ _ _ _ _ hq hn haf
theorem AWp.cond {x : Operand} {t : Bool} (hx : aev τ x = .bool t) (h : AWp P (if t then c1 else c2) Q τ H) : AWp P (.cond x c1 c2) Q τ H := by
  intro w σ a hW hτ Q' hQ'
  have hr := hτ.eval x
  rw [hx] at hr
  refine wp_cond (t := t) ?_ (h w σ a hW hτ Q' hQ')
  generalize a.eval x = u at hr
  cases hr
  rfl
theorem AWp.skip (h : Q .normal τ H) : AWp P .skip Q τ H := fun w σ a hW hτ Q' hQ' => wp_skip (hQ' .normal τ H _ _ h (Nat.le_refl _) (.refl hW hτ))
theorem AWp.exit {id : Nat} (h : Q (.exit id) τ H) : AWp P (.exit id) Q τ H := fun w σ a hW hτ Q' hQ' => wp_exit (hQ' (.exit id) τ H _ _ h (Nat.le_refl _) (.refl hW hτ))
theorem AWp.ret (h : Q .ret τ H) : AWp P .ret Q τ H := fun w σ a hW hτ Q' hQ' => wp_ret (hQ' .ret τ H _ _ h (Nat.le_refl _) (.refl hW hτ))
def Ex.inBlock (id : Nat) (Q : Ex → List AV → Heap → Prop) : Ex → List AV → Heap → Prop
  | .exit id', τ, H => if id' = id then Q .normal τ H else Q (.exit id') τ H
  | e, τ, H => Q e τ H
theorem AWp.block {id : Nat} (h : AWp P c (Ex.inBlock id Q) τ H) : AWp P (.block id c) Q τ H := by
  intro w σ a hW hτ Q' hQ'
  refine wp_block (h w σ a hW hτ _ fun e τ1 H1 a1 w1 hq hn haf => ?_)
  cases e with
  | normal => exact hQ' _ _ _ _ _ hq hn haf
  | ret => exact hQ' _ _ _ _ _ hq hn haf
  | exit id' =>
    simp only [Ex.inBlock] at hq
    simp only [exOf, Exit.inBlock]
    split
    · rename_i he; rw [if_pos he] at hq; exact hQ' .normal _ _ _ _ hq hn haf
    · rename_i he; rw [if_neg he] at hq; exact hQ' (.exit id') _ _ _ _ hq hn haf
theorem rounds_mono {Q' : Exit → Act → World → Prop} : ∀ {n m : Nat} {a : Act} {w : World}, n ≤ m → Code.rounds P c Q' n a w → Code.rounds P c Q' m a w
  | 0, m, a, w, _, h => h.elim
  | n + 1, m, a, w, hm, h => by
    obtain ⟨k, rfl⟩ : ∃ k, m = k + 1 := ⟨m - 1, by omega⟩
    rw [rounds_succ] at h ⊢
    refine wp_mono h fun e a' w' he => ?_
    cases e with
    | normal => exact rounds_mono (by omega) he
    | _ => exact he
theorem AWp.loop (I : Nat → List AV → Heap → Prop) (hs : ∀ n τ H, I n τ H → AWp P c (Ex.then (fun τ' H' => ∃ m, m < n ∧ I m τ' H') Q) τ H) (n : Nat) (h0 : I n τ H) : AWp P (.loop c) Q τ H := by
  have key : ∀ n τ H, I n τ H → ∀ (w : World) (σ : Sig) (a : Act), WRel w σ H → TmpsOk w σ (Own σ H) τ a → ∀ Q' : Exit → Act → World → Prop,
      (∀ e τ' H' a' w', Q e τ' H' → H.next ≤ H'.next → After w σ H τ' H' a' w' → Q' (exOf e) a' w') → Code.rounds P c Q' (n + 1) a w := by
    intro n
    induction n using Nat.strongRecOn with
    | _ n ih =>
      intro τ H hI w σ a hW hτ Q' hQ'
      rw [rounds_succ]
      refine hs n τ H hI w σ a hW hτ _ fun e τ1 H1 a1 w1 hq hn haf => ?_
      cases e with
      | normal =>
        obtain ⟨m, hm, hI1⟩ := hq
        obtain ⟨σ1, t1, r1, e1, m1⟩ := haf
        exact rounds_mono (by omega) (ih m hm τ1 H1 hI1 w1 σ1 a1 r1 t1 Q' fun e2 τ2 H2 a2 w2 q2 n2 haf2 => hQ' e2 τ2 H2 a2 w2 q2 (Nat.le_trans hn n2) (haf2.trans e1 m1 hn))
      | exit id => exact hQ' _ _ _ _ _ hq hn haf
      | ret => exact hQ' _ _ _ _ _ hq hn haf
  intro w σ a hW hτ Q' hQ'
  exact wp_loop_rounds (n + 1) (key n τ H h0 w σ a hW hτ Q' hQ')
/-- a function, from its body -/
theorem call_of {g : FuncId} {fn : Func} {args : List AV} {v : AV} {H' : Heap} (hf : P.funcs[g]? = some fn) (hb : fn.body = some c)
    (h : AWp P c (fun e τ' K => (e = .normal ∨ e = .ret) ∧ resultsA P τ' K fn.results.toList = some v ∧ K = H') (args ++ List.replicate (fn.ntmps - args.length) undefA) H) : CallOk P g args H v H' := by
  intro w σ vs hW hvs
  refine calls_of_wp hf hb (h w σ _ hW ⟨⟨by simp [hvs.1], fun i x u h1 h2 => ?_⟩, rfl⟩ _ fun e τ' K a' w' hq hn haf => ?_)
  · simp only [Array.toList_append, Array.toList_replicate] at h2
    rcases Nat.lt_or_ge i args.length with hi | hi
    · rw [List.getElem?_append_left hi] at h1
      rw [List.getElem?_append_left (by rw [← hvs.1]; exact hi)] at h2
      exact hvs.2 i x u h1 h2
    · rw [List.getElem?_append_right hi, List.getElem?_replicate] at h1
      rw [List.getElem?_append_right (by rw [← hvs.1]; exact hi), List.getElem?_replicate] at h2
      split at h1
      · split at h2
        · cases h1; cases h2; exact undef_rep
        · cases h2
      · cases h1
  · obtain ⟨he, hr, rfl⟩ := hq
    obtain ⟨σ', t1, r1, e1, m1⟩ := haf
    obtain ⟨v', g1, g2⟩ := results_sound (P := P) r1 t1 hr
    have hpost : a'.defers = [] ∧ ∃ v, (results fn a'.tmps).run P w' = .ok v w' ∧ ∃ v' σ', Ending.returned v = .returned v' ∧ Rep w' σ' (Own σ' K) _ v' ∧ WRel w' σ' K ∧ Ext w σ (Own σ H) w' σ' (Own σ' K) ∧ ∀ c pl, σ' c = some pl → σ c = some pl ∨ H.next ≤ c :=
      ⟨t1.2, v', g1, v', σ', rfl, g2, r1, e1, m1⟩
    rcases he with rfl | rfl
    · exact hpost
    · exact hpost
/-- a function that returns a value without names, from its body -/
theorem call_v {g : FuncId} {fn : Func} {args : List AV} {v : AV} (hf : P.funcs[g]? = some fn) (hb : fn.body = some c)
    (h : AWp P c (fun e τ' K => (e = .normal ∨ e = .ret) ∧ resultsA P τ' K fn.results.toList = some v) (args ++ List.replicate (fn.ntmps - args.length) undefA) Heap.empty) : CallV P g args v := by
  intro w σ vs hW hvs
  refine calls_of_wp hf hb (h w σ _ hW ⟨⟨by simp [hvs.1], fun i x u h1 h2 => ?_⟩, rfl⟩ _ fun e τ' K a' w' hq hn haf => ?_)
  · simp only [Array.toList_append, Array.toList_replicate] at h2
    rcases Nat.lt_or_ge i args.length with hi | hi
    · rw [List.getElem?_append_left hi] at h1
      rw [List.getElem?_append_left (by rw [← hvs.1]; exact hi)] at h2
      exact hvs.2 i x u h1 h2
    · rw [List.getElem?_append_right hi, List.getElem?_replicate] at h1
      rw [List.getElem?_append_right (by rw [← hvs.1]; exact hi), List.getElem?_replicate] at h2
      split at h1
      · split at h2
        · cases h1; cases h2; exact undef_rep
        · cases h2
      · cases h1
  · obtain ⟨he, hr⟩ := hq
    obtain ⟨σ', t1, r1, e1, m1⟩ := haf
    obtain ⟨v', g1, g2⟩ := results_sound (P := P) r1 t1 hr
    have hpost : a'.defers = [] ∧ ∃ v, (results fn a'.tmps).run P w' = .ok v w' ∧ ∃ v' σ' H', Ending.returned v = .returned v' ∧ Rep w' σ' (Own σ' H') _ v' ∧ Ext w σ (Own σ Heap.empty) w' σ' (Own σ' H') :=
      ⟨t1.2, v', g1, v', σ', K, rfl, g2, e1⟩
    rcases he with rfl | rfl
    · exact hpost
    · exact hpost
end
/-! ### regions without calls, operation by operation -/
def ints (l : List Int) : List (List AV) := l.map fun x => [.int .i64 x]
def noCall : FuncId → List AV → Heap → Option (AV × Heap) := fun _ _ _ => none
theorem noCall_sound (P : Program) : Sound P noCall := ⟨fun _ _ _ _ _ h => (by cases h), fun _ _ _ _ _ h => (by cases h), fun _ _ _ _ _ h => (by cases h)⟩
theorem AWp.reg {P : Program} {F : TypeId → Option (List TypeId)} {call : FuncId → List AV → Heap → Option (AV × Heap)} (fit : Fit P F) (hs : Sound P call) {ops : Array Oper} {id : Nat} {Q : Ex → List AV → Heap → Prop} {τ : List AV} {H : Heap} {τ' : List AV} {H' : Heap} (h : regionA P F call ops false τ H = some (τ', H')) (hQ : Q .normal τ' H') : AWp P (.region id ops false) Q τ H :=
  .of_ok (region_sound fit hs h) hQ
theorem opsA_cons {P : Program} {F : TypeId → Option (List TypeId)} {call : FuncId → List AV → Heap → Option (AV × Heap)} {ops : Array Oper} {base i : Nat} {l : List Nat} {τ τ1 : List AV} {H H1 : Heap} {r : List AV × Heap} (h : stepA P F call ops base i τ H = some (τ1, H1)) (h2 : opsA P F call ops base l τ1 H1 = some r) :
    opsA P F call ops base (i :: l) τ H = some r := by unfold opsA; rw [h]; exact h2
theorem step_index {P : Program} {F : TypeId → Option (List TypeId)} {call : FuncId → List AV → Heap → Option (AV × Heap)} {ops : Array Oper} {base i : Nat} {τ : List AV} {H : Heap} {o : Oper} {t e : TypeId} {x ix : Operand} {rows : List (List AV)} {k : IntKind} {j : Nat} {row : List AV}
    (ho : ops[i]? = some o) (hg : o.guard = none) (hop : o.op = .indexAddr t x ix) (hx : aev τ x = .lst rows) (hi : aev τ ix = .int k (j : Int)) (hr : rows[j]? = some row) (hu : P.underlying t = some (.slice e)) (hs : sizeA P e = some row.length) :
    stepA P F call ops base i τ H = some (putA τ o.dst (.pptr rows j 0), H) := by
  have hneg : ¬ ((j : Int) < 0) := by omega
  simp [stepA, ho, wantedA, hg, hop, aop, hx, hi, indexAddrA, hneg, hu, hr, hs]
theorem step_load {P : Program} {F : TypeId → Option (List TypeId)} {call : FuncId → List AV → Heap → Option (AV × Heap)} {ops : Array Oper} {base i : Nat} {τ : List AV} {H : Heap} {o : Oper} {t : TypeId} {x : Operand} {rows : List (List AV)} {j off : Nat} {row : List AV} {v : AV}
    (ho : ops[i]? = some o) (hg : o.guard = none) (hop : o.op = .load t x) (hx : aev τ x = .pptr rows j off) (hr : rows[j]? = some row) (hl : rowLoad P t row off = some v) :
    stepA P F call ops base i τ H = some (putA τ o.dst v, H) := by
  simp [stepA, ho, wantedA, hg, hop, aop, hx, loadA, hr, hl]
theorem AWp.ops {P : Program} {F : TypeId → Option (List TypeId)} {call : FuncId → List AV → Heap → Option (AV × Heap)} (fit : Fit P F) (hs : Sound P call) {ops : Array Oper} {id : Nat} {Q : Ex → List AV → Heap → Prop} {τ : List AV} {H : Heap} {τ' : List AV} {H' : Heap} (h : opsA P F call ops H.next (List.range ops.size) τ { H with next := H.next + ops.size } = some (τ', H')) (hQ : Q .normal τ' H') : AWp P (.region id ops false) Q τ H :=
  .of_ok (region_sound fit hs (by simp only [regionA, Bool.false_eq_true, if_false]; exact h)) hQ
end Go.Proofs.Ytdaejmkoenhbkaa.Am
