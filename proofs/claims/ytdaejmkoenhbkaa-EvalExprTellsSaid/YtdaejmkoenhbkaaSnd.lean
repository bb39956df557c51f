/- AM, part 13: an operation of the program does what the abstract operation says. -/
import Derived.Test.YtdaejmkoenhbkaaOpV
namespace Go.Proofs.Ytdaejmkoenhbkaa.Am
set_option linter.unusedVariables false
section
variable {P : Program} {F : TypeId → Option (List TypeId)} {w : World} {σ : Sig} {H : Heap} {b : Nat}

/-- the same of a whole operation -/
def OpDone (P : Program) (s : Sem Next) (w : World) (σ : Sig) (H : Heap) (b : Nat) (v : AV) (H' : Heap) : Prop :=
  ∃ v' w' σ', (s.run P w = .ok (.value v') w' ∨ (s.run P w = .ok .skip w' ∧ v' = undef)) ∧ Rep w' σ' (Own σ' H') v v' ∧ WRel w' σ' H' ∧ Ext w σ (Own σ H) w' σ' (Own σ' H') ∧ ∀ c pl, σ' c = some pl → σ c = some pl ∨ c = b
theorem OpDone.of_done {s : Sem Value} {v : AV} {H' : Heap} (h : Done P s w σ H b v H') : OpDone P (do pure (.value (← s))) w σ H b v H' := by
  obtain ⟨v', w', σ', h1, h2⟩ := h
  exact ⟨v', w', σ', .inl (by simp [h1]), h2⟩
theorem OpDone.of_val {s : Sem Value} {v : AV} (hW : WRel w σ H) (h : ∃ v', s.run P w = .ok v' w ∧ Rep w σ (Own σ H) v v') : OpDone P (do pure (.value (← s))) w σ H b v H := by
  obtain ⟨v', h1, h2⟩ := h
  exact ⟨v', w, σ, .inl (by simp [h1]), h2, hW, Ext.refl _ _ _, fun c pl hc => .inl hc⟩
theorem OpDone.pure {s : Sem Next} {v : AV} {v' : Value} (hW : WRel w σ H) (h : s.run P w = .ok (.value v') w) (hr : Rep w σ (Own σ H) v v') : OpDone P s w σ H b v H :=
  ⟨v', w, σ, .inl h, hr, hW, Ext.refl _ _ _, fun c pl hc => .inl hc⟩
theorem vOpt {r : Option AV} {v : AV} {H H' : Heap} (h : (r.map fun x => ANext.val x H) = some (.val v H')) : r = some v ∧ H' = H := by
  cases r with
  | none => cases h
  | some x => simp only [Option.map_some, Option.some.injEq, ANext.val.injEq] at h; exact ⟨by rw [h.1], h.2.symm⟩
theorem repO {ρ : Operand → AV} {ρ' : Operand → Value} (hρ : ∀ x, Rep w σ (Own σ H) (ρ x) (ρ' x)) (x : Option Operand) : RepO w σ (Own σ H) (x.map ρ) (x.map ρ') := by
  cases x with
  | none => trivial
  | some a => exact hρ a
theorem map_one {α β : Type} {f : α → β} {l : List α} {x : β} (h : l.map f = [x]) : ∃ a, l = [a] ∧ f a = x := by
  match l, h with
  | [a], h => exact ⟨a, rfl, by simpa using h⟩
  | [], h => simp at h
  | _ :: _ :: _, h => simp at h
theorem map_two {α β : Type} {f : α → β} {l : List α} {x y : β} (h : l.map f = [x, y]) : ∃ a b, l = [a, b] ∧ f a = x ∧ f b = y := by
  match l, h with
  | [a, b], h => exact ⟨a, b, rfl, by simpa using h⟩
  | [], h => simp at h
  | [_], h => simp at h
  | _ :: _ :: _ :: _, h => simp at h
theorem builtin_sound (hW : WRel w σ H) (hb : σ b = none) (hlt : b < H.next) {ρ : Operand → AV} {ρ' : Operand → Value} (hρ : ∀ x, Rep w σ (Own σ H) (ρ x) (ρ' x)) {op : Builtin} {args : List Operand} {types : List TypeId} {ty : TypeId} {cn : Array Bool} {v : AV} {H' : Heap}
    (h : builtinA P H b op types.toArray (args.map ρ) = some (v, H')) : OpDone P (builtin op types.toArray ty cn (args.toArray.map ρ')) w σ H b v H' := by
  unfold builtinA at h
  split at h
  · rename_i s heq
    obtain ⟨a0, rfl, h0⟩ := map_one heq
    split at h
    · rename_i hty
      cases h
      have hr := hρ a0
      rw [h0] at hr
      generalize he : ρ' a0 = x' at hr
      cases hr with
      | str ba =>
      have hlen : ba.data.toList.length = ba.size := Array.length_toList
      cases htt : types[0]? with
      | none => simp [htt] at hty
      | some t =>
      have hu : P.underlying t = some .string := by simpa [htt] using hty
      refine OpDone.pure hW (v' := .int .i64 ba.size) ?_ (by rw [hlen]; exact .int _ _)
      simp [builtin, Builtin.len_, htt, he, run_underlying hu, goInt]
    · cases h
  · rename_i x hne heq
    obtain ⟨a0, rfl, h0⟩ := map_one heq
    have hr := hρ a0
    rw [h0] at hr
    cases htt : types[0]? with
    | none => simp [htt] at h
    | some t =>
      simp only [List.getElem?_toArray, htt, Option.bind_some] at h
      split at h
      · rename_i e hu
        cases hl : lenA x with
        | none => rw [hl] at h; cases h
        | some n =>
          rw [hl] at h
          cases h
          have hv : ∃ A c, ρ' a0 = .slice A n c := by
            unfold lenA at hl
            split at hl
            · cases hl; generalize ρ' a0 = y at hr; cases hr; exact ⟨_, _, rfl⟩
            · cases hl; generalize ρ' a0 = y at hr; cases hr; exact ⟨_, _, rfl⟩
            · cases hl; obtain ⟨A, c, h1, _⟩ := hr.lst_inv; exact ⟨A, c, h1⟩
            · cases hl; obtain ⟨_, a, c, h1, _⟩ := hr.sl_inv; exact ⟨_, c, h1⟩
            · cases hl
          obtain ⟨A, c, hv⟩ := hv
          refine OpDone.pure hW (v' := .int .i64 n) ?_ (.int _ _)
          simp [builtin, Builtin.len_, htt, hv, run_underlying hu, goInt]
      · rename_i n e hu
        cases h
        refine OpDone.pure hW (v' := .int .i64 n) ?_ (.int _ _)
        simp [builtin, Builtin.len_, htt, run_underlying hu, goInt]
      · cases h
  · rename_i s x heq
    obtain ⟨a0, a1, rfl, h0, h1⟩ := map_two heq
    split at h
    · rename_i t tx htt
      split at h
      · rename_i e' hu
        simp only [] at htt
        subst htt
        have hs := hρ a0
        have hx := hρ a1
        rw [h0] at hs
        rw [h1] at hx
        have := OpDone.of_done (append_done (ty := ty) hW hb hlt hx hs hu h)
        simpa [builtin] using this
      · cases h
    · cases h
  · rename_i k a k' c heq
    obtain ⟨a0, a1, rfl, h0, h1⟩ := map_two heq
    split at h
    · rename_i hk
      subst hk
      cases h
      have hs := hρ a0
      have hx := hρ a1
      rw [h0] at hs
      rw [h1] at hx
      generalize e0 : ρ' a0 = y0 at hs
      generalize e1 : ρ' a1 = y1 at hx
      cases hs
      cases hx
      exact OpDone.pure hW (v' := .int k (if c < a then c else a)) (by simp [builtin, Builtin.min_, Builtin.min2, e0, e1]) (.int _ _)
    · cases h
  · rename_i k a k' c heq
    obtain ⟨a0, a1, rfl, h0, h1⟩ := map_two heq
    split at h
    · rename_i hk
      subst hk
      cases h
      have hs := hρ a0
      have hx := hρ a1
      rw [h0] at hs
      rw [h1] at hx
      generalize e0 : ρ' a0 = y0 at hs
      generalize e1 : ρ' a1 = y1 at hx
      cases hs
      cases hx
      exact OpDone.pure hW (v' := .int k (if c > a then c else a)) (by simp [builtin, Builtin.max_, Builtin.max2, e0, e1]) (.int _ _)
    · cases h
  · rename_i x heq
    obtain ⟨a0, rfl, h0⟩ := map_one heq
    split at h
    · rename_i t htt
      simp only [] at htt
      subst htt
      cases hc : clearA P H t x with
      | none => rw [hc] at h; cases h
      | some K =>
        rw [hc] at h
        cases h
        have hx := hρ a0
        rw [h0] at hx
        have := OpDone.of_done (clear_done (ty := ty) (b := b) hW hx hc)
        simpa [builtin] using this
    · cases h
  · cases h
theorem aop_sound (fit : Fit P F) (hW : WRel w σ H) (hb : σ b = none) (hlt : b < H.next) {o : Oper} {ρ : Operand → AV} {ρ' : Operand → Value} (hρ : ∀ x, Rep w σ (Own σ H) (ρ x) (ρ' x)) {v : AV} {H' : Heap}
    (h : aop P F o.op ρ b H = some (.val v H')) : OpDone P (execOp ρ' o) w σ H b v H' := by
  obtain ⟨dst, op, ty, pos, after, guard⟩ := o
  simp only [] at h
  cases op with
  | move x => simp only [aop, Option.some.injEq, ANext.val.injEq] at h; obtain ⟨rfl, rfl⟩ := h; exact OpDone.pure hW rfl (hρ x)
  | assign x => simp only [aop, Option.some.injEq, ANext.val.injEq] at h; obtain ⟨rfl, rfl⟩ := h; exact OpDone.pure hW rfl (hρ x)
  | pick c x y =>
    simp only [aop] at h
    split at h
    · rename_i t hc
      simp only [Option.some.injEq, ANext.val.injEq] at h
      obtain ⟨rfl, rfl⟩ := h
      have := hρ c
      rw [hc] at this
      generalize hc' : ρ' c = c' at this
      cases this
      refine OpDone.pure hW (v' := if t then ρ' x else ρ' y) (by simp [execOp, hc', asBool]) ?_
      cases t
      · exact hρ y
      · exact hρ x
    · cases h
  | alloc t =>
    simp only [aop] at h
    split at h
    · rename_i cs hcs
      simp only [Option.some.injEq, ANext.val.injEq] at h
      obtain ⟨rfl, rfl⟩ := h
      exact OpDone.of_done (alloc_done hW hb hlt hcs)
    · cases h
  | box t x =>
    simp only [aop] at h
    split at h
    · rename_i cs hcs
      split at h
      · simp only [Option.some.injEq, ANext.val.injEq] at h
        obtain ⟨rfl, rfl⟩ := h
        exact OpDone.of_done (box_done hW hb hlt (hρ x) hcs)
      · cases h
    · cases h
  | build t parts => simp only [aop] at h; obtain ⟨h1, rfl⟩ := vOpt h; exact OpDone.of_val hW (build_sound hρ h1)
  | buildSlice t len parts =>
    simp only [aop] at h
    split at h
    · rename_i e hu
      split at h
      · rename_i n z hn hz
        split at h
        · rename_i hc
          obtain ⟨c1, c2, c3⟩ := hc
          cases hf : fillRows n (List.replicate len z) (parts.toList.map fun p => (p.1, ρ p.2)) with
          | none => rw [hf] at h; cases h
          | some rows =>
            rw [hf] at h
            simp only [Option.map_some, Option.some.injEq, ANext.val.injEq] at h
            obtain ⟨rfl, rfl⟩ := h
            exact OpDone.of_done (buildSlice_done hW hb hlt hρ hu hn hz c1 c2 c3 hf)
        · cases h
      · cases h
    · cases h
  | load t a => simp only [aop] at h; obtain ⟨h1, rfl⟩ := vOpt h; exact OpDone.of_val hW (load_sound hW (hρ a) h1)
  | store t a x =>
    simp only [aop] at h
    cases hs : storeA P H t (ρ a) (ρ x) with
    | none => rw [hs] at h; cases h
    | some K =>
      rw [hs] at h
      simp only [Option.map_some, Option.some.injEq, ANext.val.injEq] at h
      obtain ⟨rfl, rfl⟩ := h
      obtain ⟨w', h1, h2, h3⟩ := store_done hW (hρ a) (hρ x) hs
      exact ⟨undef, w', σ, .inr ⟨by simp [execOp, h1], rfl⟩, .tup [] [] rfl (by simp), h2, h3, fun c pl hc => .inl hc⟩
  | nilCheck x =>
    simp only [aop] at h
    have hx := hρ x
    split at h <;> (try (cases h; done)) <;> (rename_i heq; simp only [Option.some.injEq, ANext.val.injEq] at h; obtain ⟨rfl, rfl⟩ := h; rw [heq] at hx; generalize he : ρ' x = x' at hx; have hx2 := hx; cases hx2; exact OpDone.pure hW (by simp only [execOp, he]; rfl) hx)
  | binOp op t x y yt => simp only [aop] at h; obtain ⟨h1, rfl⟩ := vOpt h; exact OpDone.of_val hW (bin_sound fit.flat (hρ x) (hρ y) h1)
  | unOp op t x => simp only [aop] at h; obtain ⟨h1, rfl⟩ := vOpt h; exact OpDone.of_val hW (un_sound (hρ x) h1)
  | convert s d x => simp only [aop] at h; obtain ⟨h1, rfl⟩ := vOpt h; exact OpDone.of_val hW (conv_sound (hρ x) h1)
  | makeFunc fn first cap =>
    cases fn with
    | func f =>
      simp only [aop] at h
      split at h
      · rename_i hf
        simp only [Option.some.injEq, ANext.val.injEq] at h
        obtain ⟨rfl, rfl⟩ := h
        have e : first = #[] := Array.eq_empty_of_size_eq_zero hf
        subst e
        refine OpDone.pure hW (v' := .func (.func f) #[] (cap.toList.map ρ').toArray) (by simp [execOp, Instr.makeFunc]; apply Array.ext'; simp) (.fn f _ _ (by simp) fun i a v h1 h2 => ?_)
        rw [List.getElem?_map] at h1 h2
        cases hc : cap.toList[i]? with
        | none => rw [hc] at h1; cases h1
        | some q => rw [hc] at h1 h2; cases h1; cases h2; exact hρ q
      · cases h
    | _ => simp [aop] at h
  | makeSlice t l c =>
    simp only [aop] at h
    split at h
    · rename_i e hu
      split at h
      · rename_i n by_ z l' c' hn hby hz hl hc
        split at h
        · rename_i hcond
          obtain ⟨c1, c2, c3, c4, c5⟩ := hcond
          simp only [Option.some.injEq, ANext.val.injEq] at h
          obtain ⟨rfl, rfl⟩ := h
          exact OpDone.of_done (makeSlice_done hW hb hlt (hρ l) (hρ c) hu hn hby hz hl hc c1 c2 c3 c4 c5)
        · cases h
      · cases h
    · cases h
  | slice t x lo hi mx =>
    simp only [aop] at h
    split at h
    · cases h
    · rename_i hcond
      obtain ⟨h1, rfl⟩ := vOpt h
      refine OpDone.of_val hW (slice_sound hW (hρ x) (repO hρ lo) (repO hρ hi) (repO hρ mx) (fun hh => ?_) h1)
      cases hi with
      | none => cases mx with
        | none => rfl
        | some m => simp at hcond
      | some q => simp at hh
  | fieldAddr s x f => simp only [aop] at h; obtain ⟨h1, rfl⟩ := vOpt h; exact OpDone.of_val hW (fieldAddr_sound (hρ x) h1)
  | field s x f => simp only [aop] at h; obtain ⟨h1, rfl⟩ := vOpt h; exact OpDone.of_val hW (field_sound (hρ x) h1)
  | indexAddr t x ix => simp only [aop] at h; obtain ⟨h1, rfl⟩ := vOpt h; exact OpDone.of_val hW (indexAddr_sound hW (hρ x) (hρ ix) h1)
  | index t x ix => simp only [aop] at h; obtain ⟨h1, rfl⟩ := vOpt h; exact OpDone.of_val hW (index_sound (hρ x) (hρ ix) h1)
  | extract x i =>
    simp only [aop] at h
    split at h
    · rename_i vs hx
      obtain ⟨h1, rfl⟩ := vOpt h
      have := hρ x
      rw [hx] at this
      generalize he : ρ' x = x' at this
      cases this with
      | tup _ us hl hr =>
      have hi := lt_of_some h1
      have hi' : i < us.length := by omega
      exact OpDone.pure hW (v' := us[i]) (by simp [execOp, he, Instr.extract, hi']) (hr i v _ h1 (List.getElem?_eq_getElem hi'))
    · cases h
  | call c =>
    simp only [aop] at h
    obtain ⟨callee, args, types⟩ := c
    obtain ⟨args⟩ := args
    obtain ⟨types⟩ := types
    simp only [] at h
    split at h
    · rename_i bi
      cases hbi : builtinA P H b bi types.toArray (args.map ρ) with
      | none => rw [hbi] at h; cases h
      | some r =>
        obtain ⟨v0, K⟩ := r
        rw [hbi] at h
        simp only [Option.map_some, Option.some.injEq, ANext.val.injEq] at h
        obtain ⟨rfl, rfl⟩ := h
        have key : ∀ cn, OpDone P (builtin bi ⟨types⟩ ty cn ((⟨args⟩ : Array Operand).map ρ')) w σ H b v0 K := fun cn => builtin_sound hW hb hlt hρ hbi
        exact key _
    · rename_i f
      split at h <;> simp at h
    · cases h
  | _ => simp [aop] at h
theorem aop_call (fit : Fit P F) {o : Oper} {ρ : Operand → AV} {ρ' : Operand → Value} (hρ : ∀ x, Rep w σ (Own σ H) (ρ x) (ρ' x)) {g : FuncId} {args : List AV} {fn : Func} {c : Code}
    (h : aop P F o.op ρ b H = some (.call g args)) (hg : P.funcs[g]? = some fn) (hc : fn.body = some c) :
    ∃ vs : List Value, (execOp ρ' o).run P w = .ok (.enter g vs.toArray) w ∧ Reps w σ (Own σ H) args vs := by
  obtain ⟨dst, op, ty, pos, after, guard⟩ := o
  simp only [] at h
  cases op with
  | call c =>
    simp only [aop] at h
    obtain ⟨callee, qs, types⟩ := c
    obtain ⟨qs⟩ := qs
    simp only [] at h
    split at h
    · rename_i bi
      cases hbi : builtinA P H b bi types (qs.map ρ) with
      | none => rw [hbi] at h; cases h
      | some r => rw [hbi] at h; cases h
    · rename_i f
      split at h
      · rename_i g' cs hf
        simp only [Option.some.injEq, ANext.call.injEq] at h
        obtain ⟨rfl, rfl⟩ := h
        have := hρ f
        rw [hf] at this
        generalize he : ρ' f = f' at this
        cases this with
        | fn _ _ us hl hr =>
        have hnm : ¬ fn.name = "runtime.NumGoroutine" := fit.names _ _ hg
        refine ⟨qs.map ρ' ++ us, ?_, by simp [hl], fun i a v h1 h2 => ?_⟩
        · simp [execOp, resolve, he, Deferred.ofValue, invoke, callFunc, hg, hnm, hc]
        · rcases Nat.lt_or_ge i qs.length with hi | hi
          · rw [List.getElem?_append_left (by simpa using hi), List.getElem?_map] at h1 h2
            rw [List.getElem?_eq_getElem hi] at h1 h2
            cases h1
            cases h2
            exact hρ _
          · rw [List.getElem?_append_right (by simpa using hi)] at h1 h2
            simp only [List.length_map] at h1 h2
            exact hr _ a v h1 h2
      · cases h
    · cases h
  | makeFunc fn first cap => cases fn <;> simp only [aop] at h <;> (try split at h) <;> simp at h
  | _ =>
    exfalso
    simp only [aop] at h
    repeat' (first | (cases h; done) | (simp at h; done) | split at h)
end
end Go.Proofs.Ytdaejmkoenhbkaa.Am
