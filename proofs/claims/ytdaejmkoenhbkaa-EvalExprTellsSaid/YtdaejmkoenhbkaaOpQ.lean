/- AM, part 7: addresses, slices, operators. -/
import Derived.Test.YtdaejmkoenhbkaaOpP
namespace Go.Proofs.Ytdaejmkoenhbkaa.Am
section
variable {P : Program} {w : World} {σ : Sig} {T : Nat → Prop}

theorem av1_rep {v : Value} {a : AV} (h : av1 v = some a) : Rep w σ T a v := by
  unfold av1 at h
  split at h <;> first | (cases h; constructor) | cases h
theorem allSome_spec {α : Type} : ∀ (l : List (Option α)) (m : List α), allSome l = some m → l.length = m.length ∧ ∀ (i : Nat) (x : α), m[i]? = some x → l[i]? = some (some x)
  | [], m, h => by cases h; exact ⟨rfl, fun i x h => by simp at h⟩
  | none :: _, m, h => by cases h
  | some x :: l, m, h => by
    unfold allSome at h
    split at h
    · rename_i l' hl
      cases h
      obtain ⟨h1, h2⟩ := allSome_spec l l' hl
      refine ⟨by simp [h1], fun i y hy => ?_⟩
      match i with
      | 0 => simpa using hy
      | i + 1 => simp only [List.getElem?_cons_succ] at hy ⊢; exact h2 i y hy
    · cases h
theorem avOf_rep {v : Value} {a : AV} (h : avOf v = some a) : Rep w σ T a v := by
  unfold avOf at h
  split at h
  · rename_i cs
    cases hm : allSome (cs.toList.map av1) with
    | none => rw [hm] at h; cases h
    | some l =>
      rw [hm] at h
      cases h
      obtain ⟨h1, h2⟩ := allSome_spec _ _ hm
      have : Rep w σ T (.agg l) (.agg cs.toList.toArray) := .agg l cs.toList (by simpa using h1.symm) fun i a v h3 h4 => by
        have := h2 i a h3
        rw [List.getElem?_map, h4] at this
        simp only [Option.map_some, Option.some.injEq] at this
        exact av1_rep this
      simpa using this
  · exact av1_rep h

theorem zero_sound {t : TypeId} {z : AV} (h : zeroA P t = some z) : ∃ z', (zeroValue t).run P w = .ok z' w ∧ Rep w σ T z z' := by
  unfold zeroA at h
  cases hi : P.info? t with
  | none => rw [hi] at h; cases h
  | some i =>
    rw [hi] at h
    simp only [Option.bind_some] at h
    cases hz : i.zero with
    | none => rw [hz] at h; cases h
    | some z' =>
      rw [hz] at h
      exact ⟨z', by simp [zeroValue, run_info hi, hz], avOf_rep h⟩

theorem fieldAddr_sound {s : TypeId} {x v : AV} {x' : Value} {f : Nat} (hx : Rep w σ T x x') (h : fieldAddrA P s x f = some v) :
    ∃ v', (Instr.fieldAt s x' f).run P w = .ok v' w ∧ Rep w σ T v v' := by
  unfold fieldAddrA at h
  split at h
  · rename_i fs hu
    cases hf : fs[f]? with
    | none => rw [hf] at h; cases h
    | some fd =>
      rw [hf] at h
      simp only [Option.bind_some] at h
      cases hn : sizeA P fd.type with
      | none => rw [hn] at h; cases h
      | some n =>
        rw [hn] at h
        simp only [Option.bind_some] at h
        by_cases h0 : n = 0
        · rw [if_pos h0] at h; cases h
        · rw [if_neg h0] at h
          cases hx <;> simp only [Option.some.injEq, reduceCtorEq] at h <;> subst h
          · rename_i b i off pl hs
            refine ⟨_, by simp only [Instr.fieldAt, Sem.run_bind, run_underlying hu, Result.andThen_ok, hf, Instr.sureAddr, Sem.run_pure, fieldPlace, run_size hn, Sem.run_ite, if_neg h0, addr_add]; rfl, ?_⟩
            have := Rep.ptr (w := w) (T := T) b i (off + fd.offset) pl hs
            rwa [← Nat.add_assoc] at this
          · rename_i rows i off b o sz hl h
            refine ⟨_, by simp only [Instr.fieldAt, Sem.run_bind, run_underlying hu, Result.andThen_ok, hf, Instr.sureAddr, Sem.run_pure, fieldPlace, run_size hn, Sem.run_ite, if_neg h0, addr_add]; rfl, ?_⟩
            have := Rep.pptr rows i (off + fd.offset) b o sz hl h
            rwa [← Nat.add_assoc] at this
  · cases h
theorem field_sound {s : TypeId} {x v : AV} {x' : Value} {f : Nat} (hx : Rep w σ T x x') (h : fieldA P s x f = some v) :
    ∃ v', (Instr.field s x' f).run P w = .ok v' w ∧ Rep w σ T v v' := by
  unfold fieldA at h
  split at h
  · rename_i fs cs hu
    cases hx
    rename_i vs hl hr
    cases hf : fs[f]? with
    | none => rw [hf] at h; cases h
    | some fd =>
      rw [hf] at h
      simp only [Option.bind_some] at h
      obtain ⟨v', h1, h2⟩ := rowPart_sound (P := P) (w := w) (σ := σ) (T := T) ⟨hl, hr⟩ h
      exact ⟨v', by simp [Instr.field, run_underlying hu, hf, asAgg, h1], h2⟩
  · cases h

theorem Rep.sl_inv {b i n : Nat} {v : Value} (h : Rep w σ T (.sl b i n) v) : ∃ pl a cap, v = .slice (some a) n cap ∧ σ b = some pl ∧ n ≤ cap ∧ cap ≤ maxLen ∧
    (0 < cap → a = ⟨pl.block, pl.base + i * pl.size, none⟩ ∧ ∃ cs e, w.heap[pl.block]? = some (.cells cs e (0, 0)) ∧ pl.base + (i + cap) * pl.size ≤ cs.size) := by
  cases h with
  | sl _ _ _ pl a cap h hn hm ha => exact ⟨pl, a, cap, rfl, h, hn, hm, ha⟩
theorem Rep.lst_inv {rows : List (List AV)} {v : Value} (h : Rep w σ T (.lst rows) v) : ∃ A cap, v = .slice A rows.length cap ∧ rows.length ≤ cap ∧ cap ≤ maxLen ∧
    (rows ≠ [] → ∃ b o sz, A = some ⟨b, o, none⟩ ∧ Lies w T rows b o sz ∧
      ∀ (i : Nat) (r : List AV) (j : Nat) (a : AV) (u : Value), rows[i]? = some r → r[j]? = some a → w.cell? ⟨b, o + i * sz + j, none⟩ = some u → Rep w σ T a u) := by
  cases h with
  | lst0 a cap hm => exact ⟨a, cap, rfl, Nat.zero_le _, hm, fun h => absurd rfl h⟩
  | lst _ b o sz cap hl hn hm h => exact ⟨_, cap, rfl, hn, hm, fun _ => ⟨b, o, sz, rfl, hl, h⟩⟩
theorem lt_of_some {α : Type} {l : List α} {i : Nat} {x : α} (h : l[i]? = some x) : i < l.length := by
  rcases Nat.lt_or_ge i l.length with h5 | h5
  · exact h5
  · rw [List.getElem?_eq_none h5] at h; cases h

theorem indexAddr_sound {H : Heap} (hW : WRel w σ H) {t : TypeId} {x ix v : AV} {x' ix' : Value} (hx : Rep w σ (Own σ H) x x') (hi : Rep w σ (Own σ H) ix ix') (h : indexAddrA P (szOf H x) t x ix = some v) :
    ∃ v', (Instr.indexAt t x' ix').run P w = .ok v' w ∧ Rep w σ (Own σ H) v v' := by
  unfold indexAddrA at h
  split at h
  · rename_i k i
    cases hi
    by_cases h0 : i < 0
    · rw [if_pos h0] at h; cases h
    · rw [if_neg h0] at h
      split at h
      · rename_i e b j n hu
        split at h
        · rename_i hlt
          obtain ⟨hlt, hso, hsz⟩ := hlt
          cases h
          cases hy : H.get b with
          | none => simp [szOf, hy] at hso
          | some y =>
          simp only [szOf, hy, Option.map_some] at hsz
          obtain ⟨pl, a, cap, rfl, hs, hn, hm, ha⟩ := hx.sl_inv
          obtain ⟨rfl, cs, ty, hc, hr⟩ := ha (by omega)
          have hii : 0 ≤ i ∧ i < (n : Int) := by omega
          obtain ⟨pl', cs', e', h1, h2⟩ := hW.live b y hy
          rw [hs] at h1
          cases h1
          refine ⟨_, by simp only [Instr.indexAt, asIntOf, Sem.run_bind, Sem.run_pure, Result.andThen_ok, run_underlying hu, Sem.run_ite, if_pos hii, run_size hsz, addr_add]; rfl, ?_⟩
          have := Rep.ptr (w := w) (T := Own σ H) b (j + i.toNat) 0 pl hs
          rw [← h2.size]
          simpa [Nat.add_mul, Nat.add_assoc] using this
        · cases h
      · rename_i e rows hu
        split at h
        · rename_i r hr
          split at h
          · rename_i hsz
            cases h
            have hlt := lt_of_some hr
            have hii : 0 ≤ i ∧ i < (rows.length : Int) := by omega
            obtain ⟨A, cap, rfl, hn, hm, ha⟩ := hx.lst_inv
            obtain ⟨b, o, sz, rfl, hl, h⟩ := ha (by rintro rfl; simp at hr)
            have hrs := hl.even _ _ hr
            subst hrs
            refine ⟨_, by simp only [Instr.indexAt, asIntOf, Sem.run_bind, Sem.run_pure, Result.andThen_ok, run_underlying hu, Sem.run_ite, if_pos hii, run_size hsz, addr_add]; rfl, ?_⟩
            exact Rep.pptr rows i.toNat 0 b o _ hl h
          · cases h
        · cases h
      · rename_i len e b j off hu
        split at h
        · rename_i hlt
          cases hn : sizeA P e with
          | none => rw [hn] at h; cases h
          | some n =>
            rw [hn] at h
            cases h
            cases hx
            rename_i pl hs
            have hii : 0 ≤ i ∧ i < (len : Int) := by omega
            refine ⟨_, by simp only [Instr.indexAt, asIntOf, Sem.run_bind, Sem.run_pure, Result.andThen_ok, run_underlying hu, Instr.sureAddr, Sem.run_ite, if_pos hii, run_size hn, addr_add]; rfl, ?_⟩
            have := Rep.ptr (w := w) (T := Own σ H) b j (off + i.toNat * n) pl hs
            rwa [← Nat.add_assoc] at this
        · cases h
      · rename_i len e rows j off hu
        split at h
        · rename_i hlt
          cases hn : sizeA P e with
          | none => rw [hn] at h; cases h
          | some n =>
            rw [hn] at h
            cases h
            cases hx
            rename_i b o sz hl h
            have hii : 0 ≤ i ∧ i < (len : Int) := by omega
            refine ⟨_, by simp only [Instr.indexAt, asIntOf, Sem.run_bind, Sem.run_pure, Result.andThen_ok, run_underlying hu, Instr.sureAddr, Sem.run_ite, if_pos hii, run_size hn, addr_add]; rfl, ?_⟩
            have := Rep.pptr rows j (off + i.toNat * n) b o sz hl h
            rwa [← Nat.add_assoc] at this
        · cases h
      · cases h
  · cases h
theorem index_sound {t : TypeId} {x ix v : AV} {x' ix' : Value} (hx : Rep w σ T x x') (hi : Rep w σ T ix ix') (h : indexA P t x ix = some v) :
    ∃ v', (Instr.index t x' ix').run P w = .ok v' w ∧ Rep w σ T v v' := by
  unfold indexA at h
  split at h
  · rename_i s k i hu
    cases hi
    by_cases h0 : i < 0
    · rw [if_pos h0] at h; cases h
    · rw [if_neg h0] at h
      cases hx
      rename_i ba
      cases hb : ba.data.toList[i.toNat]? with
      | none => rw [hb] at h; cases h
      | some c =>
        rw [hb] at h
        cases h
        have hlt := lt_of_some hb
        have h1 : ba[i.toNat]? = some c := by
          have hlt' : i.toNat < ba.size := by rw [Array.length_toList] at hlt; exact hlt
          rw [getElem?_pos ba i.toNat hlt']
          rw [List.getElem?_eq_getElem hlt] at hb
          rw [← hb]
          rfl
        have hii : 0 ≤ i := by omega
        have e : (if 0 ≤ i then ba[i.toNat]? else none) = some c := by rw [if_pos hii]; exact h1
        exact ⟨.int .u8 c.toNat, by simp only [Instr.index, asIntOf, Sem.run_bind, Sem.run_pure, Result.andThen_ok, run_underlying hu, e], .int _ _⟩
  · rename_i len e cs k i hu
    split at h
    · rename_i hlt
      cases hn : sizeA P e with
      | none => rw [hn] at h; cases h
      | some n =>
        rw [hn] at h
        simp only [Option.bind_some] at h
        cases hi
        cases hx
        rename_i vs hl hr
        obtain ⟨v', h1, h2⟩ := rowPart_sound (P := P) (w := w) (σ := σ) (T := T) ⟨hl, hr⟩ h
        have hii : 0 ≤ i ∧ i < (len : Int) := by omega
        refine ⟨v', ?_, h2⟩
        simp only [Instr.index, asIntOf, Sem.run_bind, Sem.run_pure, Result.andThen_ok, run_underlying hu]
        rw [if_pos hii]
        simp only [Sem.run_bind, run_size hn, Result.andThen_ok, h1]
    · cases h
  · cases h
theorem natOf_sound {x : AV} {x' : Value} {n : Nat} (hx : Rep w σ T x x') (h : natOf x = some n) : ∃ k i, x' = .int k i ∧ 0 ≤ i ∧ i.toNat = n := by
  unfold natOf at h
  split at h
  · rename_i k i
    split at h
    · rename_i h0; cases h; cases hx; exact ⟨k, i, rfl, h0, rfl⟩
    · cases h
  · cases h
theorem bound_sound {x : Option AV} {x' : Option Value} {n d y : Nat} {code : BoundsCode} (hx : ∀ a, x = some a → ∃ v, x' = some v ∧ Rep w σ T a v) (hx' : x = none → x' = none) (h : boundA x d = some n) (hn : n ≤ y) :
    (match x' with | some v => Instr.sliceBound v y code | none => Pure.pure d).run P w = .ok n w := by
  cases x with
  | none => rw [hx' rfl]; cases h; rfl
  | some a =>
    obtain ⟨v, rfl, hr⟩ := hx a rfl
    obtain ⟨k, i, rfl, h0, rfl⟩ := natOf_sound hr h
    have : 0 ≤ i ∧ i ≤ (y : Int) := by omega
    simp only [Instr.sliceBound, asIntOf, Sem.run_bind, Sem.run_pure, Result.andThen_ok, Sem.run_ite]
    rw [if_pos this]
end
end Go.Proofs.Ytdaejmkoenhbkaa.Am
