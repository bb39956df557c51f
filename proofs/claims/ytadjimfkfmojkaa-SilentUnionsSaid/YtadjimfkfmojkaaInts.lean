/- Slices of numbers, of strings and of bytes. -/
import Derived.Test.YtadjimfkfmojkaaOwn
namespace Go.Proofs.Ytadjimfkfmojkaa
open Go.ChangeShapes Go.WideShapes Go.ChangeAt Go.RowKit
abbrev Ints := Sl (α := Int) 1 (rInt .i64)
abbrev Strs := Sl (α := ByteArray) 1 rStr
abbrev Bytes := Sl (α := Int) 1 (rInt .u8)
theorem int_at {A : Option Addr} {n c : Nat} {l : List Int} {w : World} {F : Nat → Prop} (h : Ints w F (.slice A n c) l) {k : Nat} (hk : k < n) :
    ∃ b o x, A = some ⟨b, o, none⟩ ∧ F b ∧ b < w.heap.size ∧ l[k]? = some x ∧ w.cell? ⟨b, o + k, none⟩ = some (.int .i64 x) := by
  have hl := h.len
  obtain ⟨b, o, cs, hA, hb, _, hR, hc⟩ := h.at_ (i := k) (by omega)
  obtain ⟨rfl, _⟩ := hR
  have := hc 0 _ rfl
  rw [Nat.mul_one, Nat.add_zero] at this
  exact ⟨b, o, l[k], hA, hb, lt_of_cell this, List.getElem?_eq_getElem _, this⟩
theorem str_at {A : Option Addr} {n c : Nat} {l : List ByteArray} {w : World} {F : Nat → Prop} (h : Strs w F (.slice A n c) l) {k : Nat} (hk : k < n) :
    ∃ b o x, A = some ⟨b, o, none⟩ ∧ F b ∧ b < w.heap.size ∧ l[k]? = some x ∧ w.cell? ⟨b, o + k, none⟩ = some (.string x) := by
  have hl := h.len
  obtain ⟨b, o, cs, hA, hb, _, hR, hc⟩ := h.at_ (i := k) (by omega)
  obtain ⟨rfl, _⟩ := hR
  have := hc 0 _ rfl
  rw [Nat.mul_one, Nat.add_zero] at this
  exact ⟨b, o, l[k], hA, hb, lt_of_cell this, List.getElem?_eq_getElem _, this⟩
theorem byte_at {A : Option Addr} {n c : Nat} {l : List Int} {w : World} {F : Nat → Prop} (h : Bytes w F (.slice A n c) l) {k : Nat} (hk : k < n) :
    ∃ b o x, A = some ⟨b, o, none⟩ ∧ F b ∧ b < w.heap.size ∧ l[k]? = some x ∧ 0 ≤ x ∧ x ≤ 255 ∧ w.cell? ⟨b, o + k, none⟩ = some (.int .u8 x) := by
  have hl := h.len
  obtain ⟨b, o, cs, hA, hb, _, hR, hc⟩ := h.at_ (i := k) (by omega)
  obtain ⟨rfl, hw⟩ := hR
  have hx : 0 ≤ l[k] ∧ l[k] ≤ 255 := by simpa [Lit.wf, IntKind.min, IntKind.max, IntKind.signed, IntKind.bits] using hw
  have := hc 0 _ rfl
  rw [Nat.mul_one, Nat.add_zero] at this
  exact ⟨b, o, l[k], hA, hb, lt_of_cell this, List.getElem?_eq_getElem _, hx.1, hx.2, this⟩
/-- The numbers fit their kind. -/
def Fit (l : List Int) : Prop := ∀ x ∈ l, (Lit.int .i64 x).wf = true
theorem Ints.fit {A : Option Addr} {n c : Nat} {l : List Int} {w : World} {F : Nat → Prop} (h : Ints w F (.slice A n c) l) : Fit l := by
  intro x hx
  obtain ⟨i, hi, rfl⟩ := List.getElem_of_mem hx
  obtain ⟨b, o, cs, hA, hb, _, hR, hc⟩ := h.at_ hi
  exact hR.2
theorem Sl.form_fit {v : Value} {l : List Int} {w : World} {F : Nat → Prop} (h : Ints w F v l) : Fit l := by
  obtain ⟨A, c, rfl, _⟩ := h.form
  exact Ints.fit h
theorem Ints.flat {A : Option Addr} {n c : Nat} {l : List Int} {w : World} {F : Nat → Prop} (h : Ints w F (.slice A n c) l) : Flat w 1 A n (l.map (Value.int .i64)) := by
  have hl := h.len
  refine ⟨by simp [hl.1], fun hn => ?_⟩
  obtain ⟨b, o, x, hA, _⟩ := int_at h hn
  refine ⟨b, o, hA, fun j u hu => ?_⟩
  have hj : j < n := by have := (List.getElem?_eq_some_iff.1 hu).1; simp at this; omega
  obtain ⟨b', o', y, hA', _, _, hy, hc⟩ := int_at h hj
  rw [hA] at hA'
  obtain ⟨rfl, rfl⟩ : b = b' ∧ o = o' := by simpa using hA'
  rw [List.getElem?_map, hy] at hu
  injection hu with hu
  rw [← hu]
  exact hc
/-- A row of the call's own that holds numbers reads as their list. -/
theorem Ints.of_own {w : World} {F : Nat → Prop} {base : Nat} {e : TypeId} {v : Value} {n : Nat} {l : List Int} (h : w.ownsRow base e 1 v n (l.map (Value.int .i64))) (hf : Fit l) (hF : ∀ b, v.ownBlock = some b → F b) : Ints w F v l := by
  have hl : l.length = n := by have := h.1; simpa using this
  refine Sl.of_own h hl hF (fun i x hx => ⟨?_, hf x (List.mem_of_getElem? hx)⟩)
  unfold cellsAt
  obtain ⟨hi, rfl⟩ := List.getElem?_eq_some_iff.1 hx
  rw [Nat.mul_one, List.drop_eq_getElem_cons (by simpa using hi)]
  simp
theorem ownsRow_shrink {w : World} {base : Nat} {e : TypeId} {size g n cap n' : Nat} {xs : List Value} (h : w.ownsRow base e size (.slice (some ⟨g, 0, none⟩) n cap) n xs) (hn : n' ≤ n) : w.ownsRow base e size (.slice (some ⟨g, 0, none⟩) n' cap) n' (xs.take (n' * size)) := by
  obtain ⟨h1, h2⟩ := h
  have hm : n' * size ≤ n * size := Nat.mul_le_mul_right _ hn
  refine ⟨by rw [List.length_take, h1]; omega, .inr ?_⟩
  rcases h2 with ⟨h2, _⟩ | ⟨g', cap', cur, hv, hb, hg, hnc, hcm, hcs, ht⟩
  · cases h2
  · injection hv with e1 e2 e3
    injection e1 with e1
    injection e1 with e1
    subst e1 e3
    exact ⟨g, cap, cur, rfl, hb, hg, by omega, hcm, hcs, by rw [← ht, List.take_take, Nat.min_eq_left hm]⟩
end Go.Proofs.Ytadjimfkfmojkaa
