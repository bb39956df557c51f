/- Readings of recursive data: slices whose elements are read by a smaller reading. -/
import Derived.Test.YtdaejmkoenhbkaaGlu
import Derived.Test.YtdaejmkoenhbkaaEvd
namespace Go.Proofs.Ytdaejmkoenhbkaa.Am
open Go.ChangeShapes Go.WideShapes Go.ChangeAt Go.RowKit
set_option linter.unusedVariables false
section
variable {H : Type} {enc : TypeId × Value → H} {P : Program} {w : World} {base : Nat} {spare : Nat → Bool} {held : Bool}
theorem opens_slice_in {α : Type} {t e : TypeId} {size : Nat} {R : Rel α} {fuel : Nat} {cs : List Value} {x : DataW H × List MemPlace} (ht : P.underlying t = some (.slice e)) (hc : P.cellsOf e = size) (hs : 0 < size)
    (h : DataW.trod enc P w base spare held fuel t cs = some x) (he : ∀ (n : Nat) (cs' : List Value) (y : DataW H × List MemPlace), SizeOf.sizeOf y.1 < SizeOf.sizeOf x.1 → DataW.trod enc P w base spare held n e cs' = some y → ∃ d, R w (· < w.heap.size) d cs') :
    ∃ d, rSlice size R w (· < w.heap.size) d cs := by
  rcases Deep.open_slice ht h with ⟨rfl, _⟩ | ⟨a, len, cap, m, n, D, Pl, rfl, hb, hl, hm, hmm, hx, hi⟩
  · exact ⟨[], Sl.nil⟩
  rw [hc] at hi
  have hlm : len ≤ m := by rw [hmm]; split <;> omega
  have hall : ∀ i, i < len → ∃ d cs', R w (· < w.heap.size) d cs' ∧ cs'.length = size ∧ ∀ j u, cs'[j]? = some u → w.cell? (a.add (i * size + j)) = some u := by
    intro i hil
    obtain ⟨cs', h1, h2⟩ := hi i (by omega)
    have hsz : SizeOf.sizeOf (D i) < SizeOf.sizeOf x.1 := by
      rw [hx]
      have h0 : D i ∈ (List.range len).map D := List.mem_map_of_mem (List.mem_range.2 hil)
      have := List.sizeOf_lt_of_mem h0
      show SizeOf.sizeOf (D i) < SizeOf.sizeOf (DataW.slice ((List.range len).map D) _)
      simp only [DataW.slice.sizeOf_spec]
      omega
    obtain ⟨d, hd⟩ := he n cs' (D i, Pl i) hsz h2
    obtain ⟨_, hcl, hat⟩ := World.cells?_some h1
    refine ⟨d, cs', hd, hcl, fun j u hu => ?_⟩
    have hj : j < size := by rw [← hcl]; exact (List.getElem?_eq_some_iff.1 hu).1
    rw [← Deep.add_add, hat j hj, hu]
  have : ∃ l : List α, l.length = len ∧ ∀ i x, l[i]? = some x → ∃ cs', R w (· < w.heap.size) x cs' ∧ cs'.length = size ∧ ∀ j u, cs'[j]? = some u → w.cell? (a.add (i * size + j)) = some u := by
    clear hx hmm hlm hi hl h
    induction len with
    | zero => exact ⟨[], rfl, fun i x h => by simp at h⟩
    | succ k ih =>
      obtain ⟨l, hl, hl2⟩ := ih (fun i hi => hall i (by omega))
      obtain ⟨d, cs', h1, h2⟩ := hall k (by omega)
      refine ⟨l ++ [d], by simp [hl], fun i x hx => ?_⟩
      rcases Nat.lt_or_ge i l.length with h | h
      · rw [List.getElem?_append_left h] at hx
        exact hl2 i x hx
      · rw [List.getElem?_append_right h] at hx
        have hi0 : i - l.length = 0 := by
          rcases Nat.eq_zero_or_pos (i - l.length) with h0 | h0
          · exact h0
          · rw [List.getElem?_eq_none (by simp only [List.length_singleton]; omega)] at hx
            cases hx
        rw [hi0] at hx
        simp at hx
        subst hx
        obtain rfl : i = k := by omega
        exact ⟨cs', h1, h2⟩
  obtain ⟨l, hll, hel⟩ := this
  subst hll
  refine ⟨l, some a, cap, rfl, hl, hm, fun hn => ?_⟩
  have hsp : a = ⟨a.block, a.off, none⟩ := by
    obtain ⟨cs', _, h2, h3⟩ := hel 0 l[0] (List.getElem?_eq_getElem hn)
    have hc0 := h3 0 cs'[0] (List.getElem?_eq_getElem (by omega))
    rw [show 0 * size + 0 = 0 from by omega, Addr.add_zero'] at hc0
    unfold World.cell? at hc0
    cases hsp : a.spot with
    | none => cases a; simp_all
    | some s => split at hc0 <;> simp [hsp] at hc0
  have hblk : a.block < w.heap.size := by
    obtain ⟨cs', _, h2, h3⟩ := hel 0 l[0] (List.getElem?_eq_getElem hn)
    have hc0 := h3 0 cs'[0] (List.getElem?_eq_getElem (by omega))
    rw [show 0 * size + 0 = 0 from by omega, Addr.add_zero', hsp] at hc0
    exact lt_of_cell hc0
  refine ⟨a.block, a.off, by rw [← hsp], hblk, fun i x hx => ?_⟩
  obtain ⟨cs', h1, h2, h3⟩ := hel i x hx
  refine ⟨cs', h2, h1, fun j u hu => ?_⟩
  have := h3 j u hu
  rw [hsp, Addr.add_lit] at this
  rw [Nat.add_assoc]
  exact this
theorem am_of_slice {α : Type} {size : Nat} {f : α → List AV} {G : α → Prop} {l : List α} {cs : List Value} (hs : 0 < size) (h : rSlice size (rAM f G) w (· < w.heap.size) l cs) :
    rAM (fun l : List α => [.lst (l.map f)]) (fun l => l.length ≤ maxLen ∧ ∀ x ∈ l, G x) w (· < w.heap.size) l cs := by
  obtain ⟨A, c, rfl, h1, h2, h3⟩ := h
  refine ⟨⟨by omega, fun x hx => ?_⟩, reps_one ?_⟩
  · obtain ⟨i, hi, rfl⟩ := List.getElem_of_mem hx
    obtain ⟨b, o, _, _, hall⟩ := h3 (by omega)
    obtain ⟨cs', _, hR, _⟩ := hall i l[i] (List.getElem?_eq_getElem hi)
    exact hR.1
  · rcases Nat.eq_zero_or_pos l.length with h0 | h0
    · have : l = [] := List.length_eq_zero_iff.1 h0
      subst this
      exact .lst0 A c h2
    · obtain ⟨b, o, rfl, hb, hall⟩ := h3 h0
      have := Rep.lst (w := w) (σ := sig0) (T := tok0) (l.map f) b o size c ⟨fun h => h, fun i r hr => ?_, fun i j hi hj => ?_, hs, by simpa using h0⟩ (by simpa using h1) h2 (fun i r j a u hr ha hu => ?_)
      · simpa using this
      · rw [List.getElem?_map] at hr
        cases hx : l[i]? with
        | none => rw [hx] at hr; cases hr
        | some y =>
          rw [hx] at hr; cases hr
          obtain ⟨cs', k1, k2, _⟩ := hall i y hx
          rw [k2.2.1, k1]
      · have hi' : i < l.length := by simpa using hi
        obtain ⟨cs', k1, k2, k3⟩ := hall i l[i] (List.getElem?_eq_getElem hi')
        exact ⟨cs'[j], k3 j _ (List.getElem?_eq_getElem (by omega))⟩
      · rw [List.getElem?_map] at hr
        cases hx : l[i]? with
        | none => rw [hx] at hr; cases hr
        | some y =>
          rw [hx] at hr; cases hr
          obtain ⟨cs', k1, k2, k3⟩ := hall i y hx
          have hj : j < cs'.length := by rw [← k2.2.1]; exact lt_of_some ha
          have hu' := k3 j _ (List.getElem?_eq_getElem hj)
          rw [hu] at hu'
          cases hu'
          exact k2.2.2 j a _ ha (List.getElem?_eq_getElem hj)
/-- a struct of single cells; each field's datum is smaller -/
theorem am_cells_in {t : TypeId} {fs : Array Field} (tys : List TypeId) {fuel : Nat} {cs : List Value} {x : DataW H × List MemPlace} (ht : P.underlying t = some (.struct fs)) (h : DataW.trod enc P w base spare held fuel t cs = some x)
    (hf : fs.toList.map (fun f => (f.type, f.offset)) = tys.zipIdx) (hc : tys.all (fun ty => P.cellsOf ty == 1) = true) (hn : P.cellsOf t = tys.length) :
    cs.length = tys.length ∧ ∀ (i : Nat) (ty : TypeId), tys[i]? = some ty → ∃ c m y, cs[i]? = some c ∧ SizeOf.sizeOf y.1 < SizeOf.sizeOf x.1 ∧ DataW.trod enc P w base spare held m ty [c] = some y := by
  obtain ⟨xs, n, _, hx, hl, hxl, hfs⟩ := DataW.trod_struct ht h
  rw [hn] at hl
  refine ⟨hl, fun i ty hi => ?_⟩
  have hlt := lt_of_some hi
  have hci : i < cs.length := by omega
  have hfi := congrArg (fun l => l[i]?) hf
  simp only [List.getElem?_map, List.getElem?_zipIdx, hi, Array.getElem?_toList] at hfi
  cases hff : fs[i]? with
  | none => rw [hff] at hfi; simp at hfi
  | some f =>
    rw [hff] at hfi
    simp only [Option.map_some, Option.some.injEq, Prod.mk.injEq, Nat.zero_add] at hfi
    obtain ⟨e1, e2⟩ := hfi
    have hxi : i < xs.length := by have := (Array.getElem?_eq_some_iff.1 hff).1; omega
    have hthis := hfs i f hff
    rw [List.getElem?_eq_getElem hxi] at hthis
    have c1 : P.cellsOf ty = 1 := by rw [List.all_eq_true] at hc; simpa using hc ty (List.mem_of_getElem? hi)
    rw [e1, e2, c1, List.drop_eq_getElem_cons hci] at hthis
    refine ⟨cs[i], n, xs[i], List.getElem?_eq_getElem hci, ?_, hthis⟩
    rw [hx]
    have h0 : xs[i].1 ∈ xs.map (·.1) := List.mem_map_of_mem (List.getElem_mem hxi)
    have := List.sizeOf_lt_of_mem h0
    show SizeOf.sizeOf xs[i].1 < SizeOf.sizeOf (DataW.agg (xs.map (·.1)))
    simp only [DataW.agg.sizeOf_spec]
    omega
end
end Go.Proofs.Ytdaejmkoenhbkaa.Am
