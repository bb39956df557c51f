/- Rows of the call's own: what append and make leave; a row of the call's own read as a list. -/
import Derived.Test.YtadjimfkfmojkaaMem
import Derived.Laws.AppendOwn
import Derived.Laws.OwnMore
import Derived.Laws.MakeOwn
import Derived.OwnWalk
namespace Go.Proofs.Ytadjimfkfmojkaa
open Go.ChangeShapes Go.WideShapes Go.ChangeAt Go.RowKit

/-- What is known of a slice type t with elements e: their zero, their cells, their bytes. -/
structure Elem (P : Program) (t e : TypeId) (z : Value) (size bytes : Nat) : Prop where
  ht : P.underlying t = some (.slice e)
  hi : ∃ i, P.info? e = some i ∧ i.zero = some z ∧ i.size = size ∧ i.bytes = bytes
  hz : z.cells.size = size
  hs : 0 < size
theorem elem_mk {P : Program} {t e : TypeId} {z : Value} {size bytes : Nat} (ht : P.underlying t = some (.slice e)) (hi : (P.info? e).map (fun i => (i.zero, i.size, i.bytes)) = some (some z, size, bytes))
    (hz : z.cells.size = size) (hs : 0 < size) : Elem P t e z size bytes :=
  ⟨ht, by obtain ⟨i, h1, h2, h3, h4⟩ := info_parts hi; exact ⟨i, h1, h2, h3, h4⟩, hz, hs⟩

/-- The cells of a slice that may be nil, as one row. -/
def Flat (w : World) (size : Nat) (A : Option Addr) (n : Nat) (xs : List Value) : Prop :=
  xs.length = n * size ∧ (0 < n → ∃ b o, A = some ⟨b, o, none⟩ ∧ ∀ j u, xs[j]? = some u → w.cell? ⟨b, o + j, none⟩ = some u)

theorem run_append_nil_src {P : Program} (w : World) (base : Nat) (t ty e : TypeId) (i : TypeInfo) (size : Nat) (ht : P.underlying t = some (.slice e)) (hi : P.info? e = some i)
    (v : Value) (n : Nat) (xs : List Value) (hown : w.ownsRow base e size v n xs) (c : Nat) : (Builtin.append_ #[t, t] ty #[v, .slice none 0 c]).run P w = .ok v w := by
  rcases hown.2 with ⟨rfl, rfl⟩ | ⟨g, cap, cur, rfl, _, _, hnc, _⟩
  · simp [Builtin.append_, run_underlying ht, sizeOf, typeInfo, hi, Builtin.lenOf, Builtin.firstCells]
  · simp [Builtin.append_, run_underlying ht, sizeOf, typeInfo, hi, Builtin.lenOf, Builtin.firstCells, hnc, storeCells]

section
variable {P : Program} {w : World} {t e : TypeId} {z : Value} {size bytes : Nat}
theorem run_app (E : Elem P t e z size bytes) (ty : TypeId) (base : Nat) (v : Value) (n : Nat) (xs : List Value) (hown : w.ownsRow base e size v n xs)
    (A : Option Addr) (m c : Nat) (news : List Value) (hf : Flat w size A m news) (h1 : ∀ u ∈ news, u.oneCell' = true)
    (h63 : n + m ≤ maxLen) (hbytes : (n + m) * bytes ≤ 140737488355328) (hbase : base ≤ w.heap.size) :
    ∃ v' w', (Builtin.append_ #[t, t] ty #[v, .slice A m c]).run P w = .ok v' w' ∧ w'.ownsRow base e size v' (n + m) (xs ++ news) ∧ w.grownBy w' v.ownBlock := by
  obtain ⟨i, hi, hz0, hsz, hby⟩ := E.hi
  rcases A with _ | ad
  · have hm : m = 0 := by
      rcases Nat.eq_zero_or_pos m with h0 | h0
      · exact h0
      · obtain ⟨b, o, h, _⟩ := hf.2 h0
        cases h
    subst hm
    have hn : news = [] := List.eq_nil_of_length_eq_zero (by simpa using hf.1)
    subst hn
    exact ⟨v, w, run_append_nil_src w base t ty e i size E.ht hi v n xs hown c, by simpa using hown, World.grownBy.refl w _⟩
  · have hcells : ∀ j u, news[j]? = some u → w.cell? (ad.add j) = some u := by
      intro j u hu
      rcases Nat.eq_zero_or_pos m with h0 | h0
      · subst h0
        have hn : news = [] := List.eq_nil_of_length_eq_zero (by simpa using hf.1)
        subst hn
        simp at hu
      · obtain ⟨b, o, h, hc⟩ := hf.2 h0
        injection h with h
        subst h
        rw [Addr.add_lit]
        exact hc j u hu
    obtain ⟨v', w', hrun, h2, h3, _⟩ := run_append_own (P := P) w base t ty e i z size bytes E.ht hi hz0 hsz hby E.hz E.hs v n xs hown ad m c news hf.1 hcells h1 h63 hbytes hbase
    exact ⟨v', w', hrun, h2, h3⟩

theorem wp_app {o : Oper} {a : Act} {K : Act → World → Prop} {Q : Exit → Act → World → Prop} (s x : Operand)
    (ho : o.op = .call { callee := .builtin .append, args := #[s, x], argTypes := #[t, t] }) (E : Elem P t e z size bytes) (base : Nat)
    (v : Value) (n : Nat) (xs : List Value) (hs : a.eval s = v) (hown : w.ownsRow base e size v n xs)
    (A : Option Addr) (m c : Nat) (news : List Value) (hx : a.eval x = .slice A m c) (hf : Flat w size A m news) (h1 : ∀ u ∈ news, u.oneCell' = true)
    (h63 : n + m ≤ maxLen) (hbytes : (n + m) * bytes ≤ 140737488355328) (hbase : base ≤ w.heap.size)
    (h : ∀ v' w', w'.ownsRow base e size v' (n + m) (xs ++ news) → w.grownBy w' v.ownBlock → K (a.put o.dst v') w') : o.wp P a w K Q := by
  obtain ⟨v', w', hrun, h2, h3⟩ := run_app E o.type base v n xs hown A m c news hf h1 h63 hbytes hbase
  unfold Oper.wp execOp
  simp only [ho, resolve, invoke, builtin, Sem.run_bind, Sem.run_pure, Result.andThen_ok, List.map_toArray, List.map_cons, List.map_nil, hs, hx, hrun]
  exact h v' w' h2 h3

theorem wpList_app {ops : Array Oper} {rest : List Oper} {o : Oper} {a : Act} {Q : Exit → Act → World → Prop} (hgd : o.guard = none) (s x : Operand)
    (ho : o.op = .call { callee := .builtin .append, args := #[s, x], argTypes := #[t, t] }) (E : Elem P t e z size bytes) (base : Nat)
    (v : Value) (n : Nat) (xs : List Value) (hs : a.eval s = v) (hown : w.ownsRow base e size v n xs)
    (A : Option Addr) (m c : Nat) (news : List Value) (hx : a.eval x = .slice A m c) (hf : Flat w size A m news) (h1 : ∀ u ∈ news, u.oneCell' = true)
    (h63 : n + m ≤ maxLen) (hbytes : (n + m) * bytes ≤ 140737488355328) (hbase : base ≤ w.heap.size)
    (h : ∀ v' w', w'.ownsRow base e size v' (n + m) (xs ++ news) → w.grownBy w' v.ownBlock → wpList P ops Q rest (a.put o.dst v') w') : wpList P ops Q (o :: rest) a w :=
  wpList_plain hgd fun _ hK => wp_app s x ho E base v n xs hs hown A m c news hx hf h1 h63 hbytes hbase fun v' w' h2 h3 => hK _ _ (h v' w' h2 h3)

/-- make([]T, n, c): the run's equation, for every world. -/
theorem run_mk (E : Elem P t e z size bytes) (kl kc : IntKind) (n c : Nat) (hnc : n ≤ c) (hb : bytes * c ≤ 281474976710656) (h63 : c ≤ 9223372036854775807) (w : World) :
    (Instr.makeSlice t (.int kl (n : Int)) (.int kc (c : Int))).run P w = .ok (.slice (some ⟨w.heap.size, 0, none⟩) n c) (w.alloc (.cells (madeCells z.cells (c * size)) e)) := by
  obtain ⟨i, hi, hz0, hsz, hby⟩ := E.hi
  have hb' : (i.bytes : Int) * (c : Int) ≤ 281474976710656 := by
    have h : ((i.bytes * c : Nat) : Int) ≤ 281474976710656 := by rw [hby]; omega
    rwa [Int.natCast_mul] at h
  have hr := run_make (P := P) w t e i z E.ht hi hz0 kl kc n c (by omega) (by omega) hb' (by omega)
  simp only [Int.toNat_natCast, hsz] at hr
  exact hr
end

/-- A fresh block that holds one element (append's second operand). -/
theorem flat_one {w : World} {size b : Nat} {e : TypeId} {cs : List Value} (hb : w.heap.size = b) (h : cs.length = size) : Flat (w.alloc (.cells cs.toArray e)) size (some ⟨b, 0, none⟩) 1 cs := by
  subst hb
  refine ⟨by omega, fun _ => ⟨_, _, rfl, fun j u hu => ?_⟩⟩
  rw [cell_of_row _ _ _ cs.toArray e (0, 0) (heap_alloc_new w _)]
  simpa using hu

theorem below_after {B : Nat} {a w w' : World} {row : Option Nat} (h : Below B a w) (hg : w.grownBy w' row) (hB : B ≤ w.heap.size) (hr : ∀ k, row = some k → B ≤ k) : Below B a w' := h.grown hg hB hr
theorem own_from {w : World} {base : Nat} {e : TypeId} {size n : Nat} {v : Value} {xs : List Value} (h : w.ownsRow base e size v n xs) : ∀ k, v.ownBlock = some k → base ≤ k := fun k hk => (h.lt k hk).1

theorem Flat.kept {w w' : World} {size n : Nat} {A : Option Addr} {xs : List Value} (h : Flat w size A n xs) (hb : Below w.heap.size w w') : Flat w' size A n xs := by
  refine ⟨h.1, fun hn => ?_⟩
  obtain ⟨b, o, hA, hc⟩ := h.2 hn
  exact ⟨b, o, hA, fun j u hu => cell_kept (fun hlt => hb.block b hlt) (hc j u hu)⟩

/-- the cells of one element out of a row -/
def cellsAt (size : Nat) (xs : List Value) (i : Nat) : List Value := (xs.drop (i * size)).take size

/-- A row of the call's own reads as a list. -/
theorem Sl.of_own {α : Type} {size : Nat} {R : Rel α} {w : World} {F : Nat → Prop} {base : Nat} {e : TypeId} {v : Value} {n : Nat} {xs : List Value} {l : List α}
    (h : w.ownsRow base e size v n xs) (hl : l.length = n) (hF : ∀ b, v.ownBlock = some b → F b) (hR : ∀ i x, l[i]? = some x → R w F x (cellsAt size xs i)) : Sl size R w F v l := by
  subst hl
  obtain ⟨hlen, hrest⟩ := h
  have hown : w.ownsRow base e size v l.length xs := ⟨hlen, hrest⟩
  rcases hrest with ⟨rfl, h0⟩ | ⟨g, cap, cur, rfl, hb, hg, hnc, hcm, hcs, htake⟩
  · rw [List.eq_nil_of_length_eq_zero h0]
    exact Sl.nil
  · refine ⟨_, cap, rfl, hnc, hcm, fun _ => ⟨g, 0, rfl, hF g rfl, fun i x hx => ?_⟩⟩
    have hi : i < l.length := (List.getElem?_eq_some_iff.1 hx).1
    have hmul : i * size + size ≤ l.length * size := by rw [← Nat.succ_mul]; exact Nat.mul_le_mul_right _ hi
    refine ⟨cellsAt size xs i, by simp only [cellsAt, List.length_take, List.length_drop, hlen]; omega, hR i x hx, fun j u hu => ?_⟩
    have hj : xs[i * size + j]? = some u := by
      simp only [cellsAt, List.getElem?_take, List.getElem?_drop] at hu
      split at hu
      · exact hu
      · cases hu
    have := hown.cells (g := g) rfl (i * size + j) u hj
    rw [Addr.add_lit] at this
    rw [Nat.zero_add] at this ⊢
    exact this

theorem below_drewN {B : Nat} {a w : World} (h : Below B a w) (n : Nat) : Below B a (w.drewN n) := ⟨h.os, h.tape, h.output, h.size, h.block⟩

/-- A fresh block of one element, read as a list. -/
theorem Sl.one {α : Type} {size : Nat} {R : Rel α} {w : World} {F : Nat → Prop} {b : Nat} {e : TypeId} {cs : List Value} {x : α} (hb : w.heap.size = b) (hl : cs.length = size) (hF : F b)
    (hR : R (w.alloc (.cells cs.toArray e)) F x cs) : Sl size R (w.alloc (.cells cs.toArray e)) F (.slice (some ⟨b, 0, none⟩) 1 1) [x] := by
  subst hb
  refine ⟨_, 1, rfl, by simp, by simp [maxLen], fun _ => ⟨_, 0, rfl, hF, fun i y hy => ?_⟩⟩
  match i with
  | 0 =>
    simp at hy
    subst hy
    refine ⟨cs, hl, hR, fun j u hu => ?_⟩
    rw [cell_of_row _ _ _ cs.toArray e (0, 0) (heap_alloc_new w _)]
    simpa using hu
  | i + 1 => simp at hy

/-- The cells of element i of a row that was made element by element. -/
theorem cellsAt_flatMap {α : Type} {size : Nat} {f : α → List Value} (hf : ∀ x, (f x).length = size) : ∀ (l : List α) (i : Nat) (x : α), l[i]? = some x → cellsAt size (l.flatMap f) i = f x
  | [], i, x, h => by simp at h
  | y :: l, 0, x, h => by
    simp at h
    subst h
    simp only [cellsAt, List.flatMap_cons, Nat.zero_mul, List.drop_zero]
    rw [← hf y, List.take_left]
  | y :: l, i + 1, x, h => by
    simp only [List.getElem?_cons_succ] at h
    rw [← cellsAt_flatMap hf l i x h]
    simp only [cellsAt, List.flatMap_cons]
    rw [show (i + 1) * size = size + i * size from by rw [Nat.succ_mul]; omega, ← List.drop_drop, ← hf y, List.drop_left]
theorem length_flatMap_size {α : Type} {size : Nat} {f : α → List Value} (hf : ∀ x, (f x).length = size) (l : List α) : (l.flatMap f).length = l.length * size := by
  induction l with
  | nil => simp
  | cons y l ih => simp only [List.flatMap_cons, List.length_append, hf, ih, List.length_cons, Nat.succ_mul]; omega

/-- A list that is read gives its cells as one row. -/
theorem Sl.flat {α : Type} {size : Nat} {R : Rel α} {w : World} {F : Nat → Prop} {A : Option Addr} {n c : Nat} {l : List α} (h : Sl size R w F (.slice A n c) l) :
    ∃ xs, Flat w size A n xs ∧ ∀ i x, l[i]? = some x → R w F x (cellsAt size xs i) ∧ (cellsAt size xs i).length = size := by
  obtain ⟨A', c', h1, h2, h3, h4⟩ := h
  injection h1 with h1 _
  injection h1 with e1 e2 e3
  subst e1 e2 e3
  rcases Nat.eq_zero_or_pos l.length with h0 | h0
  · refine ⟨[], ⟨by simp [h0], fun h => by omega⟩, fun i x hx => ?_⟩
    rw [List.eq_nil_of_length_eq_zero h0] at hx
    simp at hx
  obtain ⟨b, o, rfl, hF, hc⟩ := h4 h0
  have key : ∀ m, m ≤ l.length → ∃ xs : List Value, xs.length = m * size ∧ (∀ j u, xs[j]? = some u → w.cell? ⟨b, o + j, none⟩ = some u) ∧
      ∀ i x, i < m → l[i]? = some x → R w F x (cellsAt size xs i) ∧ (cellsAt size xs i).length = size := by
    intro m
    induction m with
    | zero => exact fun _ => ⟨[], by simp, fun j u hu => by simp at hu, fun i x hi => by omega⟩
    | succ m ih =>
      intro hm
      obtain ⟨xs, hl, hcell, hr⟩ := ih (by omega)
      obtain ⟨cs, hcl, hR, hcc⟩ := hc m l[m] (List.getElem?_eq_getElem (by omega))
      refine ⟨xs ++ cs, by rw [List.length_append, hl, hcl, Nat.succ_mul], fun j u hu => ?_, fun i x hi hx => ?_⟩
      · rcases Nat.lt_or_ge j xs.length with hj | hj
        · rw [List.getElem?_append_left hj] at hu
          exact hcell j u hu
        · rw [List.getElem?_append_right hj] at hu
          have := hcc _ u hu
          rw [show o + m * size + (j - xs.length) = o + j from by omega] at this
          exact this
      · have hile : i ≤ m := by omega
        rcases Nat.lt_or_ge i m with him | him
        · have e : cellsAt size (xs ++ cs) i = cellsAt size xs i := by
            have hmul : i * size + size ≤ m * size := by rw [← Nat.succ_mul]; exact Nat.mul_le_mul_right _ him
            unfold cellsAt
            rw [List.drop_append_of_le_length (by omega), List.take_append_of_le_length (by rw [List.length_drop]; omega)]
          rw [e]
          exact hr i x him hx
        · obtain rfl : i = m := by omega
          have e : cellsAt size (xs ++ cs) i = cs := by
            unfold cellsAt
            rw [← hl, List.drop_left, ← hcl, List.take_length]
          rw [List.getElem?_eq_getElem (by omega)] at hx
          injection hx with hx
          subst hx
          rw [e]
          exact ⟨hR, hcl⟩
  obtain ⟨xs, h1, h2, h3⟩ := key l.length (Nat.le_refl _)
  exact ⟨xs, ⟨h1, fun _ => ⟨b, o, rfl, h2⟩⟩, fun i x hx => h3 i x (List.getElem?_eq_some_iff.1 hx).1 hx⟩
end Go.Proofs.Ytadjimfkfmojkaa
