/- A part of the proof; the statement is proved in the last part. -/
import Derived.Test.YtadjimfkfmojkaaQ7c
import Derived.Test.YtadjimfkfmojkaaRows
import Derived.WalkKit
import Derived.ProofKit
import Derived.OpenShut
import Derived.Handy
import Derived.Outline
import Derived.Lib.Hide
import Derived.Deep.Slices
import Derived.Deep.Fields
import Derived.ChangeSame
import Derived.Carry
import Derived.Deep.Draws
import Derived.Laws.AppendOwn
import Derived.Laws.OwnMore
import Derived.Laws.MakeOwn
import Derived.OwnWalk
import Derived.WalkSpells
import Derived.Deep.DeepMust
import Derived.Shelf.Small.Bits
import Derived.Shelf.Small.Wraps
import Derived.Shelf.Strconv.Itoa0
import Derived.Shelf.Sort.Plain
import Derived.Shelf.Slices.Turned
import Derived.Ground.Names2Prog
import Derived.Shelf.Slices.Clone
import Derived.Shelf.Slices.CompactI
import Derived.Shelf.Slices.SearchI
import Derived.Shelf.Slices.Cells
import Derived.Shelf.Slices.In.SortNone
import Derived.Ground.SlgnProg
import Derived.Shelf.SlicesE.Clone
import Derived.Test.YtadjimfkfmojkaaProg
import Derived.Sort.OwnSortedInts
set_option linter.unusedSimpArgs false
set_option linter.unusedVariables false
section
namespace Go.Proofs.Ytadjimfkfmojkaa
open Go.ChangeShapes Go.WideShapes Go.ChangeAt Go.RowKit

/-- A relation between a datum and the cells that hold it, in a world, over blocks of which F holds. -/
abbrev Rel (α : Type) := World → (Nat → Prop) → α → List Value → Prop

def rInt (k : IntKind) : Rel Int := fun _ _ n cs => cs = [.int k n] ∧ (Lit.int k n).wf = true
def rBool : Rel Bool := fun _ _ b cs => cs = [.bool b]
def rStr : Rel ByteArray := fun _ _ s cs => cs = [.string s] ∧ s.size ≤ maxLen
/-- A slice of elements of 'size' cells. -/
def rSlice {α : Type} (size : Nat) (R : Rel α) : Rel (List α) := fun w F l cs =>
  ∃ A c, cs = [.slice A l.length c] ∧ l.length ≤ c ∧ c ≤ maxLen ∧
    (0 < l.length → ∃ b o, A = some ⟨b, o, none⟩ ∧ F b ∧
      ∀ i x, l[i]? = some x → ∃ cs', cs'.length = size ∧ R w F x cs' ∧ ∀ j u, cs'[j]? = some u → w.cell? ⟨b, o + i * size + j, none⟩ = some u)

/-- What a relation must bear: it stands where the blocks that it lies in are kept. -/
def Rel.Stays {α : Type} (R : Rel α) : Prop := ∀ (w w' : World) (F F' : Nat → Prop) (x : α) (cs : List Value),
  (∀ b, F b → b < w.heap.size → w'.heap[b]? = w.heap[b]?) → (∀ b, F b → b < w.heap.size → F' b) → R w F x cs → R w' F' x cs

theorem lt_of_cell {w : World} {b o : Nat} {u : Value} (h : w.cell? ⟨b, o, none⟩ = some u) : b < w.heap.size := by
  rcases Nat.lt_or_ge b w.heap.size with hlt | hge
  · exact hlt
  · simp [World.cell?, Array.getElem?_eq_none hge] at h

theorem cell_kept {w w' : World} {b o : Nat} {u : Value} (hk : b < w.heap.size → w'.heap[b]? = w.heap[b]?) (h : w.cell? ⟨b, o, none⟩ = some u) : w'.cell? ⟨b, o, none⟩ = some u :=
  (World.cell?_of_block (w := w) (w' := w') (a := ⟨b, o, none⟩) (hk (lt_of_cell h))).trans h

theorem rInt_stays (k : IntKind) : (rInt k).Stays := fun _ _ _ _ _ _ _ _ h => h
theorem rBool_stays : rBool.Stays := fun _ _ _ _ _ _ _ _ h => h
theorem rSlice_stays {α : Type} {size : Nat} {R : Rel α} (hs : 0 < size) (hR : R.Stays) : (rSlice size R).Stays := by
  intro w w' F F' l cs hk hF ⟨A, c, h1, h2, h3, h4⟩
  refine ⟨A, c, h1, h2, h3, fun hn => ?_⟩
  obtain ⟨b, o, hA, hFb, hc⟩ := h4 hn
  have hb : b < w.heap.size := by
    obtain ⟨cs', hl, _, hcell⟩ := hc 0 l[0] (List.getElem?_eq_getElem hn)
    exact lt_of_cell (hcell 0 cs'[0] (List.getElem?_eq_getElem (by omega)))
  refine ⟨b, o, hA, hF b hFb hb, fun i x hx => ?_⟩
  obtain ⟨cs', hl, hr, hcell⟩ := hc i x hx
  exact ⟨cs', hl, hR w w' F F' x cs' hk hF hr, fun j u hu => cell_kept (hk b hFb) (hcell j u hu)⟩

/-- the slice value itself -/
def Sl {α : Type} (size : Nat) (R : Rel α) (w : World) (F : Nat → Prop) (v : Value) (l : List α) : Prop := rSlice size R w F l [v]

section
variable {α : Type} {size : Nat} {R : Rel α} {w w' : World} {F F' : Nat → Prop} {v : Value} {l : List α}
theorem Sl.form (h : Sl size R w F v l) : ∃ A c, v = .slice A l.length c ∧ l.length ≤ c ∧ c ≤ maxLen := by
  obtain ⟨A, c, h1, h2, h3, _⟩ := h
  exact ⟨A, c, by simpa using h1, h2, h3⟩
theorem Sl.at_ {A : Option Addr} {n c : Nat} (h : Sl size R w F (.slice A n c) l) {i : Nat} (hi : i < l.length) :
    ∃ b o cs, A = some ⟨b, o, none⟩ ∧ F b ∧ cs.length = size ∧ R w F l[i] cs ∧ ∀ j u, cs[j]? = some u → w.cell? ⟨b, o + i * size + j, none⟩ = some u := by
  obtain ⟨A', c', h1, h2, h3, h4⟩ := h
  obtain ⟨b, o, hA, hF, hc⟩ := h4 (by omega)
  have e : A = A' := by injection h1 with h1; injection h1
  obtain ⟨cs', hl, hr, hcell⟩ := hc i l[i] (List.getElem?_eq_getElem hi)
  exact ⟨b, o, cs', e.trans hA, hF, hl, hr, hcell⟩
theorem Sl.stays (hs : 0 < size) (hR : R.Stays) (h : Sl size R w F v l) (hk : ∀ b, F b → b < w.heap.size → w'.heap[b]? = w.heap[b]?) (hF : ∀ b, F b → b < w.heap.size → F' b) : Sl size R w' F' v l :=
  rSlice_stays hs hR w w' F F' l [v] hk hF h
theorem Sl.below {B : Nat} (hs : 0 < size) (hR : R.Stays) (h : Sl size R w (· < B) v l) (hb : Below B w w') : Sl size R w' (· < B) v l :=
  h.stays hs hR (fun b hb' _ => hb.block b hb') (fun _ h _ => h)
theorem Sl.nil : Sl size R w F (.slice none 0 0) ([] : List α) := ⟨none, 0, rfl, by simp, by simp [maxLen], fun h => absurd h (by simp)⟩
theorem Sl.empty (A : Option Addr) (c : Nat) (hc : c ≤ maxLen) : Sl size R w F (.slice A 0 c) ([] : List α) := ⟨A, c, rfl, by simp, hc, fun h => absurd h (by simp)⟩
theorem Sl.len {A : Option Addr} {n c : Nat} (h : Sl size R w F (.slice A n c) l) : n = l.length ∧ n ≤ c ∧ c ≤ maxLen := by
  obtain ⟨A', c', h1, h2, h3⟩ := h.form
  injection h1 with e1 e2 e3
  subst e2 e3
  exact ⟨rfl, h2, h3⟩
end

theorem Rel.up {α : Type} {R : Rel α} {w W : World} {x : α} {cs : List Value} (hR : R.Stays) (h : R w (· < w.heap.size) x cs) (hb : Below w.heap.size w W) : R W (· < W.heap.size) x cs :=
  hR w W _ _ x cs (fun b hlt _ => hb.block b hlt) (fun b _ hlt => by have := hb.size; omega) h
theorem Sl.up {α : Type} {size : Nat} {R : Rel α} {w W : World} {v : Value} {l : List α} (hs : 0 < size) (hR : R.Stays) (h : Sl size R w (· < w.heap.size) v l) (hb : Below w.heap.size w W) : Sl size R W (· < W.heap.size) v l :=
  Rel.up (rSlice_stays hs hR) h hb
section
variable {a w : World} {row : Option Nat}
end

def Blk (w : World) (g : Nat) (t : TypeId) (cs : List Value) : Prop := w.heap[g]? = some (.cells cs.toArray t (0, 0))
section
variable {w w' : World} {g : Nat} {t : TypeId} {cs : List Value}
theorem Blk.lt (h : Blk w g t cs) : g < w.heap.size := by
  rcases Nat.lt_or_ge g w.heap.size with hlt | hge
  · exact hlt
  · unfold Blk at h; rw [Array.getElem?_eq_none hge] at h; cases h
theorem Blk.cell (h : Blk w g t cs) {i : Nat} {u : Value} (hi : cs[i]? = some u) : w.cell? ⟨g, i, none⟩ = some u := by
  unfold Blk at h
  simp [World.cell?, h, hi]
theorem Blk.free (h : Blk w g t cs) (i : Nat) : w.frozen? ⟨g, i, none⟩ = false := by
  unfold Blk at h
  simp [World.frozen?, h]
theorem Blk.new (w : World) (t : TypeId) (cs : List Value) {g : Nat} (hg : w.heap.size = g) : Blk (w.alloc (.cells cs.toArray t)) g t cs := by
  subst hg
  exact heap_alloc_new w _
theorem Blk.alloc (h : Blk w g t cs) (o : Obj) : Blk (w.alloc o) g t cs := (Below.heap_alloc w o g h.lt).trans h
theorem Blk.below {B : Nat} (h : Blk w g t cs) (hb : Below B w w') (hg : g < B) : Blk w' g t cs := (hb.block g hg).trans h
theorem Blk.keep (h : Blk w g t cs) (hb : Below w.heap.size w w') : Blk w' g t cs := h.below hb h.lt
theorem Blk.only {g' : Nat} (h : Blk w g t cs) (hb : w.grownBy w' (some g')) (hg : g ≠ g') : Blk w' g t cs := (hb.block g h.lt (fun e => hg (by injection e))).trans h
end

section
variable {H : Type} {enc : TypeId × Value → H} {P : Program} {w : World} {base : Nat} {spare : Nat → Bool} {held : Bool}
/-- every reading of type t is one of R -/
def Opens (H : Type) (enc : TypeId × Value → H) (P : Program) (w : World) (base : Nat) (spare : Nat → Bool) (held : Bool) {α : Type} (t : TypeId) (R : Rel α) : Prop :=
  ∀ (fuel : Nat) (cs : List Value) (x : DataW H × List MemPlace), DataW.trod enc P w base spare held fuel t cs = some x → ∃ d, R w (· < w.heap.size) d cs
theorem opens_int {t : TypeId} {k : IntKind} (ht : P.underlying t = some (.int k)) : Opens H enc P w base spare held t (rInt k) := fun _ _ _ h => by
  obtain ⟨n, h1, _, h3⟩ := DataW.trod_int ht h
  exact ⟨n, h1, h3⟩
theorem opens_bool {t : TypeId} (ht : P.underlying t = some .bool) : Opens H enc P w base spare held t rBool := fun _ _ _ h => by
  obtain ⟨n, h1, _⟩ := DataW.trod_bool ht h
  exact ⟨n, h1⟩
theorem opens_str {t : TypeId} (ht : P.underlying t = some .string) : Opens H enc P w base spare held t rStr := fun _ _ _ h => by
  obtain ⟨n, h1, _, h3⟩ := DataW.trod_string ht h
  exact ⟨n, h1, h3⟩
theorem opens_slice {α : Type} {t e : TypeId} {size : Nat} {R : Rel α} (ht : P.underlying t = some (.slice e)) (hc : P.cellsOf e = size) (hs : 0 < size) (he : Opens H enc P w base spare held e R) :
    Opens H enc P w base spare held t (rSlice size R) := fun fuel cs x h => by
  rcases Deep.open_slice ht h with ⟨rfl, _⟩ | ⟨a, len, cap, m, n, D, Pl, rfl, hb, hl, hm, hmm, hx, hi⟩
  · exact ⟨[], Sl.nil⟩
  rw [hc] at hi
  have hlm : len ≤ m := by rw [hmm]; split <;> omega
  have hall : ∀ i, i < len → ∃ d cs', R w (· < w.heap.size) d cs' ∧ cs'.length = size ∧ ∀ j u, cs'[j]? = some u → w.cell? (a.add (i * size + j)) = some u := by
    intro i hil
    obtain ⟨cs', h1, h2⟩ := hi i (by omega)
    obtain ⟨d, hd⟩ := he _ _ _ h2
    obtain ⟨_, hcl, hat⟩ := World.cells?_some h1
    refine ⟨d, cs', hd, hcl, fun j u hu => ?_⟩
    have hj : j < size := by rw [← hcl]; exact (List.getElem?_eq_some_iff.1 hu).1
    rw [← Deep.add_add, hat j hj, hu]
  have : ∃ l : List α, l.length = len ∧ ∀ i x, l[i]? = some x → ∃ cs', R w (· < w.heap.size) x cs' ∧ cs'.length = size ∧ ∀ j u, cs'[j]? = some u → w.cell? (a.add (i * size + j)) = some u := by
    clear hx hmm hlm hi hl h
    induction len with
    | zero => exact ⟨[], rfl, fun i x h => by simp at h⟩
    | succ k ih =>
      obtain ⟨l, hl, hl2⟩ := ih (fun i hi => hall i (by omega))
      obtain ⟨d, cs', h1, h2⟩ := hall k (by omega)
      refine ⟨l ++ [d], by simp [hl], fun i x hx => ?_⟩
      rcases Nat.lt_or_ge i l.length with h | h
      · rw [List.getElem?_append_left h] at hx
        exact hl2 i x hx
      · rw [List.getElem?_append_right h] at hx
        have hi0 : i - l.length = 0 := by
          rcases Nat.eq_zero_or_pos (i - l.length) with h0 | h0
          · exact h0
          · rw [List.getElem?_eq_none (by simp only [List.length_singleton]; omega)] at hx
            cases hx
        rw [hi0] at hx
        simp at hx
        subst hx
        obtain rfl : i = k := by omega
        exact ⟨cs', h1, h2⟩
  obtain ⟨l, hll, hel⟩ := this
  subst hll
  refine ⟨l, some a, cap, rfl, hl, hm, fun hn => ?_⟩
  have hsp : a = ⟨a.block, a.off, none⟩ := by
    obtain ⟨cs', _, h2, h3⟩ := hel 0 l[0] (List.getElem?_eq_getElem hn)
    have hc0 := h3 0 cs'[0] (List.getElem?_eq_getElem (by omega))
    rw [show 0 * size + 0 = 0 from by omega, Addr.add_zero'] at hc0
    unfold World.cell? at hc0
    cases hsp : a.spot with
    | none => cases a; simp_all
    | some s => split at hc0 <;> simp [hsp] at hc0
  have hblk : a.block < w.heap.size := by
    obtain ⟨cs', _, h2, h3⟩ := hel 0 l[0] (List.getElem?_eq_getElem hn)
    have hc0 := h3 0 cs'[0] (List.getElem?_eq_getElem (by omega))
    rw [show 0 * size + 0 = 0 from by omega, Addr.add_zero', hsp] at hc0
    exact lt_of_cell hc0
  refine ⟨a.block, a.off, by rw [← hsp], hblk, fun i x hx => ?_⟩
  obtain ⟨cs', h1, h2, h3⟩ := hel i x hx
  refine ⟨cs', h2, h1, fun j u hu => ?_⟩
  have := h3 j u hu
  rw [hsp, Addr.add_lit] at this
  rw [Nat.add_assoc]
  exact this
/-- A struct, field by field: what its fields' cells read as. -/
theorem opens_fields {t : TypeId} {fs : Array Field} {fuel : Nat} {cs : List Value} {x : DataW H × List MemPlace} (ht : P.underlying t = some (.struct fs))
    (h : DataW.trod enc P w base spare held fuel t cs = some x) : cs.length = P.cellsOf t ∧ ∀ (i : Nat) (ty off n : Nat) (cs' : List Value), (fs[i]?).map (fun f => (f.type, f.offset)) = some (ty, off) → P.cellsOf ty = n → (cs.drop off).take n = cs' →
      ∃ m y, DataW.trod enc P w base spare held m ty cs' = some y := by
  obtain ⟨xs, n, _, _, hl, hxl, hf⟩ := DataW.trod_struct ht h
  refine ⟨hl, fun i ty off k cs' hi hk hcs => ?_⟩
  cases hfi : fs[i]? with
  | none => rw [hfi] at hi; cases hi
  | some f =>
    rw [hfi] at hi
    simp only [Option.map_some, Option.some.injEq, Prod.mk.injEq] at hi
    obtain ⟨rfl, rfl⟩ := hi
    refine ⟨n, xs[i]'(by have := (Array.getElem?_eq_some_iff.1 hfi).1; omega), ?_⟩
    have := hf i f hfi
    rw [hk, hcs] at this
    rw [this]
    exact List.getElem?_eq_getElem _
end

section
variable {H : Type} {enc : TypeId × Value → H} {P : Program}
theorem trodAll_below (hl : laidOutB P = true) {W W' : World} (hb : Below W.heap.size W W') {sp : Nat → Bool} : ∀ (ts : List TypeId) (vs : List Value) (ds : List (DataW H)) (ps : List MemPlace),
    (∀ t ∈ ts, P.readableRec t = true ∧ t < P.types.size) → DataW.TrodAll enc P W 0 (fun _ => true) true ts vs ds ps → (∀ x ∈ ps, x.block < W.heap.size) → (∀ x ∈ ps, sp x.block = true) → DataW.TrodAll enc P W' 0 sp true ts vs ds ps
  | [], vs, ds, ps, _, h, _, _ => by
    obtain ⟨rfl, rfl, rfl⟩ := trodAll_nil h
    exact trodAll_mk0
  | t :: ts, vs, ds, ps, hr, h, hlt, hsp => by
    obtain ⟨v, vs', d, ds', p, q, rfl, rfl, rfl, h0, h1⟩ := trodAll_cons h
    refine trodAll_cons_mk ?_ (trodAll_below hl hb ts vs' ds' q (fun t ht => hr t (List.mem_cons_of_mem _ ht)) h1 (fun x hx => hlt x (List.mem_append_right _ hx)) (fun x hx => hsp x (List.mem_append_right _ hx)))
    exact WideElems.Trod_stays hl (hr t List.mem_cons_self).1 (hr t List.mem_cons_self).2 h0 (fun x hx => hb.same (hlt x (List.mem_append_left _ hx))) (fun x hx => hsp x (List.mem_append_left _ hx))

theorem law_post {f : Func} {s : ChangeSpec} {apart fresh handsOn again : Bool} {W W' : World} {args : Array Value} {ds gs : List (DataW H)} {before : List MemPlace} {tb : TypeId}
    (hl : laidOutB P = true) (hr : ∀ t ∈ f.params.toList, P.readableRec t = true ∧ t < P.types.size) (hvars : s.vars = []) (hrt : f.resultTypes = #[tb]) (htb : P.underlying tb = some .bool)
    (hW : DataW.Whole enc P f.params.toList s.vars apart W args.toList ds gs before)
    (hsr : (s.fn H (ds ++ gs)).results = [.lit (.bool true)]) (hsa : (s.fn H (ds ++ gs)).args = ds) (hsv : (s.fn H (ds ++ gs)).vars = []) (hb : Below W.heap.size W W') :
    s.post enc P f apart fresh handsOn again W args (.bool true) W' := by
  have hlt : ∀ p ∈ before, p.block < W.heap.size := fun p hp => hW.lt p hp
  have hold : ∀ p ∈ before, (fun b => decide (b < W.heap.size)) p.block = true := fun p hp => by simpa using hlt p hp
  obtain ⟨pa, pv, hA, hV, rfl, hz, hn⟩ := hW
  have hW : DataW.Whole enc P f.params.toList s.vars apart W args.toList ds gs (pa ++ pv) := ⟨pa, pv, hA, hV, rfl, hz, hn⟩
  rw [hvars] at hV
  obtain ⟨rfl, rfl⟩ := trodVars_none hV
  have hargs : ∀ sp : Nat → Bool, (∀ p ∈ pa, sp p.block = true) → DataW.TrodAll enc P W' 0 sp true f.params.toList args.toList (s.fn H (ds ++ [])).args pa := fun sp hsp => by
    rw [hsa]
    exact trodAll_below hl hb _ _ _ _ hr hA (fun x hx => hlt x (by simpa using hx)) hsp
  have hres : ∀ (b : Nat) (sp : Nat → Bool) (hd : Bool), DataW.TrodAll enc P W' b sp hd f.resultTypes.toList ((Value.bool true).resultList f.resultTypes.size) (s.fn H (ds ++ [])).results [] := fun b sp hd => by
    rw [hsr, hrt]
    exact trodAll_cons_mk (shut_bool htb _) trodAll_mk0
  have hvs : ∀ sp : Nat → Bool, DataW.TrodVars enc P W' sp s.vars (s.fn H (ds ++ [])).vars [] := fun sp => by
    rw [hvars, hsv]; rfl
  refine ⟨ds, [], pa ++ [], [], pa, [], hW, hres _ _ _, hargs _ (fun p hp => hold p (by simpa using hp)), hvs _, World.keptBut_mono (fun p hp => ⟨hp, ?_⟩) (hb.frame (· ∈ pa ++ [])), fun _ => ?_⟩
  · rw [List.mem_append] at hp
    exact Or.inr hp
  · refine ⟨?_, _, _, ([] ++ pa) ++ [], ⟨[] ++ pa, [], trodAll_append (hargs _ (fun _ _ => rfl)) (hres _ _ _), hvs _, rfl, ?_, ?_⟩, ?_⟩
    · intro j t r hj hr'
      rw [hrt] at hj hr'
      match j with
      | 0 =>
        simp at hj
        subst hj
        have : r = .bool true := by simpa [Value.resultList] using hr'.symm
        subst this
        exact okWide_bool_mk htb _
      | j + 1 => simp at hj
    · intro b off hp
      have hin : MemPlace.cell b off ∈ pa ++ [] := by simpa using hp
      rw [hb.frozen (hlt _ hin)]
      exact hz b off hin
    · intro ha
      have := hn ha
      simpa using this
    · intro p hp _
      simpa using hp
end
end Go.Proofs.Ytadjimfkfmojkaa

end
section
namespace Go.Proofs.Ytadjimfkfmojkaa
open Go.ChangeShapes Go.WideShapes Go.ChangeAt Go.RowKit

/-- What is known of a slice type t with elements e: their zero, their cells, their bytes. -/
structure Elem (P : Program) (t e : TypeId) (z : Value) (size bytes : Nat) : Prop where
  ht : P.underlying t = some (.slice e)
  hi : ∃ i, P.info? e = some i ∧ i.zero = some z ∧ i.size = size ∧ i.bytes = bytes
  hz : z.cells.size = size
  hs : 0 < size
theorem elem_mk {P : Program} {t e : TypeId} {z : Value} {size bytes : Nat} (ht : P.underlying t = some (.slice e)) (hi : (P.info? e).map (fun i => (i.zero, i.size, i.bytes)) = some (some z, size, bytes))
    (hz : z.cells.size = size) (hs : 0 < size) : Elem P t e z size bytes :=
  ⟨ht, by obtain ⟨i, h1, h2, h3, h4⟩ := info_parts hi; exact ⟨i, h1, h2, h3, h4⟩, hz, hs⟩

/-- The cells of a slice that may be nil, as one row. -/
def Flat (w : World) (size : Nat) (A : Option Addr) (n : Nat) (xs : List Value) : Prop :=
  xs.length = n * size ∧ (0 < n → ∃ b o, A = some ⟨b, o, none⟩ ∧ ∀ j u, xs[j]? = some u → w.cell? ⟨b, o + j, none⟩ = some u)

theorem run_append_nil_src {P : Program} (w : World) (base : Nat) (t ty e : TypeId) (i : TypeInfo) (size : Nat) (ht : P.underlying t = some (.slice e)) (hi : P.info? e = some i)
    (v : Value) (n : Nat) (xs : List Value) (hown : w.ownsRow base e size v n xs) (c : Nat) : (Builtin.append_ #[t, t] ty #[v, .slice none 0 c]).run P w = .ok v w := by
  rcases hown.2 with ⟨rfl, rfl⟩ | ⟨g, cap, cur, rfl, _, _, hnc, _⟩
  · simp [Builtin.append_, run_underlying ht, sizeOf, typeInfo, hi, Builtin.lenOf, Builtin.firstCells]
  · simp [Builtin.append_, run_underlying ht, sizeOf, typeInfo, hi, Builtin.lenOf, Builtin.firstCells, hnc, storeCells]

section
variable {P : Program} {w : World} {t e : TypeId} {z : Value} {size bytes : Nat}
theorem run_app (E : Elem P t e z size bytes) (ty : TypeId) (base : Nat) (v : Value) (n : Nat) (xs : List Value) (hown : w.ownsRow base e size v n xs)
    (A : Option Addr) (m c : Nat) (news : List Value) (hf : Flat w size A m news) (h1 : ∀ u ∈ news, u.oneCell' = true)
    (h63 : n + m ≤ maxLen) (hbytes : (n + m) * bytes ≤ 140737488355328) (hbase : base ≤ w.heap.size) :
    ∃ v' w', (Builtin.append_ #[t, t] ty #[v, .slice A m c]).run P w = .ok v' w' ∧ w'.ownsRow base e size v' (n + m) (xs ++ news) ∧ w.grownBy w' v.ownBlock := by
  obtain ⟨i, hi, hz0, hsz, hby⟩ := E.hi
  rcases A with _ | ad
  · have hm : m = 0 := by
      rcases Nat.eq_zero_or_pos m with h0 | h0
      · exact h0
      · obtain ⟨b, o, h, _⟩ := hf.2 h0
        cases h
    subst hm
    have hn : news = [] := List.eq_nil_of_length_eq_zero (by simpa using hf.1)
    subst hn
    exact ⟨v, w, run_append_nil_src w base t ty e i size E.ht hi v n xs hown c, by simpa using hown, World.grownBy.refl w _⟩
  · have hcells : ∀ j u, news[j]? = some u → w.cell? (ad.add j) = some u := by
      intro j u hu
      rcases Nat.eq_zero_or_pos m with h0 | h0
      · subst h0
        have hn : news = [] := List.eq_nil_of_length_eq_zero (by simpa using hf.1)
        subst hn
        simp at hu
      · obtain ⟨b, o, h, hc⟩ := hf.2 h0
        injection h with h
        subst h
        rw [Addr.add_lit]
        exact hc j u hu
    obtain ⟨v', w', hrun, h2, h3, _⟩ := run_append_own (P := P) w base t ty e i z size bytes E.ht hi hz0 hsz hby E.hz E.hs v n xs hown ad m c news hf.1 hcells h1 h63 hbytes hbase
    exact ⟨v', w', hrun, h2, h3⟩

theorem wp_app {o : Oper} {a : Act} {K : Act → World → Prop} {Q : Exit → Act → World → Prop} (s x : Operand)
    (ho : o.op = .call { callee := .builtin .append, args := #[s, x], argTypes := #[t, t] }) (E : Elem P t e z size bytes) (base : Nat)
    (v : Value) (n : Nat) (xs : List Value) (hs : a.eval s = v) (hown : w.ownsRow base e size v n xs)
    (A : Option Addr) (m c : Nat) (news : List Value) (hx : a.eval x = .slice A m c) (hf : Flat w size A m news) (h1 : ∀ u ∈ news, u.oneCell' = true)
    (h63 : n + m ≤ maxLen) (hbytes : (n + m) * bytes ≤ 140737488355328) (hbase : base ≤ w.heap.size)
    (h : ∀ v' w', w'.ownsRow base e size v' (n + m) (xs ++ news) → w.grownBy w' v.ownBlock → K (a.put o.dst v') w') : o.wp P a w K Q := by
  obtain ⟨v', w', hrun, h2, h3⟩ := run_app E o.type base v n xs hown A m c news hf h1 h63 hbytes hbase
  unfold Oper.wp execOp
  simp only [ho, resolve, invoke, builtin, Sem.run_bind, Sem.run_pure, Result.andThen_ok, List.map_toArray, List.map_cons, List.map_nil, hs, hx, hrun]
  exact h v' w' h2 h3

theorem wpList_app {ops : Array Oper} {rest : List Oper} {o : Oper} {a : Act} {Q : Exit → Act → World → Prop} (hgd : o.guard = none) (s x : Operand)
    (ho : o.op = .call { callee := .builtin .append, args := #[s, x], argTypes := #[t, t] }) (E : Elem P t e z size bytes) (base : Nat)
    (v : Value) (n : Nat) (xs : List Value) (hs : a.eval s = v) (hown : w.ownsRow base e size v n xs)
    (A : Option Addr) (m c : Nat) (news : List Value) (hx : a.eval x = .slice A m c) (hf : Flat w size A m news) (h1 : ∀ u ∈ news, u.oneCell' = true)
    (h63 : n + m ≤ maxLen) (hbytes : (n + m) * bytes ≤ 140737488355328) (hbase : base ≤ w.heap.size)
    (h : ∀ v' w', w'.ownsRow base e size v' (n + m) (xs ++ news) → w.grownBy w' v.ownBlock → wpList P ops Q rest (a.put o.dst v') w') : wpList P ops Q (o :: rest) a w :=
  wpList_plain hgd fun _ hK => wp_app s x ho E base v n xs hs hown A m c news hx hf h1 h63 hbytes hbase fun v' w' h2 h3 => hK _ _ (h v' w' h2 h3)

end

theorem own_from {w : World} {base : Nat} {e : TypeId} {size n : Nat} {v : Value} {xs : List Value} (h : w.ownsRow base e size v n xs) : ∀ k, v.ownBlock = some k → base ≤ k := fun k hk => (h.lt k hk).1

theorem Flat.kept {w w' : World} {size n : Nat} {A : Option Addr} {xs : List Value} (h : Flat w size A n xs) (hb : Below w.heap.size w w') : Flat w' size A n xs := by
  refine ⟨h.1, fun hn => ?_⟩
  obtain ⟨b, o, hA, hc⟩ := h.2 hn
  exact ⟨b, o, hA, fun j u hu => cell_kept (fun hlt => hb.block b hlt) (hc j u hu)⟩

/-- the cells of one element out of a row -/
def cellsAt (size : Nat) (xs : List Value) (i : Nat) : List Value := (xs.drop (i * size)).take size

/-- A fresh block of one element, read as a list. -/
theorem Sl.one {α : Type} {size : Nat} {R : Rel α} {w : World} {F : Nat → Prop} {b : Nat} {e : TypeId} {cs : List Value} {x : α} (hb : w.heap.size = b) (hl : cs.length = size) (hF : F b)
    (hR : R (w.alloc (.cells cs.toArray e)) F x cs) : Sl size R (w.alloc (.cells cs.toArray e)) F (.slice (some ⟨b, 0, none⟩) 1 1) [x] := by
  subst hb
  refine ⟨_, 1, rfl, by simp, by simp [maxLen], fun _ => ⟨_, 0, rfl, hF, fun i y hy => ?_⟩⟩
  match i with
  | 0 =>
    simp at hy
    subst hy
    refine ⟨cs, hl, hR, fun j u hu => ?_⟩
    rw [cell_of_row _ _ _ cs.toArray e (0, 0) (heap_alloc_new w _)]
    simpa using hu
  | i + 1 => simp at hy

/-- A list that is read gives its cells as one row. -/
theorem Sl.flat {α : Type} {size : Nat} {R : Rel α} {w : World} {F : Nat → Prop} {A : Option Addr} {n c : Nat} {l : List α} (h : Sl size R w F (.slice A n c) l) :
    ∃ xs, Flat w size A n xs ∧ ∀ i x, l[i]? = some x → R w F x (cellsAt size xs i) ∧ (cellsAt size xs i).length = size := by
  obtain ⟨A', c', h1, h2, h3, h4⟩ := h
  injection h1 with h1 _
  injection h1 with e1 e2 e3
  subst e1 e2 e3
  rcases Nat.eq_zero_or_pos l.length with h0 | h0
  · refine ⟨[], ⟨by simp [h0], fun h => by omega⟩, fun i x hx => ?_⟩
    rw [List.eq_nil_of_length_eq_zero h0] at hx
    simp at hx
  obtain ⟨b, o, rfl, hF, hc⟩ := h4 h0
  have key : ∀ m, m ≤ l.length → ∃ xs : List Value, xs.length = m * size ∧ (∀ j u, xs[j]? = some u → w.cell? ⟨b, o + j, none⟩ = some u) ∧
      ∀ i x, i < m → l[i]? = some x → R w F x (cellsAt size xs i) ∧ (cellsAt size xs i).length = size := by
    intro m
    induction m with
    | zero => exact fun _ => ⟨[], by simp, fun j u hu => by simp at hu, fun i x hi => by omega⟩
    | succ m ih =>
      intro hm
      obtain ⟨xs, hl, hcell, hr⟩ := ih (by omega)
      obtain ⟨cs, hcl, hR, hcc⟩ := hc m l[m] (List.getElem?_eq_getElem (by omega))
      refine ⟨xs ++ cs, by rw [List.length_append, hl, hcl, Nat.succ_mul], fun j u hu => ?_, fun i x hi hx => ?_⟩
      · rcases Nat.lt_or_ge j xs.length with hj | hj
        · rw [List.getElem?_append_left hj] at hu
          exact hcell j u hu
        · rw [List.getElem?_append_right hj] at hu
          have := hcc _ u hu
          rw [show o + m * size + (j - xs.length) = o + j from by omega] at this
          exact this
      · have hile : i ≤ m := by omega
        rcases Nat.lt_or_ge i m with him | him
        · have e : cellsAt size (xs ++ cs) i = cellsAt size xs i := by
            have hmul : i * size + size ≤ m * size := by rw [← Nat.succ_mul]; exact Nat.mul_le_mul_right _ him
            unfold cellsAt
            rw [List.drop_append_of_le_length (by omega), List.take_append_of_le_length (by rw [List.length_drop]; omega)]
          rw [e]
          exact hr i x him hx
        · obtain rfl : i = m := by omega
          have e : cellsAt size (xs ++ cs) i = cs := by
            unfold cellsAt
            rw [← hl, List.drop_left, ← hcl, List.take_length]
          rw [List.getElem?_eq_getElem (by omega)] at hx
          injection hx with hx
          subst hx
          rw [e]
          exact ⟨hR, hcl⟩
  obtain ⟨xs, h1, h2, h3⟩ := key l.length (Nat.le_refl _)
  exact ⟨xs, ⟨h1, fun _ => ⟨b, o, rfl, h2⟩⟩, fun i x hx => h3 i x (List.getElem?_eq_some_iff.1 hx).1 hx⟩
end Go.Proofs.Ytadjimfkfmojkaa

end
section
namespace Go.Proofs.Ytadjimfkfmojkaa
open Go.ChangeShapes Go.WideShapes Go.ChangeAt Go.RowKit
abbrev Ints := Sl (α := Int) 1 (rInt .i64)
theorem int_at {A : Option Addr} {n c : Nat} {l : List Int} {w : World} {F : Nat → Prop} (h : Ints w F (.slice A n c) l) {k : Nat} (hk : k < n) :
    ∃ b o x, A = some ⟨b, o, none⟩ ∧ F b ∧ b < w.heap.size ∧ l[k]? = some x ∧ w.cell? ⟨b, o + k, none⟩ = some (.int .i64 x) := by
  have hl := h.len
  obtain ⟨b, o, cs, hA, hb, _, hR, hc⟩ := h.at_ (i := k) (by omega)
  obtain ⟨rfl, _⟩ := hR
  have := hc 0 _ rfl
  rw [Nat.mul_one, Nat.add_zero] at this
  exact ⟨b, o, l[k], hA, hb, lt_of_cell this, List.getElem?_eq_getElem _, this⟩
/-- The numbers fit their kind. -/
def Fit (l : List Int) : Prop := ∀ x ∈ l, (Lit.int .i64 x).wf = true
theorem Ints.fit {A : Option Addr} {n c : Nat} {l : List Int} {w : World} {F : Nat → Prop} (h : Ints w F (.slice A n c) l) : Fit l := by
  intro x hx
  obtain ⟨i, hi, rfl⟩ := List.getElem_of_mem hx
  obtain ⟨b, o, cs, hA, hb, _, hR, hc⟩ := h.at_ hi
  exact hR.2
theorem Ints.flat {A : Option Addr} {n c : Nat} {l : List Int} {w : World} {F : Nat → Prop} (h : Ints w F (.slice A n c) l) : Flat w 1 A n (l.map (Value.int .i64)) := by
  have hl := h.len
  refine ⟨by simp [hl.1], fun hn => ?_⟩
  obtain ⟨b, o, x, hA, _⟩ := int_at h hn
  refine ⟨b, o, hA, fun j u hu => ?_⟩
  have hj : j < n := by have := (List.getElem?_eq_some_iff.1 hu).1; simp at this; omega
  obtain ⟨b', o', y, hA', _, _, hy, hc⟩ := int_at h hj
  rw [hA] at hA'
  obtain ⟨rfl, rfl⟩ : b = b' ∧ o = o' := by simpa using hA'
  rw [List.getElem?_map, hy] at hu
  injection hu with hu
  rw [← hu]
  exact hc
end Go.Proofs.Ytadjimfkfmojkaa

end
section
namespace Go.Proofs.Ytadjimfkfmojkaa
open Go.ChangeShapes Go.WideShapes Go.ChangeAt Go.RowKit
set_option linter.unusedVariables false
/-- What the layer reads of a world: how many cells, futures and threads there are, which locks are rwlocks, the conditions' mutexes. -/
structure WD where
  nc : Nat
  rw : List Bool
  mx : List Int
  nf : Nat
  nt : Nat
structure LockD where
  owner : Int
  readers : List Int
structure ThrD where
  status : Int
  cond : Int
  atomic : Bool
structure SyncD where
  locks : List LockD
  tx : Int
  done : List Bool
  threads : List ThrD
def rLk : Rel Bool := fun _ _ b cs => ∃ s, cs = [.string s, .bool b]
def rCd : Rel Int := fun _ _ m cs => ∃ s, cs = [.string s, .int .i64 m] ∧ (Lit.int .i64 m).wf = true
def rLock : Rel LockD := fun w F l cs => ∃ A n c, cs = [.int .i64 l.owner, .slice A n c] ∧ (Lit.int .i64 l.owner).wf = true ∧ Ints w F (.slice A n c) l.readers
def rThr : Rel ThrD := fun _ _ t cs => cs = [.int .i64 t.status, .int .i64 t.cond, .bool t.atomic] ∧ (Lit.int .i64 t.status).wf = true ∧ (Lit.int .i64 t.cond).wf = true
theorem rLk_stays : rLk.Stays := fun _ _ _ _ _ _ _ _ h => h
theorem rCd_stays : rCd.Stays := fun _ _ _ _ _ _ _ _ h => h
theorem rThr_stays : rThr.Stays := fun _ _ _ _ _ _ _ _ h => h
theorem rLock_stays : rLock.Stays := fun w w' F F' l cs hk hF ⟨A, n, c, h1, h2, h3⟩ => ⟨A, n, c, h1, h2, h3.stays (by decide) (rInt_stays _) hk hF⟩
/-- The slices of a world's value. -/
structure WV where
  cA : Option Addr
  nc : Nat
  cc : Nat
  lA : Option Addr
  nl : Nat
  lc : Nat
  dA : Option Addr
  nd : Nat
  dc : Nat
  fA : Option Addr
  nf : Nat
  fc : Nat
  tA : Option Addr
  nt : Nat
  tc : Nat
  sA : Option Addr
  ns : Nat
  sc : Nat
structure WOk (w : World) (F : Nat → Prop) (v : WV) (d : WD) : Prop where
  nc : v.nc = d.nc ∧ v.nc ≤ maxLen
  nf : v.nf = d.nf ∧ v.nf ≤ maxLen
  nt : v.nt = d.nt ∧ v.nt ≤ maxLen
  locks : Sl 2 rLk w F (.slice v.lA v.nl v.lc) d.rw
  conds : Sl 2 rCd w F (.slice v.dA v.nd v.dc) d.mx
structure SV where
  kA : Option Addr
  nk : Nat
  kc : Nat
  tx : Int
  eA : Option Addr
  ne : Nat
  ec : Nat
  hA : Option Addr
  nh : Nat
  hc : Nat
structure SOk (w : World) (F : Nat → Prop) (v : SV) (d : SyncD) : Prop where
  locks : Sl 2 rLock w F (.slice v.kA v.nk v.kc) d.locks
  done : Sl 1 rBool w F (.slice v.eA v.ne v.ec) d.done
  threads : Sl 3 rThr w F (.slice v.hA v.nh v.hc) d.threads
  tx : v.tx = d.tx
  wf : (Lit.int .i64 d.tx).wf = true
abbrev WV.val (v : WV) : Value := .agg #[.slice v.cA v.nc v.cc, .slice v.lA v.nl v.lc, .slice v.dA v.nd v.dc, .slice v.fA v.nf v.fc, .slice v.tA v.nt v.tc, .slice v.sA v.ns v.sc]
abbrev SV.val (v : SV) : Value := .agg #[.slice v.kA v.nk v.kc, .int .i64 v.tx, .slice v.eA v.ne v.ec, .slice v.hA v.nh v.hc]
theorem WOk.stays {w w' : World} {F F' : Nat → Prop} {v : WV} {d : WD} (h : WOk w F v d) (hk : ∀ b, F b → b < w.heap.size → w'.heap[b]? = w.heap[b]?) (hF : ∀ b, F b → b < w.heap.size → F' b) : WOk w' F' v d :=
  ⟨h.nc, h.nf, h.nt, h.locks.stays (by decide) rLk_stays hk hF, h.conds.stays (by decide) rCd_stays hk hF⟩
theorem SOk.stays {w w' : World} {F F' : Nat → Prop} {v : SV} {d : SyncD} (h : SOk w F v d) (hk : ∀ b, F b → b < w.heap.size → w'.heap[b]? = w.heap[b]?) (hF : ∀ b, F b → b < w.heap.size → F' b) : SOk w' F' v d :=
  ⟨h.locks.stays (by decide) rLock_stays hk hF, h.done.stays (by decide) rBool_stays hk hF, h.threads.stays (by decide) rThr_stays hk hF, h.tx, h.wf⟩
theorem WOk.up {w w' : World} {v : WV} {d : WD} (h : WOk w (· < w.heap.size) v d) (hb : Below w.heap.size w w') : WOk w' (· < w'.heap.size) v d :=
  h.stays (fun b hlt _ => hb.block b hlt) (fun b _ hlt => by have := hb.size; omega)
theorem SOk.up {w w' : World} {v : SV} {d : SyncD} (h : SOk w (· < w.heap.size) v d) (hb : Below w.heap.size w w') : SOk w' (· < w'.heap.size) v d :=
  h.stays (fun b hlt _ => hb.block b hlt) (fun b _ hlt => by have := hb.size; omega)

def inB (i : Int) (n : Nat) : Bool := decide (0 ≤ i) && decide (i < n)
def fitsS (d : WD) (s : SyncD) : Bool := s.locks.length == d.rw.length && (s.done.length == d.nf) && (s.threads.length == d.nt) && d.mx.all (fun m => inB m d.rw.length)
def rwAt (d : WD) (i : Int) : Bool := d.rw.getD i.toNat false
def allowedS (d : WD) (kind obj : Int) : Bool :=
  if kind = 1 ∨ kind = 2 ∨ kind = 5 ∨ kind = 12 ∨ kind = 13 ∨ kind = 14 ∨ kind = 15 then obj == -1
  else if kind = 3 ∨ kind = 4 then inB obj d.nc
  else if kind = 6 ∨ kind = 7 then inB obj d.rw.length && !rwAt d obj
  else if kind = 8 ∨ kind = 9 ∨ kind = 10 ∨ kind = 11 then inB obj d.rw.length && rwAt d obj
  else if kind = 16 ∨ kind = 17 ∨ kind = 18 ∨ kind = 19 then inB obj d.mx.length
  else if kind = 20 ∨ kind = 21 then inB obj d.nt
  else if kind = 22 ∨ kind = 23 then inB obj d.nf
  else false
end Go.Proofs.Ytadjimfkfmojkaa

end
section
namespace Go.Proofs.Ytadjimfkfmojkaa
open Go.ChangeShapes Go.WideShapes Go.ChangeAt Go.RowKit
set_option linter.unusedVariables false
theorem elemI : Elem Try.prog 22 3 (.int .i64 0) 1 8 := elem_mk Try.underlying22 (by kernel_rfl) rfl (by decide)
set_option maxHeartbeats 1000000 in
set_option maxRecDepth 100000 in
theorem cloneI_any (A : Option Addr) (n c : Nat) (xs : List Value) (w : World) (hf : Flat w 1 A n xs) (h1 : ∀ x ∈ xs, x.oneCell' = true) (hn : n * 8 ≤ 140737488355328) (hA : A = none → n = 0) :
    Calls Try.prog 68 #[.slice A n c] w fun e w' => ∃ v, e = .returned v ∧ w'.ownsRow w.heap.size 3 1 v n xs ∧ Below w.heap.size w w' := by
  have HF := Lib.hid hf
  have H1 := Lib.hid h1
  clear hf h1
  have heq := fun (W : World) (a : Option Addr) (l c : Nat) => Lib.run_eql_slice_nil (P := Try.prog) W 22 3 a l c 0 0 Try.underlying22
  cases A with
  | none =>
    obtain rfl : n = 0 := hA rfl
    have hx : xs = [] := List.eq_nil_of_length_eq_zero (by have := HF.out.1; simpa using this)
    have Hx := Lib.hid hx
    clear hx HF H1
    go_enter Try.func68, Try.ntmps68
    go_wp2_with fail
    go_ret
    exact ⟨_, rfl, by rw [Hx.out]; exact World.ownsRow_nil _ _ _ _, Below.refl _ _⟩
  | some a =>
    clear hA
    have M0 : Hid ((w.alloc (.cells #[] 3)).ownsRow w.heap.size 3 1 (.slice (some ⟨w.heap.size, 0, none⟩) 0 0) 0 []) := Lib.hid (World.ownsRow_made w #[] 0 (Nat.le_refl _) (by simp [maxLen]) (by simp))
    go_enter Try.func68, Try.ntmps68
    go_wp2_with (at_builtin; go_must (refine wpList_app rfl (.tmp 5) (.tmp 6) rfl elemI w.heap.size _ 0 [] rfl M0.out (some a) n c xs rfl (HF.out.kept ((Below.refl _ _).alloc (Nat.le_refl _) _)) H1.out (by simp only [maxLen]; omega) (by omega) (by simp) ?_); intro v1 w1 hown1 hg1)
    have hb1 := ((Below.refl w.heap.size w).alloc (Nat.le_refl _) _).grown hg1 (by simp) (own_from M0.out)
    go_wp2_with fail
    go_ret
    exact ⟨_, rfl, by simpa using hown1, hb1⟩
theorem elemB : Elem Try.prog 49 4 (.bool false) 1 1 := elem_mk Try.underlying49 (by kernel_rfl) rfl (by decide)
set_option maxHeartbeats 1000000 in
set_option maxRecDepth 100000 in
theorem cloneB_any (A : Option Addr) (n c : Nat) (xs : List Value) (w : World) (hf : Flat w 1 A n xs) (h1 : ∀ x ∈ xs, x.oneCell' = true) (hn : n * 1 ≤ 140737488355328) (hA : A = none → n = 0) :
    Calls Try.prog 76 #[.slice A n c] w fun e w' => ∃ v, e = .returned v ∧ w'.ownsRow w.heap.size 4 1 v n xs ∧ Below w.heap.size w w' := by
  have HF := Lib.hid hf
  have H1 := Lib.hid h1
  clear hf h1
  have heq := fun (W : World) (a : Option Addr) (l c : Nat) => Lib.run_eql_slice_nil (P := Try.prog) W 49 4 a l c 0 0 Try.underlying49
  cases A with
  | none =>
    obtain rfl : n = 0 := hA rfl
    have hx : xs = [] := List.eq_nil_of_length_eq_zero (by have := HF.out.1; simpa using this)
    have Hx := Lib.hid hx
    clear hx HF H1
    go_enter Try.func76, Try.ntmps76
    go_wp2_with fail
    go_ret
    exact ⟨_, rfl, by rw [Hx.out]; exact World.ownsRow_nil _ _ _ _, Below.refl _ _⟩
  | some a =>
    clear hA
    have M0 : Hid ((w.alloc (.cells #[] 4)).ownsRow w.heap.size 4 1 (.slice (some ⟨w.heap.size, 0, none⟩) 0 0) 0 []) := Lib.hid (World.ownsRow_made w #[] 0 (Nat.le_refl _) (by simp [maxLen]) (by simp))
    go_enter Try.func76, Try.ntmps76
    go_wp2_with (at_builtin; go_must (refine wpList_app rfl (.tmp 5) (.tmp 6) rfl elemB w.heap.size _ 0 [] rfl M0.out (some a) n c xs rfl (HF.out.kept ((Below.refl _ _).alloc (Nat.le_refl _) _)) H1.out (by simp only [maxLen]; omega) (by omega) (by simp) ?_); intro v1 w1 hown1 hg1)
    have hb1 := ((Below.refl w.heap.size w).alloc (Nat.le_refl _) _).grown hg1 (by simp) (own_from M0.out)
    go_wp2_with fail
    go_ret
    exact ⟨_, rfl, by simpa using hown1, hb1⟩
theorem elemT : Elem Try.prog 50 66 (.agg #[.int .i64 0, .int .i64 0, .bool false]) 3 24 := elem_mk Try.underlying50 (by kernel_rfl) rfl (by decide)
set_option maxHeartbeats 1000000 in
set_option maxRecDepth 100000 in
theorem cloneT_any (A : Option Addr) (n c : Nat) (xs : List Value) (w : World) (hf : Flat w 3 A n xs) (h1 : ∀ x ∈ xs, x.oneCell' = true) (hn : n * 24 ≤ 140737488355328) (hA : A = none → n = 0) :
    Calls Try.prog 77 #[.slice A n c] w fun e w' => ∃ v, e = .returned v ∧ w'.ownsRow w.heap.size 66 3 v n xs ∧ Below w.heap.size w w' := by
  have HF := Lib.hid hf
  have H1 := Lib.hid h1
  clear hf h1
  have heq := fun (W : World) (a : Option Addr) (l c : Nat) => Lib.run_eql_slice_nil (P := Try.prog) W 50 66 a l c 0 0 Try.underlying50
  cases A with
  | none =>
    obtain rfl : n = 0 := hA rfl
    have hx : xs = [] := List.eq_nil_of_length_eq_zero (by have := HF.out.1; simpa using this)
    have Hx := Lib.hid hx
    clear hx HF H1
    go_enter Try.func77, Try.ntmps77
    go_wp2_with fail
    go_ret
    exact ⟨_, rfl, by rw [Hx.out]; exact World.ownsRow_nil _ _ _ _, Below.refl _ _⟩
  | some a =>
    clear hA
    have M0 : Hid ((w.alloc (.cells #[] 66)).ownsRow w.heap.size 66 3 (.slice (some ⟨w.heap.size, 0, none⟩) 0 0) 0 []) := Lib.hid (World.ownsRow_made w #[] 0 (Nat.le_refl _) (by simp [maxLen]) (by simp))
    go_enter Try.func77, Try.ntmps77
    go_wp2_with (at_builtin; go_must (refine wpList_app rfl (.tmp 5) (.tmp 6) rfl elemT w.heap.size _ 0 [] rfl M0.out (some a) n c xs rfl (HF.out.kept ((Below.refl _ _).alloc (Nat.le_refl _) _)) H1.out (by simp only [maxLen]; omega) (by omega) (by simp) ?_); intro v1 w1 hown1 hg1)
    have hb1 := ((Below.refl w.heap.size w).alloc (Nat.le_refl _) _).grown hg1 (by simp) (own_from M0.out)
    go_wp2_with fail
    go_ret
    exact ⟨_, rfl, by simpa using hown1, hb1⟩
end Go.Proofs.Ytadjimfkfmojkaa

end
section
namespace Go.Proofs.Ytadjimfkfmojkaa.Am
open Go.RowKit
set_option linter.unusedVariables false
theorem below_ext {w w' : World} {σ : Sig} {T : Nat → Prop} (h : Below w.heap.size w w') (hfr : ∀ c, σ.fr c → c < w.heap.size) : Ext w σ T w' σ T :=
  ⟨h.os, h.tape, h.output, h.size, fun c hc _ => h.block c hc, fun c cs e hc => ⟨cs, by rw [h.block c (Array.getElem?_eq_some_iff.1 hc).1]; exact hc, rfl⟩, fun _ _ h => h, rfl, fun c hc => h.block c (hfr c hc), fun _ h => .inl h⟩
theorem below_rel {w w' : World} {σ : Sig} {H : Heap} (hW : WRel w σ H) (h : Below w.heap.size w w') : WRel w' σ H :=
  ⟨hW.named, fun b pl hb => Nat.lt_of_lt_of_le (hW.lt b pl hb) h.size, fun b x hb => by
    obtain ⟨pl, cs, e, h1, h2⟩ := hW.live b x hb
    exact ⟨pl, cs, e, h1, h2.mono (below_ext h fun c hc => (hW.apart c hc).1) (h.block _ (hW.lt b pl h1))⟩, fun c hc => ⟨Nat.lt_of_lt_of_le (hW.apart c hc).1 h.size, (hW.apart c hc).2⟩, hW.inj⟩
/-- a block that the call has made becomes one of the abstract heap -/
theorem below_new {w w' : World} {σ : Sig} {H : Heap} {b g : Nat} (hW : WRel w σ H) (hbl : Below w.heap.size w w') (hb : σ b = none) (hlt : b < H.next) (hg : w.heap.size ≤ g) {x : Blk} {cs : Array Value} {e : TypeId} (hgb : w'.heap[g]? = some (.cells cs e (0, 0)))
    (even : ∀ (i : Nat) (r : List AV), x.rows[i]? = some r → r.length = x.size) (room : x.rows.length * x.size ≤ cs.size)
    (rep : ∀ (i : Nat) (r : List AV) (j : Nat) (a : AV) (u : Value), x.rows[i]? = some r → r[j]? = some a → cs[i * x.size + j]? = some u → Rep w σ (Own σ H) a u) :
    WRel w' (σ.set b ⟨g, 0, x.size⟩) (H.new b x) ∧ Ext w σ (Own σ H) w' (σ.set b ⟨g, 0, x.size⟩) (Own (σ.set b ⟨g, 0, x.size⟩) (H.new b x)) := by
  have hnone : H.get b = none := by
    cases hg : H.get b with
    | none => rfl
    | some y => obtain ⟨pl, _, _, h1, _⟩ := hW.live b y hg; rw [hb] at h1; cases h1
  have hgl : g < w'.heap.size := (Array.getElem?_eq_some_iff.1 hgb).1
  have ext : Ext w σ (Own σ H) w' (σ.set b ⟨g, 0, x.size⟩) (Own (σ.set b ⟨g, 0, x.size⟩) (H.new b x)) := by
    refine ⟨hbl.os, hbl.tape, hbl.output, hbl.size, fun c hc _ => hbl.block c hc, fun c cs' e' hc => ⟨cs', by rw [hbl.block c (Array.getElem?_eq_some_iff.1 hc).1]; exact hc, rfl⟩, fun c q hq => Sig.set_old hb hq, rfl, fun c hc => hbl.block c (hW.apart c hc).1, ?_⟩
    rintro c (hfr | ⟨b', y, pl, h1, h2, h3⟩)
    · exact .inl (.inl hfr)
    rw [Heap.get_new] at h1
    by_cases hbb : b = b'
    · subst hbb
      rw [Sig.set_eq] at h2
      cases h2
      exact .inr (by simp only [] at h3; omega)
    · rw [if_neg hbb] at h1
      rw [Sig.set_ne _ _ hbb] at h2
      exact .inl (.inr ⟨b', y, pl, h1, h2, h3⟩)
  refine ⟨⟨?_, ?_, ?_, ?_, ?_⟩, ext⟩
  · intro c pl hc
    by_cases hbc : b = c
    · subst hbc; exact hlt
    · rw [Sig.set_ne _ _ hbc] at hc; exact hW.named c pl hc
  · intro c pl hc
    by_cases hbc : b = c
    · subst hbc; rw [Sig.set_eq] at hc; cases hc; exact hgl
    · rw [Sig.set_ne _ _ hbc] at hc; exact Nat.lt_of_lt_of_le (hW.lt c pl hc) hbl.size
  · intro c y hy
    rw [Heap.get_new] at hy
    by_cases hbc : b = c
    · subst hbc
      rw [if_pos rfl] at hy
      cases hy
      exact ⟨_, cs, e, Sig.set_eq _ _ _, ⟨rfl, hgb, even, by simpa using room, fun i r j a u h1 h2 h3 => (rep i r j a u h1 h2 (by simpa using h3)).mono ext⟩⟩
    · rw [if_neg hbc] at hy
      obtain ⟨pl, cs', e', h1, h2⟩ := hW.live c y hy
      exact ⟨pl, cs', e', by rw [Sig.set_ne _ _ hbc]; exact h1, h2.mono ext (hbl.block _ (hW.lt c pl h1))⟩
  · intro c hc
    refine ⟨Nat.lt_of_lt_of_le (hW.apart c hc).1 hbl.size, ?_⟩
    rintro ⟨b', y, pl, h1, h2, h3⟩
    rw [Heap.get_new] at h1
    by_cases hbb : b = b'
    · subst hbb
      rw [Sig.set_eq] at h2
      cases h2
      have := (hW.apart c hc).1
      simp only [] at h3; omega
    · rw [if_neg hbb] at h1
      rw [Sig.set_ne _ _ hbb] at h2
      exact (hW.apart c hc).2 ⟨b', y, pl, h1, h2, h3⟩
  · intro c c' y y' pl pl' h1 h2 h3 h4 h5
    rw [Heap.get_new] at h1 h2
    by_cases hbc : b = c
    · by_cases hbc' : b = c'
      · exact hbc.symm.trans hbc'
      · subst hbc
        rw [Sig.set_eq] at h3; cases h3
        rw [Sig.set_ne _ _ hbc'] at h4
        have := hW.lt c' pl' h4
        simp only [] at h5; omega
    · by_cases hbc' : b = c'
      · subst hbc'
        rw [Sig.set_eq] at h4; cases h4
        rw [Sig.set_ne _ _ hbc] at h3
        have := hW.lt c pl h3
        simp only [] at h5; omega
      · rw [if_neg hbc] at h1
        rw [if_neg hbc'] at h2
        rw [Sig.set_ne _ _ hbc] at h3
        rw [Sig.set_ne _ _ hbc'] at h4
        exact hW.inj c c' y y' pl pl' h1 h2 h3 h4 h5
theorem reps1 {w : World} {σ : Sig} {T : Nat → Prop} {a : AV} {vs : List Value} (h : Reps w σ T [a] vs) : ∃ v, vs = [v] ∧ Rep w σ T a v := by
  match vs, h with
  | [v], h => exact ⟨v, rfl, h.2 0 a v rfl rfl⟩
  | [], h => exact absurd h.1 (by simp)
  | _ :: _ :: _, h => exact absurd h.1 (by simp)
section
variable {P : Program} {f : FuncId} {e : TypeId} {size bytes : Nat}
/-- what slices.Clone does in the model -/
def ClonesM (P : Program) (f : FuncId) (e : TypeId) (size bytes : Nat) : Prop := ∀ (A : Option Addr) (n c : Nat) (xs : List Value) (w : World), Go.Proofs.Ytadjimfkfmojkaa.Flat w size A n xs → (∀ x ∈ xs, x.oneCell' = true) → n * bytes ≤ 140737488355328 → (A = none → n = 0) →
  Calls P f #[.slice A n c] w fun e' w' => ∃ v, e' = .returned v ∧ w'.ownsRow w.heap.size e size v n xs ∧ Below w.heap.size w w'
theorem clone_full (hcl : ClonesM P f e size bytes) (hbody : ∃ fn c, P.funcs[f]? = some fn ∧ fn.body = some c) (rows : List (List AV)) (hne : rows ≠ []) (hone : (rows.all fun r => r.all AV.one) = true) (hev : ∀ r ∈ rows, r.length = size) (hbig : rows.length * bytes ≤ 140737488355328) :
    CallA P f [.lst rows] [] fun v L => ∃ b, v = .sl b 0 rows.length ∧ L = [(b, ⟨size, rows⟩)] := by
  have hsz : ∀ (i : Nat) (r : List AV), rows[i]? = some r → r.length = size := fun i r hr => hev r (List.mem_of_getElem? hr)
  refine ⟨hbody, fun H hb hs => ⟨.sl H.next 0 rows.length, ({ H with next := H.next + 1 } : Heap).new H.next ⟨size, rows⟩, [(H.next, ⟨size, rows⟩)], ?_, ?_, H.next, rfl, rfl⟩⟩
  · intro w σ vs hW hvs
    obtain ⟨v, rfl, hv⟩ := reps1 hvs
    obtain ⟨A, cap, rfl, hn, hm, ha⟩ := hv.lst_inv
    obtain ⟨b, o, sz, rfl, hl, hrep⟩ := ha hne
    have hl0 : 0 < rows.length := List.length_pos_iff.2 hne
    obtain rfl : size = sz := by
      rw [← hl.even 0 rows[0] (List.getElem?_eq_getElem hl0)]
      exact (hsz 0 rows[0] (List.getElem?_eq_getElem hl0)).symm
    have hdm : ∀ p, p < rows.length * size → p / size < rows.length ∧ p % size < size ∧ p = p / size * size + p % size := fun p hp =>
      ⟨(Nat.div_lt_iff_lt_mul hl.pos).2 hp, Nat.mod_lt _ hl.pos, by rw [Nat.mul_comm]; exact (Nat.div_add_mod _ _).symm⟩
    let xs : List Value := (List.range (rows.length * size)).map fun p => (w.cell? ⟨b, o + p, none⟩).getD undef
    have hxl : xs.length = rows.length * size := by simp [xs]
    have hcell : ∀ p u, xs[p]? = some u → w.cell? ⟨b, o + p, none⟩ = some u := fun p u hu => by
      have hp : p < rows.length * size := by rw [← hxl]; exact lt_of_some hu
      simp only [xs, List.getElem?_map, List.getElem?_range hp, Option.map_some, Option.some.injEq] at hu
      obtain ⟨d1, d2, d3⟩ := hdm p hp
      obtain ⟨q, hq⟩ := hl.cell (p / size) (p % size) d1 d2
      rw [Nat.add_assoc, ← d3] at hq
      rw [hq] at hu ⊢
      simp only [Option.getD_some] at hu
      rw [hu]
    have hrp : ∀ (i : Nat) (r : List AV) (j : Nat) (a : AV) (u : Value), rows[i]? = some r → r[j]? = some a → xs[i * size + j]? = some u → Rep w σ (Own σ H) a u := fun i r j a u h1 h2 h3 => hrep i r j a u h1 h2 (by rw [Nat.add_assoc]; exact hcell _ u h3)
    have hone' : ∀ x ∈ xs, x.oneCell' = true := fun x hx => by
      obtain ⟨p, hp, rfl⟩ := List.getElem_of_mem hx
      have hp' : p < rows.length * size := by omega
      obtain ⟨d1, d2, d3⟩ := hdm p hp'
      have hr : rows[p / size]? = some rows[p / size] := List.getElem?_eq_getElem d1
      have hj : p % size < rows[p / size].length := by rw [hsz _ _ hr]; exact d2
      have h1 := hrp (p / size) _ (p % size) _ xs[p] hr (List.getElem?_eq_getElem hj) (by rw [← d3]; exact List.getElem?_eq_getElem hp)
      exact h1.one (List.all_eq_true.1 (List.all_eq_true.1 hone _ (List.getElem_mem d1)) _ (List.getElem_mem hj))
    refine (hcl (some ⟨b, o, none⟩) rows.length cap xs w ⟨hxl, fun _ => ⟨b, o, rfl, hcell⟩⟩ hone' hbig (fun h => by cases h)).mono ?_
    rintro e' w' ⟨v', rfl, hown, hbl⟩
    rcases hown.2 with ⟨_, h0⟩ | ⟨g, cap', cur, rfl, hg, hgb, hnc, hcm, hcs, ht⟩
    · omega
    have hσ : σ H.next = none := by
      cases hq : σ H.next with
      | none => rfl
      | some pl => exact absurd (hW.named _ pl hq) (Nat.lt_irrefl _)
    have hW1 : WRel w σ { H with next := H.next + 1 } := hW.congr (fun _ => rfl) (Nat.le_succ _)
    have hOwn : Own σ ({ H with next := H.next + 1 } : Heap) = Own σ H := Own.congr fun _ => rfl
    have hle : rows.length * size ≤ cur.size := by rw [hcs]; exact Nat.mul_le_mul_right _ hnc
    obtain ⟨g1, g2⟩ := below_new (b := H.next) (g := g) (x := ⟨size, rows⟩) hW1 hbl hσ (Nat.lt_succ_self _) hg hgb hsz hle (fun i r j a u h1 h2 h3 => by
      rw [hOwn]
      refine hrp i r j a u h1 h2 ?_
      have hj : j < size := by rw [← hsz i r h1]; exact lt_of_some h2
      rw [← ht, List.getElem?_take_of_lt (lt_mul (lt_of_some h1) hj), Array.getElem?_toList]
      exact h3)
    refine ⟨_, _, rfl, ?_, g1, by rw [hOwn] at g2; exact g2, fun c pl hc => ?_⟩
    · refine Rep.sl H.next 0 rows.length ⟨g, 0, size⟩ ⟨g, 0, none⟩ cap' (Sig.set_eq _ _ _) hnc hcm fun _ => ⟨by simp, cur, e, hgb, by simp; omega⟩
    · by_cases hbc : H.next = c
      · subst hbc; exact .inr (Nat.le_refl _)
      · rw [Sig.set_ne _ _ hbc] at hc; exact .inl hc
  · refine ⟨Nat.le_succ _, fun c hc => ?_, ⟨by simp, fun p hp => ?_⟩, fun c x hc _ => ⟨?_, ?_⟩, fun c hc h0 => ?_, fun c hc hlt => ?_⟩
    · have hc : H.next + 1 ≤ c := hc
      rw [Heap.get_new, if_neg (by omega)]; exact hb c (by omega)
    · simp only [List.mem_singleton] at hp; subst hp; rw [Heap.get_new, if_pos rfl]
    · rw [Heap.get_new, if_neg]; exact hc
      rintro rfl; rw [hb _ (Nat.le_refl _)] at hc; cases hc
    · simp only [List.map_cons, List.map_nil, List.mem_singleton]; rintro rfl; rw [hb _ (Nat.le_refl _)] at hc; cases hc
    · rw [Heap.get_new, if_neg (by omega)]; exact h0
    · simp only [List.map_cons, List.map_nil, List.mem_singleton] at hc; omega
/-- of an empty list, as it reads -/
theorem clone_none (hcl : ClonesM P f e size bytes) (hbody : ∃ fn c, P.funcs[f]? = some fn ∧ fn.body = some c) : CallA P f [.lst []] [] fun v L => v = .lst [] ∧ L = [] := by
  refine ⟨hbody, fun H hb hs => ⟨.lst [], H, [], ?_, .refl hb hs, rfl, rfl⟩⟩
  intro w σ vs hW hvs
  obtain ⟨v, rfl, hv⟩ := reps1 hvs
  obtain ⟨A, cap, rfl, hn, hm, _⟩ := hv.lst_inv
  refine (hcl A 0 cap [] w ⟨by simp, by omega⟩ (by simp) (by omega) (fun _ => rfl)).mono ?_
  rintro e' w' ⟨v', rfl, hown, hbl⟩
  refine ⟨v', σ, rfl, ?_, below_rel hW hbl, below_ext hbl fun c hc => (hW.apart c hc).1, fun c pl hc => .inl hc⟩
  rcases hown.2 with ⟨rfl, _⟩ | ⟨g, cap', cur, rfl, hg, hgb, hnc, hcm, hcs, ht⟩
  · exact .lst0 _ _ (by unfold maxLen; omega)
  · exact .lst0 _ _ hcm
/-- of an empty list, with no room -/
theorem clone_zero (hcl : ∀ (A : Option Addr) (c : Nat) (w : World), Calls P f #[.slice A 0 c] w fun e' w' => ∃ B, e' = .returned (.slice B 0 0) ∧ Below w.heap.size w w') (hbody : ∃ fn c, P.funcs[f]? = some fn ∧ fn.body = some c) : CallA P f [.lst []] [] fun v L => v = .emp ∧ L = [] := by
  refine ⟨hbody, fun H hb hs => ⟨.emp, H, [], ?_, .refl hb hs, rfl, rfl⟩⟩
  intro w σ vs hW hvs
  obtain ⟨v, rfl, hv⟩ := reps1 hvs
  obtain ⟨A, cap, rfl, hn, hm, _⟩ := hv.lst_inv
  refine (hcl A cap w).mono ?_
  rintro e' w' ⟨B, rfl, hbl⟩
  exact ⟨_, σ, rfl, .emp B, below_rel hW hbl, below_ext hbl fun c hc => (hW.apart c hc).1, fun c pl hc => .inl hc⟩
end
end Go.Proofs.Ytadjimfkfmojkaa.Am

end
section
namespace Go.Proofs
open Go.Shelf
def Try.lays189_ren : Go.Shelf.Ren := ⟨fun | 189 => 40 | 125 => 66 | 257 => 65 | 128 => 90 | 129 => 91 | 294 => 81 | 295 => 82 | 296 => 83 | 297 => 84 | 298 => 85 | 299 => 86 | 216 => 87 | 300 => 88 | 301 => 89 | 328 => 94 | 329 => 95 | 330 => 96 | 331 => 97 | 332 => 98 | 215 => 99 | 343 => 100 | n => n, fun | 28 => 22 | 3 => 3 | 46 => 113 | 0 => 0 | 51 => 134 | 53 => 136 | 4 => 4 | 183 => 127 | 182 => 126 | 131 => 131 | 5 => 5 | 9 => 9 | 218 => 138 | 222 => 142 | 228 => 144 | 229 => 145 | n => n, fun | n => n⟩
theorem Try.lays189 : Go.Proofs.Lays.n189 Try.prog Try.lays189_ren := {
  mixed := by kernel_rfl
  f125 := Try.func66.trans (congrArg some (by kernel_rfl))
  f128 := Try.func90.trans (congrArg some (by kernel_rfl))
  f129 := Try.func91.trans (congrArg some (by kernel_rfl))
  f189 := Try.func40.trans (congrArg some (by kernel_rfl))
  f215 := Try.func99.trans (congrArg some (by kernel_rfl))
  f216 := Try.func87.trans (congrArg some (by kernel_rfl))
  f257 := Try.func65.trans (congrArg some (by kernel_rfl))
  f294 := Try.func81.trans (congrArg some (by kernel_rfl))
  f295 := Try.func82.trans (congrArg some (by kernel_rfl))
  f296 := Try.func83.trans (congrArg some (by kernel_rfl))
  f297 := Try.func84.trans (congrArg some (by kernel_rfl))
  f298 := Try.func85.trans (congrArg some (by kernel_rfl))
  f299 := Try.func86.trans (congrArg some (by kernel_rfl))
  f300 := Try.func88.trans (congrArg some (by kernel_rfl))
  f301 := Try.func89.trans (congrArg some (by kernel_rfl))
  f328 := Try.func94.trans (congrArg some (by kernel_rfl))
  f329 := Try.func95.trans (congrArg some (by kernel_rfl))
  f330 := Try.func96.trans (congrArg some (by kernel_rfl))
  f331 := Try.func97.trans (congrArg some (by kernel_rfl))
  f332 := Try.func98.trans (congrArg some (by kernel_rfl))
  f343 := Try.func100.trans (congrArg some (by kernel_rfl))
  t0 := Try.underlying0
  a0 := Try.isAgg0
  z0 := Try.sizeOf0
  v0 := Try.zeroValue0
  t3 := Try.underlying3
  a3 := Try.isAgg3
  z3 := Try.sizeOf3
  v3 := Try.zeroValue3
  t4 := Try.underlying4
  a4 := Try.isAgg4
  z4 := Try.sizeOf4
  v4 := Try.zeroValue4
  t5 := Try.underlying5
  a5 := Try.isAgg5
  z5 := Try.sizeOf5
  v5 := Try.zeroValue5
  t9 := Try.underlying9
  a9 := Try.isAgg9
  z9 := Try.sizeOf9
  v9 := Try.zeroValue9
  t28 := Try.underlying22
  a28 := Try.isAgg22
  z28 := Try.sizeOf22
  v28 := Try.zeroValue22
  t46 := Try.underlying113
  a46 := Try.isAgg113
  z46 := Try.sizeOf113
  v46 := Try.zeroValue113
  t51 := Try.underlying134
  a51 := Try.isAgg134
  z51 := Try.sizeOf134
  v51 := Try.zeroValue134
  t53 := Try.underlying136
  a53 := Try.isAgg136
  z53 := Try.sizeOf136
  v53 := Try.zeroValue136
  t131 := Try.underlying131
  a131 := Try.isAgg131
  z131 := Try.sizeOf131
  v131 := Try.zeroValue131
  t182 := Try.underlying126
  a182 := Try.isAgg126
  z182 := Try.sizeOf126
  v182 := Try.zeroValue126
  t183 := Try.underlying127
  a183 := Try.isAgg127
  z183 := Try.sizeOf127
  v183 := Try.zeroValue127
  t218 := Try.underlying138
  a218 := Try.isAgg138
  z218 := Try.sizeOf138
  v218 := Try.zeroValue138
  t222 := Try.underlying142
  a222 := Try.isAgg142
  z222 := Try.sizeOf142
  v222 := Try.zeroValue142
  t228 := Try.underlying144
  a228 := Try.isAgg144
  z228 := Try.sizeOf144
  v228 := Try.zeroValue144
  t229 := Try.underlying145
  a229 := Try.isAgg145
  z229 := Try.sizeOf145
  v229 := Try.zeroValue145 }
open Go.Sort Go.RowKit in
theorem Try.slices_Sort_int (blk off cap : Nat) (zs : List Int) (w : World) (hH : Holds (Value.int .i64) w blk off zs.toArray) (hblk : blk < w.heap.size) (hsz : zs.length < 4611686018427387904) :
    Calls Try.prog 40 #[.slice (some ⟨blk, off, none⟩) zs.length cap] w fun e w' =>
      e = .returned (.tuple #[]) ∧ ∃ n os, w' = grow (putRow (Value.int .i64) (Sort.ahead w n) blk off (zs.mergeSort fun x y => decide (x ≤ y)).toArray) os := Any.slices_Sort_int Try.lays189 blk off cap zs w hH hblk hsz
def Try.laysNm220_ren : Go.Shelf.Ren := ⟨fun | 20 => 41 | n => n, fun | 22 => 22 | 3 => 3 | 4 => 4 | 0 => 0 | n => n, fun | n => n⟩
theorem Try.laysNm220 : Go.Proofs.Lays2.n20 Try.prog Try.laysNm220_ren := {
  mixed := by kernel_rfl
  f20 := Try.func41.trans (congrArg some (by kernel_rfl))
  t0 := Try.underlying0
  a0 := Try.isAgg0
  z0 := Try.sizeOf0
  v0 := Try.zeroValue0
  t3 := Try.underlying3
  a3 := Try.isAgg3
  z3 := Try.sizeOf3
  v3 := Try.zeroValue3
  t4 := Try.underlying4
  a4 := Try.isAgg4
  z4 := Try.sizeOf4
  v4 := Try.zeroValue4
  t22 := Try.underlying22
  a22 := Try.isAgg22
  z22 := Try.sizeOf22
  v22 := Try.zeroValue22
  i3 := by kernel_rfl }
open Go.RowKit Go.Lib Go.Sort in
/-- slices.Compact at []int: "Compact replaces consecutive runs of equal elements with a single copy. This is like the uniq command found on Unix. Compact modifies the contents of the slice s and returns the modified slice, which may have a smaller length. Compact zeroes the elements between the new length and the original length. The result preserves the nilness of s.": IT RETURNS THE SLICE CUT TO 'Lib.compact zs'; ITS CELLS HOLD 'Lib.compact zs', THEN ZERO VALUES up to the old length; all else is as it was, but for the count of draws. IN THE WORDS OF slices.Sort's CONTRACT ('Holds', 'putRow'): so the everyday 'slices.Sort(xs); xs = slices.Compact(xs)' goes from the one contract to the other. It asks 'zs.length ≤ cap' (every slice's: the reslicing 's[:k]' looks at it). Length 0, nil: '.._empty'. (LAID: no walk: one application.) -/
theorem Try.slices_Compact_int (blk off cap : Nat) (zs : List Int) (w : World) (hH : Holds (Value.int .i64) w blk off zs.toArray) (hsz : zs.length ≤ 9223372036854775807) (hcap : zs.length ≤ cap) :
    Calls Try.prog 41 #[.slice (some ⟨blk, off, none⟩) zs.length cap] w fun e w' => e = .returned (.slice (some ⟨blk, off, none⟩) (Lib.compact zs).length cap) ∧ ∃ q, w' = putRow (Value.int .i64) (Sort.ahead w q) blk off (Lib.compact zs ++ List.replicate (zs.length - (Lib.compact zs).length) 0).toArray := Any.slices_Compact_int Try.laysNm220 blk off cap zs w hH hsz hcap
open Go.RowKit Go.Lib Go.Sort in
/-- The same at a slice of length 0, a nil one too: it comes back as it is. (LAID: no walk: one application.) -/
theorem Try.slices_Compact_int_empty (a : Option Addr) (cap : Nat) (w : World) :
    Calls Try.prog 41 #[.slice a 0 cap] w fun e w' => e = .returned (.slice a 0 cap) ∧ w' = w := Any.slices_Compact_int_empty Try.laysNm220 a cap w
open Go.RowKit Go.Sort in
/-- .. and plain. (LAID: no walk: one application.) -/
theorem Try.slices_Sort_int_none (p : Option Addr) (cap : Nat) (w : World) :
    Calls Try.prog 40 #[.slice p 0 cap] w fun e w' => e = .returned (.tuple #[]) ∧ w' = w := Any.slices_Sort_int_none Try.lays189 p cap w
end Go.Proofs

end
section
namespace Go.Proofs.Ytadjimfkfmojkaa
open Go.ChangeShapes Go.WideShapes Go.ChangeAt Go.RowKit
set_option linter.unusedVariables false
set_option maxRecDepth 100000
theorem append_zero (t ty e : TypeId) (P : Program) (w : World) (ht : P.underlying t = some (.slice e)) (hi : ∃ i, P.info? e = some i) (A B : Option Addr) (c : Nat) : (Builtin.append_ #[t, t] ty #[.slice A 0 0, .slice B 0 c]).run P w = .ok (.slice A 0 0) w := by
  obtain ⟨i, hi⟩ := hi
  cases A <;> cases B <;> simp [Builtin.append_, run_underlying ht, sizeOf, typeInfo, hi, Builtin.lenOf, Builtin.firstCells, loadCells, loadCellsFrom, storeCells]
theorem cloneI_zero (A : Option Addr) (c : Nat) (w : World) : Calls Try.prog 68 #[.slice A 0 c] w fun e w' => ∃ B, e = .returned (.slice B 0 0) ∧ Below w.heap.size w w' := by
  have heq := fun (W : World) (a : Option Addr) (l c : Nat) => Lib.run_eql_slice_nil (P := Try.prog) W 22 3 a l c 0 0 Try.underlying22
  cases A with
  | none =>
    go_enter Try.func68, Try.ntmps68
    go_wp2_with fail
    go_ret
    exact ⟨_, rfl, Below.refl _ _⟩
  | some a =>
    have hinf : ∃ i, Try.prog.info? 3 = some i := Option.isSome_iff_exists.1 (show (Try.prog.info? 3).isSome = true by kernel_rfl)
    have happ := fun (W : World) (ty : TypeId) (A B : Option Addr) => append_zero 22 ty 3 Try.prog W Try.underlying22 hinf A B c
    go_enter Try.func68, Try.ntmps68
    go_wp2_with fail
    go_ret
    exact ⟨_, rfl, (Below.refl _ _).alloc (Nat.le_refl _) _⟩
end Go.Proofs.Ytadjimfkfmojkaa

end
section
namespace Go.Proofs.Ytadjimfkfmojkaa.Am
open Go.RowKit Go.Sort
set_option linter.unusedVariables false
def srt (l : List Int) : List Int := l.mergeSort fun x y => decide (x ≤ y)
theorem srt_len (l : List Int) : (srt l).length = l.length := by simp [srt]
theorem map_rows {xs : List Int} {i : Nat} {r : List AV} (h : (xs.map intE)[i]? = some r) : ∃ x, xs[i]? = some x ∧ r = [.int .i64 x] := by
  rw [List.getElem?_map] at h
  cases hx : xs[i]? with
  | none => rw [hx] at h; cases h
  | some x => rw [hx] at h; cases h; exact ⟨x, rfl, rfl⟩
/-- a function that writes the numbers of a slice anew -/
theorem row_conv {P : Program} {f : FuncId} (hbody : ∃ fn c, P.funcs[f]? = some fn ∧ fn.body = some c) (b : Nat) (xs ys : List Int) (hlen : ys.length = xs.length) (v : AV) (ret : Addr → Nat → Value)
    (hrep : ∀ (w' : World) (σ : Sig) (T : Nat → Prop) (pl : Place) (a : Addr) (cap : Nat), σ b = some pl → xs.length ≤ cap → cap ≤ maxLen → (0 < cap → a = ⟨pl.block, pl.base + 0 * pl.size, none⟩ ∧ ∃ cs e, w'.heap[pl.block]? = some (.cells cs e (0, 0)) ∧ pl.base + (0 + cap) * pl.size ≤ cs.size) → Rep w' σ T v (ret a cap))
    (hpos : ∀ (blk off cap : Nat) (w : World), Holds (Value.int .i64) w blk off xs.toArray → blk < w.heap.size → xs.length ≤ cap → Calls P f #[.slice (some ⟨blk, off, none⟩) xs.length cap] w fun e w' => e = .returned (ret ⟨blk, off, none⟩ cap) ∧ ∃ n os, w' = grow (putRow (Value.int .i64) (Sort.ahead w n) blk off ys.toArray) os)
    (hzero : xs.length = 0 → ∀ (a : Addr) (cap : Nat) (w : World), Calls P f #[.slice (some a) 0 cap] w fun e w' => e = .returned (ret a cap) ∧ w' = w) :
    CallA P f [.sl b 0 xs.length] [(b, ⟨1, xs.map intE⟩)] fun u L => u = v ∧ L = [(b, ⟨1, ys.map intE⟩)] := by
  refine ⟨hbody, fun H hb hs => ⟨v, H.put b (some ⟨1, ys.map intE⟩), [(b, ⟨1, ys.map intE⟩)], ?_, ?_, rfl, rfl⟩⟩
  · intro w σ vs hW hvs
    obtain ⟨v, rfl, hv⟩ := reps1 hvs
    obtain ⟨pl, a, cap, rfl, hsg, hnc, hmx, ha⟩ := hv.sl_inv
    have hg : H.get b = some ⟨1, xs.map intE⟩ := hs.get (b, ⟨1, xs.map intE⟩) (by simp)
    obtain ⟨pl', cs, e, g1, g2⟩ := hW.live b _ hg
    rw [hsg] at g1
    cases g1
    have hsz : pl.size = 1 := g2.size
    rcases Nat.eq_zero_or_pos xs.length with h0 | h0
    · have hx : xs = [] := List.length_eq_zero_iff.1 h0
      have hy : ys = [] := List.length_eq_zero_iff.1 (by omega)
      have hz := hzero h0 a cap w
      rw [h0]
      refine hz.mono ?_
      rintro e' w' ⟨rfl, rfl⟩
      have hput := hW.put hg hsg (Wrote.refl g2.block) (x' := ⟨1, ys.map intE⟩) g2.size.symm (by simp [hy]) (by simpa [hy, hx] using g2.room) (by simp [hy])
      exact ⟨_, σ, rfl, hrep _ _ _ pl a cap hsg hnc hmx ha, hput.1, hput.2, fun c pl hc => .inl hc⟩
    · have ha' := ha
      obtain ⟨rfl, cs', te, hcs', hroom⟩ := ha (by omega)
      rw [g2.block] at hcs'
      cases hcs'
      have hr := g2.room
      simp only [List.length_map, Nat.mul_one] at hr
      have hcell : ∀ (i : Nat) (x : Int), xs[i]? = some x → cs[pl.base + i]? = some (.int .i64 x) := fun i x hx => by
        have hi := lt_of_some hx
        have hi' : pl.base + i < cs.size := by omega
        have := g2.rep i [.int .i64 x] 0 (.int .i64 x) cs[pl.base + i] (by simp [hx, intE]) rfl (by simp [Array.getElem?_eq_getElem hi'])
        cases hq : cs[pl.base + i] with
        | _ => rw [hq] at this; cases this <;> rw [Array.getElem?_eq_getElem hi', hq]
      have hH : Holds (Value.int .i64) w pl.block (pl.base + 0 * pl.size) xs.toArray := fun j hj => by
        have hj' : j < xs.length := by simpa using hj
        refine ⟨?_, by simp [World.frozen?, g2.block]⟩
        have := hcell j xs[j] (List.getElem?_eq_getElem hj')
        simp [World.cell?, g2.block, this, hj']
      refine (hpos pl.block (pl.base + 0 * pl.size) cap w hH (hW.lt b pl hsg) hnc).mono ?_
      rintro e' w' ⟨rfl, n, os, rfl⟩
      have hz : pl.base + 0 * pl.size = pl.base := by omega
      rw [show putRow (Value.int .i64) (Sort.ahead w n) pl.block (pl.base + 0 * pl.size) ys.toArray = putRow (Value.int .i64) (Sort.ahead w n) pl.block pl.base ys.toArray by rw [hz]]
      have hw : Wrote w (putRow (Value.int .i64) (Sort.ahead w n) pl.block pl.base ys.toArray) pl.block cs (putCells (Value.int .i64) pl.base ys.toArray cs) e :=
        ⟨rfl, rfl, rfl, by simp [Sort.ahead], g2.block, by simp [putRow, mapBlock, Sort.ahead, Array.getElem?_modify, g2.block, onCells], by simp [putCells], fun d hd => by
          have : pl.block ≠ d := fun e => hd e.symm
          simp [putRow, mapBlock, Sort.ahead, Array.getElem?_modify, this]⟩
      obtain ⟨p1, p2⟩ := hW.put hg hsg hw (x' := ⟨1, ys.map intE⟩) g2.size.symm (fun i r hr => by obtain ⟨x, _, rfl⟩ := map_rows hr; rfl) (by simp only [List.length_map, Nat.mul_one]; omega) (fun i r j a u hr hj hu => by
        obtain ⟨x, hx, rfl⟩ := map_rows hr
        match j, hj with
        | 0, hj =>
          cases hj
          have hi := lt_of_some hx
          have hi' : pl.base + i < cs.size := by omega
          simp only [Nat.mul_one, Nat.add_zero] at hu
          have : (putCells (Value.int .i64) pl.base ys.toArray cs)[pl.base + i]? = some (.int .i64 x) := by
            have hx' : ys[i] = x := by rw [List.getElem?_eq_getElem hi] at hx; exact Option.some.inj hx
            simp [putCells, hi', hi, hx']
          rw [this] at hu
          cases hu
          exact .int _ _
        | j + 1, hj => simp at hj)
      generalize hw1 : putRow (Value.int .i64) (Sort.ahead w n) pl.block pl.base ys.toArray = w1 at p1 p2
      have hbl : Below w1.heap.size w1 (grow w1 os) := ⟨rfl, rfl, rfl, by simp [grow], fun k hk => heap_grow_old _ _ hk⟩
      have hE := p2.trans (below_ext hbl fun c hc => (p1.apart c hc).1)
      exact ⟨_, σ, rfl, hrep _ _ _ pl _ cap hsg hnc hmx (fun h => ⟨rfl, by obtain ⟨cs2, k1, k2⟩ := hE.shape _ _ _ g2.block; exact ⟨cs2, _, k1, by omega⟩⟩), below_rel p1 hbl, p2.trans (below_ext hbl fun c hc => (p1.apart c hc).1), fun c pl hc => .inl hc⟩
  · have hg : H.get b = some ⟨1, xs.map intE⟩ := hs.get (b, ⟨1, xs.map intE⟩) (by simp)
    refine ⟨Nat.le_refl _, fun c hc => ?_, ⟨by simp, fun p hp => ?_⟩, fun c x hc hn => ⟨?_, ?_⟩, fun c hc h0 => ?_, fun c hc hlt => ?_⟩
    · rw [Heap.get_put, if_neg]; exact hb c hc
      rintro rfl; rw [hb _ hc] at hg; cases hg
    · simp only [List.mem_singleton] at hp; subst hp; rw [Heap.get_put, if_pos rfl]
    · rw [Heap.get_put, if_neg]; exact hc
      rintro rfl; exact hn (by simp)
    · simpa using hn
    · rw [Heap.get_put, if_neg]; exact h0
      rintro rfl; rw [hg] at h0; cases h0
    · simpa using hc
theorem sort_ok (b : Nat) (xs : List Int) (hl : xs.length < 4611686018427387904) : CallA Try.prog 40 [.sl b 0 xs.length] [(b, ⟨1, xs.map intE⟩)] fun v L => v = .tup [] ∧ L = [(b, ⟨1, (srt xs).map intE⟩)] :=
  row_conv ⟨_, _, Try.func40, rfl⟩ b xs (srt xs) (srt_len xs) (.tup []) (fun _ _ => .tuple #[]) (fun _ _ _ _ _ _ _ _ _ _ => .tup [] [] rfl (by simp))
    (fun blk off cap w hH hblk _ => Try.slices_Sort_int blk off cap xs w hH hblk hl) (fun _ a cap w => Try.slices_Sort_int_none (some a) cap w)
theorem compact_len (l : List Int) : (Lib.compact l).length ≤ l.length := by
  unfold Lib.compact Lib.compactUpTo
  rw [List.length_map]
  exact Nat.le_trans (List.length_filter_le _ _) (by simp)
theorem compact_ok (b : Nat) (xs : List Int) (hl : xs.length ≤ 9223372036854775807) : CallA Try.prog 41 [.sl b 0 xs.length] [(b, ⟨1, xs.map intE⟩)] fun v L => v = .sl b 0 (Lib.compact xs).length ∧ L = [(b, ⟨1, (Lib.compact xs ++ List.replicate (xs.length - (Lib.compact xs).length) 0).map intE⟩)] :=
  row_conv ⟨_, _, Try.func41, rfl⟩ b xs _ (by have := compact_len xs; simp; omega) (.sl b 0 (Lib.compact xs).length) (fun a cap => .slice (some a) (Lib.compact xs).length cap)
    (fun w' σ T pl a cap h1 h2 h3 h4 => .sl b 0 _ pl a cap h1 (Nat.le_trans (compact_len xs) h2) h3 h4)
    (fun blk off cap w hH hblk hcap => (Try.slices_Compact_int blk off cap xs w hH hl hcap).mono fun e w' ⟨h1, q, h2⟩ => ⟨h1, q, #[], by rw [h2, grow_empty]⟩)
    (fun h0 a cap w => by
      have hx : xs = [] := List.length_eq_zero_iff.1 h0
      subst hx
      exact Try.slices_Compact_int_empty (some a) cap w)
/-- Clone of a list of numbers: in a block of its own -/
theorem cloneI_ok (xs : List Int) (hl : xs.length * 8 ≤ 140737488355328) : CallA Try.prog 68 [.lst (xs.map intE)] [] fun v L => ∃ o, v = slotV o xs.length ∧ L = slotB o 1 (xs.map intE) ∧ (o = none → xs = []) := by
  rcases List.eq_nil_or_concat xs with rfl | ⟨ys, y, hxs⟩
  · exact (clone_zero cloneI_zero ⟨_, _, Try.func68, rfl⟩).mono fun v L ⟨h1, h2⟩ => ⟨none, h1, h2, fun _ => rfl⟩
  · have hne : xs.map intE ≠ [] := by rw [hxs]; simp
    refine (clone_full (fun A n c xs w hf h1 hn hA => cloneI_any A n c xs w hf h1 hn hA) ⟨_, _, Try.func68, rfl⟩ (xs.map intE) hne (by simp [intE, AV.one]) (fun r hr => by obtain ⟨x, _, rfl⟩ := List.mem_map.1 hr; rfl) (by simpa using hl)).mono ?_
    rintro v L ⟨b, rfl, rfl⟩
    exact ⟨some b, by simp [slotV], rfl, fun h => by cases h⟩
/-- a slice in a block of its own; an empty one as it reads -/
def slotL : Option Nat → Nat → AV
  | none, _ => .lst []
  | some b, n => .sl b 0 n
theorem clone_any {P : Program} {f : FuncId} {e : TypeId} {size bytes : Nat} (hcl : ClonesM P f e size bytes) (hbody : ∃ fn c, P.funcs[f]? = some fn ∧ fn.body = some c) (rows : List (List AV)) (hone : (rows.all fun r => r.all AV.one) = true) (hev : ∀ r ∈ rows, r.length = size) (hbig : rows.length * bytes ≤ 140737488355328) :
    CallA P f [.lst rows] [] fun v L => ∃ o, v = slotL o rows.length ∧ L = slotB o size rows ∧ (o = none → rows = []) := by
  rcases List.eq_nil_or_concat rows with rfl | ⟨ys, y, hxs⟩
  · exact (clone_none hcl hbody).mono fun v L ⟨h1, h2⟩ => ⟨none, h1, h2, fun _ => rfl⟩
  · refine (clone_full hcl hbody rows (by rw [hxs]; simp) hone hev hbig).mono ?_
    rintro v L ⟨b, rfl, rfl⟩
    exact ⟨some b, rfl, rfl, fun h => by cases h⟩
theorem cloneB_ok (xs : List Bool) (hl : xs.length ≤ 140737488355328) : CallA Try.prog 76 [.lst (xs.map boolE)] [] fun v L => ∃ o, v = slotL o xs.length ∧ L = slotB o 1 (xs.map boolE) ∧ (o = none → xs = []) := by
  refine (clone_any (fun A n c xs w hf h1 hn hA => cloneB_any A n c xs w hf h1 hn hA) ⟨_, _, Try.func76, rfl⟩ (xs.map boolE) (by simp [boolE, AV.one]) (fun r hr => by obtain ⟨x, _, rfl⟩ := List.mem_map.1 hr; rfl) (by simpa using hl)).mono ?_
  rintro v L ⟨o, rfl, rfl, h⟩
  exact ⟨o, by simp, rfl, fun e => by simpa using h e⟩
theorem cloneT_ok (xs : List ThrD) (hl : xs.length * 24 ≤ 140737488355328) : CallA Try.prog 77 [.lst (xs.map ThrD.enc)] [] fun v L => ∃ o, v = slotL o xs.length ∧ L = slotB o 3 (xs.map ThrD.enc) ∧ (o = none → xs = []) := by
  refine (clone_any (fun A n c xs w hf h1 hn hA => cloneT_any A n c xs w hf h1 hn hA) ⟨_, _, Try.func77, rfl⟩ (xs.map ThrD.enc) (by simp [ThrD.enc, AV.one]) (fun r hr => by obtain ⟨x, _, rfl⟩ := List.mem_map.1 hr; rfl) (by simpa using hl)).mono ?_
  rintro v L ⟨o, rfl, rfl, h⟩
  exact ⟨o, by simp, rfl, fun e => by simpa using h e⟩
end Go.Proofs.Ytadjimfkfmojkaa.Am

end
section
namespace Go.Proofs.Ytadjimfkfmojkaa.Am
set_option linter.unusedVariables false
set_option maxRecDepth 100000
def ref07_Has_t : Hints := ⟨fun k => none, fun k => if k = 2 then [0, 1, 5] else [], fun k => [], fun k => []⟩
def ref07_Has_zt0 (vs_0 : List AV) (L_2 : SH) (Q : AV → SH → Prop) (nx_1 : W.Kn)  : Prop :=
 W.idx 1 (slotOf [0, 1, 5] vs_0 0) (slotOf [0, 1, 5] vs_0 5) L_2 fun t14_5 =>
 W.load false 1 t14_5 L_2 fun t15_6 =>
 W.bin Try.prog Fl .eql 3 t15_6 (slotOf [0, 1, 5] vs_0 1) fun t17_7 =>
 W.cond t17_7 (
 Q (.bool true) L_2) (
 W.bin Try.prog Fl .add 3 (slotOf [0, 1, 5] vs_0 5) (.int .i64 1) fun t11_8 =>
 nx_1 [(slotOf [0, 1, 5] vs_0 0), (slotOf [0, 1, 5] vs_0 1), t11_8] L_2)
def ref07_Has_l0 (Q : AV → SH → Prop) (vs_0 : List AV) (L_2 : SH) (nx_1 : W.Kn) : Prop :=
 W.len (slotOf [0, 1, 5] vs_0 0) fun t8_3 =>
 W.bin Try.prog Fl .lss 3 (slotOf [0, 1, 5] vs_0 5) t8_3 fun t9_4 =>
 W.cond t9_4 (
 (ref07_Has_zt0 vs_0 L_2 Q nx_1)) (
 Q (.bool false) L_2)
def ref07_Has_w (t0 t1 : AV) (L : SH) (Q : AV → SH → Prop) : Prop :=
 W.loop (ref07_Has_l0 Q) [t0, t1, (.int .i64 0)] L
theorem ref07_Has_e (t0 t1 : AV) (L : SH) (Q : AV → SH → Prop) : W.func Try.prog Fl ref07_Has_t Try.f15 (Try.f15.body.getD .skip) [t0, t1] L Q = ref07_Has_w t0 t1 L Q := by kernel_rfl
theorem ref07_Has_ok (t0 t1 : AV) (L : SH) (Q : AV → SH → Prop) (h : ref07_Has_w t0 t1 L Q) : CallA Try.prog 15 [t0, t1] L Q :=
  func_sound (ht := ref07_Has_t) fit Try.func15 (show Try.f15.body = some (Try.f15.body.getD .skip) by kernel_rfl) (Eq.mpr (ref07_Has_e t0 t1 L Q) h)

def ref07_SameInts_t : Hints := ⟨fun k => none, fun k => if k = 4 then [0, 1, 5] else [], fun k => [], fun k => if k = 6 then [0, 0, 3, 7, 0, 0, 48, 112, 255] else []⟩
def ref07_SameInts_zt0 (vs_3 : List AV) (L_5 : SH) (Q : AV → SH → Prop) (nx_4 : W.Kn)  : Prop :=
 (true = true) ∧ (
 W.calm [] ⟨2, (slOf (slotOf [0, 1, 5] vs_3 0)), [], [], false, []⟩ (
 W.idx 1 (slotOf [0, 1, 5] vs_3 0) (slotOf [0, 1, 5] vs_3 5) L_5 fun t19_8 =>
 W.note ⟨(slOf (slotOf [0, 1, 5] vs_3 0)), [], [], []⟩ fun r_9 =>
 W.calm [] ⟨3, (blocksOf t19_8), [], [], false, []⟩ (
 W.load false 1 t19_8 L_5 fun t20_10 =>
 W.note ⟨(blocksOf t19_8), [], [], []⟩ fun r_11 =>
 W.calm [⟨3, r_11.reads, r_11.writes, r_11.made, false, r_11.old⟩, ⟨2, r_9.reads, r_9.writes, r_9.made, false, r_9.old⟩] ⟨6, (slOf (slotOf [0, 1, 5] vs_3 1)), [], [], false, []⟩ (
 W.idx 1 (slotOf [0, 1, 5] vs_3 1) (slotOf [0, 1, 5] vs_3 5) L_5 fun t23_12 =>
 W.note ⟨(slOf (slotOf [0, 1, 5] vs_3 1)), [], [], []⟩ fun r_13 =>
 W.calm [⟨3, r_11.reads, r_11.writes, r_11.made, false, r_11.old⟩, ⟨2, r_9.reads, r_9.writes, r_9.made, false, r_9.old⟩] ⟨7, (blocksOf t23_12), [], [], false, []⟩ (
 W.load false 1 t23_12 L_5 fun t24_14 =>
 W.note ⟨(blocksOf t23_12), [], [], []⟩ fun r_15 =>
 W.bin Try.prog Fl .neq 3 t20_10 t24_14 fun t25_16 =>
 W.cond t25_16 (
 Q (.bool false) L_5) (
 W.bin Try.prog Fl .add 3 (slotOf [0, 1, 5] vs_3 5) (.int .i64 1) fun t16_17 =>
 nx_4 [(slotOf [0, 1, 5] vs_3 0), (slotOf [0, 1, 5] vs_3 1), t16_17] L_5))))))
def ref07_SameInts_l0 (Q : AV → SH → Prop) (vs_3 : List AV) (L_5 : SH) (nx_4 : W.Kn) : Prop :=
 W.len (slotOf [0, 1, 5] vs_3 0) fun t13_6 =>
 W.bin Try.prog Fl .lss 3 (slotOf [0, 1, 5] vs_3 5) t13_6 fun t14_7 =>
 W.cond t14_7 (
 (ref07_SameInts_zt0 vs_3 L_5 Q nx_4)) (
 Q (.bool true) L_5)
def ref07_SameInts_w (t0 t1 : AV) (L : SH) (Q : AV → SH → Prop) : Prop :=
 W.len t0 fun t7_0 =>
 W.len t1 fun t9_1 =>
 W.bin Try.prog Fl .neq 3 t7_0 t9_1 fun t10_2 =>
 W.cond t10_2 (
 Q (.bool false) L) (
 W.loop (ref07_SameInts_l0 Q) [t0, t1, (.int .i64 0)] L)
theorem ref07_SameInts_e (t0 t1 : AV) (L : SH) (Q : AV → SH → Prop) : W.func Try.prog Fl ref07_SameInts_t Try.f34 (Try.f34.body.getD .skip) [t0, t1] L Q = ref07_SameInts_w t0 t1 L Q := by kernel_rfl
theorem ref07_SameInts_ok (t0 t1 : AV) (L : SH) (Q : AV → SH → Prop) (h : ref07_SameInts_w t0 t1 L Q) : CallA Try.prog 34 [t0, t1] L Q :=
  func_sound (ht := ref07_SameInts_t) fit Try.func34 (show Try.f34.body = some (Try.f34.body.getD .skip) by kernel_rfl) (Eq.mpr (ref07_SameInts_e t0 t1 L Q) h)

def ref08_Same_t : Hints := ⟨fun k => none, fun k => if k = 4 then [2, 3, 5] else if k = 9 then [2, 3, 6] else if k = 14 then [2, 3, 7] else [], fun k => if k = 0 then [2, 3] else [], fun k => if k = 6 then [0, 1, 0, 7, 15, 31, 0, 64, 0, 448, 960, 1984, 4095, 8191, 16383, 32767, 16383, 131071, 262143, 524287, 16383, 1064959, 16383, 7356415, 15745023, 32522239, 67108863, 134217727, 268435455] else if k = 11 then [0, 1, 0, 7, 15, 0, 32, 0, 224, 480, 1023] else if k = 16 then [0, 1, 0, 7, 15, 0, 32, 0, 224, 480, 1023] else []⟩
def ref08_Same_zt0 (vs_100 : List AV) (nx_101 : W.Kn) (L_199 : SH)  : Prop :=
 W.bin Try.prog Fl .add 3 (slotOf [2, 3, 5] vs_100 5) (.int .i64 1) fun t46_202 =>
 nx_101 [(slotOf [2, 3, 5] vs_100 2), (slotOf [2, 3, 5] vs_100 3), t46_202] L_199
def ref08_Same_zt1 (vs_100 : List AV) (L_102 : SH) (Q : AV → SH → Prop) (nx_101 : W.Kn)  : Prop :=
 (true = true) ∧ (
 W.faddr 0 (slotOf [2, 3, 5] vs_100 2) fun t47_107 =>
 W.calm [] ⟨1, (blocksOf t47_107), [], [], false, []⟩ (
 W.load false 1 t47_107 L_102 fun t48_108 =>
 W.note ⟨(blocksOf t47_107), [], [], []⟩ fun r_109 =>
 W.calm [] ⟨3, (slOf t48_108), [], [], false, []⟩ (
 W.idx 2 t48_108 (slotOf [2, 3, 5] vs_100 5) L_102 fun t50_110 =>
 W.note ⟨(slOf t48_108), [], [], []⟩ fun r_111 =>
 W.faddr 0 t50_110 fun t51_112 =>
 W.calm [] ⟨5, (blocksOf t51_112), [], [], false, []⟩ (
 W.load false 1 t51_112 L_102 fun t52_113 =>
 W.note ⟨(blocksOf t51_112), [], [], []⟩ fun r_114 =>
 W.faddr 0 (slotOf [2, 3, 5] vs_100 3) fun t53_115 =>
 W.calm [⟨5, r_114.reads, r_114.writes, r_114.made, false, r_114.old⟩, ⟨3, r_111.reads, r_111.writes, r_111.made, false, r_111.old⟩, ⟨1, r_109.reads, r_109.writes, r_109.made, false, r_109.old⟩] ⟨7, (blocksOf t53_115), [], [], false, []⟩ (
 W.load false 1 t53_115 L_102 fun t54_116 =>
 W.note ⟨(blocksOf t53_115), [], [], []⟩ fun r_117 =>
 W.calm [⟨5, r_114.reads, r_114.writes, r_114.made, false, r_114.old⟩, ⟨3, r_111.reads, r_111.writes, r_111.made, false, r_111.old⟩, ⟨1, r_109.reads, r_109.writes, r_109.made, false, r_109.old⟩] ⟨9, (slOf t54_116), [], [], false, []⟩ (
 W.idx 2 t54_116 (slotOf [2, 3, 5] vs_100 5) L_102 fun t56_118 =>
 W.note ⟨(slOf t54_116), [], [], []⟩ fun r_119 =>
 W.faddr 0 t56_118 fun t57_120 =>
 W.calm [⟨5, r_114.reads, r_114.writes, r_114.made, false, r_114.old⟩, ⟨3, r_111.reads, r_111.writes, r_111.made, false, r_111.old⟩, ⟨1, r_109.reads, r_109.writes, r_109.made, false, r_109.old⟩] ⟨11, (blocksOf t57_120), [], [], false, []⟩ (
 W.load false 1 t57_120 L_102 fun t58_121 =>
 W.note ⟨(blocksOf t57_120), [], [], []⟩ fun r_122 =>
 W.bin Try.prog Fl .neq 3 t52_113 t58_121 fun t59_123 =>
 W.dgrd t59_123 false (fun k_125 => W.faddr 0 (slotOf [2, 3, 5] vs_100 2) fun v_128 =>
 k_125 v_128 L_102 ⟨[], [], [], []⟩) L_102 fun t61_124 L_127 r_126 =>
 W.dgrd t59_123 false (fun k_130 => W.calm [] ⟨15, (blocksOf t61_124), [], [], false, []⟩ (
 W.load false 1 t61_124 L_127 fun v_133 =>
 W.note ⟨(blocksOf t61_124), [], [], []⟩ fun r_134 =>
 k_130 v_133 L_127 r_134)) L_127 fun t62_129 L_132 r_131 =>
 W.dgrd t59_123 false (fun k_136 => k_136 (slotOf [2, 3, 5] vs_100 5) L_132 ⟨[], [], [], []⟩) L_132 fun t63_135 L_138 r_137 =>
 W.dgrd t59_123 false (fun k_140 => W.calm [] ⟨17, (slOf t62_129), [], [], false, []⟩ (
 W.idx 2 t62_129 t63_135 L_138 fun v_143 =>
 W.note ⟨(slOf t62_129), [], [], []⟩ fun r_144 =>
 k_140 v_143 L_138 r_144)) L_138 fun t64_139 L_142 r_141 =>
 W.dgrd t59_123 false (fun k_146 => W.faddr 1 t64_139 fun v_149 =>
 k_146 v_149 L_142 ⟨[], [], [], []⟩) L_142 fun t65_145 L_148 r_147 =>
 W.dgrd t59_123 false (fun k_151 => W.calm [] ⟨19, (blocksOf t65_145), [], [], false, []⟩ (
 W.load false 1 t65_145 L_148 fun v_154 =>
 W.note ⟨(blocksOf t65_145), [], [], []⟩ fun r_155 =>
 k_151 v_154 L_148 r_155)) L_148 fun t66_150 L_153 r_152 =>
 W.dgrd t59_123 false (fun k_157 => W.faddr 0 (slotOf [2, 3, 5] vs_100 3) fun v_160 =>
 k_157 v_160 L_153 ⟨[], [], [], []⟩) L_153 fun t67_156 L_159 r_158 =>
 W.dgrd t59_123 false (fun k_162 => W.calm [⟨19, r_152.reads, r_152.writes, r_152.made, false, r_152.old⟩, ⟨17, r_141.reads, r_141.writes, r_141.made, false, r_141.old⟩, ⟨15, r_131.reads, r_131.writes, r_131.made, false, r_131.old⟩] ⟨21, (blocksOf t67_156), [], [], false, []⟩ (
 W.load false 1 t67_156 L_159 fun v_165 =>
 W.note ⟨(blocksOf t67_156), [], [], []⟩ fun r_166 =>
 k_162 v_165 L_159 r_166)) L_159 fun t68_161 L_164 r_163 =>
 W.dgrd t59_123 false (fun k_168 => k_168 (slotOf [2, 3, 5] vs_100 5) L_164 ⟨[], [], [], []⟩) L_164 fun t69_167 L_170 r_169 =>
 W.dgrd t59_123 false (fun k_172 => W.calm [⟨19, r_152.reads, r_152.writes, r_152.made, false, r_152.old⟩, ⟨17, r_141.reads, r_141.writes, r_141.made, false, r_141.old⟩, ⟨15, r_131.reads, r_131.writes, r_131.made, false, r_131.old⟩] ⟨23, (slOf t68_161), [], [], false, []⟩ (
 W.idx 2 t68_161 t69_167 L_170 fun v_175 =>
 W.note ⟨(slOf t68_161), [], [], []⟩ fun r_176 =>
 k_172 v_175 L_170 r_176)) L_170 fun t70_171 L_174 r_173 =>
 W.dgrd t59_123 false (fun k_178 => W.faddr 1 t70_171 fun v_181 =>
 k_178 v_181 L_174 ⟨[], [], [], []⟩) L_174 fun t71_177 L_180 r_179 =>
 W.dgrd t59_123 false (fun k_183 => W.calm [⟨19, r_152.reads, r_152.writes, r_152.made, false, r_152.old⟩, ⟨17, r_141.reads, r_141.writes, r_141.made, false, r_141.old⟩, ⟨15, r_131.reads, r_131.writes, r_131.made, false, r_131.old⟩] ⟨25, (blocksOf t71_177), [], [], false, []⟩ (
 W.load false 1 t71_177 L_180 fun v_186 =>
 W.note ⟨(blocksOf t71_177), [], [], []⟩ fun r_187 =>
 k_183 v_186 L_180 r_187)) L_180 fun t72_182 L_185 r_184 =>
 W.dgrd t59_123 false (fun k_189 => W.dcall Try.prog [] 26 (.fn 34 []) [t66_150, t72_182] L_185 fun v_192 L_194 ks_193 =>
 W.note ⟨[], ks_193, [], L_185.names⟩ fun r_195 =>
 k_189 v_192 L_194 r_195) L_185 fun t73_188 L_191 r_190 =>
 W.dgrd t59_123 false (fun k_197 => W.un .not t73_188 fun v_200 =>
 k_197 v_200 L_191 ⟨[], [], [], []⟩) L_191 fun t74_196 L_199 r_198 =>
 W.pick t59_123 (.bool true) t74_196 fun t75_201 =>
 W.cond t75_201 (
 Q (.bool false) L_199) (
 (ref08_Same_zt0 vs_100 nx_101 L_199)))))))))
def ref08_Same_zt2 (vs_203 : List AV) (nx_204 : W.Kn) (L_205 : SH)  : Prop :=
 W.bin Try.prog Fl .add 3 (slotOf [2, 3, 6] vs_203 6) (.int .i64 1) fun t82_225 =>
 nx_204 [(slotOf [2, 3, 6] vs_203 2), (slotOf [2, 3, 6] vs_203 3), t82_225] L_205
def ref08_Same_zt3 (vs_203 : List AV) (L_205 : SH) (Q : AV → SH → Prop) (nx_204 : W.Kn)  : Prop :=
 (true = true) ∧ (
 W.faddr 2 (slotOf [2, 3, 6] vs_203 2) fun t83_210 =>
 W.calm [] ⟨1, (blocksOf t83_210), [], [], false, []⟩ (
 W.load false 1 t83_210 L_205 fun t84_211 =>
 W.note ⟨(blocksOf t83_210), [], [], []⟩ fun r_212 =>
 W.calm [] ⟨3, (slOf t84_211), [], [], false, []⟩ (
 W.idx 1 t84_211 (slotOf [2, 3, 6] vs_203 6) L_205 fun t86_213 =>
 W.note ⟨(slOf t84_211), [], [], []⟩ fun r_214 =>
 W.calm [] ⟨4, (blocksOf t86_213), [], [], false, []⟩ (
 W.load false 1 t86_213 L_205 fun t87_215 =>
 W.note ⟨(blocksOf t86_213), [], [], []⟩ fun r_216 =>
 W.faddr 2 (slotOf [2, 3, 6] vs_203 3) fun t88_217 =>
 W.calm [⟨4, r_216.reads, r_216.writes, r_216.made, false, r_216.old⟩, ⟨3, r_214.reads, r_214.writes, r_214.made, false, r_214.old⟩, ⟨1, r_212.reads, r_212.writes, r_212.made, false, r_212.old⟩] ⟨6, (blocksOf t88_217), [], [], false, []⟩ (
 W.load false 1 t88_217 L_205 fun t89_218 =>
 W.note ⟨(blocksOf t88_217), [], [], []⟩ fun r_219 =>
 W.calm [⟨4, r_216.reads, r_216.writes, r_216.made, false, r_216.old⟩, ⟨3, r_214.reads, r_214.writes, r_214.made, false, r_214.old⟩, ⟨1, r_212.reads, r_212.writes, r_212.made, false, r_212.old⟩] ⟨8, (slOf t89_218), [], [], false, []⟩ (
 W.idx 1 t89_218 (slotOf [2, 3, 6] vs_203 6) L_205 fun t91_220 =>
 W.note ⟨(slOf t89_218), [], [], []⟩ fun r_221 =>
 W.calm [⟨4, r_216.reads, r_216.writes, r_216.made, false, r_216.old⟩, ⟨3, r_214.reads, r_214.writes, r_214.made, false, r_214.old⟩, ⟨1, r_212.reads, r_212.writes, r_212.made, false, r_212.old⟩] ⟨9, (blocksOf t91_220), [], [], false, []⟩ (
 W.load false 1 t91_220 L_205 fun t92_222 =>
 W.note ⟨(blocksOf t91_220), [], [], []⟩ fun r_223 =>
 W.bin Try.prog Fl .neq 4 t87_215 t92_222 fun t93_224 =>
 W.cond t93_224 (
 Q (.bool false) L_205) (
 (ref08_Same_zt2 vs_203 nx_204 L_205)))))))))
def ref08_Same_zt4 (vs_226 : List AV) (nx_227 : W.Kn) (L_228 : SH)  : Prop :=
 W.bin Try.prog Fl .add 3 (slotOf [2, 3, 7] vs_226 7) (.int .i64 1) fun t100_248 =>
 nx_227 [(slotOf [2, 3, 7] vs_226 2), (slotOf [2, 3, 7] vs_226 3), t100_248] L_228
def ref08_Same_zt5 (vs_226 : List AV) (L_228 : SH) (Q : AV → SH → Prop) (nx_227 : W.Kn)  : Prop :=
 (true = true) ∧ (
 W.faddr 3 (slotOf [2, 3, 7] vs_226 2) fun t101_233 =>
 W.calm [] ⟨1, (blocksOf t101_233), [], [], false, []⟩ (
 W.load false 1 t101_233 L_228 fun t102_234 =>
 W.note ⟨(blocksOf t101_233), [], [], []⟩ fun r_235 =>
 W.calm [] ⟨3, (slOf t102_234), [], [], false, []⟩ (
 W.idx 3 t102_234 (slotOf [2, 3, 7] vs_226 7) L_228 fun t104_236 =>
 W.note ⟨(slOf t102_234), [], [], []⟩ fun r_237 =>
 W.calm [] ⟨4, (blocksOf t104_236), [], [], false, []⟩ (
 W.load true 3 t104_236 L_228 fun t105_238 =>
 W.note ⟨(blocksOf t104_236), [], [], []⟩ fun r_239 =>
 W.faddr 3 (slotOf [2, 3, 7] vs_226 3) fun t106_240 =>
 W.calm [⟨4, r_239.reads, r_239.writes, r_239.made, false, r_239.old⟩, ⟨3, r_237.reads, r_237.writes, r_237.made, false, r_237.old⟩, ⟨1, r_235.reads, r_235.writes, r_235.made, false, r_235.old⟩] ⟨6, (blocksOf t106_240), [], [], false, []⟩ (
 W.load false 1 t106_240 L_228 fun t107_241 =>
 W.note ⟨(blocksOf t106_240), [], [], []⟩ fun r_242 =>
 W.calm [⟨4, r_239.reads, r_239.writes, r_239.made, false, r_239.old⟩, ⟨3, r_237.reads, r_237.writes, r_237.made, false, r_237.old⟩, ⟨1, r_235.reads, r_235.writes, r_235.made, false, r_235.old⟩] ⟨8, (slOf t107_241), [], [], false, []⟩ (
 W.idx 3 t107_241 (slotOf [2, 3, 7] vs_226 7) L_228 fun t109_243 =>
 W.note ⟨(slOf t107_241), [], [], []⟩ fun r_244 =>
 W.calm [⟨4, r_239.reads, r_239.writes, r_239.made, false, r_239.old⟩, ⟨3, r_237.reads, r_237.writes, r_237.made, false, r_237.old⟩, ⟨1, r_235.reads, r_235.writes, r_235.made, false, r_235.old⟩] ⟨9, (blocksOf t109_243), [], [], false, []⟩ (
 W.load true 3 t109_243 L_228 fun t110_245 =>
 W.note ⟨(blocksOf t109_243), [], [], []⟩ fun r_246 =>
 W.bin Try.prog Fl .neq 66 t105_238 t110_245 fun t111_247 =>
 W.cond t111_247 (
 Q (.bool false) L_228) (
 (ref08_Same_zt4 vs_226 nx_227 L_228)))))))))
def ref08_Same_l0 (Q : AV → SH → Prop) (vs_226 : List AV) (L_228 : SH) (nx_227 : W.Kn) : Prop :=
 W.faddr 3 (slotOf [2, 3, 7] vs_226 2) fun t95_229 =>
 W.load false 1 t95_229 L_228 fun t96_230 =>
 W.len t96_230 fun t97_231 =>
 W.bin Try.prog Fl .lss 3 (slotOf [2, 3, 7] vs_226 7) t97_231 fun t98_232 =>
 W.cond t98_232 (
 (ref08_Same_zt5 vs_226 L_228 Q nx_227)) (
 Q (.bool true) L_228)
def ref08_Same_l1 (Q : AV → SH → Prop) (vs_203 : List AV) (L_205 : SH) (nx_204 : W.Kn) : Prop :=
 W.faddr 2 (slotOf [2, 3, 6] vs_203 2) fun t77_206 =>
 W.load false 1 t77_206 L_205 fun t78_207 =>
 W.len t78_207 fun t79_208 =>
 W.bin Try.prog Fl .lss 3 (slotOf [2, 3, 6] vs_203 6) t79_208 fun t80_209 =>
 W.cond t80_209 (
 (ref08_Same_zt3 vs_203 L_205 Q nx_204)) (
 W.loop (ref08_Same_l0 Q) [(slotOf [2, 3, 6] vs_203 2), (slotOf [2, 3, 6] vs_203 3), (.int .i64 0)] L_205)
def ref08_Same_l2 (Q : AV → SH → Prop) (vs_100 : List AV) (L_102 : SH) (nx_101 : W.Kn) : Prop :=
 W.faddr 0 (slotOf [2, 3, 5] vs_100 2) fun t41_103 =>
 W.load false 1 t41_103 L_102 fun t42_104 =>
 W.len t42_104 fun t43_105 =>
 W.bin Try.prog Fl .lss 3 (slotOf [2, 3, 5] vs_100 5) t43_105 fun t44_106 =>
 W.cond t44_106 (
 (ref08_Same_zt1 vs_100 L_102 Q nx_101)) (
 W.loop (ref08_Same_l1 Q) [(slotOf [2, 3, 5] vs_100 2), (slotOf [2, 3, 5] vs_100 3), (.int .i64 0)] L_102)
def ref08_Same_w (t0 t1 : AV) (L : SH) (Q : AV → SH → Prop) : Prop :=
 W.box t0 L fun t2_0 L_1 =>
 W.box t1 L_1 fun t3_2 L_3 =>
 W.frz1 t2_0 L_3 fun t2_4 L_5 =>
 W.frz1 t3_2 L_5 fun t3_6 L_7 =>
 W.faddr 1 t2_4 fun t8_8 =>
 W.load false 1 t8_8 L_7 fun t9_9 =>
 W.faddr 1 t3_6 fun t10_10 =>
 W.load false 1 t10_10 L_7 fun t11_11 =>
 W.bin Try.prog Fl .neq 3 t9_9 t11_11 fun t12_12 =>
 W.grd t12_12 false (fun k_14 => W.faddr 0 t2_4 fun v_16 =>
 k_14 v_16 L_7) L_7 fun t14_13 L_15 =>
 W.grd t12_12 false (fun k_18 => W.load false 1 t14_13 L_15 fun v_20 =>
 k_18 v_20 L_15) L_15 fun t15_17 L_19 =>
 W.grd t12_12 false (fun k_22 => W.len t15_17 fun v_24 =>
 k_22 v_24 L_19) L_19 fun t16_21 L_23 =>
 W.grd t12_12 false (fun k_26 => W.faddr 0 t3_6 fun v_28 =>
 k_26 v_28 L_23) L_23 fun t17_25 L_27 =>
 W.grd t12_12 false (fun k_30 => W.load false 1 t17_25 L_27 fun v_32 =>
 k_30 v_32 L_27) L_27 fun t18_29 L_31 =>
 W.grd t12_12 false (fun k_34 => W.len t18_29 fun v_36 =>
 k_34 v_36 L_31) L_31 fun t19_33 L_35 =>
 W.grd t12_12 false (fun k_38 => W.bin Try.prog Fl .neq 3 t16_21 t19_33 fun v_40 =>
 k_38 v_40 L_35) L_35 fun t20_37 L_39 =>
 W.pick t12_12 (.bool true) t20_37 fun t21_41 =>
 W.grd t21_41 false (fun k_43 => W.faddr 2 t2_4 fun v_45 =>
 k_43 v_45 L_39) L_39 fun t23_42 L_44 =>
 W.grd t21_41 false (fun k_47 => W.load false 1 t23_42 L_44 fun v_49 =>
 k_47 v_49 L_44) L_44 fun t24_46 L_48 =>
 W.grd t21_41 false (fun k_51 => W.len t24_46 fun v_53 =>
 k_51 v_53 L_48) L_48 fun t25_50 L_52 =>
 W.grd t21_41 false (fun k_55 => W.faddr 2 t3_6 fun v_57 =>
 k_55 v_57 L_52) L_52 fun t26_54 L_56 =>
 W.grd t21_41 false (fun k_59 => W.load false 1 t26_54 L_56 fun v_61 =>
 k_59 v_61 L_56) L_56 fun t27_58 L_60 =>
 W.grd t21_41 false (fun k_63 => W.len t27_58 fun v_65 =>
 k_63 v_65 L_60) L_60 fun t28_62 L_64 =>
 W.grd t21_41 false (fun k_67 => W.bin Try.prog Fl .neq 3 t25_50 t28_62 fun v_69 =>
 k_67 v_69 L_64) L_64 fun t29_66 L_68 =>
 W.pick t21_41 (.bool true) t29_66 fun t30_70 =>
 W.grd t30_70 false (fun k_72 => W.faddr 3 t2_4 fun v_74 =>
 k_72 v_74 L_68) L_68 fun t32_71 L_73 =>
 W.grd t30_70 false (fun k_76 => W.load false 1 t32_71 L_73 fun v_78 =>
 k_76 v_78 L_73) L_73 fun t33_75 L_77 =>
 W.grd t30_70 false (fun k_80 => W.len t33_75 fun v_82 =>
 k_80 v_82 L_77) L_77 fun t34_79 L_81 =>
 W.grd t30_70 false (fun k_84 => W.faddr 3 t3_6 fun v_86 =>
 k_84 v_86 L_81) L_81 fun t35_83 L_85 =>
 W.grd t30_70 false (fun k_88 => W.load false 1 t35_83 L_85 fun v_90 =>
 k_88 v_90 L_85) L_85 fun t36_87 L_89 =>
 W.grd t30_70 false (fun k_92 => W.len t36_87 fun v_94 =>
 k_92 v_94 L_89) L_89 fun t37_91 L_93 =>
 W.grd t30_70 false (fun k_96 => W.bin Try.prog Fl .neq 3 t34_79 t37_91 fun v_98 =>
 k_96 v_98 L_93) L_93 fun t38_95 L_97 =>
 W.pick t30_70 (.bool true) t38_95 fun t39_99 =>
 W.cond t39_99 (
 Q (.bool false) L_97) (
 W.loop (ref08_Same_l2 Q) [t2_4, t3_6, (.int .i64 0)] L_97)
theorem ref08_Same_e (t0 t1 : AV) (L : SH) (Q : AV → SH → Prop) : W.func Try.prog Fl ref08_Same_t Try.f20 (Try.f20.body.getD .skip) [t0, t1] L Q = ref08_Same_w t0 t1 L Q := by kernel_rfl
theorem ref08_Same_ok (t0 t1 : AV) (L : SH) (Q : AV → SH → Prop) (h : ref08_Same_w t0 t1 L Q) : CallA Try.prog 20 [t0, t1] L Q :=
  func_sound (ht := ref08_Same_t) fit Try.func20 (show Try.f20.body = some (Try.f20.body.getD .skip) by kernel_rfl) (Eq.mpr (ref08_Same_e t0 t1 L Q) h)

def object_Fits_t : Hints := ⟨fun k => none, fun k => if k = 4 then [2, 33, 34, 35] else [], fun k => if k = 0 then [2, 3] else if k = 5 then [6] else [], fun k => []⟩
def object_Fits_zt0 (vs_76 : List AV) (nx_77 : W.Kn) (L_93 : SH)  : Prop :=
 W.bin Try.prog Fl .add 3 (slotOf [2, 33, 34, 35] vs_76 35) (.int .i64 1) fun t46_95 =>
 nx_77 [(slotOf [2, 33, 34, 35] vs_76 2), (slotOf [2, 33, 34, 35] vs_76 33), (slotOf [2, 33, 34, 35] vs_76 34), t46_95] L_93
def object_Fits_c0 (Q : AV → SH → Prop) (vs_76 : List AV) (nx_77 : W.Kn) (t44_92 : AV) (L_93 : SH) : Prop :=
 W.un .not t44_92 fun t45_94 =>
 W.cond t45_94 (
 Q (.bool false) L_93) (
 (object_Fits_zt0 vs_76 nx_77 L_93))
def object_Fits_zt1 (vs_76 : List AV) (L_78 : SH) (Q : AV → SH → Prop) (nx_77 : W.Kn)  : Prop :=
 W.idx 2 (slotOf [2, 33, 34, 35] vs_76 33) (slotOf [2, 33, 34, 35] vs_76 35) L_78 fun t37_80 =>
 W.load true 2 t37_80 L_78 fun t38_81 =>
 W.alloc [(.str []), (.int .i64 0)] L_78 fun t6_82 L_83 =>
 W.store 2 t6_82 t38_81 L_83 fun L_84 =>
 W.frz1 t6_82 L_84 fun t6_85 L_86 =>
 W.faddr 1 t6_85 fun t39_87 =>
 W.load false 1 t39_87 L_86 fun t40_88 =>
 W.faddr 1 (slotOf [2, 33, 34, 35] vs_76 2) fun t41_89 =>
 W.load false 1 t41_89 L_86 fun t42_90 =>
 W.len t42_90 fun t43_91 =>
 W.call Try.prog (.fn 52 []) [t40_88, t43_91] L_86 (object_Fits_c0 Q vs_76 nx_77)
def object_Fits_l1 (Q : AV → SH → Prop) (vs_76 : List AV) (L_78 : SH) (nx_77 : W.Kn) : Prop :=
 W.bin Try.prog Fl .lss 3 (slotOf [2, 33, 34, 35] vs_76 35) (slotOf [2, 33, 34, 35] vs_76 34) fun t36_79 =>
 W.cond t36_79 (
 (object_Fits_zt1 vs_76 L_78 Q nx_77)) (
 Q (.bool true) L_78)
def object_Fits_zt2 (t2_4 : AV) (L_70 : SH) (Q : AV → SH → Prop)  : Prop :=
 W.faddr 2 t2_4 fun t32_73 =>
 W.load false 1 t32_73 L_70 fun t33_74 =>
 W.len t33_74 fun t34_75 =>
 W.loop (object_Fits_l1 Q) [t2_4, t33_74, t34_75, (.int .i64 0)] L_70
def object_Fits_w (t0 t1 : AV) (L : SH) (Q : AV → SH → Prop) : Prop :=
 W.box t0 L fun t2_0 L_1 =>
 W.box t1 L_1 fun t3_2 L_3 =>
 W.frz1 t2_0 L_3 fun t2_4 L_5 =>
 W.frz1 t3_2 L_5 fun t3_6 L_7 =>
 W.faddr 0 t3_6 fun t7_8 =>
 W.load false 1 t7_8 L_7 fun t8_9 =>
 W.len t8_9 fun t9_10 =>
 W.faddr 1 t2_4 fun t10_11 =>
 W.load false 1 t10_11 L_7 fun t11_12 =>
 W.len t11_12 fun t12_13 =>
 W.bin Try.prog Fl .neq 3 t9_10 t12_13 fun t13_14 =>
 W.grd t13_14 false (fun k_16 => W.faddr 2 t3_6 fun v_18 =>
 k_16 v_18 L_7) L_7 fun t15_15 L_17 =>
 W.grd t13_14 false (fun k_20 => W.load false 1 t15_15 L_17 fun v_22 =>
 k_20 v_22 L_17) L_17 fun t16_19 L_21 =>
 W.grd t13_14 false (fun k_24 => W.len t16_19 fun v_26 =>
 k_24 v_26 L_21) L_21 fun t17_23 L_25 =>
 W.grd t13_14 false (fun k_28 => W.faddr 3 t2_4 fun v_30 =>
 k_28 v_30 L_25) L_25 fun t18_27 L_29 =>
 W.grd t13_14 false (fun k_32 => W.load false 1 t18_27 L_29 fun v_34 =>
 k_32 v_34 L_29) L_29 fun t19_31 L_33 =>
 W.grd t13_14 false (fun k_36 => W.len t19_31 fun v_38 =>
 k_36 v_38 L_33) L_33 fun t20_35 L_37 =>
 W.grd t13_14 false (fun k_40 => W.bin Try.prog Fl .neq 3 t17_23 t20_35 fun v_42 =>
 k_40 v_42 L_37) L_37 fun t21_39 L_41 =>
 W.pick t13_14 (.bool true) t21_39 fun t22_43 =>
 W.grd t22_43 false (fun k_45 => W.faddr 3 t3_6 fun v_47 =>
 k_45 v_47 L_41) L_41 fun t24_44 L_46 =>
 W.grd t22_43 false (fun k_49 => W.load false 1 t24_44 L_46 fun v_51 =>
 k_49 v_51 L_46) L_46 fun t25_48 L_50 =>
 W.grd t22_43 false (fun k_53 => W.len t25_48 fun v_55 =>
 k_53 v_55 L_50) L_50 fun t26_52 L_54 =>
 W.grd t22_43 false (fun k_57 => W.faddr 4 t2_4 fun v_59 =>
 k_57 v_59 L_54) L_54 fun t27_56 L_58 =>
 W.grd t22_43 false (fun k_61 => W.load false 1 t27_56 L_58 fun v_63 =>
 k_61 v_63 L_58) L_58 fun t28_60 L_62 =>
 W.grd t22_43 false (fun k_65 => W.len t28_60 fun v_67 =>
 k_65 v_67 L_62) L_62 fun t29_64 L_66 =>
 W.grd t22_43 false (fun k_69 => W.bin Try.prog Fl .neq 3 t26_52 t29_64 fun v_71 =>
 k_69 v_71 L_66) L_66 fun t30_68 L_70 =>
 W.pick t22_43 (.bool true) t30_68 fun t31_72 =>
 W.cond t31_72 (
 Q (.bool false) L_70) (
 (object_Fits_zt2 t2_4 L_70 Q))
theorem object_Fits_e (t0 t1 : AV) (L : SH) (Q : AV → SH → Prop) : W.func Try.prog Fl object_Fits_t Try.f37 (Try.f37.body.getD .skip) [t0, t1] L Q = object_Fits_w t0 t1 L Q := by kernel_rfl
theorem object_Fits_ok (t0 t1 : AV) (L : SH) (Q : AV → SH → Prop) (h : object_Fits_w t0 t1 L Q) : CallA Try.prog 37 [t0, t1] L Q :=
  func_sound (ht := object_Fits_t) fit Try.func37 (show Try.f37.body = some (Try.f37.body.getD .skip) by kernel_rfl) (Eq.mpr (object_Fits_e t0 t1 L Q) h)

def object_within_t : Hints := ⟨fun k => none, fun k => [], fun k => [], fun k => []⟩
def object_within_w (t0 t1 : AV) (L : SH) (Q : AV → SH → Prop) : Prop :=
 W.bin Try.prog Fl .geq 3 t0 (.int .i64 0) fun t6_0 =>
 W.grd t6_0 true (fun k_2 => k_2 t0 L) L fun t8_1 L_3 =>
 W.grd t6_0 true (fun k_5 => k_5 t1 L_3) L_3 fun t9_4 L_6 =>
 W.grd t6_0 true (fun k_8 => W.bin Try.prog Fl .lss 3 t8_1 t9_4 fun v_10 =>
 k_8 v_10 L_6) L_6 fun t10_7 L_9 =>
 W.pick t6_0 t10_7 (.bool false) fun t11_11 =>
 Q t11_11 L_9
theorem object_within_e (t0 t1 : AV) (L : SH) (Q : AV → SH → Prop) : W.func Try.prog Fl object_within_t Try.f52 (Try.f52.body.getD .skip) [t0, t1] L Q = object_within_w t0 t1 L Q := by kernel_rfl
theorem object_within_ok (t0 t1 : AV) (L : SH) (Q : AV → SH → Prop) (h : object_within_w t0 t1 L Q) : CallA Try.prog 52 [t0, t1] L Q :=
  func_sound (ht := object_within_t) fit Try.func52 (show Try.f52.body = some (Try.f52.body.getD .skip) by kernel_rfl) (Eq.mpr (object_within_e t0 t1 L Q) h)

def object_waits_t : Hints := ⟨fun k => none, fun k => [], fun k => if k = 0 then [2] else [], fun k => []⟩
def object_waits_w (t0 t1 : AV) (L : SH) (Q : AV → SH → Prop) : Prop :=
 W.box t0 L fun t2_0 L_1 =>
 W.frz1 t2_0 L_1 fun t2_2 L_3 =>
 W.faddr 0 t2_2 fun t5_4 =>
 W.load false 1 t5_4 L_3 fun t6_5 =>
 W.bin Try.prog Fl .eql 3 t6_5 (.int .i64 3) fun t7_6 =>
 W.grd t7_6 true (fun k_8 => W.faddr 1 t2_2 fun v_10 =>
 k_8 v_10 L_3) L_3 fun t9_7 L_9 =>
 W.grd t7_6 true (fun k_12 => W.load false 1 t9_7 L_9 fun v_14 =>
 k_12 v_14 L_9) L_9 fun t10_11 L_13 =>
 W.grd t7_6 true (fun k_16 => k_16 t1 L_13) L_13 fun t11_15 L_17 =>
 W.grd t7_6 true (fun k_19 => W.bin Try.prog Fl .eql 3 t10_11 t11_15 fun v_21 =>
 k_19 v_21 L_17) L_17 fun t12_18 L_20 =>
 W.pick t7_6 t12_18 (.bool false) fun t13_22 =>
 Q t13_22 L_20
theorem object_waits_e (t0 t1 : AV) (L : SH) (Q : AV → SH → Prop) : W.func Try.prog Fl object_waits_t Try.f79 (Try.f79.body.getD .skip) [t0, t1] L Q = object_waits_w t0 t1 L Q := by kernel_rfl
theorem object_waits_ok (t0 t1 : AV) (L : SH) (Q : AV → SH → Prop) (h : object_waits_w t0 t1 L Q) : CallA Try.prog 79 [t0, t1] L Q :=
  func_sound (ht := object_waits_t) fit Try.func79 (show Try.f79.body = some (Try.f79.body.getD .skip) by kernel_rfl) (Eq.mpr (object_waits_e t0 t1 L Q) h)

def slices_Contains___int_int__t : Hints := ⟨fun k => none, fun k => [], fun k => [], fun k => []⟩
def slices_Contains___int_int__c0 (Q : AV → SH → Prop) (t7_0 : AV) (L_1 : SH) : Prop :=
 W.bin Try.prog Fl .geq 3 t7_0 (.int .i64 0) fun t8_2 =>
 Q t8_2 L_1
def slices_Contains___int_int__w (t0 t1 : AV) (L : SH) (Q : AV → SH → Prop) : Prop :=
 W.call Try.prog (.fn 80 []) [t0, t1] L (slices_Contains___int_int__c0 Q)
theorem slices_Contains___int_int__e (t0 t1 : AV) (L : SH) (Q : AV → SH → Prop) : W.func Try.prog Fl slices_Contains___int_int__t Try.f60 (Try.f60.body.getD .skip) [t0, t1] L Q = slices_Contains___int_int__w t0 t1 L Q := by kernel_rfl
theorem slices_Contains___int_int__ok (t0 t1 : AV) (L : SH) (Q : AV → SH → Prop) (h : slices_Contains___int_int__w t0 t1 L Q) : CallA Try.prog 60 [t0, t1] L Q :=
  func_sound (ht := slices_Contains___int_int__t) fit Try.func60 (show Try.f60.body = some (Try.f60.body.getD .skip) by kernel_rfl) (Eq.mpr (slices_Contains___int_int__e t0 t1 L Q) h)

def slices_Index___int_int__t : Hints := ⟨fun k => none, fun k => if k = 2 then [0, 1, 7, 8] else [], fun k => [], fun k => []⟩
def slices_Index___int_int__zt0 (vs_1 : List AV) (nx_2 : W.Kn) (L_3 : SH)  : Prop :=
 W.bin Try.prog Fl .add 3 (slotOf [0, 1, 7, 8] vs_1 8) (.int .i64 1) fun t18_8 =>
 nx_2 [(slotOf [0, 1, 7, 8] vs_1 0), (slotOf [0, 1, 7, 8] vs_1 1), (slotOf [0, 1, 7, 8] vs_1 7), t18_8] L_3
def slices_Index___int_int__zt1 (vs_1 : List AV) (L_3 : SH) (Q : AV → SH → Prop) (nx_2 : W.Kn)  : Prop :=
 W.idx 1 (slotOf [0, 1, 7, 8] vs_1 0) (slotOf [0, 1, 7, 8] vs_1 8) L_3 fun t14_5 =>
 W.load false 1 t14_5 L_3 fun t15_6 =>
 W.bin Try.prog Fl .eql 3 (slotOf [0, 1, 7, 8] vs_1 1) t15_6 fun t16_7 =>
 W.cond t16_7 (
 Q (slotOf [0, 1, 7, 8] vs_1 8) L_3) (
 (slices_Index___int_int__zt0 vs_1 nx_2 L_3))
def slices_Index___int_int__l0 (Q : AV → SH → Prop) (vs_1 : List AV) (L_3 : SH) (nx_2 : W.Kn) : Prop :=
 W.bin Try.prog Fl .lss 3 (slotOf [0, 1, 7, 8] vs_1 8) (slotOf [0, 1, 7, 8] vs_1 7) fun t9_4 =>
 W.cond t9_4 (
 (slices_Index___int_int__zt1 vs_1 L_3 Q nx_2)) (
 Q (.int .i64 (-1)) L_3)
def slices_Index___int_int__w (t0 t1 : AV) (L : SH) (Q : AV → SH → Prop) : Prop :=
 W.len t0 fun t7_0 =>
 W.loop (slices_Index___int_int__l0 Q) [t0, t1, t7_0, (.int .i64 0)] L
theorem slices_Index___int_int__e (t0 t1 : AV) (L : SH) (Q : AV → SH → Prop) : W.func Try.prog Fl slices_Index___int_int__t Try.f80 (Try.f80.body.getD .skip) [t0, t1] L Q = slices_Index___int_int__w t0 t1 L Q := by kernel_rfl
theorem slices_Index___int_int__ok (t0 t1 : AV) (L : SH) (Q : AV → SH → Prop) (h : slices_Index___int_int__w t0 t1 L Q) : CallA Try.prog 80 [t0, t1] L Q :=
  func_sound (ht := slices_Index___int_int__t) fit Try.func80 (show Try.f80.body = some (Try.f80.body.getD .skip) by kernel_rfl) (Eq.mpr (slices_Index___int_int__e t0 t1 L Q) h)

def object_allowed_t : Hints := ⟨fun k => if k = 8 then some [2, 3, 7, 8] else if k = 11 then some [2, 3, 7, 18] else if k = 14 then some [2, 3, 7, 26] else if k = 19 then some [2, 3, 7, 43] else if k = 24 then some [2, 3, 7, 61] else if k = 27 then some [2, 3, 7, 71] else if k = 30 then some [2, 3, 79] else none, fun k => [], fun k => if k = 0 then [3] else [], fun k => []⟩
def object_allowed_zt0 (vs_8 : List AV) (L_10 : SH) (Q : AV → SH → Prop)  : Prop :=
 W.faddr 0 (slotOf [2, 3, 7, 18] vs_8 3) fun t22_11 =>
 W.load false 1 t22_11 L_10 fun t23_12 =>
 W.len t23_12 fun t24_13 =>
 W.call Try.prog (.fn 52 []) [(slotOf [2, 3, 7, 18] vs_8 2), t24_13] L_10 fun t25_14 L_15 =>
 Q t25_14 L_15
def object_allowed_c0 (vs_16 : List AV) (Q : AV → SH → Prop) (t33_22 : AV) (L_23 : SH) : Prop :=
 W.grd t33_22 true (fun k_25 => W.faddr 1 (slotOf [2, 3, 7, 26] vs_16 3) fun v_27 =>
 k_25 v_27 L_23) L_23 fun t35_24 L_26 =>
 W.grd t33_22 true (fun k_29 => W.load false 1 t35_24 L_26 fun v_31 =>
 k_29 v_31 L_26) L_26 fun t36_28 L_30 =>
 W.grd t33_22 true (fun k_33 => k_33 (slotOf [2, 3, 7, 26] vs_16 2) L_30) L_30 fun t37_32 L_34 =>
 W.grd t33_22 true (fun k_36 => W.idx 2 t36_28 t37_32 L_34 fun v_38 =>
 k_36 v_38 L_34) L_34 fun t38_35 L_37 =>
 W.grd t33_22 true (fun k_40 => W.faddr 1 t38_35 fun v_42 =>
 k_40 v_42 L_37) L_37 fun t39_39 L_41 =>
 W.grd t33_22 true (fun k_44 => W.load false 1 t39_39 L_41 fun v_46 =>
 k_44 v_46 L_41) L_41 fun t40_43 L_45 =>
 W.grd t33_22 true (fun k_48 => W.un .not t40_43 fun v_50 =>
 k_48 v_50 L_45) L_45 fun t41_47 L_49 =>
 W.pick t33_22 t41_47 (.bool false) fun t42_51 =>
 Q t42_51 L_49
def object_allowed_zt1 (vs_16 : List AV) (L_18 : SH) (Q : AV → SH → Prop)  : Prop :=
 W.faddr 1 (slotOf [2, 3, 7, 26] vs_16 3) fun t30_19 =>
 W.load false 1 t30_19 L_18 fun t31_20 =>
 W.len t31_20 fun t32_21 =>
 W.call Try.prog (.fn 52 []) [(slotOf [2, 3, 7, 26] vs_16 2), t32_21] L_18 (object_allowed_c0 vs_16 Q)
def object_allowed_c1 (vs_52 : List AV) (Q : AV → SH → Prop) (t52_58 : AV) (L_59 : SH) : Prop :=
 W.grd t52_58 true (fun k_61 => W.faddr 1 (slotOf [2, 3, 7, 43] vs_52 3) fun v_63 =>
 k_61 v_63 L_59) L_59 fun t54_60 L_62 =>
 W.grd t52_58 true (fun k_65 => W.load false 1 t54_60 L_62 fun v_67 =>
 k_65 v_67 L_62) L_62 fun t55_64 L_66 =>
 W.grd t52_58 true (fun k_69 => k_69 (slotOf [2, 3, 7, 43] vs_52 2) L_66) L_66 fun t56_68 L_70 =>
 W.grd t52_58 true (fun k_72 => W.idx 2 t55_64 t56_68 L_70 fun v_74 =>
 k_72 v_74 L_70) L_70 fun t57_71 L_73 =>
 W.grd t52_58 true (fun k_76 => W.faddr 1 t57_71 fun v_78 =>
 k_76 v_78 L_73) L_73 fun t58_75 L_77 =>
 W.grd t52_58 true (fun k_80 => W.load false 1 t58_75 L_77 fun v_82 =>
 k_80 v_82 L_77) L_77 fun t59_79 L_81 =>
 W.pick t52_58 t59_79 (.bool false) fun t60_83 =>
 Q t60_83 L_81
def object_allowed_zt2 (vs_52 : List AV) (L_54 : SH) (Q : AV → SH → Prop)  : Prop :=
 W.faddr 1 (slotOf [2, 3, 7, 43] vs_52 3) fun t49_55 =>
 W.load false 1 t49_55 L_54 fun t50_56 =>
 W.len t50_56 fun t51_57 =>
 W.call Try.prog (.fn 52 []) [(slotOf [2, 3, 7, 43] vs_52 2), t51_57] L_54 (object_allowed_c1 vs_52 Q)
def object_allowed_zt3 (vs_84 : List AV) (L_86 : SH) (Q : AV → SH → Prop)  : Prop :=
 W.faddr 2 (slotOf [2, 3, 7, 61] vs_84 3) fun t67_87 =>
 W.load false 1 t67_87 L_86 fun t68_88 =>
 W.len t68_88 fun t69_89 =>
 W.call Try.prog (.fn 52 []) [(slotOf [2, 3, 7, 61] vs_84 2), t69_89] L_86 fun t70_90 L_91 =>
 Q t70_90 L_91
def object_allowed_zt4 (vs_92 : List AV) (L_94 : SH) (Q : AV → SH → Prop)  : Prop :=
 W.faddr 4 (slotOf [2, 3, 7, 71] vs_92 3) fun t75_95 =>
 W.load false 1 t75_95 L_94 fun t76_96 =>
 W.len t76_96 fun t77_97 =>
 W.call Try.prog (.fn 52 []) [(slotOf [2, 3, 7, 71] vs_92 2), t77_97] L_94 fun t78_98 L_99 =>
 Q t78_98 L_99
def object_allowed_zt5 (vs_100 : List AV) (L_102 : SH) (Q : AV → SH → Prop)  : Prop :=
 W.faddr 3 (slotOf [2, 3, 79] vs_100 3) fun t83_103 =>
 W.load false 1 t83_103 L_102 fun t84_104 =>
 W.len t84_104 fun t85_105 =>
 W.call Try.prog (.fn 52 []) [(slotOf [2, 3, 79] vs_100 2), t85_105] L_102 fun t86_106 L_107 =>
 Q t86_106 L_107
def object_allowed_j2 (Q : AV → SH → Prop) (vs_100 : List AV) (L_102 : SH) : Prop :=
 W.cond (slotOf [2, 3, 79] vs_100 79) (
 (object_allowed_zt5 vs_100 L_102 Q)) (
 Q (.bool false) L_102)
def object_allowed_zt6 (vs_92 : List AV) (j_101 : W.Kn) (L_94 : SH)  : Prop :=
 W.bin Try.prog Fl .eql 3 (slotOf [2, 3, 7, 71] vs_92 7) (.int .i64 23) fun t81_109 =>
 j_101 [(slotOf [2, 3, 7, 71] vs_92 2), (slotOf [2, 3, 7, 71] vs_92 3), t81_109] L_94
def object_allowed_zt7 (Q : AV → SH → Prop) (vs_92 : List AV) (L_94 : SH)  : Prop :=
 W.join (object_allowed_j2 Q) fun j_101 =>
 W.bin Try.prog Fl .eql 3 (slotOf [2, 3, 7, 71] vs_92 7) (.int .i64 22) fun t80_108 =>
 W.cond t80_108 (
 j_101 [(slotOf [2, 3, 7, 71] vs_92 2), (slotOf [2, 3, 7, 71] vs_92 3), t80_108] L_94) (
 (object_allowed_zt6 vs_92 j_101 L_94))
def object_allowed_j3 (Q : AV → SH → Prop) (vs_92 : List AV) (L_94 : SH) : Prop :=
 W.cond (slotOf [2, 3, 7, 71] vs_92 71) (
 (object_allowed_zt4 vs_92 L_94 Q)) (
 (object_allowed_zt7 Q vs_92 L_94))
def object_allowed_zt8 (vs_84 : List AV) (j_93 : W.Kn) (L_86 : SH)  : Prop :=
 W.bin Try.prog Fl .eql 3 (slotOf [2, 3, 7, 61] vs_84 7) (.int .i64 21) fun t73_111 =>
 j_93 [(slotOf [2, 3, 7, 61] vs_84 2), (slotOf [2, 3, 7, 61] vs_84 3), (slotOf [2, 3, 7, 61] vs_84 7), t73_111] L_86
def object_allowed_zt9 (Q : AV → SH → Prop) (vs_84 : List AV) (L_86 : SH)  : Prop :=
 W.join (object_allowed_j3 Q) fun j_93 =>
 W.bin Try.prog Fl .eql 3 (slotOf [2, 3, 7, 61] vs_84 7) (.int .i64 20) fun t72_110 =>
 W.cond t72_110 (
 j_93 [(slotOf [2, 3, 7, 61] vs_84 2), (slotOf [2, 3, 7, 61] vs_84 3), (slotOf [2, 3, 7, 61] vs_84 7), t72_110] L_86) (
 (object_allowed_zt8 vs_84 j_93 L_86))
def object_allowed_j4 (Q : AV → SH → Prop) (vs_84 : List AV) (L_86 : SH) : Prop :=
 W.cond (slotOf [2, 3, 7, 61] vs_84 61) (
 (object_allowed_zt3 vs_84 L_86 Q)) (
 (object_allowed_zt9 Q vs_84 L_86))
def object_allowed_zt10 (vs_52 : List AV) (j_85 : W.Kn) (L_54 : SH)  : Prop :=
 W.bin Try.prog Fl .eql 3 (slotOf [2, 3, 7, 43] vs_52 7) (.int .i64 19) fun t65_115 =>
 j_85 [(slotOf [2, 3, 7, 43] vs_52 2), (slotOf [2, 3, 7, 43] vs_52 3), (slotOf [2, 3, 7, 43] vs_52 7), t65_115] L_54
def object_allowed_zt11 (vs_52 : List AV) (j_85 : W.Kn) (L_54 : SH)  : Prop :=
 W.bin Try.prog Fl .eql 3 (slotOf [2, 3, 7, 43] vs_52 7) (.int .i64 18) fun t64_114 =>
 W.cond t64_114 (
 j_85 [(slotOf [2, 3, 7, 43] vs_52 2), (slotOf [2, 3, 7, 43] vs_52 3), (slotOf [2, 3, 7, 43] vs_52 7), t64_114] L_54) (
 (object_allowed_zt10 vs_52 j_85 L_54))
def object_allowed_zt12 (vs_52 : List AV) (j_85 : W.Kn) (L_54 : SH)  : Prop :=
 W.bin Try.prog Fl .eql 3 (slotOf [2, 3, 7, 43] vs_52 7) (.int .i64 17) fun t63_113 =>
 W.cond t63_113 (
 j_85 [(slotOf [2, 3, 7, 43] vs_52 2), (slotOf [2, 3, 7, 43] vs_52 3), (slotOf [2, 3, 7, 43] vs_52 7), t63_113] L_54) (
 (object_allowed_zt11 vs_52 j_85 L_54))
def object_allowed_zt13 (Q : AV → SH → Prop) (vs_52 : List AV) (L_54 : SH)  : Prop :=
 W.join (object_allowed_j4 Q) fun j_85 =>
 W.bin Try.prog Fl .eql 3 (slotOf [2, 3, 7, 43] vs_52 7) (.int .i64 16) fun t62_112 =>
 W.cond t62_112 (
 j_85 [(slotOf [2, 3, 7, 43] vs_52 2), (slotOf [2, 3, 7, 43] vs_52 3), (slotOf [2, 3, 7, 43] vs_52 7), t62_112] L_54) (
 (object_allowed_zt12 vs_52 j_85 L_54))
def object_allowed_j5 (Q : AV → SH → Prop) (vs_52 : List AV) (L_54 : SH) : Prop :=
 W.cond (slotOf [2, 3, 7, 43] vs_52 43) (
 (object_allowed_zt2 vs_52 L_54 Q)) (
 (object_allowed_zt13 Q vs_52 L_54))
def object_allowed_zt14 (vs_16 : List AV) (j_53 : W.Kn) (L_18 : SH)  : Prop :=
 W.bin Try.prog Fl .eql 3 (slotOf [2, 3, 7, 26] vs_16 7) (.int .i64 11) fun t47_119 =>
 j_53 [(slotOf [2, 3, 7, 26] vs_16 2), (slotOf [2, 3, 7, 26] vs_16 3), (slotOf [2, 3, 7, 26] vs_16 7), t47_119] L_18
def object_allowed_zt15 (vs_16 : List AV) (j_53 : W.Kn) (L_18 : SH)  : Prop :=
 W.bin Try.prog Fl .eql 3 (slotOf [2, 3, 7, 26] vs_16 7) (.int .i64 10) fun t46_118 =>
 W.cond t46_118 (
 j_53 [(slotOf [2, 3, 7, 26] vs_16 2), (slotOf [2, 3, 7, 26] vs_16 3), (slotOf [2, 3, 7, 26] vs_16 7), t46_118] L_18) (
 (object_allowed_zt14 vs_16 j_53 L_18))
def object_allowed_zt16 (vs_16 : List AV) (j_53 : W.Kn) (L_18 : SH)  : Prop :=
 W.bin Try.prog Fl .eql 3 (slotOf [2, 3, 7, 26] vs_16 7) (.int .i64 9) fun t45_117 =>
 W.cond t45_117 (
 j_53 [(slotOf [2, 3, 7, 26] vs_16 2), (slotOf [2, 3, 7, 26] vs_16 3), (slotOf [2, 3, 7, 26] vs_16 7), t45_117] L_18) (
 (object_allowed_zt15 vs_16 j_53 L_18))
def object_allowed_zt17 (Q : AV → SH → Prop) (vs_16 : List AV) (L_18 : SH)  : Prop :=
 W.join (object_allowed_j5 Q) fun j_53 =>
 W.bin Try.prog Fl .eql 3 (slotOf [2, 3, 7, 26] vs_16 7) (.int .i64 8) fun t44_116 =>
 W.cond t44_116 (
 j_53 [(slotOf [2, 3, 7, 26] vs_16 2), (slotOf [2, 3, 7, 26] vs_16 3), (slotOf [2, 3, 7, 26] vs_16 7), t44_116] L_18) (
 (object_allowed_zt16 vs_16 j_53 L_18))
def object_allowed_j6 (Q : AV → SH → Prop) (vs_16 : List AV) (L_18 : SH) : Prop :=
 W.cond (slotOf [2, 3, 7, 26] vs_16 26) (
 (object_allowed_zt1 vs_16 L_18 Q)) (
 (object_allowed_zt17 Q vs_16 L_18))
def object_allowed_zt18 (vs_8 : List AV) (j_17 : W.Kn) (L_10 : SH)  : Prop :=
 W.bin Try.prog Fl .eql 3 (slotOf [2, 3, 7, 18] vs_8 7) (.int .i64 7) fun t28_121 =>
 j_17 [(slotOf [2, 3, 7, 18] vs_8 2), (slotOf [2, 3, 7, 18] vs_8 3), (slotOf [2, 3, 7, 18] vs_8 7), t28_121] L_10
def object_allowed_zt19 (Q : AV → SH → Prop) (vs_8 : List AV) (L_10 : SH)  : Prop :=
 W.join (object_allowed_j6 Q) fun j_17 =>
 W.bin Try.prog Fl .eql 3 (slotOf [2, 3, 7, 18] vs_8 7) (.int .i64 6) fun t27_120 =>
 W.cond t27_120 (
 j_17 [(slotOf [2, 3, 7, 18] vs_8 2), (slotOf [2, 3, 7, 18] vs_8 3), (slotOf [2, 3, 7, 18] vs_8 7), t27_120] L_10) (
 (object_allowed_zt18 vs_8 j_17 L_10))
def object_allowed_j7 (Q : AV → SH → Prop) (vs_8 : List AV) (L_10 : SH) : Prop :=
 W.cond (slotOf [2, 3, 7, 18] vs_8 18) (
 (object_allowed_zt0 vs_8 L_10 Q)) (
 (object_allowed_zt19 Q vs_8 L_10))
def object_allowed_zt20 (vs_4 : List AV) (j_9 : W.Kn) (L_6 : SH)  : Prop :=
 W.bin Try.prog Fl .eql 3 (slotOf [2, 3, 7, 8] vs_4 7) (.int .i64 4) fun t20_123 =>
 j_9 [(slotOf [2, 3, 7, 8] vs_4 2), (slotOf [2, 3, 7, 8] vs_4 3), (slotOf [2, 3, 7, 8] vs_4 7), t20_123] L_6
def object_allowed_zt21 (Q : AV → SH → Prop) (vs_4 : List AV) (L_6 : SH)  : Prop :=
 W.join (object_allowed_j7 Q) fun j_9 =>
 W.bin Try.prog Fl .eql 3 (slotOf [2, 3, 7, 8] vs_4 7) (.int .i64 3) fun t19_122 =>
 W.cond t19_122 (
 j_9 [(slotOf [2, 3, 7, 8] vs_4 2), (slotOf [2, 3, 7, 8] vs_4 3), (slotOf [2, 3, 7, 8] vs_4 7), t19_122] L_6) (
 (object_allowed_zt20 vs_4 j_9 L_6))
def object_allowed_j8 (Q : AV → SH → Prop) (vs_4 : List AV) (L_6 : SH) : Prop :=
 W.cond (slotOf [2, 3, 7, 8] vs_4 8) (
 W.bin Try.prog Fl .eql 3 (slotOf [2, 3, 7, 8] vs_4 2) (.int .i64 (-1)) fun t17_7 =>
 Q t17_7 L_6) (
 (object_allowed_zt21 Q vs_4 L_6))
def object_allowed_zt22 (t1 : AV) (j_5 : W.Kn) (t2 : AV) (t3_2 : AV) (L_3 : SH)  : Prop :=
 W.bin Try.prog Fl .eql 3 t1 (.int .i64 14) fun t14_129 =>
 W.cond t14_129 (
 j_5 [t2, t3_2, t1, t14_129] L_3) (
 W.bin Try.prog Fl .eql 3 t1 (.int .i64 15) fun t15_130 =>
 j_5 [t2, t3_2, t1, t15_130] L_3)
def object_allowed_zt23 (t1 : AV) (j_5 : W.Kn) (t2 : AV) (t3_2 : AV) (L_3 : SH)  : Prop :=
 W.bin Try.prog Fl .eql 3 t1 (.int .i64 12) fun t12_127 =>
 W.cond t12_127 (
 j_5 [t2, t3_2, t1, t12_127] L_3) (
 W.bin Try.prog Fl .eql 3 t1 (.int .i64 13) fun t13_128 =>
 W.cond t13_128 (
 j_5 [t2, t3_2, t1, t13_128] L_3) (
 (object_allowed_zt22 t1 j_5 t2 t3_2 L_3)))
def object_allowed_zt24 (t1 : AV) (j_5 : W.Kn) (t2 : AV) (t3_2 : AV) (L_3 : SH)  : Prop :=
 W.bin Try.prog Fl .eql 3 t1 (.int .i64 2) fun t10_125 =>
 W.cond t10_125 (
 j_5 [t2, t3_2, t1, t10_125] L_3) (
 W.bin Try.prog Fl .eql 3 t1 (.int .i64 5) fun t11_126 =>
 W.cond t11_126 (
 j_5 [t2, t3_2, t1, t11_126] L_3) (
 (object_allowed_zt23 t1 j_5 t2 t3_2 L_3)))
def object_allowed_w (t0 t1 t2 : AV) (L : SH) (Q : AV → SH → Prop) : Prop :=
 W.box t0 L fun t3_0 L_1 =>
 W.frz1 t3_0 L_1 fun t3_2 L_3 =>
 W.join (object_allowed_j8 Q) fun j_5 =>
 W.bin Try.prog Fl .eql 3 t1 (.int .i64 1) fun t9_124 =>
 W.cond t9_124 (
 j_5 [t2, t3_2, t1, t9_124] L_3) (
 (object_allowed_zt24 t1 j_5 t2 t3_2 L_3))
theorem object_allowed_e (t0 t1 t2 : AV) (L : SH) (Q : AV → SH → Prop) : W.func Try.prog Fl object_allowed_t Try.f53 (Try.f53.body.getD .skip) [t0, t1, t2] L Q = object_allowed_w t0 t1 t2 L Q := by kernel_rfl
theorem object_allowed_ok (t0 t1 t2 : AV) (L : SH) (Q : AV → SH → Prop) (h : object_allowed_w t0 t1 t2 L Q) : CallA Try.prog 53 [t0, t1, t2] L Q :=
  func_sound (ht := object_allowed_t) fit Try.func53 (show Try.f53.body = some (Try.f53.body.getD .skip) by kernel_rfl) (Eq.mpr (object_allowed_e t0 t1 t2 L Q) h)

def object_ready_t : Hints := ⟨fun k => if k = 9 then some [2, 4, 5, 6, 11, 60] else if k = 23 then some [2, 4, 5, 6, 11, 109] else none, fun k => [], fun k => if k = 0 then [5, 6] else [], fun k => if k = 24 then [0, 1, 0, 4, 0, 28, 60, 124, 255, 511, 1023, 0, 4095, 8191] else []⟩
def object_ready_zt0 (t6_6 : AV) (L_7 : SH) (t4 : AV) (Q : AV → SH → Prop)  : Prop :=
 W.faddr 0 t6_6 fun t14_9 =>
 W.load false 1 t14_9 L_7 fun t15_10 =>
 W.idx 2 t15_10 t4 L_7 fun t17_11 =>
 W.faddr 0 t17_11 fun t18_12 =>
 W.load false 1 t18_12 L_7 fun t19_13 =>
 W.bin Try.prog Fl .eql 3 t19_13 (.int .i64 (-1)) fun t20_14 =>
 Q t20_14 L_7
def object_ready_zt1 (t6_6 : AV) (L_7 : SH) (t4 : AV) (Q : AV → SH → Prop)  : Prop :=
 W.faddr 0 t6_6 fun t23_16 =>
 W.load false 1 t23_16 L_7 fun t24_17 =>
 W.idx 2 t24_17 t4 L_7 fun t26_18 =>
 W.faddr 0 t26_18 fun t27_19 =>
 W.load false 1 t27_19 L_7 fun t28_20 =>
 W.bin Try.prog Fl .eql 3 t28_20 (.int .i64 (-1)) fun t29_21 =>
 W.grd t29_21 true (fun k_23 => W.faddr 0 t6_6 fun v_25 =>
 k_23 v_25 L_7) L_7 fun t31_22 L_24 =>
 W.grd t29_21 true (fun k_27 => W.load false 1 t31_22 L_24 fun v_29 =>
 k_27 v_29 L_24) L_24 fun t32_26 L_28 =>
 W.grd t29_21 true (fun k_31 => k_31 t4 L_28) L_28 fun t33_30 L_32 =>
 W.grd t29_21 true (fun k_34 => W.idx 2 t32_26 t33_30 L_32 fun v_36 =>
 k_34 v_36 L_32) L_32 fun t34_33 L_35 =>
 W.grd t29_21 true (fun k_38 => W.faddr 1 t34_33 fun v_40 =>
 k_38 v_40 L_35) L_35 fun t35_37 L_39 =>
 W.grd t29_21 true (fun k_42 => W.load false 1 t35_37 L_39 fun v_44 =>
 k_42 v_44 L_39) L_39 fun t36_41 L_43 =>
 W.grd t29_21 true (fun k_46 => W.len t36_41 fun v_48 =>
 k_46 v_48 L_43) L_43 fun t37_45 L_47 =>
 W.grd t29_21 true (fun k_50 => W.bin Try.prog Fl .eql 3 t37_45 (.int .i64 0) fun v_52 =>
 k_50 v_52 L_47) L_47 fun t38_49 L_51 =>
 W.pick t29_21 t38_49 (.bool false) fun t39_53 =>
 Q t39_53 L_51
def object_ready_zt2 (t6_6 : AV) (L_7 : SH) (t4 : AV) (t2 : AV) (Q : AV → SH → Prop)  : Prop :=
 W.faddr 0 t6_6 fun t42_55 =>
 W.load false 1 t42_55 L_7 fun t43_56 =>
 W.idx 2 t43_56 t4 L_7 fun t45_57 =>
 W.faddr 0 t45_57 fun t46_58 =>
 W.load false 1 t46_58 L_7 fun t47_59 =>
 W.bin Try.prog Fl .eql 3 t47_59 (.int .i64 (-1)) fun t48_60 =>
 W.grd t48_60 true (fun k_62 => W.faddr 0 t6_6 fun v_64 =>
 k_62 v_64 L_7) L_7 fun t50_61 L_63 =>
 W.grd t48_60 true (fun k_66 => W.load false 1 t50_61 L_63 fun v_68 =>
 k_66 v_68 L_63) L_63 fun t51_65 L_67 =>
 W.grd t48_60 true (fun k_70 => k_70 t4 L_67) L_67 fun t52_69 L_71 =>
 W.grd t48_60 true (fun k_73 => W.idx 2 t51_65 t52_69 L_71 fun v_75 =>
 k_73 v_75 L_71) L_71 fun t53_72 L_74 =>
 W.grd t48_60 true (fun k_77 => W.faddr 1 t53_72 fun v_79 =>
 k_77 v_79 L_74) L_74 fun t54_76 L_78 =>
 W.grd t48_60 true (fun k_81 => W.load false 1 t54_76 L_78 fun v_83 =>
 k_81 v_83 L_78) L_78 fun t55_80 L_82 =>
 W.grd t48_60 true (fun k_85 => k_85 t2 L_82) L_82 fun t56_84 L_86 =>
 W.grd t48_60 true (fun k_88 => W.call Try.prog (.fn 60 []) [t55_80, t56_84] L_86 fun v_90 L_91 =>
 k_88 v_90 L_91) L_86 fun t57_87 L_89 =>
 W.grd t48_60 true (fun k_93 => W.un .not t57_87 fun v_95 =>
 k_93 v_95 L_89) L_89 fun t58_92 L_94 =>
 W.pick t48_60 t58_92 (.bool false) fun t59_96 =>
 Q t59_96 L_94
def object_ready_zt3 (vs_97 : List AV) (L_99 : SH) (Q : AV → SH → Prop)  : Prop :=
 W.faddr 0 (slotOf [2, 4, 5, 6, 11, 60] vs_97 6) fun t63_100 =>
 W.load false 1 t63_100 L_99 fun t64_101 =>
 W.idx 2 t64_101 (slotOf [2, 4, 5, 6, 11, 60] vs_97 4) L_99 fun t66_102 =>
 W.faddr 0 t66_102 fun t67_103 =>
 W.load false 1 t67_103 L_99 fun t68_104 =>
 W.bin Try.prog Fl .eql 3 t68_104 (slotOf [2, 4, 5, 6, 11, 60] vs_97 2) fun t70_105 =>
 Q t70_105 L_99
def object_ready_zt4 (vs_97 : List AV) (L_99 : SH) (Q : AV → SH → Prop)  : Prop :=
 W.faddr 0 (slotOf [2, 4, 5, 6, 11, 60] vs_97 6) fun t73_107 =>
 W.load false 1 t73_107 L_99 fun t74_108 =>
 W.idx 2 t74_108 (slotOf [2, 4, 5, 6, 11, 60] vs_97 4) L_99 fun t76_109 =>
 W.faddr 1 t76_109 fun t77_110 =>
 W.load false 1 t77_110 L_99 fun t78_111 =>
 W.call Try.prog (.fn 60 []) [t78_111, (slotOf [2, 4, 5, 6, 11, 60] vs_97 2)] L_99 fun t80_112 L_113 =>
 Q t80_112 L_113
def object_ready_zt5 (vs_97 : List AV) (L_99 : SH) (Q : AV → SH → Prop)  : Prop :=
 W.faddr 1 (slotOf [2, 4, 5, 6, 11, 60] vs_97 6) fun t83_115 =>
 W.load false 1 t83_115 L_99 fun t84_116 =>
 W.bin Try.prog Fl .eql 3 t84_116 (.int .i64 (-1)) fun t85_117 =>
 Q t85_117 L_99
def object_ready_zt6 (vs_97 : List AV) (L_99 : SH) (Q : AV → SH → Prop)  : Prop :=
 W.faddr 1 (slotOf [2, 4, 5, 6, 11, 60] vs_97 6) fun t88_119 =>
 W.load false 1 t88_119 L_99 fun t89_120 =>
 W.bin Try.prog Fl .eql 3 t89_120 (slotOf [2, 4, 5, 6, 11, 60] vs_97 2) fun t91_121 =>
 Q t91_121 L_99
def object_ready_zt7 (vs_97 : List AV) (L_99 : SH) (Q : AV → SH → Prop)  : Prop :=
 W.faddr 3 (slotOf [2, 4, 5, 6, 11, 60] vs_97 6) fun t94_123 =>
 W.load false 1 t94_123 L_99 fun t95_124 =>
 W.idx 3 t95_124 (slotOf [2, 4, 5, 6, 11, 60] vs_97 2) L_99 fun t97_125 =>
 W.faddr 2 t97_125 fun t98_126 =>
 W.load false 1 t98_126 L_99 fun t99_127 =>
 W.un .not t99_127 fun t100_128 =>
 Q t100_128 L_99
def object_ready_zt8 (vs_97 : List AV) (L_99 : SH) (Q : AV → SH → Prop)  : Prop :=
 W.faddr 3 (slotOf [2, 4, 5, 6, 11, 60] vs_97 6) fun t103_130 =>
 W.load false 1 t103_130 L_99 fun t104_131 =>
 W.idx 3 t104_131 (slotOf [2, 4, 5, 6, 11, 60] vs_97 2) L_99 fun t106_132 =>
 W.faddr 2 t106_132 fun t107_133 =>
 W.load false 1 t107_133 L_99 fun t108_134 =>
 Q t108_134 L_99
def object_ready_zt9 (vs_135 : List AV) (L_137 : SH) (Q : AV → SH → Prop)  : Prop :=
 (true = true) ∧ (
 W.faddr 0 (slotOf [2, 4, 5, 6, 11, 109] vs_135 6) fun t113_138 =>
 W.calm [] ⟨1, (blocksOf t113_138), [], [], false, []⟩ (
 W.load false 1 t113_138 L_137 fun t114_139 =>
 W.note ⟨(blocksOf t113_138), [], [], []⟩ fun r_140 =>
 W.faddr 2 (slotOf [2, 4, 5, 6, 11, 109] vs_135 5) fun t115_141 =>
 W.calm [⟨1, r_140.reads, r_140.writes, r_140.made, false, r_140.old⟩] ⟨3, (blocksOf t115_141), [], [], false, []⟩ (
 W.load false 1 t115_141 L_137 fun t116_142 =>
 W.note ⟨(blocksOf t115_141), [], [], []⟩ fun r_143 =>
 W.calm [⟨1, r_140.reads, r_140.writes, r_140.made, false, r_140.old⟩] ⟨5, (slOf t116_142), [], [], false, []⟩ (
 W.idx 2 t116_142 (slotOf [2, 4, 5, 6, 11, 109] vs_135 4) L_137 fun t118_144 =>
 W.note ⟨(slOf t116_142), [], [], []⟩ fun r_145 =>
 W.faddr 1 t118_144 fun t119_146 =>
 W.calm [⟨1, r_140.reads, r_140.writes, r_140.made, false, r_140.old⟩] ⟨7, (blocksOf t119_146), [], [], false, []⟩ (
 W.load false 1 t119_146 L_137 fun t120_147 =>
 W.note ⟨(blocksOf t119_146), [], [], []⟩ fun r_148 =>
 W.calm [] ⟨8, (slOf t114_139), [], [], false, []⟩ (
 W.idx 2 t114_139 t120_147 L_137 fun t121_149 =>
 W.note ⟨(slOf t114_139), [], [], []⟩ fun r_150 =>
 W.faddr 0 t121_149 fun t122_151 =>
 W.calm [] ⟨10, (blocksOf t122_151), [], [], false, []⟩ (
 W.load false 1 t122_151 L_137 fun t123_152 =>
 W.note ⟨(blocksOf t122_151), [], [], []⟩ fun r_153 =>
 W.bin Try.prog Fl .eql 3 t123_152 (slotOf [2, 4, 5, 6, 11, 109] vs_135 2) fun t125_154 =>
 Q t125_154 L_137)))))))
def object_ready_zt10 (vs_135 : List AV) (L_137 : SH) (Q : AV → SH → Prop)  : Prop :=
 W.bin Try.prog Fl .neq 3 (slotOf [2, 4, 5, 6, 11, 109] vs_135 4) (slotOf [2, 4, 5, 6, 11, 109] vs_135 2) fun t130_156 =>
 W.grd t130_156 true (fun k_158 => W.faddr 3 (slotOf [2, 4, 5, 6, 11, 109] vs_135 6) fun v_160 =>
 k_158 v_160 L_137) L_137 fun t132_157 L_159 =>
 W.grd t130_156 true (fun k_162 => W.load false 1 t132_157 L_159 fun v_164 =>
 k_162 v_164 L_159) L_159 fun t133_161 L_163 =>
 W.grd t130_156 true (fun k_166 => k_166 (slotOf [2, 4, 5, 6, 11, 109] vs_135 4) L_163) L_163 fun t134_165 L_167 =>
 W.grd t130_156 true (fun k_169 => W.idx 3 t133_161 t134_165 L_167 fun v_171 =>
 k_169 v_171 L_167) L_167 fun t135_168 L_170 =>
 W.grd t130_156 true (fun k_173 => W.faddr 0 t135_168 fun v_175 =>
 k_173 v_175 L_170) L_170 fun t136_172 L_174 =>
 W.grd t130_156 true (fun k_177 => W.load false 1 t136_172 L_174 fun v_179 =>
 k_177 v_179 L_174) L_174 fun t137_176 L_178 =>
 W.grd t130_156 true (fun k_181 => W.bin Try.prog Fl .eql 3 t137_176 (.int .i64 0) fun v_183 =>
 k_181 v_183 L_178) L_178 fun t138_180 L_182 =>
 W.pick t130_156 t138_180 (.bool false) fun t139_184 =>
 Q t139_184 L_182
def object_ready_zt11 (vs_135 : List AV) (L_137 : SH) (Q : AV → SH → Prop)  : Prop :=
 W.bin Try.prog Fl .neq 3 (slotOf [2, 4, 5, 6, 11, 109] vs_135 4) (slotOf [2, 4, 5, 6, 11, 109] vs_135 2) fun t144_186 =>
 W.grd t144_186 true (fun k_188 => W.faddr 3 (slotOf [2, 4, 5, 6, 11, 109] vs_135 6) fun v_190 =>
 k_188 v_190 L_137) L_137 fun t146_187 L_189 =>
 W.grd t144_186 true (fun k_192 => W.load false 1 t146_187 L_189 fun v_194 =>
 k_192 v_194 L_189) L_189 fun t147_191 L_193 =>
 W.grd t144_186 true (fun k_196 => k_196 (slotOf [2, 4, 5, 6, 11, 109] vs_135 4) L_193) L_193 fun t148_195 L_197 =>
 W.grd t144_186 true (fun k_199 => W.idx 3 t147_191 t148_195 L_197 fun v_201 =>
 k_199 v_201 L_197) L_197 fun t149_198 L_200 =>
 W.grd t144_186 true (fun k_203 => W.faddr 0 t149_198 fun v_205 =>
 k_203 v_205 L_200) L_200 fun t150_202 L_204 =>
 W.grd t144_186 true (fun k_207 => W.load false 1 t150_202 L_204 fun v_209 =>
 k_207 v_209 L_204) L_204 fun t151_206 L_208 =>
 W.grd t144_186 true (fun k_211 => W.bin Try.prog Fl .eql 3 t151_206 (.int .i64 5) fun v_213 =>
 k_211 v_213 L_208) L_208 fun t152_210 L_212 =>
 W.pick t144_186 t152_210 (.bool false) fun t153_214 =>
 Q t153_214 L_212
def object_ready_zt12 (vs_135 : List AV) (L_137 : SH) (Q : AV → SH → Prop)  : Prop :=
 W.faddr 2 (slotOf [2, 4, 5, 6, 11, 109] vs_135 6) fun t156_216 =>
 W.load false 1 t156_216 L_137 fun t157_217 =>
 W.idx 1 t157_217 (slotOf [2, 4, 5, 6, 11, 109] vs_135 4) L_137 fun t159_218 =>
 W.load false 1 t159_218 L_137 fun t160_219 =>
 W.un .not t160_219 fun t161_220 =>
 Q t161_220 L_137
def object_ready_zt13 (vs_135 : List AV) (L_137 : SH) (Q : AV → SH → Prop)  : Prop :=
 W.faddr 2 (slotOf [2, 4, 5, 6, 11, 109] vs_135 6) fun t164_222 =>
 W.load false 1 t164_222 L_137 fun t165_223 =>
 W.idx 1 t165_223 (slotOf [2, 4, 5, 6, 11, 109] vs_135 4) L_137 fun t167_224 =>
 W.load false 1 t167_224 L_137 fun t168_225 =>
 Q t168_225 L_137
def object_ready_zt14 (vs_135 : List AV) (L_137 : SH) (Q : AV → SH → Prop)  : Prop :=
 W.bin Try.prog Fl .eql 3 (slotOf [2, 4, 5, 6, 11, 109] vs_135 11) (.int .i64 23) fun t163_221 =>
 W.cond t163_221 (
 (object_ready_zt13 vs_135 L_137 Q)) (
 Q (.bool true) L_137)
def object_ready_zt15 (vs_135 : List AV) (L_137 : SH) (Q : AV → SH → Prop)  : Prop :=
 W.bin Try.prog Fl .eql 3 (slotOf [2, 4, 5, 6, 11, 109] vs_135 11) (.int .i64 22) fun t155_215 =>
 W.cond t155_215 (
 (object_ready_zt12 vs_135 L_137 Q)) (
 (object_ready_zt14 vs_135 L_137 Q))
def object_ready_zt16 (vs_135 : List AV) (L_137 : SH) (Q : AV → SH → Prop)  : Prop :=
 W.bin Try.prog Fl .eql 3 (slotOf [2, 4, 5, 6, 11, 109] vs_135 11) (.int .i64 21) fun t141_185 =>
 W.cond t141_185 (
 (object_ready_zt11 vs_135 L_137 Q)) (
 (object_ready_zt15 vs_135 L_137 Q))
def object_ready_zt17 (vs_135 : List AV) (L_137 : SH) (Q : AV → SH → Prop)  : Prop :=
 W.bin Try.prog Fl .eql 3 (slotOf [2, 4, 5, 6, 11, 109] vs_135 11) (.int .i64 20) fun t127_155 =>
 W.cond t127_155 (
 (object_ready_zt10 vs_135 L_137 Q)) (
 (object_ready_zt16 vs_135 L_137 Q))
def object_ready_j0 (Q : AV → SH → Prop) (vs_135 : List AV) (L_137 : SH) : Prop :=
 W.cond (slotOf [2, 4, 5, 6, 11, 109] vs_135 109) (
 (object_ready_zt9 vs_135 L_137 Q)) (
 (object_ready_zt17 vs_135 L_137 Q))
def object_ready_zt18 (j_136 : W.Kn) (vs_97 : List AV) (t110_226 : AV) (L_99 : SH)  : Prop :=
 j_136 [(slotOf [2, 4, 5, 6, 11, 60] vs_97 2), (slotOf [2, 4, 5, 6, 11, 60] vs_97 4), (slotOf [2, 4, 5, 6, 11, 60] vs_97 5), (slotOf [2, 4, 5, 6, 11, 60] vs_97 6), (slotOf [2, 4, 5, 6, 11, 60] vs_97 11), t110_226] L_99
def object_ready_zt19 (j_136 : W.Kn) (vs_97 : List AV) (t111_227 : AV) (L_99 : SH)  : Prop :=
 j_136 [(slotOf [2, 4, 5, 6, 11, 60] vs_97 2), (slotOf [2, 4, 5, 6, 11, 60] vs_97 4), (slotOf [2, 4, 5, 6, 11, 60] vs_97 5), (slotOf [2, 4, 5, 6, 11, 60] vs_97 6), (slotOf [2, 4, 5, 6, 11, 60] vs_97 11), t111_227] L_99
def object_ready_zt20 (vs_97 : List AV) (j_136 : W.Kn) (L_99 : SH)  : Prop :=
 W.bin Try.prog Fl .eql 3 (slotOf [2, 4, 5, 6, 11, 60] vs_97 11) (.int .i64 19) fun t112_228 =>
 j_136 [(slotOf [2, 4, 5, 6, 11, 60] vs_97 2), (slotOf [2, 4, 5, 6, 11, 60] vs_97 4), (slotOf [2, 4, 5, 6, 11, 60] vs_97 5), (slotOf [2, 4, 5, 6, 11, 60] vs_97 6), (slotOf [2, 4, 5, 6, 11, 60] vs_97 11), t112_228] L_99
def object_ready_zt21 (vs_97 : List AV) (j_136 : W.Kn) (L_99 : SH)  : Prop :=
 W.bin Try.prog Fl .eql 3 (slotOf [2, 4, 5, 6, 11, 60] vs_97 11) (.int .i64 18) fun t111_227 =>
 W.cond t111_227 (
 (object_ready_zt19 j_136 vs_97 t111_227 L_99)) (
 (object_ready_zt20 vs_97 j_136 L_99))
def object_ready_zt22 (Q : AV → SH → Prop) (vs_97 : List AV) (L_99 : SH)  : Prop :=
 W.join (object_ready_j0 Q) fun j_136 =>
 W.bin Try.prog Fl .eql 3 (slotOf [2, 4, 5, 6, 11, 60] vs_97 11) (.int .i64 16) fun t110_226 =>
 W.cond t110_226 (
 (object_ready_zt18 j_136 vs_97 t110_226 L_99)) (
 (object_ready_zt21 vs_97 j_136 L_99))
def object_ready_zt23 (vs_97 : List AV) (L_99 : SH) (Q : AV → SH → Prop)  : Prop :=
 W.bin Try.prog Fl .eql 3 (slotOf [2, 4, 5, 6, 11, 60] vs_97 11) (.int .i64 15) fun t102_129 =>
 W.cond t102_129 (
 (object_ready_zt8 vs_97 L_99 Q)) (
 (object_ready_zt22 Q vs_97 L_99))
def object_ready_zt24 (vs_97 : List AV) (L_99 : SH) (Q : AV → SH → Prop)  : Prop :=
 W.bin Try.prog Fl .eql 3 (slotOf [2, 4, 5, 6, 11, 60] vs_97 11) (.int .i64 14) fun t93_122 =>
 W.cond t93_122 (
 (object_ready_zt7 vs_97 L_99 Q)) (
 (object_ready_zt23 vs_97 L_99 Q))
def object_ready_zt25 (vs_97 : List AV) (L_99 : SH) (Q : AV → SH → Prop)  : Prop :=
 W.bin Try.prog Fl .eql 3 (slotOf [2, 4, 5, 6, 11, 60] vs_97 11) (.int .i64 13) fun t87_118 =>
 W.cond t87_118 (
 (object_ready_zt6 vs_97 L_99 Q)) (
 (object_ready_zt24 vs_97 L_99 Q))
def object_ready_zt26 (vs_97 : List AV) (L_99 : SH) (Q : AV → SH → Prop)  : Prop :=
 W.bin Try.prog Fl .eql 3 (slotOf [2, 4, 5, 6, 11, 60] vs_97 11) (.int .i64 12) fun t82_114 =>
 W.cond t82_114 (
 (object_ready_zt5 vs_97 L_99 Q)) (
 (object_ready_zt25 vs_97 L_99 Q))
def object_ready_zt27 (vs_97 : List AV) (L_99 : SH) (Q : AV → SH → Prop)  : Prop :=
 W.bin Try.prog Fl .eql 3 (slotOf [2, 4, 5, 6, 11, 60] vs_97 11) (.int .i64 9) fun t72_106 =>
 W.cond t72_106 (
 (object_ready_zt4 vs_97 L_99 Q)) (
 (object_ready_zt26 vs_97 L_99 Q))
def object_ready_j1 (Q : AV → SH → Prop) (vs_97 : List AV) (L_99 : SH) : Prop :=
 W.cond (slotOf [2, 4, 5, 6, 11, 60] vs_97 60) (
 (object_ready_zt3 vs_97 L_99 Q)) (
 (object_ready_zt27 vs_97 L_99 Q))
def object_ready_zt28 (Q : AV → SH → Prop) (t3 : AV) (t2 : AV) (t4 : AV) (t5_4 : AV) (t6_6 : AV) (L_7 : SH)  : Prop :=
 W.join (object_ready_j1 Q) fun j_98 =>
 W.bin Try.prog Fl .eql 3 t3 (.int .i64 7) fun t61_229 =>
 W.cond t61_229 (
 j_98 [t2, t4, t5_4, t6_6, t3, t61_229] L_7) (
 W.bin Try.prog Fl .eql 3 t3 (.int .i64 11) fun t62_230 =>
 j_98 [t2, t4, t5_4, t6_6, t3, t62_230] L_7)
def object_ready_zt29 (t3 : AV) (t6_6 : AV) (L_7 : SH) (t4 : AV) (Q : AV → SH → Prop) (t2 : AV) (t5_4 : AV)  : Prop :=
 W.bin Try.prog Fl .eql 3 t3 (.int .i64 10) fun t22_15 =>
 W.cond t22_15 (
 (object_ready_zt1 t6_6 L_7 t4 Q)) (
 W.bin Try.prog Fl .eql 3 t3 (.int .i64 8) fun t41_54 =>
 W.cond t41_54 (
 (object_ready_zt2 t6_6 L_7 t4 t2 Q)) (
 (object_ready_zt28 Q t3 t2 t4 t5_4 t6_6 L_7)))
def object_ready_w (t0 t1 t2 t3 t4 : AV) (L : SH) (Q : AV → SH → Prop) : Prop :=
 W.box t0 L fun t5_0 L_1 =>
 W.box t1 L_1 fun t6_2 L_3 =>
 W.frz1 t5_0 L_3 fun t5_4 L_5 =>
 W.frz1 t6_2 L_5 fun t6_6 L_7 =>
 W.bin Try.prog Fl .eql 3 t3 (.int .i64 6) fun t13_8 =>
 W.cond t13_8 (
 (object_ready_zt0 t6_6 L_7 t4 Q)) (
 (object_ready_zt29 t3 t6_6 L_7 t4 Q t2 t5_4))
theorem object_ready_e (t0 t1 t2 t3 t4 : AV) (L : SH) (Q : AV → SH → Prop) : W.func Try.prog Fl object_ready_t Try.f54 (Try.f54.body.getD .skip) [t0, t1, t2, t3, t4] L Q = object_ready_w t0 t1 t2 t3 t4 L Q := by kernel_rfl
theorem object_ready_ok (t0 t1 t2 t3 t4 : AV) (L : SH) (Q : AV → SH → Prop) (h : object_ready_w t0 t1 t2 t3 t4 L Q) : CallA Try.prog 54 [t0, t1, t2, t3, t4] L Q :=
  func_sound (ht := object_ready_t) fit Try.func54 (show Try.f54.body = some (Try.f54.body.getD .skip) by kernel_rfl) (Eq.mpr (object_ready_e t0 t1 t2 t3 t4 L Q) h)

def object_Enabled_t : Hints := ⟨fun k => none, fun k => [], fun k => if k = 0 then [5, 6] else if k = 3 then [11] else [], fun k => if k = 8 then [0, 1, 3, 7, 15, 31, 15, 127, 255, 511, 1023, 2047, 1023, 5119, 1023, 29695, 62463, 127999, 262143, 524287, 1048575, 2097151, 4194303, 8388607] else []⟩
def object_Enabled_zt0 (t11_65 : AV) (L_66 : SH) (t4 : AV) (t6_6 : AV) (t5_4 : AV) (Q : AV → SH → Prop)  : Prop :=
 (true = true) ∧ (
 W.faddr 0 t11_65 fun t44_72 =>
 W.calm [] ⟨1, (blocksOf t44_72), [], [], false, []⟩ (
 W.load false 1 t44_72 L_66 fun t45_73 =>
 W.note ⟨(blocksOf t44_72), [], [], []⟩ fun r_74 =>
 W.bin Try.prog Fl .eql 3 t45_73 (.int .i64 4) fun t46_75 =>
 W.dgrd t46_75 true (fun k_77 => W.faddr 1 t11_65 fun v_80 =>
 k_77 v_80 L_66 ⟨[], [], [], []⟩) L_66 fun t48_76 L_79 r_78 =>
 W.dgrd t46_75 true (fun k_82 => W.calm [] ⟨5, (blocksOf t48_76), [], [], false, []⟩ (
 W.load false 1 t48_76 L_79 fun v_85 =>
 W.note ⟨(blocksOf t48_76), [], [], []⟩ fun r_86 =>
 k_82 v_85 L_79 r_86)) L_79 fun t49_81 L_84 r_83 =>
 W.dgrd t46_75 true (fun k_88 => k_88 t4 L_84 ⟨[], [], [], []⟩) L_84 fun t50_87 L_90 r_89 =>
 W.dgrd t46_75 true (fun k_92 => W.bin Try.prog Fl .eql 3 t49_81 t50_87 fun v_95 =>
 k_92 v_95 L_90 ⟨[], [], [], []⟩) L_90 fun t51_91 L_94 r_93 =>
 W.pick t46_75 t51_91 (.bool false) fun t52_96 =>
 W.dgrd t52_96 true (fun k_98 => W.faddr 0 t6_6 fun v_101 =>
 k_98 v_101 L_94 ⟨[], [], [], []⟩) L_94 fun t54_97 L_100 r_99 =>
 W.dgrd t52_96 true (fun k_103 => W.calm [] ⟨11, (blocksOf t54_97), [], [], false, []⟩ (
 W.load false 1 t54_97 L_100 fun v_106 =>
 W.note ⟨(blocksOf t54_97), [], [], []⟩ fun r_107 =>
 k_103 v_106 L_100 r_107)) L_100 fun t55_102 L_105 r_104 =>
 W.dgrd t52_96 true (fun k_109 => W.faddr 2 t5_4 fun v_112 =>
 k_109 v_112 L_105 ⟨[], [], [], []⟩) L_105 fun t56_108 L_111 r_110 =>
 W.dgrd t52_96 true (fun k_114 => W.calm [⟨11, r_104.reads, r_104.writes, r_104.made, false, r_104.old⟩] ⟨13, (blocksOf t56_108), [], [], false, []⟩ (
 W.load false 1 t56_108 L_111 fun v_117 =>
 W.note ⟨(blocksOf t56_108), [], [], []⟩ fun r_118 =>
 k_114 v_117 L_111 r_118)) L_111 fun t57_113 L_116 r_115 =>
 W.dgrd t52_96 true (fun k_120 => k_120 t4 L_116 ⟨[], [], [], []⟩) L_116 fun t58_119 L_122 r_121 =>
 W.dgrd t52_96 true (fun k_124 => W.calm [⟨11, r_104.reads, r_104.writes, r_104.made, false, r_104.old⟩] ⟨15, (slOf t57_113), [], [], false, []⟩ (
 W.idx 2 t57_113 t58_119 L_122 fun v_127 =>
 W.note ⟨(slOf t57_113), [], [], []⟩ fun r_128 =>
 k_124 v_127 L_122 r_128)) L_122 fun t59_123 L_126 r_125 =>
 W.dgrd t52_96 true (fun k_130 => W.faddr 1 t59_123 fun v_133 =>
 k_130 v_133 L_126 ⟨[], [], [], []⟩) L_126 fun t60_129 L_132 r_131 =>
 W.dgrd t52_96 true (fun k_135 => W.calm [⟨11, r_104.reads, r_104.writes, r_104.made, false, r_104.old⟩] ⟨17, (blocksOf t60_129), [], [], false, []⟩ (
 W.load false 1 t60_129 L_132 fun v_138 =>
 W.note ⟨(blocksOf t60_129), [], [], []⟩ fun r_139 =>
 k_135 v_138 L_132 r_139)) L_132 fun t61_134 L_137 r_136 =>
 W.dgrd t52_96 true (fun k_141 => W.calm [] ⟨18, (slOf t55_102), [], [], false, []⟩ (
 W.idx 2 t55_102 t61_134 L_137 fun v_144 =>
 W.note ⟨(slOf t55_102), [], [], []⟩ fun r_145 =>
 k_141 v_144 L_137 r_145)) L_137 fun t62_140 L_143 r_142 =>
 W.dgrd t52_96 true (fun k_147 => W.faddr 0 t62_140 fun v_150 =>
 k_147 v_150 L_143 ⟨[], [], [], []⟩) L_143 fun t63_146 L_149 r_148 =>
 W.dgrd t52_96 true (fun k_152 => W.calm [] ⟨20, (blocksOf t63_146), [], [], false, []⟩ (
 W.load false 1 t63_146 L_149 fun v_155 =>
 W.note ⟨(blocksOf t63_146), [], [], []⟩ fun r_156 =>
 k_152 v_155 L_149 r_156)) L_149 fun t64_151 L_154 r_153 =>
 W.dgrd t52_96 true (fun k_158 => W.bin Try.prog Fl .eql 3 t64_151 (.int .i64 (-1)) fun v_161 =>
 k_158 v_161 L_154 ⟨[], [], [], []⟩) L_154 fun t65_157 L_160 r_159 =>
 W.pick t52_96 t65_157 (.bool false) fun t66_162 =>
 Q t66_162 L_160))
def object_Enabled_zt1 (t11_65 : AV) (L_66 : SH) (t5_4 : AV) (t6_6 : AV) (t2 : AV) (t3 : AV) (t4 : AV) (Q : AV → SH → Prop)  : Prop :=
 W.faddr 0 t11_65 fun t67_163 =>
 W.load false 1 t67_163 L_66 fun t68_164 =>
 W.bin Try.prog Fl .eql 3 t68_164 (.int .i64 2) fun t69_165 =>
 W.grd t69_165 true (fun k_167 => W.load true 6 t5_4 L_66 fun v_169 =>
 k_167 v_169 L_66) L_66 fun t71_166 L_168 =>
 W.grd t69_165 true (fun k_171 => W.load true 4 t6_6 L_168 fun v_173 =>
 k_171 v_173 L_168) L_168 fun t72_170 L_172 =>
 W.grd t69_165 true (fun k_175 => k_175 t2 L_172) L_172 fun t73_174 L_176 =>
 W.grd t69_165 true (fun k_178 => k_178 t3 L_176) L_176 fun t74_177 L_179 =>
 W.grd t69_165 true (fun k_181 => k_181 t4 L_179) L_179 fun t75_180 L_182 =>
 W.grd t69_165 true (fun k_184 => W.call Try.prog (.fn 54 []) [t71_166, t72_170, t73_174, t74_177, t75_180] L_182 fun v_186 L_187 =>
 k_184 v_186 L_187) L_182 fun t76_183 L_185 =>
 W.pick t69_165 t76_183 (.bool false) fun t77_188 =>
 Q t77_188 L_185
def object_Enabled_zt2 (t3 : AV) (t11_65 : AV) (L_66 : SH) (t4 : AV) (t6_6 : AV) (t5_4 : AV) (Q : AV → SH → Prop) (t2 : AV)  : Prop :=
 W.bin Try.prog Fl .eql 3 t3 (.int .i64 17) fun t43_71 =>
 W.cond t43_71 (
 (object_Enabled_zt0 t11_65 L_66 t4 t6_6 t5_4 Q)) (
 (object_Enabled_zt1 t11_65 L_66 t5_4 t6_6 t2 t3 t4 Q))
def object_Enabled_zt3 (t6_6 : AV) (L_55 : SH) (t2 : AV) (t3 : AV) (Q : AV → SH → Prop) (t4 : AV) (t5_4 : AV)  : Prop :=
 W.faddr 3 t6_6 fun t31_58 =>
 W.load false 1 t31_58 L_55 fun t32_59 =>
 W.idx 3 t32_59 t2 L_55 fun t34_60 =>
 W.load true 3 t34_60 L_55 fun t35_61 =>
 W.alloc [(.int .i64 0), (.int .i64 0), (.bool false)] L_55 fun t11_62 L_63 =>
 W.store 3 t11_62 t35_61 L_63 fun L_64 =>
 W.frz1 t11_62 L_64 fun t11_65 L_66 =>
 W.bin Try.prog Fl .eql 3 t3 (.int .i64 1) fun t38_67 =>
 W.cond t38_67 (
 W.faddr 0 t11_65 fun t39_68 =>
 W.load false 1 t39_68 L_66 fun t40_69 =>
 W.bin Try.prog Fl .eql 3 t40_69 (.int .i64 1) fun t41_70 =>
 Q t41_70 L_66) (
 (object_Enabled_zt2 t3 t11_65 L_66 t4 t6_6 t5_4 Q t2))
def object_Enabled_c0 (t2 : AV) (t5_4 : AV) (t3 : AV) (t4 : AV) (Q : AV → SH → Prop) (t6_6 : AV) (t14_10 : AV) (L_11 : SH) : Prop :=
 W.un .not t14_10 fun t15_12 =>
 W.grd t15_12 false (fun k_14 => k_14 t2 L_11) L_11 fun t17_13 L_15 =>
 W.grd t15_12 false (fun k_17 => W.faddr 4 t5_4 fun v_19 =>
 k_17 v_19 L_15) L_15 fun t18_16 L_18 =>
 W.grd t15_12 false (fun k_21 => W.load false 1 t18_16 L_18 fun v_23 =>
 k_21 v_23 L_18) L_18 fun t19_20 L_22 =>
 W.grd t15_12 false (fun k_25 => W.len t19_20 fun v_27 =>
 k_25 v_27 L_22) L_22 fun t20_24 L_26 =>
 W.grd t15_12 false (fun k_29 => W.call Try.prog (.fn 52 []) [t17_13, t20_24] L_26 fun v_31 L_32 =>
 k_29 v_31 L_32) L_26 fun t21_28 L_30 =>
 W.grd t15_12 false (fun k_34 => W.un .not t21_28 fun v_36 =>
 k_34 v_36 L_30) L_30 fun t22_33 L_35 =>
 W.pick t15_12 (.bool true) t22_33 fun t23_37 =>
 W.grd t23_37 false (fun k_39 => W.load true 6 t5_4 L_35 fun v_41 =>
 k_39 v_41 L_35) L_35 fun t25_38 L_40 =>
 W.grd t23_37 false (fun k_43 => k_43 t3 L_40) L_40 fun t26_42 L_44 =>
 W.grd t23_37 false (fun k_46 => k_46 t4 L_44) L_44 fun t27_45 L_47 =>
 W.grd t23_37 false (fun k_49 => W.call Try.prog (.fn 53 []) [t25_38, t26_42, t27_45] L_47 fun v_51 L_52 =>
 k_49 v_51 L_52) L_47 fun t28_48 L_50 =>
 W.grd t23_37 false (fun k_54 => W.un .not t28_48 fun v_56 =>
 k_54 v_56 L_50) L_50 fun t29_53 L_55 =>
 W.pick t23_37 (.bool true) t29_53 fun t30_57 =>
 W.cond t30_57 (
 Q (.bool false) L_55) (
 (object_Enabled_zt3 t6_6 L_55 t2 t3 Q t4 t5_4))
def object_Enabled_w (t0 t1 t2 t3 t4 : AV) (L : SH) (Q : AV → SH → Prop) : Prop :=
 W.box t0 L fun t5_0 L_1 =>
 W.box t1 L_1 fun t6_2 L_3 =>
 W.frz1 t5_0 L_3 fun t5_4 L_5 =>
 W.frz1 t6_2 L_5 fun t6_6 L_7 =>
 W.load true 6 t5_4 L_7 fun t12_8 =>
 W.load true 4 t6_6 L_7 fun t13_9 =>
 W.call Try.prog (.fn 37 []) [t12_8, t13_9] L_7 (object_Enabled_c0 t2 t5_4 t3 t4 Q t6_6)
theorem object_Enabled_e (t0 t1 t2 t3 t4 : AV) (L : SH) (Q : AV → SH → Prop) : W.func Try.prog Fl object_Enabled_t Try.f27 (Try.f27.body.getD .skip) [t0, t1, t2, t3, t4] L Q = object_Enabled_w t0 t1 t2 t3 t4 L Q := by kernel_rfl
theorem object_Enabled_ok (t0 t1 t2 t3 t4 : AV) (L : SH) (Q : AV → SH → Prop) (h : object_Enabled_w t0 t1 t2 t3 t4 L Q) : CallA Try.prog 27 [t0, t1, t2, t3, t4] L Q :=
  func_sound (ht := object_Enabled_t) fit Try.func27 (show Try.f27.body = some (Try.f27.body.getD .skip) by kernel_rfl) (Eq.mpr (object_Enabled_e t0 t1 t2 t3 t4 L Q) h)

def object_clone_t : Hints := ⟨fun k => none, fun k => if k = 3 then [1, 2, 3, 11, 12, 13] else [], fun k => if k = 4 then [5] else [], fun k => if k = 5 then [0, 0, 0, 4, 0, 16, 48, 124, 255, 511] else []⟩
def object_clone_d0 (L_22 : SH) (t21_24 : AV) (vs_12 : List AV) (nx_13 : W.Kn) (t24_29 : AV) (L_31 : SH) (ks_30 : List Nat) : Prop :=
 W.note ⟨[], ks_30, [], L_22.names⟩ fun r_32 =>
 W.build [(.int .i64 0), .nils] [(0, 1, t21_24), (1, 1, t24_29)] fun t25_33 =>
 W.calm [] ⟨8, (slOf (slotOf [1, 2, 3, 11, 12, 13] vs_12 3)), [], [], false, []⟩ (
 W.idx 2 (slotOf [1, 2, 3, 11, 12, 13] vs_12 3) (slotOf [1, 2, 3, 11, 12, 13] vs_12 13) L_31 fun t26_34 =>
 W.note ⟨(slOf (slotOf [1, 2, 3, 11, 12, 13] vs_12 3)), [], [], []⟩ fun r_35 =>
 W.calm [] ⟨9, (blocksOf t26_34), (blocksOf t26_34), [], false, []⟩ (
 W.store 2 t26_34 t25_33 L_31 fun L_36 =>
 W.note ⟨(blocksOf t26_34), (blocksOf t26_34), [], []⟩ fun r_37 =>
 W.bin Try.prog Fl .add 3 (slotOf [1, 2, 3, 11, 12, 13] vs_12 13) (.int .i64 1) fun t27_38 =>
 nx_13 [(slotOf [1, 2, 3, 11, 12, 13] vs_12 1), (slotOf [1, 2, 3, 11, 12, 13] vs_12 2), (slotOf [1, 2, 3, 11, 12, 13] vs_12 3), (slotOf [1, 2, 3, 11, 12, 13] vs_12 11), (slotOf [1, 2, 3, 11, 12, 13] vs_12 12), t27_38] L_36))
def object_clone_zt0 (vs_12 : List AV) (L_14 : SH) (nx_13 : W.Kn)  : Prop :=
 W.idx 2 (slotOf [1, 2, 3, 11, 12, 13] vs_12 11) (slotOf [1, 2, 3, 11, 12, 13] vs_12 13) L_14 fun t16_16 =>
 W.load true 2 t16_16 L_14 fun t17_17 =>
 W.alloc [(.int .i64 0), .nils] L_14 fun t5_18 L_19 =>
 W.store 2 t5_18 t17_17 L_19 fun L_20 =>
 W.frz1 t5_18 L_20 fun t5_21 L_22 =>
 (true = true) ∧ (
 W.faddr 0 t5_21 fun t20_23 =>
 W.calm [] ⟨3, (blocksOf t20_23), [], [], false, []⟩ (
 W.load false 1 t20_23 L_22 fun t21_24 =>
 W.note ⟨(blocksOf t20_23), [], [], []⟩ fun r_25 =>
 W.faddr 1 t5_21 fun t22_26 =>
 W.calm [⟨3, r_25.reads, r_25.writes, r_25.made, false, r_25.old⟩] ⟨5, (blocksOf t22_26), [], [], false, []⟩ (
 W.load false 1 t22_26 L_22 fun t23_27 =>
 W.note ⟨(blocksOf t22_26), [], [], []⟩ fun r_28 =>
 W.dcall Try.prog [⟨3, r_25.reads, r_25.writes, r_25.made, false, r_25.old⟩] 6 (.fn 68 []) [t23_27] L_22 (object_clone_d0 L_22 t21_24 vs_12 nx_13))))
def object_clone_c1 (vs_12 : List AV) (Q : AV → SH → Prop) (t36_49 : AV) (L_50 : SH) : Prop :=
 W.faddr 3 (slotOf [1, 2, 3, 11, 12, 13] vs_12 1) fun t37_51 =>
 W.store 1 t37_51 t36_49 L_50 fun L_52 =>
 W.load true 4 (slotOf [1, 2, 3, 11, 12, 13] vs_12 1) L_52 fun t38_53 =>
 W.store 4 (slotOf [1, 2, 3, 11, 12, 13] vs_12 2) t38_53 L_52 fun L_54 =>
 W.load true 4 (slotOf [1, 2, 3, 11, 12, 13] vs_12 2) L_54 fun r_55 =>
 Q r_55 L_54
def object_clone_c2 (vs_12 : List AV) (Q : AV → SH → Prop) (t32_43 : AV) (L_44 : SH) : Prop :=
 W.faddr 2 (slotOf [1, 2, 3, 11, 12, 13] vs_12 1) fun t33_45 =>
 W.store 1 t33_45 t32_43 L_44 fun L_46 =>
 W.faddr 3 (slotOf [1, 2, 3, 11, 12, 13] vs_12 1) fun t34_47 =>
 W.load false 1 t34_47 L_46 fun t35_48 =>
 W.call Try.prog (.fn 77 []) [t35_48] L_46 (object_clone_c1 vs_12 Q)
def object_clone_zt1 (vs_12 : List AV) (L_14 : SH) (Q : AV → SH → Prop)  : Prop :=
 W.faddr 0 (slotOf [1, 2, 3, 11, 12, 13] vs_12 1) fun t29_39 =>
 W.store 1 t29_39 (slotOf [1, 2, 3, 11, 12, 13] vs_12 3) L_14 fun L_40 =>
 W.faddr 2 (slotOf [1, 2, 3, 11, 12, 13] vs_12 1) fun t30_41 =>
 W.load false 1 t30_41 L_40 fun t31_42 =>
 W.call Try.prog (.fn 76 []) [t31_42] L_40 (object_clone_c2 vs_12 Q)
def object_clone_l3 (Q : AV → SH → Prop) (vs_12 : List AV) (L_14 : SH) (nx_13 : W.Kn) : Prop :=
 W.bin Try.prog Fl .lss 3 (slotOf [1, 2, 3, 11, 12, 13] vs_12 13) (slotOf [1, 2, 3, 11, 12, 13] vs_12 12) fun t14_15 =>
 W.cond t14_15 (
 (object_clone_zt0 vs_12 L_14 nx_13)) (
 (object_clone_zt1 vs_12 L_14 Q))
def object_clone_w (t0 : AV) (L : SH) (Q : AV → SH → Prop) : Prop :=
 W.box t0 L fun t1_0 L_1 =>
 W.alloc [.nils, (.int .i64 0), .nils, .nils] L_1 fun t2_2 L_3 =>
 W.faddr 0 t1_0 fun t6_4 =>
 W.load false 1 t6_4 L_3 fun t7_5 =>
 W.len t7_5 fun t8_6 =>
 W.mslice 2 32 [(.int .i64 0), .nils] t8_6 t8_6 L_3 fun t9_7 L_8 =>
 W.faddr 0 t1_0 fun t10_9 =>
 W.load false 1 t10_9 L_8 fun t11_10 =>
 W.len t11_10 fun t12_11 =>
 W.loop (object_clone_l3 Q) [t1_0, t2_2, t9_7, t11_10, t12_11, (.int .i64 0)] L_8
theorem object_clone_e (t0 : AV) (L : SH) (Q : AV → SH → Prop) : W.func Try.prog Fl object_clone_t Try.f47 (Try.f47.body.getD .skip) [t0] L Q = object_clone_w t0 L Q := by kernel_rfl
theorem object_clone_ok (t0 : AV) (L : SH) (Q : AV → SH → Prop) (h : object_clone_w t0 L Q) : CallA Try.prog 47 [t0] L Q :=
  func_sound (ht := object_clone_t) fit Try.func47 (show Try.f47.body = some (Try.f47.body.getD .skip) by kernel_rfl) (Eq.mpr (object_clone_e t0 L Q) h)

def slices_DeleteFunc___int_int__t : Hints := ⟨fun k => none, fun k => if k = 5 then [0, 1, 5, 6] else [], fun k => [], fun k => []⟩
def slices_DeleteFunc___int_int__zt0 (vs_4 : List AV) (L_12 : SH) (t25_10 : AV) (nx_5 : W.Kn)  : Prop :=
 W.idx 1 (slotOf [0, 1, 5, 6] vs_4 0) (slotOf [0, 1, 5, 6] vs_4 5) L_12 fun t33_14 =>
 W.store 1 t33_14 t25_10 L_12 fun L_15 =>
 W.bin Try.prog Fl .add 3 (slotOf [0, 1, 5, 6] vs_4 5) (.int .i64 1) fun t35_16 =>
 W.bin Try.prog Fl .add 3 (slotOf [0, 1, 5, 6] vs_4 6) (.int .i64 1) fun t21_17 =>
 nx_5 [(slotOf [0, 1, 5, 6] vs_4 0), (slotOf [0, 1, 5, 6] vs_4 1), t35_16, t21_17] L_15
def slices_DeleteFunc___int_int__zt1 (vs_4 : List AV) (nx_5 : W.Kn) (L_12 : SH)  : Prop :=
 W.bin Try.prog Fl .add 3 (slotOf [0, 1, 5, 6] vs_4 6) (.int .i64 1) fun t21_18 =>
 nx_5 [(slotOf [0, 1, 5, 6] vs_4 0), (slotOf [0, 1, 5, 6] vs_4 1), (slotOf [0, 1, 5, 6] vs_4 5), t21_18] L_12
def slices_DeleteFunc___int_int__c0 (vs_4 : List AV) (t25_10 : AV) (nx_5 : W.Kn) (t28_11 : AV) (L_12 : SH) : Prop :=
 W.un .not t28_11 fun t29_13 =>
 W.cond t29_13 (
 (slices_DeleteFunc___int_int__zt0 vs_4 L_12 t25_10 nx_5)) (
 (slices_DeleteFunc___int_int__zt1 vs_4 nx_5 L_12))
def slices_DeleteFunc___int_int__zt2 (vs_4 : List AV) (L_6 : SH) (nx_5 : W.Kn)  : Prop :=
 W.idx 1 (slotOf [0, 1, 5, 6] vs_4 0) (slotOf [0, 1, 5, 6] vs_4 6) L_6 fun t24_9 =>
 W.load false 1 t24_9 L_6 fun t25_10 =>
 W.call Try.prog (slotOf [0, 1, 5, 6] vs_4 1) [t25_10] L_6 (slices_DeleteFunc___int_int__c0 vs_4 t25_10 nx_5)
def slices_DeleteFunc___int_int__zt3 (vs_4 : List AV) (L_6 : SH) (Q : AV → SH → Prop)  : Prop :=
 W.slice 1 (slotOf [0, 1, 5, 6] vs_4 0) (some (slotOf [0, 1, 5, 6] vs_4 5)) none none L_6 fun t38_19 =>
 W.clear 1 [(.int .i64 0)] t38_19 L_6 fun L_20 =>
 W.slice 1 (slotOf [0, 1, 5, 6] vs_4 0) none (some (slotOf [0, 1, 5, 6] vs_4 5)) none L_20 fun t41_21 =>
 Q t41_21 L_20
def slices_DeleteFunc___int_int__l1 (Q : AV → SH → Prop) (vs_4 : List AV) (L_6 : SH) (nx_5 : W.Kn) : Prop :=
 W.len (slotOf [0, 1, 5, 6] vs_4 0) fun t18_7 =>
 W.bin Try.prog Fl .lss 3 (slotOf [0, 1, 5, 6] vs_4 6) t18_7 fun t19_8 =>
 W.cond t19_8 (
 (slices_DeleteFunc___int_int__zt2 vs_4 L_6 nx_5)) (
 (slices_DeleteFunc___int_int__zt3 vs_4 L_6 Q))
def slices_DeleteFunc___int_int__c2 (Q : AV → SH → Prop) (t0 : AV) (t1 : AV) (t10_0 : AV) (L_1 : SH) : Prop :=
 W.bin Try.prog Fl .eql 3 t10_0 (.int .i64 (-1)) fun t12_2 =>
 W.cond t12_2 (
 Q t0 L_1) (
 W.bin Try.prog Fl .add 3 t10_0 (.int .i64 1) fun t15_3 =>
 W.loop (slices_DeleteFunc___int_int__l1 Q) [t0, t1, t10_0, t15_3] L_1)
def slices_DeleteFunc___int_int__w (t0 t1 : AV) (L : SH) (Q : AV → SH → Prop) : Prop :=
 W.call Try.prog (.fn 78 []) [t0, t1] L (slices_DeleteFunc___int_int__c2 Q t0 t1)
theorem slices_DeleteFunc___int_int__e (t0 t1 : AV) (L : SH) (Q : AV → SH → Prop) : W.func Try.prog Fl slices_DeleteFunc___int_int__t Try.f48 (Try.f48.body.getD .skip) [t0, t1] L Q = slices_DeleteFunc___int_int__w t0 t1 L Q := by kernel_rfl
theorem slices_DeleteFunc___int_int__ok (t0 t1 : AV) (L : SH) (Q : AV → SH → Prop) (h : slices_DeleteFunc___int_int__w t0 t1 L Q) : CallA Try.prog 48 [t0, t1] L Q :=
  func_sound (ht := slices_DeleteFunc___int_int__t) fit Try.func48 (show Try.f48.body = some (Try.f48.body.getD .skip) by kernel_rfl) (Eq.mpr (slices_DeleteFunc___int_int__e t0 t1 L Q) h)

def slices_IndexFunc___int_int__t : Hints := ⟨fun k => none, fun k => if k = 2 then [0, 1, 7, 8] else [], fun k => [], fun k => []⟩
def slices_IndexFunc___int_int__zt0 (vs_1 : List AV) (nx_2 : W.Kn) (L_8 : SH)  : Prop :=
 W.bin Try.prog Fl .add 3 (slotOf [0, 1, 7, 8] vs_1 8) (.int .i64 1) fun t18_9 =>
 nx_2 [(slotOf [0, 1, 7, 8] vs_1 0), (slotOf [0, 1, 7, 8] vs_1 1), (slotOf [0, 1, 7, 8] vs_1 7), t18_9] L_8
def slices_IndexFunc___int_int__c0 (Q : AV → SH → Prop) (vs_1 : List AV) (nx_2 : W.Kn) (t16_7 : AV) (L_8 : SH) : Prop :=
 W.cond t16_7 (
 Q (slotOf [0, 1, 7, 8] vs_1 8) L_8) (
 (slices_IndexFunc___int_int__zt0 vs_1 nx_2 L_8))
def slices_IndexFunc___int_int__zt1 (vs_1 : List AV) (L_3 : SH) (Q : AV → SH → Prop) (nx_2 : W.Kn)  : Prop :=
 W.idx 1 (slotOf [0, 1, 7, 8] vs_1 0) (slotOf [0, 1, 7, 8] vs_1 8) L_3 fun t14_5 =>
 W.load false 1 t14_5 L_3 fun t15_6 =>
 W.call Try.prog (slotOf [0, 1, 7, 8] vs_1 1) [t15_6] L_3 (slices_IndexFunc___int_int__c0 Q vs_1 nx_2)
def slices_IndexFunc___int_int__l1 (Q : AV → SH → Prop) (vs_1 : List AV) (L_3 : SH) (nx_2 : W.Kn) : Prop :=
 W.bin Try.prog Fl .lss 3 (slotOf [0, 1, 7, 8] vs_1 8) (slotOf [0, 1, 7, 8] vs_1 7) fun t9_4 =>
 W.cond t9_4 (
 (slices_IndexFunc___int_int__zt1 vs_1 L_3 Q nx_2)) (
 Q (.int .i64 (-1)) L_3)
def slices_IndexFunc___int_int__w (t0 t1 : AV) (L : SH) (Q : AV → SH → Prop) : Prop :=
 W.len t0 fun t7_0 =>
 W.loop (slices_IndexFunc___int_int__l1 Q) [t0, t1, t7_0, (.int .i64 0)] L
theorem slices_IndexFunc___int_int__e (t0 t1 : AV) (L : SH) (Q : AV → SH → Prop) : W.func Try.prog Fl slices_IndexFunc___int_int__t Try.f78 (Try.f78.body.getD .skip) [t0, t1] L Q = slices_IndexFunc___int_int__w t0 t1 L Q := by kernel_rfl
theorem slices_IndexFunc___int_int__ok (t0 t1 : AV) (L : SH) (Q : AV → SH → Prop) (h : slices_IndexFunc___int_int__w t0 t1 L Q) : CallA Try.prog 78 [t0, t1] L Q :=
  func_sound (ht := slices_IndexFunc___int_int__t) fit Try.func78 (show Try.f78.body = some (Try.f78.body.getD .skip) by kernel_rfl) (Eq.mpr (slices_IndexFunc___int_int__e t0 t1 L Q) h)

def object_Apply_1_t : Hints := ⟨fun k => none, fun k => [], fun k => [], fun k => []⟩
def object_Apply_1_w (t0 t1 : AV) (L : SH) (Q : AV → SH → Prop) : Prop :=
 W.load false 1 t1 L fun t5_0 =>
 W.bin Try.prog Fl .eql 3 t0 t5_0 fun t6_1 =>
 Q t6_1 L
theorem object_Apply_1_e (t0 t1 : AV) (L : SH) (Q : AV → SH → Prop) : W.func Try.prog Fl object_Apply_1_t Try.f49 (Try.f49.body.getD .skip) [t0, t1] L Q = object_Apply_1_w t0 t1 L Q := by kernel_rfl
theorem object_Apply_1_ok (t0 t1 : AV) (L : SH) (Q : AV → SH → Prop) (h : object_Apply_1_w t0 t1 L Q) : CallA Try.prog 49 [t0, t1] L Q :=
  func_sound (ht := object_Apply_1_t) fit Try.func49 (show Try.f49.body = some (Try.f49.body.getD .skip) by kernel_rfl) (Eq.mpr (object_Apply_1_e t0 t1 L Q) h)

def object_notify_t : Hints := ⟨fun k => none, fun k => if k = 3 then [1, 2, 3, 7, 11, 12, 13] else [], fun k => if k = 0 then [3] else if k = 4 then [9] else [], fun k => []⟩
def object_notify_zt0 (vs_7 : List AV) (nx_8 : W.Kn) (L_43 : SH)  : Prop :=
 W.bin Try.prog Fl .add 3 (slotOf [1, 2, 3, 7, 11, 12, 13] vs_7 13) (.int .i64 1) fun t31_46 =>
 nx_8 [(slotOf [1, 2, 3, 7, 11, 12, 13] vs_7 1), (slotOf [1, 2, 3, 7, 11, 12, 13] vs_7 2), (slotOf [1, 2, 3, 7, 11, 12, 13] vs_7 3), (slotOf [1, 2, 3, 7, 11, 12, 13] vs_7 13), (slotOf [1, 2, 3, 7, 11, 12, 13] vs_7 11), (slotOf [1, 2, 3, 7, 11, 12, 13] vs_7 12), t31_46] L_43
def object_notify_zt1 (vs_7 : List AV) (nx_8 : W.Kn) (L_43 : SH)  : Prop :=
 W.bin Try.prog Fl .add 3 (slotOf [1, 2, 3, 7, 11, 12, 13] vs_7 13) (.int .i64 1) fun t31_47 =>
 nx_8 [(slotOf [1, 2, 3, 7, 11, 12, 13] vs_7 1), (slotOf [1, 2, 3, 7, 11, 12, 13] vs_7 2), (slotOf [1, 2, 3, 7, 11, 12, 13] vs_7 3), (slotOf [1, 2, 3, 7, 11, 12, 13] vs_7 7), (slotOf [1, 2, 3, 7, 11, 12, 13] vs_7 11), (slotOf [1, 2, 3, 7, 11, 12, 13] vs_7 12), t31_47] L_43
def object_notify_c0 (vs_7 : List AV) (nx_8 : W.Kn) (t20_19 : AV) (L_20 : SH) : Prop :=
 W.grd t20_19 true (fun k_22 => k_22 (slotOf [1, 2, 3, 7, 11, 12, 13] vs_7 7) L_20) L_20 fun t22_21 L_23 =>
 W.grd t20_19 true (fun k_25 => W.bin Try.prog Fl .lss 3 t22_21 (.int .i64 0) fun v_27 =>
 k_25 v_27 L_23) L_23 fun t23_24 L_26 =>
 W.grd t20_19 true (fun k_29 => k_29 t23_24 L_26) L_26 fun t24_28 L_30 =>
 W.grd t24_28 false (fun k_32 => k_32 (slotOf [1, 2, 3, 7, 11, 12, 13] vs_7 13) L_30) L_30 fun t25_31 L_33 =>
 W.grd t24_28 false (fun k_35 => k_35 (slotOf [1, 2, 3, 7, 11, 12, 13] vs_7 2) L_33) L_33 fun t26_34 L_36 =>
 W.grd t24_28 false (fun k_38 => W.bin Try.prog Fl .eql 3 t25_31 t26_34 fun v_40 =>
 k_38 v_40 L_36) L_36 fun t27_37 L_39 =>
 W.grd t20_19 true (fun k_42 => W.pick t24_28 (.bool true) t27_37 fun v_44 =>
 k_42 v_44 L_39) L_39 fun t28_41 L_43 =>
 W.pick t20_19 t28_41 (.bool false) fun t29_45 =>
 W.cond t29_45 (
 (object_notify_zt0 vs_7 nx_8 L_43)) (
 (object_notify_zt1 vs_7 nx_8 L_43))
def object_notify_zt2 (vs_7 : List AV) (L_9 : SH) (nx_8 : W.Kn)  : Prop :=
 W.idx 3 (slotOf [1, 2, 3, 7, 11, 12, 13] vs_7 11) (slotOf [1, 2, 3, 7, 11, 12, 13] vs_7 13) L_9 fun t16_11 =>
 W.load true 3 t16_11 L_9 fun t17_12 =>
 W.alloc [(.int .i64 0), (.int .i64 0), (.bool false)] L_9 fun t9_13 L_14 =>
 W.store 3 t9_13 t17_12 L_14 fun L_15 =>
 W.frz1 t9_13 L_15 fun t9_16 L_17 =>
 W.load true 3 t9_16 L_17 fun t18_18 =>
 W.call Try.prog (.fn 79 []) [t18_18, (slotOf [1, 2, 3, 7, 11, 12, 13] vs_7 1)] L_17 (object_notify_c0 vs_7 nx_8)
def object_notify_zt3 (vs_7 : List AV) (L_9 : SH) (Q : AV → SH → Prop)  : Prop :=
 W.faddr 3 (slotOf [1, 2, 3, 7, 11, 12, 13] vs_7 3) fun t34_49 =>
 W.load false 1 t34_49 L_9 fun t35_50 =>
 W.idx 3 t35_50 (slotOf [1, 2, 3, 7, 11, 12, 13] vs_7 7) L_9 fun t37_51 =>
 W.faddr 0 t37_51 fun t38_52 =>
 W.store 1 t38_52 (.int .i64 4) L_9 fun L_53 =>
 Q (slotOf [1, 2, 3, 7, 11, 12, 13] vs_7 7) L_53
def object_notify_zt4 (vs_7 : List AV) (L_9 : SH) (Q : AV → SH → Prop)  : Prop :=
 W.bin Try.prog Fl .geq 3 (slotOf [1, 2, 3, 7, 11, 12, 13] vs_7 7) (.int .i64 0) fun t33_48 =>
 W.cond t33_48 (
 (object_notify_zt3 vs_7 L_9 Q)) (
 Q (slotOf [1, 2, 3, 7, 11, 12, 13] vs_7 7) L_9)
def object_notify_l1 (Q : AV → SH → Prop) (vs_7 : List AV) (L_9 : SH) (nx_8 : W.Kn) : Prop :=
 W.bin Try.prog Fl .lss 3 (slotOf [1, 2, 3, 7, 11, 12, 13] vs_7 13) (slotOf [1, 2, 3, 7, 11, 12, 13] vs_7 12) fun t14_10 =>
 W.cond t14_10 (
 (object_notify_zt2 vs_7 L_9 nx_8)) (
 (object_notify_zt4 vs_7 L_9 Q))
def object_notify_w (t0 t1 t2 : AV) (L : SH) (Q : AV → SH → Prop) : Prop :=
 W.box t0 L fun t3_0 L_1 =>
 W.frz1 t3_0 L_1 fun t3_2 L_3 =>
 W.faddr 3 t3_2 fun t10_4 =>
 W.load false 1 t10_4 L_3 fun t11_5 =>
 W.len t11_5 fun t12_6 =>
 W.loop (object_notify_l1 Q) [t1, t2, t3_2, (.int .i64 (-1)), t11_5, t12_6, (.int .i64 0)] L_3
theorem object_notify_e (t0 t1 t2 : AV) (L : SH) (Q : AV → SH → Prop) : W.func Try.prog Fl object_notify_t Try.f50 (Try.f50.body.getD .skip) [t0, t1, t2] L Q = object_notify_w t0 t1 t2 L Q := by kernel_rfl
theorem object_notify_ok (t0 t1 t2 : AV) (L : SH) (Q : AV → SH → Prop) (h : object_notify_w t0 t1 t2 L Q) : CallA Try.prog 50 [t0, t1, t2] L Q :=
  func_sound (ht := object_notify_t) fit Try.func50 (show Try.f50.body = some (Try.f50.body.getD .skip) by kernel_rfl) (Eq.mpr (object_notify_e t0 t1 t2 L Q) h)

def object_notifyAll_t : Hints := ⟨fun k => none, fun k => if k = 3 then [1, 2, 5, 9, 10, 11] else [], fun k => if k = 0 then [2] else if k = 4 then [7] else [], fun k => []⟩
def object_notifyAll_zt0 (vs_7 : List AV) (L_20 : SH) (nx_8 : W.Kn)  : Prop :=
 W.faddr 3 (slotOf [1, 2, 5, 9, 10, 11] vs_7 2) fun t19_21 =>
 W.load false 1 t19_21 L_20 fun t20_22 =>
 W.idx 3 t20_22 (slotOf [1, 2, 5, 9, 10, 11] vs_7 11) L_20 fun t22_23 =>
 W.faddr 0 t22_23 fun t23_24 =>
 W.store 1 t23_24 (.int .i64 4) L_20 fun L_25 =>
 W.bin Try.prog Fl .add 3 (slotOf [1, 2, 5, 9, 10, 11] vs_7 5) (.int .i64 1) fun t25_26 =>
 W.bin Try.prog Fl .add 3 (slotOf [1, 2, 5, 9, 10, 11] vs_7 11) (.int .i64 1) fun t26_27 =>
 nx_8 [(slotOf [1, 2, 5, 9, 10, 11] vs_7 1), (slotOf [1, 2, 5, 9, 10, 11] vs_7 2), t25_26, (slotOf [1, 2, 5, 9, 10, 11] vs_7 9), (slotOf [1, 2, 5, 9, 10, 11] vs_7 10), t26_27] L_25
def object_notifyAll_zt1 (vs_7 : List AV) (nx_8 : W.Kn) (L_20 : SH)  : Prop :=
 W.bin Try.prog Fl .add 3 (slotOf [1, 2, 5, 9, 10, 11] vs_7 11) (.int .i64 1) fun t26_28 =>
 nx_8 [(slotOf [1, 2, 5, 9, 10, 11] vs_7 1), (slotOf [1, 2, 5, 9, 10, 11] vs_7 2), (slotOf [1, 2, 5, 9, 10, 11] vs_7 5), (slotOf [1, 2, 5, 9, 10, 11] vs_7 9), (slotOf [1, 2, 5, 9, 10, 11] vs_7 10), t26_28] L_20
def object_notifyAll_c0 (vs_7 : List AV) (nx_8 : W.Kn) (t18_19 : AV) (L_20 : SH) : Prop :=
 W.cond t18_19 (
 (object_notifyAll_zt0 vs_7 L_20 nx_8)) (
 (object_notifyAll_zt1 vs_7 nx_8 L_20))
def object_notifyAll_zt2 (vs_7 : List AV) (L_9 : SH) (nx_8 : W.Kn)  : Prop :=
 W.idx 3 (slotOf [1, 2, 5, 9, 10, 11] vs_7 9) (slotOf [1, 2, 5, 9, 10, 11] vs_7 11) L_9 fun t14_11 =>
 W.load true 3 t14_11 L_9 fun t15_12 =>
 W.alloc [(.int .i64 0), (.int .i64 0), (.bool false)] L_9 fun t7_13 L_14 =>
 W.store 3 t7_13 t15_12 L_14 fun L_15 =>
 W.frz1 t7_13 L_15 fun t7_16 L_17 =>
 W.load true 3 t7_16 L_17 fun t16_18 =>
 W.call Try.prog (.fn 79 []) [t16_18, (slotOf [1, 2, 5, 9, 10, 11] vs_7 1)] L_17 (object_notifyAll_c0 vs_7 nx_8)
def object_notifyAll_l1 (Q : AV → SH → Prop) (vs_7 : List AV) (L_9 : SH) (nx_8 : W.Kn) : Prop :=
 W.bin Try.prog Fl .lss 3 (slotOf [1, 2, 5, 9, 10, 11] vs_7 11) (slotOf [1, 2, 5, 9, 10, 11] vs_7 10) fun t12_10 =>
 W.cond t12_10 (
 (object_notifyAll_zt2 vs_7 L_9 nx_8)) (
 Q (slotOf [1, 2, 5, 9, 10, 11] vs_7 5) L_9)
def object_notifyAll_w (t0 t1 : AV) (L : SH) (Q : AV → SH → Prop) : Prop :=
 W.box t0 L fun t2_0 L_1 =>
 W.frz1 t2_0 L_1 fun t2_2 L_3 =>
 W.faddr 3 t2_2 fun t8_4 =>
 W.load false 1 t8_4 L_3 fun t9_5 =>
 W.len t9_5 fun t10_6 =>
 W.loop (object_notifyAll_l1 Q) [t1, t2_2, (.int .i64 0), t9_5, t10_6, (.int .i64 0)] L_3
theorem object_notifyAll_e (t0 t1 : AV) (L : SH) (Q : AV → SH → Prop) : W.func Try.prog Fl object_notifyAll_t Try.f51 (Try.f51.body.getD .skip) [t0, t1] L Q = object_notifyAll_w t0 t1 L Q := by kernel_rfl
theorem object_notifyAll_ok (t0 t1 : AV) (L : SH) (Q : AV → SH → Prop) (h : object_notifyAll_w t0 t1 L Q) : CallA Try.prog 51 [t0, t1] L Q :=
  func_sound (ht := object_notifyAll_t) fit Try.func51 (show Try.f51.body = some (Try.f51.body.getD .skip) by kernel_rfl) (Eq.mpr (object_notifyAll_e t0 t1 L Q) h)

def object_Holds_t : Hints := ⟨fun k => if k = 8 then some [2, 8, 9, 10, 11, 25, 26, 27] else none, fun k => if k = 5 then [2, 8, 9, 25, 26, 27] else [], fun k => if k = 0 then [3, 4] else if k = 6 then [11] else [], fun k => []⟩
def object_Holds_zt0 (vs_52 : List AV) (L_58 : SH) (nx_42 : W.Kn)  : Prop :=
 W.bslice 1 [(.int .i64 0)] 1 [(0, (slotOf [2, 8, 9, 10, 11, 25, 26, 27] vs_52 10))] L_58 fun t46_59 L_60 =>
 W.append 1 8 (slotOf [2, 8, 9, 10, 11, 25, 26, 27] vs_52 9) t46_59 L_60 fun t47_61 L_62 =>
 W.bin Try.prog Fl .add 3 (slotOf [2, 8, 9, 10, 11, 25, 26, 27] vs_52 27) (.int .i64 1) fun t48_63 =>
 nx_42 [(slotOf [2, 8, 9, 10, 11, 25, 26, 27] vs_52 2), (slotOf [2, 8, 9, 10, 11, 25, 26, 27] vs_52 8), t47_61, (slotOf [2, 8, 9, 10, 11, 25, 26, 27] vs_52 25), (slotOf [2, 8, 9, 10, 11, 25, 26, 27] vs_52 26), t48_63] L_62
def object_Holds_zt1 (vs_52 : List AV) (nx_42 : W.Kn) (L_58 : SH)  : Prop :=
 W.bin Try.prog Fl .add 3 (slotOf [2, 8, 9, 10, 11, 25, 26, 27] vs_52 27) (.int .i64 1) fun t48_64 =>
 nx_42 [(slotOf [2, 8, 9, 10, 11, 25, 26, 27] vs_52 2), (slotOf [2, 8, 9, 10, 11, 25, 26, 27] vs_52 8), (slotOf [2, 8, 9, 10, 11, 25, 26, 27] vs_52 9), (slotOf [2, 8, 9, 10, 11, 25, 26, 27] vs_52 25), (slotOf [2, 8, 9, 10, 11, 25, 26, 27] vs_52 26), t48_64] L_58
def object_Holds_c0 (vs_52 : List AV) (nx_42 : W.Kn) (t43_57 : AV) (L_58 : SH) : Prop :=
 W.cond t43_57 (
 (object_Holds_zt0 vs_52 L_58 nx_42)) (
 (object_Holds_zt1 vs_52 nx_42 L_58))
def object_Holds_j1 (nx_42 : W.Kn) (vs_52 : List AV) (L_54 : SH) : Prop :=
 W.faddr 1 (slotOf [2, 8, 9, 10, 11, 25, 26, 27] vs_52 11) fun t40_55 =>
 W.load false 1 t40_55 L_54 fun t41_56 =>
 W.call Try.prog (.fn 60 []) [t41_56, (slotOf [2, 8, 9, 10, 11, 25, 26, 27] vs_52 2)] L_54 (object_Holds_c0 vs_52 nx_42)
def object_Holds_zt2 (vs_41 : List AV) (L_51 : SH) (j_53 : W.Kn) (t11_50 : AV)  : Prop :=
 W.bslice 1 [(.int .i64 0)] 1 [(0, (slotOf [2, 8, 9, 25, 26, 27] vs_41 27))] L_51 fun t38_68 L_69 =>
 W.append 1 8 (slotOf [2, 8, 9, 25, 26, 27] vs_41 8) t38_68 L_69 fun t39_70 L_71 =>
 j_53 [(slotOf [2, 8, 9, 25, 26, 27] vs_41 2), t39_70, (slotOf [2, 8, 9, 25, 26, 27] vs_41 9), (slotOf [2, 8, 9, 25, 26, 27] vs_41 27), t11_50, (slotOf [2, 8, 9, 25, 26, 27] vs_41 25), (slotOf [2, 8, 9, 25, 26, 27] vs_41 26), (slotOf [2, 8, 9, 25, 26, 27] vs_41 27)] L_71
def object_Holds_zt3 (j_53 : W.Kn) (vs_41 : List AV) (t11_50 : AV) (L_51 : SH)  : Prop :=
 j_53 [(slotOf [2, 8, 9, 25, 26, 27] vs_41 2), (slotOf [2, 8, 9, 25, 26, 27] vs_41 8), (slotOf [2, 8, 9, 25, 26, 27] vs_41 9), (slotOf [2, 8, 9, 25, 26, 27] vs_41 27), t11_50, (slotOf [2, 8, 9, 25, 26, 27] vs_41 25), (slotOf [2, 8, 9, 25, 26, 27] vs_41 26), (slotOf [2, 8, 9, 25, 26, 27] vs_41 27)] L_51
def object_Holds_zt4 (vs_41 : List AV) (L_43 : SH) (nx_42 : W.Kn)  : Prop :=
 W.idx 2 (slotOf [2, 8, 9, 25, 26, 27] vs_41 25) (slotOf [2, 8, 9, 25, 26, 27] vs_41 27) L_43 fun t30_45 =>
 W.load true 2 t30_45 L_43 fun t31_46 =>
 W.alloc [(.int .i64 0), .nils] L_43 fun t11_47 L_48 =>
 W.store 2 t11_47 t31_46 L_48 fun L_49 =>
 W.frz1 t11_47 L_49 fun t11_50 L_51 =>
 W.join (object_Holds_j1 nx_42) fun j_53 =>
 W.faddr 0 t11_50 fun t32_65 =>
 W.load false 1 t32_65 L_51 fun t33_66 =>
 W.bin Try.prog Fl .eql 3 t33_66 (slotOf [2, 8, 9, 25, 26, 27] vs_41 2) fun t35_67 =>
 W.cond t35_67 (
 (object_Holds_zt2 vs_41 L_51 j_53 t11_50)) (
 (object_Holds_zt3 j_53 vs_41 t11_50 L_51))
def object_Holds_l2 (Q : AV → SH → Prop) (vs_41 : List AV) (L_43 : SH) (nx_42 : W.Kn) : Prop :=
 W.bin Try.prog Fl .lss 3 (slotOf [2, 8, 9, 25, 26, 27] vs_41 27) (slotOf [2, 8, 9, 25, 26, 27] vs_41 26) fun t28_44 =>
 W.cond t28_44 (
 (object_Holds_zt4 vs_41 L_43 nx_42)) (
 Q (.tup [(slotOf [2, 8, 9, 25, 26, 27] vs_41 8), (slotOf [2, 8, 9, 25, 26, 27] vs_41 9)]) L_43)
def object_Holds_zt5 (t4_6 : AV) (L_35 : SH) (Q : AV → SH → Prop) (t2 : AV)  : Prop :=
 W.faddr 0 t4_6 fun t24_38 =>
 W.load false 1 t24_38 L_35 fun t25_39 =>
 W.len t25_39 fun t26_40 =>
 W.loop (object_Holds_l2 Q) [t2, .nils, .nils, t25_39, t26_40, (.int .i64 0)] L_35
def object_Holds_c3 (t2 : AV) (t3_4 : AV) (Q : AV → SH → Prop) (t4_6 : AV) (t14_10 : AV) (L_11 : SH) : Prop :=
 W.un .not t14_10 fun t15_12 =>
 W.grd t15_12 false (fun k_14 => k_14 t2 L_11) L_11 fun t17_13 L_15 =>
 W.grd t15_12 false (fun k_17 => W.faddr 4 t3_4 fun v_19 =>
 k_17 v_19 L_15) L_15 fun t18_16 L_18 =>
 W.grd t15_12 false (fun k_21 => W.load false 1 t18_16 L_18 fun v_23 =>
 k_21 v_23 L_18) L_18 fun t19_20 L_22 =>
 W.grd t15_12 false (fun k_25 => W.len t19_20 fun v_27 =>
 k_25 v_27 L_22) L_22 fun t20_24 L_26 =>
 W.grd t15_12 false (fun k_29 => W.call Try.prog (.fn 52 []) [t17_13, t20_24] L_26 fun v_31 L_32 =>
 k_29 v_31 L_32) L_26 fun t21_28 L_30 =>
 W.grd t15_12 false (fun k_34 => W.un .not t21_28 fun v_36 =>
 k_34 v_36 L_30) L_30 fun t22_33 L_35 =>
 W.pick t15_12 (.bool true) t22_33 fun t23_37 =>
 W.cond t23_37 (
 Q (.tup [.nils, .nils]) L_35) (
 (object_Holds_zt5 t4_6 L_35 Q t2))
def object_Holds_w (t0 t1 t2 : AV) (L : SH) (Q : AV → SH → Prop) : Prop :=
 W.box t0 L fun t3_0 L_1 =>
 W.box t1 L_1 fun t4_2 L_3 =>
 W.frz1 t3_0 L_3 fun t3_4 L_5 =>
 W.frz1 t4_2 L_5 fun t4_6 L_7 =>
 W.load true 6 t3_4 L_7 fun t12_8 =>
 W.load true 4 t4_6 L_7 fun t13_9 =>
 W.call Try.prog (.fn 37 []) [t12_8, t13_9] L_7 (object_Holds_c3 t2 t3_4 Q t4_6)
theorem object_Holds_e (t0 t1 t2 : AV) (L : SH) (Q : AV → SH → Prop) : W.func Try.prog Fl object_Holds_t Try.f32 (Try.f32.body.getD .skip) [t0, t1, t2] L Q = object_Holds_w t0 t1 t2 L Q := by kernel_rfl
theorem object_Holds_ok (t0 t1 t2 : AV) (L : SH) (Q : AV → SH → Prop) (h : object_Holds_w t0 t1 t2 L Q) : CallA Try.prog 32 [t0, t1, t2] L Q :=
  func_sound (ht := object_Holds_t) fit Try.func32 (show Try.f32.body = some (Try.f32.body.getD .skip) by kernel_rfl) (Eq.mpr (object_Holds_e t0 t1 t2 L Q) h)

def object_Blockers_t : Hints := ⟨fun k => if k = 15 then some [5, 11] else if k = 6 then some [2, 4, 5, 6, 11, 31, 32] else none, fun k => [], fun k => if k = 0 then [5, 6] else [], fun k => if k = 12 then [0, 0, 2, 0, 8, 0, 56, 120, 248, 510, 1022, 2046, 4094, 8191, 16383] else []⟩
def object_Blockers_c0 (t99_61 : AV) (Q : AV → SH → Prop) (t101_63 : AV) (L_64 : SH) : Prop :=
 W.call Try.prog (.fn 41 []) [t99_61] L_64 fun t103_65 L_66 =>
 Q t103_65 L_66
def object_Blockers_c1 (Q : AV → SH → Prop) (t99_61 : AV) (L_62 : SH) : Prop :=
 W.call Try.prog (.fn 40 []) [t99_61] L_62 (object_Blockers_c0 t99_61 Q)
def object_Blockers_j2 (Q : AV → SH → Prop) (vs_58 : List AV) (L_60 : SH) : Prop :=
 W.call Try.prog (.fn 48 []) [(slotOf [5, 11] vs_58 11), (.fn 62 [(slotOf [5, 11] vs_58 5)])] L_60 (object_Blockers_c1 Q)
def object_Blockers_zt0 (vs_67 : List AV) (L_69 : SH) (j_59 : W.Kn)  : Prop :=
 W.faddr 0 (slotOf [2, 4, 5, 6, 11, 31, 32] vs_67 6) fun t36_70 =>
 W.load false 1 t36_70 L_69 fun t37_71 =>
 W.idx 2 t37_71 (slotOf [2, 4, 5, 6, 11, 31, 32] vs_67 4) L_69 fun t39_72 =>
 W.faddr 0 t39_72 fun t40_73 =>
 W.load false 1 t40_73 L_69 fun t41_74 =>
 W.bslice 1 [(.int .i64 0)] 1 [(0, t41_74)] L_69 fun t42_75 L_76 =>
 W.append 1 8 (slotOf [2, 4, 5, 6, 11, 31, 32] vs_67 11) t42_75 L_76 fun t43_77 L_78 =>
 j_59 [(slotOf [2, 4, 5, 6, 11, 31, 32] vs_67 5), t43_77] L_78
def object_Blockers_zt1 (vs_67 : List AV) (L_69 : SH) (j_59 : W.Kn)  : Prop :=
 W.faddr 0 (slotOf [2, 4, 5, 6, 11, 31, 32] vs_67 6) fun t47_80 =>
 W.load false 1 t47_80 L_69 fun t48_81 =>
 W.idx 2 t48_81 (slotOf [2, 4, 5, 6, 11, 31, 32] vs_67 4) L_69 fun t50_82 =>
 W.faddr 0 t50_82 fun t51_83 =>
 W.load false 1 t51_83 L_69 fun t52_84 =>
 W.bslice 1 [(.int .i64 0)] 1 [(0, t52_84)] L_69 fun t53_85 L_86 =>
 W.append 1 8 (slotOf [2, 4, 5, 6, 11, 31, 32] vs_67 11) t53_85 L_86 fun t54_87 L_88 =>
 W.faddr 0 (slotOf [2, 4, 5, 6, 11, 31, 32] vs_67 6) fun t56_89 =>
 W.load false 1 t56_89 L_88 fun t57_90 =>
 W.idx 2 t57_90 (slotOf [2, 4, 5, 6, 11, 31, 32] vs_67 4) L_88 fun t59_91 =>
 W.faddr 1 t59_91 fun t60_92 =>
 W.load false 1 t60_92 L_88 fun t61_93 =>
 W.append 1 8 t54_87 t61_93 L_88 fun t62_94 L_95 =>
 j_59 [(slotOf [2, 4, 5, 6, 11, 31, 32] vs_67 5), t62_94] L_95
def object_Blockers_zt2 (vs_67 : List AV) (L_69 : SH) (j_59 : W.Kn)  : Prop :=
 (true = true) ∧ (
 W.faddr 0 (slotOf [2, 4, 5, 6, 11, 31, 32] vs_67 6) fun t66_97 =>
 W.calm [] ⟨2, (blocksOf t66_97), [], [], false, []⟩ (
 W.load false 1 t66_97 L_69 fun t67_98 =>
 W.note ⟨(blocksOf t66_97), [], [], []⟩ fun r_99 =>
 W.faddr 2 (slotOf [2, 4, 5, 6, 11, 31, 32] vs_67 5) fun t68_100 =>
 W.calm [⟨2, r_99.reads, r_99.writes, r_99.made, false, r_99.old⟩] ⟨4, (blocksOf t68_100), [], [], false, []⟩ (
 W.load false 1 t68_100 L_69 fun t69_101 =>
 W.note ⟨(blocksOf t68_100), [], [], []⟩ fun r_102 =>
 W.calm [⟨2, r_99.reads, r_99.writes, r_99.made, false, r_99.old⟩] ⟨6, (slOf t69_101), [], [], false, []⟩ (
 W.idx 2 t69_101 (slotOf [2, 4, 5, 6, 11, 31, 32] vs_67 4) L_69 fun t71_103 =>
 W.note ⟨(slOf t69_101), [], [], []⟩ fun r_104 =>
 W.faddr 1 t71_103 fun t72_105 =>
 W.calm [⟨2, r_99.reads, r_99.writes, r_99.made, false, r_99.old⟩] ⟨8, (blocksOf t72_105), [], [], false, []⟩ (
 W.load false 1 t72_105 L_69 fun t73_106 =>
 W.note ⟨(blocksOf t72_105), [], [], []⟩ fun r_107 =>
 W.calm [] ⟨9, (slOf t67_98), [], [], false, []⟩ (
 W.idx 2 t67_98 t73_106 L_69 fun t74_108 =>
 W.note ⟨(slOf t67_98), [], [], []⟩ fun r_109 =>
 W.faddr 0 t74_108 fun t75_110 =>
 W.calm [] ⟨11, (blocksOf t75_110), [], [], false, []⟩ (
 W.load false 1 t75_110 L_69 fun t76_111 =>
 W.note ⟨(blocksOf t75_110), [], [], []⟩ fun r_112 =>
 W.calm [] ⟨12, [], [], [], false, []⟩ (
 W.bslice 1 [(.int .i64 0)] 1 [(0, t76_111)] L_69 fun t77_113 L_114 =>
 W.note ⟨[], [], (blocksOf t77_113), []⟩ fun r_115 =>
 W.calm [] ⟨13, (blocksOf (slotOf [2, 4, 5, 6, 11, 31, 32] vs_67 11) ++ blocksOf t77_113), (blocksOf (slotOf [2, 4, 5, 6, 11, 31, 32] vs_67 11)), [], false, []⟩ (
 W.append 1 8 (slotOf [2, 4, 5, 6, 11, 31, 32] vs_67 11) t77_113 L_114 fun t78_116 L_117 =>
 W.note ⟨(blocksOf (slotOf [2, 4, 5, 6, 11, 31, 32] vs_67 11) ++ blocksOf t77_113), (blocksOf (slotOf [2, 4, 5, 6, 11, 31, 32] vs_67 11)), (blocksOf t78_116), []⟩ fun r_118 =>
 j_59 [(slotOf [2, 4, 5, 6, 11, 31, 32] vs_67 5), t78_116] L_117)))))))))
def object_Blockers_zt3 (vs_67 : List AV) (L_146 : SH) (j_59 : W.Kn)  : Prop :=
 W.bslice 1 [(.int .i64 0)] 1 [(0, (slotOf [2, 4, 5, 6, 11, 31, 32] vs_67 4))] L_146 fun t95_149 L_150 =>
 W.append 1 8 (slotOf [2, 4, 5, 6, 11, 31, 32] vs_67 11) t95_149 L_150 fun t96_151 L_152 =>
 j_59 [(slotOf [2, 4, 5, 6, 11, 31, 32] vs_67 5), t96_151] L_152
def object_Blockers_zt4 (vs_67 : List AV) (L_69 : SH) (j_59 : W.Kn)  : Prop :=
 W.bin Try.prog Fl .neq 3 (slotOf [2, 4, 5, 6, 11, 31, 32] vs_67 4) (slotOf [2, 4, 5, 6, 11, 31, 32] vs_67 2) fun t83_120 =>
 W.grd t83_120 true (fun k_122 => W.faddr 3 (slotOf [2, 4, 5, 6, 11, 31, 32] vs_67 6) fun v_124 =>
 k_122 v_124 L_69) L_69 fun t85_121 L_123 =>
 W.grd t83_120 true (fun k_126 => W.load false 1 t85_121 L_123 fun v_128 =>
 k_126 v_128 L_123) L_123 fun t86_125 L_127 =>
 W.grd t83_120 true (fun k_130 => k_130 (slotOf [2, 4, 5, 6, 11, 31, 32] vs_67 4) L_127) L_127 fun t87_129 L_131 =>
 W.grd t83_120 true (fun k_133 => W.idx 3 t86_125 t87_129 L_131 fun v_135 =>
 k_133 v_135 L_131) L_131 fun t88_132 L_134 =>
 W.grd t83_120 true (fun k_137 => W.faddr 0 t88_132 fun v_139 =>
 k_137 v_139 L_134) L_134 fun t89_136 L_138 =>
 W.grd t83_120 true (fun k_141 => W.load false 1 t89_136 L_138 fun v_143 =>
 k_141 v_143 L_138) L_138 fun t90_140 L_142 =>
 W.grd t83_120 true (fun k_145 => W.bin Try.prog Fl .neq 3 t90_140 (.int .i64 5) fun v_147 =>
 k_145 v_147 L_142) L_142 fun t91_144 L_146 =>
 W.pick t83_120 t91_144 (.bool false) fun t92_148 =>
 W.cond t92_148 (
 (object_Blockers_zt3 vs_67 L_146 j_59)) (
 j_59 [(slotOf [2, 4, 5, 6, 11, 31, 32] vs_67 5), (slotOf [2, 4, 5, 6, 11, 31, 32] vs_67 11)] L_146)
def object_Blockers_zt5 (vs_67 : List AV) (L_69 : SH) (j_59 : W.Kn)  : Prop :=
 W.bin Try.prog Fl .eql 3 (slotOf [2, 4, 5, 6, 11, 31, 32] vs_67 31) (.int .i64 21) fun t80_119 =>
 W.cond t80_119 (
 (object_Blockers_zt4 vs_67 L_69 j_59)) (
 j_59 [(slotOf [2, 4, 5, 6, 11, 31, 32] vs_67 5), (slotOf [2, 4, 5, 6, 11, 31, 32] vs_67 11)] L_69)
def object_Blockers_zt6 (vs_67 : List AV) (L_69 : SH) (j_59 : W.Kn)  : Prop :=
 W.bin Try.prog Fl .eql 3 (slotOf [2, 4, 5, 6, 11, 31, 32] vs_67 31) (.int .i64 17) fun t64_96 =>
 W.cond t64_96 (
 (object_Blockers_zt2 vs_67 L_69 j_59)) (
 (object_Blockers_zt5 vs_67 L_69 j_59))
def object_Blockers_zt7 (vs_67 : List AV) (L_69 : SH) (j_59 : W.Kn)  : Prop :=
 W.bin Try.prog Fl .eql 3 (slotOf [2, 4, 5, 6, 11, 31, 32] vs_67 31) (.int .i64 10) fun t45_79 =>
 W.cond t45_79 (
 (object_Blockers_zt1 vs_67 L_69 j_59)) (
 (object_Blockers_zt6 vs_67 L_69 j_59))
def object_Blockers_j3 (j_59 : W.Kn) (vs_67 : List AV) (L_69 : SH) : Prop :=
 W.cond (slotOf [2, 4, 5, 6, 11, 31, 32] vs_67 32) (
 (object_Blockers_zt0 vs_67 L_69 j_59)) (
 (object_Blockers_zt7 vs_67 L_69 j_59))
def object_Blockers_zt8 (Q : AV → SH → Prop) (t3 : AV) (t2 : AV) (t4 : AV) (t5_4 : AV) (t6_6 : AV) (L_55 : SH)  : Prop :=
 W.join (object_Blockers_j2 Q) fun j_59 =>
 W.join (object_Blockers_j3 j_59) fun j_68 =>
 W.bin Try.prog Fl .eql 3 t3 (.int .i64 6) fun t33_153 =>
 W.cond t33_153 (
 j_68 [t2, t4, t5_4, t6_6, .nils, t3, t33_153] L_55) (
 W.bin Try.prog Fl .eql 3 t3 (.int .i64 8) fun t34_154 =>
 j_68 [t2, t4, t5_4, t6_6, .nils, t3, t34_154] L_55)
def object_Blockers_c4 (t2 : AV) (t5_4 : AV) (t3 : AV) (t4 : AV) (Q : AV → SH → Prop) (t6_6 : AV) (t14_10 : AV) (L_11 : SH) : Prop :=
 W.un .not t14_10 fun t15_12 =>
 W.grd t15_12 false (fun k_14 => k_14 t2 L_11) L_11 fun t17_13 L_15 =>
 W.grd t15_12 false (fun k_17 => W.faddr 4 t5_4 fun v_19 =>
 k_17 v_19 L_15) L_15 fun t18_16 L_18 =>
 W.grd t15_12 false (fun k_21 => W.load false 1 t18_16 L_18 fun v_23 =>
 k_21 v_23 L_18) L_18 fun t19_20 L_22 =>
 W.grd t15_12 false (fun k_25 => W.len t19_20 fun v_27 =>
 k_25 v_27 L_22) L_22 fun t20_24 L_26 =>
 W.grd t15_12 false (fun k_29 => W.call Try.prog (.fn 52 []) [t17_13, t20_24] L_26 fun v_31 L_32 =>
 k_29 v_31 L_32) L_26 fun t21_28 L_30 =>
 W.grd t15_12 false (fun k_34 => W.un .not t21_28 fun v_36 =>
 k_34 v_36 L_30) L_30 fun t22_33 L_35 =>
 W.pick t15_12 (.bool true) t22_33 fun t23_37 =>
 W.grd t23_37 false (fun k_39 => W.load true 6 t5_4 L_35 fun v_41 =>
 k_39 v_41 L_35) L_35 fun t25_38 L_40 =>
 W.grd t23_37 false (fun k_43 => k_43 t3 L_40) L_40 fun t26_42 L_44 =>
 W.grd t23_37 false (fun k_46 => k_46 t4 L_44) L_44 fun t27_45 L_47 =>
 W.grd t23_37 false (fun k_49 => W.call Try.prog (.fn 53 []) [t25_38, t26_42, t27_45] L_47 fun v_51 L_52 =>
 k_49 v_51 L_52) L_47 fun t28_48 L_50 =>
 W.grd t23_37 false (fun k_54 => W.un .not t28_48 fun v_56 =>
 k_54 v_56 L_50) L_50 fun t29_53 L_55 =>
 W.pick t23_37 (.bool true) t29_53 fun t30_57 =>
 W.cond t30_57 (
 Q .nils L_55) (
 (object_Blockers_zt8 Q t3 t2 t4 t5_4 t6_6 L_55))
def object_Blockers_w (t0 t1 t2 t3 t4 : AV) (L : SH) (Q : AV → SH → Prop) : Prop :=
 W.box t0 L fun t5_0 L_1 =>
 W.box t1 L_1 fun t6_2 L_3 =>
 W.frz1 t5_0 L_3 fun t5_4 L_5 =>
 W.frz1 t6_2 L_5 fun t6_6 L_7 =>
 W.load true 6 t5_4 L_7 fun t12_8 =>
 W.load true 4 t6_6 L_7 fun t13_9 =>
 W.call Try.prog (.fn 37 []) [t12_8, t13_9] L_7 (object_Blockers_c4 t2 t5_4 t3 t4 Q t6_6)
theorem object_Blockers_e (t0 t1 t2 t3 t4 : AV) (L : SH) (Q : AV → SH → Prop) : W.func Try.prog Fl object_Blockers_t Try.f35 (Try.f35.body.getD .skip) [t0, t1, t2, t3, t4] L Q = object_Blockers_w t0 t1 t2 t3 t4 L Q := by kernel_rfl
theorem object_Blockers_ok (t0 t1 t2 t3 t4 : AV) (L : SH) (Q : AV → SH → Prop) (h : object_Blockers_w t0 t1 t2 t3 t4 L Q) : CallA Try.prog 35 [t0, t1, t2, t3, t4] L Q :=
  func_sound (ht := object_Blockers_t) fit Try.func35 (show Try.f35.body = some (Try.f35.body.getD .skip) by kernel_rfl) (Eq.mpr (object_Blockers_e t0 t1 t2 t3 t4 L Q) h)

def object_Blockers_1_t : Hints := ⟨fun k => none, fun k => [], fun k => [], fun k => []⟩
def object_Blockers_1_w (t0 t1 : AV) (L : SH) (Q : AV → SH → Prop) : Prop :=
 W.faddr 4 t1 fun t5_0 =>
 W.load false 1 t5_0 L fun t6_1 =>
 W.len t6_1 fun t7_2 =>
 W.call Try.prog (.fn 52 []) [t0, t7_2] L fun t8_3 L_4 =>
 W.un .not t8_3 fun t9_5 =>
 Q t9_5 L_4
theorem object_Blockers_1_e (t0 t1 : AV) (L : SH) (Q : AV → SH → Prop) : W.func Try.prog Fl object_Blockers_1_t Try.f62 (Try.f62.body.getD .skip) [t0, t1] L Q = object_Blockers_1_w t0 t1 L Q := by kernel_rfl
theorem object_Blockers_1_ok (t0 t1 : AV) (L : SH) (Q : AV → SH → Prop) (h : object_Blockers_1_w t0 t1 L Q) : CallA Try.prog 62 [t0, t1] L Q :=
  func_sound (ht := object_Blockers_1_t) fit Try.func62 (show Try.f62.body = some (Try.f62.body.getD .skip) by kernel_rfl) (Eq.mpr (object_Blockers_1_e t0 t1 L Q) h)

end Go.Proofs.Ytadjimfkfmojkaa.Am

end
section
namespace Go.Proofs.Ytadjimfkfmojkaa.Am
set_option linter.unusedVariables false
structure W.callM (P : Program) (g : FuncId) (args : List AV) (L : SH) (KL : AV → SH → Prop) : Prop where
  h : CallA P g args L KL
structure W.dcallM (P : Program) (us : List W.WR) (i : Nat) (g : FuncId) (args : List AV) (L : SH) (KN : AV → SH → List Nat → Prop) : Prop where
  h : ∃ Kc R : SH, L.Perm (Kc ++ R) ∧ (∀ x ∈ us, W.free x ⟨i, [], Kc.names, [], true, []⟩) ∧ CallA P g args Kc fun v Kc' => KN v (Kc' ++ R) Kc.names
section
variable {P : Program} {g : FuncId} {args : List AV} {L : SH} {KL : AV → SH → Prop} {KN : AV → SH → List Nat → Prop} {us : List W.WR} {i : Nat} {v : AV}
theorem a_mark (h : W.callM P g args L KL) : W.call P (.fn g []) args L KL := by rw [call_eq, List.append_nil]; exact h.h
theorem m_call (h1 : PureA P g args v) (h : KL v L) : W.callM P g args L KL := ⟨h1.call h⟩
theorem m_callF {K R : SH} {R1 : AV → SH → Prop} (h : CallA P g args K R1) (hL : L.Perm (K ++ R)) (hq : ∀ v K', R1 v K' → KL v (K' ++ R)) : W.callM P g args L KL := ⟨h.frame hL hq⟩
theorem m_callD {b : Nat} {x : Blk} {L' : SH} {R1 : AV → SH → Prop} (h : CallA P g args [(b, x)] R1) (hd : Del b x L L') (hq : ∀ v K', R1 v K' → KL v (K' ++ L')) : W.callM P g args L KL := ⟨h.frame hd.perm hq⟩
theorem m_dcallD {b : Nat} {x : Blk} {L' : SH} {R1 : AV → SH → Prop} (h : CallA P g args [(b, x)] R1) (hd : Del b x L L') (hf : ∀ y ∈ us, W.free y ⟨i, [], [b], [], true, []⟩) (hq : ∀ v K', R1 v K' → KN v (K' ++ L') [b]) : W.dcallM P us i g args L KN :=
  ⟨[(b, x)], L', hd.perm, hf, h.mono hq⟩
theorem CallA.nd {f : FuncId} {Q : AV → SH → Prop} (hb : ∃ fn c, P.funcs[f]? = some fn ∧ fn.body = some c) (h : L.names.Nodup → CallA P f args L Q) : CallA P f args L Q := ⟨hb, fun H hB hs => (h hs.nd).2 H hB hs⟩
/-- arguments as they read -/
theorem CallA.pre {f : FuncId} {args2 : List AV} {L2 : SH} {Q : AV → SH → Prop} (hz : FzS args L args2 L2) (h : CallA P f args2 L2 Q) : CallA P f args L Q := ⟨h.1, fun H hb hs => by
  obtain ⟨H2, f1, f2, f3, f4⟩ := fzs_sound hz hs hb
  obtain ⟨v, H', L', h1, h2, h3⟩ := h.2 H2 f1.bd f1.sub
  refine ⟨v, H', L', fun w σ vs hW hvs => ?_, f1.trans (h2.low (by rw [f2]; exact Nat.le_refl _)) (Nat.le_refl _), h3⟩
  obtain ⟨g1, g2, g3⟩ := f3 w σ hW
  refine (h1 w σ vs g1 (g3 vs hvs)).mono ?_
  rintro e w' ⟨v', σ', rfl, k1, k2, k3, k4⟩
  exact ⟨v', σ', rfl, k1, k2, ⟨k3.os, k3.tape, k3.output, k3.size, fun c hc hT => k3.keep c hc (fun h => hT (g2 c h)), k3.shape, k3.sig, k3.eqfr, k3.frame, fun c hc => (k3.own c hc).imp (g2 c) id⟩, fun c pl hc => by rw [← f2]; exact k4 c pl hc⟩⟩
/-- nothing but the arguments is read anew -/
theorem FzS.vals {vs vs2 : List AV} (h : FzL [] vs vs2) : FzS vs L vs2 L := .drop (K := []) (.refl _) h.at_.1 h.at_.2
theorem h_fn (k : FuncId) (h : W.callM P k args L KL) : W.callM P k args L KL := h
theorem h_dfn (k : FuncId) (h : W.dcallM P us i k args L KN) : W.dcallM P us i k args L KN := h
theorem a_dmark (h : W.dcallM P us i g args L KN) : W.dcall P us i (.fn g []) args L KN := by rw [dcall_eq, List.append_nil]; exact h.h
theorem m_dcall (h : PureA P g args v) (hf : ∀ x ∈ us, W.free x ⟨i, [], [], [], true, []⟩) (hk : KN v L []) : W.dcallM P us i g args L KN :=
  ⟨[], L, .refl _, hf, CallA.mono h fun u K ⟨h1, h2⟩ => by subst h1; subst h2; exact hk⟩
end
theorem h_load1 {n : Nat} {a : AV} {L : SH} {K : AV → Prop} (h : W.load false n a L K) : W.load false n a L K := h
theorem h_row {n : Nat} {a : AV} {L : SH} {K : AV → Prop} (h : W.load true n a L K) : W.load true n a L K := h
theorem h_faddr {off : Nat} {x : AV} {K : AV → Prop} (h : W.faddr off x K) : W.faddr off x K := h
theorem h_bin {P : Program} {F : TypeId → Option (List TypeId)} {op : BinOp} {t : TypeId} {x y : AV} {K : AV → Prop} (h : W.bin P F op t x y K) : W.bin P F op t x y K := h
theorem h_cond {v : AV} {A B : Prop} (h : W.cond v A B) : W.cond v A B := h
theorem h_idx {n : Nat} {x ix : AV} {L : SH} {K : AV → Prop} (h : W.idx n x ix L K) : W.idx n x ix L K := h
theorem h_len {x : AV} {K : AV → Prop} (h : W.len x K) : W.len x K := h
theorem h_ext {i : Nat} {x : AV} {K : AV → Prop} (h : W.ext i x K) : W.ext i x K := h
theorem h_calm {us : List W.WR} {y : W.WR} {A : Prop} (h : W.calm us y A) : W.calm us y A := h
theorem h_note {r : W.Fp} {K : W.Fp → Prop} (h : W.note r K) : W.note r K := h
theorem h_pick {c x y : AV} {K : AV → Prop} (h : W.pick c x y K) : W.pick c x y K := h
theorem h_grd {x : AV} {want : Bool} {A : (AV → SH → Prop) → Prop} {L : SH} {K : AV → SH → Prop} (h : W.grd x want A L K) : W.grd x want A L K := h
theorem h_dgrd {x : AV} {want : Bool} {A : (AV → SH → W.Fp → Prop) → Prop} {L : SH} {K : AV → SH → W.Fp → Prop} (h : W.dgrd x want A L K) : W.dgrd x want A L K := h
theorem h_un {op : UnOp} {x : AV} {K : AV → Prop} (h : W.un op x K) : W.un op x K := h
theorem h_box {x : AV} {L : SH} {K : AV → SH → Prop} (h : W.box x L K) : W.box x L K := h
theorem h_frz1 {v : AV} {L : SH} {K : AV → SH → Prop} (h : W.frz1 v L K) : W.frz1 v L K := h
theorem h_store {n : Nat} {a v : AV} {L : SH} {K : SH → Prop} (h : W.store n a v L K) : W.store n a v L K := h
theorem h_idxP {len n : Nat} {x ix : AV} {K : AV → Prop} (h : W.idxP len n x ix K) : W.idxP len n x ix K := h
theorem h_bslice {n : Nat} {z : List AV} {len : Nat} {ps : List (Nat × AV)} {L : SH} {K : AV → SH → Prop} (h : W.bslice n z len ps L K) : W.bslice n z len ps L K := h
end Go.Proofs.Ytadjimfkfmojkaa.Am

end
section
namespace Go.Proofs.Ytadjimfkfmojkaa.Am
set_option linter.unusedVariables false
section
variable {P : Program} {g : FuncId} {args : List AV} {L : SH} {KL : AV → SH → Prop}
theorem Fr.permS {B : Nat} {L' L'' : SH} {H H' : Heap} (h : Fr B L H L' H') (hp : L'.Perm L'') : Fr B L H L'' H' :=
  ⟨h.next, h.bd, h.sub.perm hp, fun b x h1 h2 => ⟨(h.keep b x h1 h2).1, fun hm => (h.keep b x h1 h2).2 ((hp.map Prod.fst).mem_iff.2 hm)⟩, h.dom, fun b hb hlt => h.fresh b ((hp.map Prod.fst).mem_iff.2 hb) hlt⟩
/-- a call that makes blocks: all blocks are told in an order of one's own, and are known to be different -/
theorem m_callN {R1 : AV → SH → Prop} (h : CallA P g args [] R1) (hq : ∀ v K', R1 v K' → ∃ L' : SH, (K' ++ L).Perm L' ∧ (L'.names.Nodup → KL v L')) : W.callM P g args L KL := by
  refine ⟨⟨h.1, fun H hb hs => ?_⟩⟩
  obtain ⟨v, H', L', h1, h2, L'', hp, h3⟩ := (h.frame (K := []) (R := L) (R2 := fun v L1 => ∃ L' : SH, L1.Perm L' ∧ (L'.names.Nodup → KL v L')) (.refl _) hq).2 H hb hs
  have h4 := h2.permS hp
  exact ⟨v, H', L'', h1, h4, h3 h4.sub.nd⟩
theorem a_app_slotN (M : SH) {o : Option Nat} {i n by_ bX : Nat} {R : SH} {rows m : List (List AV)} {k : Nat} (hr : rows.length = i) (h0 : o = none → rows = []) (hk : k = m.length) (hm : 0 < m.length) (h2 : 2 * (i + m.length) * by_ ≤ 2 ^ 48) (h3 : 2 * (i + m.length) ≤ 2 ^ 62) (h4 : (m.all fun r => r.all AV.one) = true)
    (h : ∀ b, (∀ p ∈ M, b ≠ p.1) → KL (.sl b 0 (i + m.length)) ((b, ⟨n, rows ++ m⟩) :: (bX, ⟨n, m⟩) :: (M ++ R))) : W.append n by_ (slotV o i) (.sl bX 0 k) ((bX, ⟨n, m⟩) :: (M ++ (slotB o n rows ++ R))) KL := by
  subst hk
  cases o with
  | none =>
    have hr0 := h0 rfl
    subst hr0
    simp only [List.length_nil] at hr
    subst hr
    have := a_app_e (KL := KL) (L := (bX, ⟨n, m⟩) :: (M ++ R)) (by_ := by_) (rowsR_s (.head _) rfl rfl) (by simpa using h2) (by simpa using h3) h4 (by show m.length ≠ 0; omega) (fun b hb => by
      have := h b fun p hp e => hb (by rw [e]; exact List.mem_map_of_mem (List.mem_cons_of_mem _ (List.mem_append_left _ hp)))
      simpa using this)
    exact this
  | some b =>
    subst hr
    exact a_app_s (y := ⟨n, rows⟩) (l := rows) (by simp [slotB]) rfl (by simp) (by simp) (rowsR_s (.head _) rfl rfl) h2 h3 h4 (.there _ (Del.app (.here R) M)) (fun b' hb => h b' fun p hp e => hb (by rw [e]; exact List.mem_map_of_mem (List.mem_cons_of_mem _ (List.mem_append_left _ hp))))
end
end Go.Proofs.Ytadjimfkfmojkaa.Am

end
section
namespace Go.Proofs.Ytadjimfkfmojkaa.Am
set_option linter.unusedVariables false
section
variable {P : Program} {F : TypeId → Option (List TypeId)} {K : AV → Prop} {KL : AV → SH → Prop} {L : SH}
theorem b_load_q {n : Nat} {rows : List (List AV)} {i off : Nat} {r : List AV} {v : AV} (h : K v) (h1 : rows[i]? = some r := by first | assumption | rfl) (h2 : r[off]? = some v := by rfl) : W.load false n (.pptr rows i off) L K := a_load_q h1 h2 h
theorem b_load_i {α : Type} [Inhabited α] {f : α → List AV} {l : List α} {n : Nat} {i : Int} {off : Nat} {v : AV} (h : K v) (h1 : inB i l.length = true := by assumption) (h2 : (f (l.getD i.toNat default))[off]? = some v := by rfl) : W.load false n (.pptr (l.map f) i.toNat off) L K := a_load_q (at_inB h1) h2 h
theorem b_load_p {n b i off : Nat} {x : Blk} {r : List AV} {v : AV} (h : K v) (hm : (b, x) ∈ L := by repeat constructor) (h1 : x.rows[i]? = some r := by first | assumption | rfl) (h2 : r[off]? = some v := by rfl) : W.load false n (.ptr b i off) L K := a_load_p hm h1 h2 h
theorem b_row_q {n : Nat} {rows : List (List AV)} {i : Nat} {r : List AV} (h : K (.agg r)) (h1 : rows[i]? = some r := by first | assumption | rfl) (h2 : r.length = n := by rfl) : W.load true n (.pptr rows i 0) L K := a_row_q h1 h2 h
theorem b_row_i {α : Type} [Inhabited α] {f : α → List AV} {l : List α} {n : Nat} {i : Int} (h : K (.agg (f (l.getD i.toNat default)))) (h1 : inB i l.length = true := by assumption) (h2 : (f (l.getD i.toNat default)).length = n := by rfl) : W.load true n (.pptr (l.map f) i.toNat 0) L K := a_row_q (at_inB h1) h2 h
theorem b_row_p {n b i : Nat} {x : Blk} {r : List AV} (h : K (.agg r)) (hm : (b, x) ∈ L := by repeat constructor) (h1 : x.rows[i]? = some r := by first | assumption | rfl) (h2 : r.length = n := by rfl) : W.load true n (.ptr b i 0) L K := a_row_p hm h1 h2 h
theorem b_rem {t : TypeId} {k : IntKind} {a b : Int} (h : K (.int k (a.tmod b))) (hb : b ≠ 0 := by first | assumption | decide | omega | exact of_decide_eq_false (by assumption)) : W.bin P F .rem t (.int k a) (.int k b) K := a_rem hb h
theorem b_quo {t : TypeId} {k : IntKind} {a b : Int} (h : K (.int k (k.wrap (a.tdiv b)))) (hb : b ≠ 0 := by first | assumption | decide | omega | exact of_decide_eq_false (by assumption)) : W.bin P F .quo t (.int k a) (.int k b) K := a_quo hb h
theorem b_cond_t {p : Bool} {A B : Prop} (h : A) (hp : p = true := by first | assumption | rfl) : W.cond (.bool p) A B := a_cond_t hp h
theorem b_cond_f {p : Bool} {A B : Prop} (h : B) (hp : p = false := by first | assumption | rfl) : W.cond (.bool p) A B := a_cond_f hp h
theorem b_idx_n {n : Nat} {rows : List (List AV)} {k : IntKind} {j : Nat} {r : List AV} (h : K (.pptr rows j 0)) (h1 : rows[j]? = some r := by first | assumption | rfl) (h2 : r.length = n := by rfl) : W.idx n (.lst rows) (.int k (j : Int)) L K := a_idx_n h1 h2 h
theorem b_idx_l {n : Nat} {rows : List (List AV)} {k : IntKind} {i : Int} {r : List AV} (h : K (.pptr rows i.toNat 0)) (h0 : 0 ≤ i := by first | decide | omega) (h1 : rows[i.toNat]? = some r := by first | assumption | rfl) (h2 : r.length = n := by rfl) : W.idx n (.lst rows) (.int k i) L K := a_idx_l h0 h1 h2 h
theorem b_idx_i {α : Type} [Inhabited α] {f : α → List AV} {l : List α} {n : Nat} {k : IntKind} {i : Int} (h : K (.pptr (l.map f) i.toNat 0)) (h1 : inB i l.length = true := by assumption) (h2 : (f (l.getD i.toNat default)).length = n := by rfl) : W.idx n (.lst (l.map f)) (.int k i) L K := a_idx_l (nn_inB h1) (at_inB h1) h2 h
theorem b_idx_sn {n b m : Nat} {k : IntKind} {i : Nat} {y : Blk} (h : K (.ptr b i 0)) (h1 : i < m := by first | assumption | omega) (hm : (b, y) ∈ L := by repeat constructor) (h2 : y.size = n := by rfl) : W.idx n (.sl b 0 m) (.int k (i : Int)) L K := a_idx_sn h1 hm h2 h
theorem b_idx_s {n b j m : Nat} {k : IntKind} {i : Int} {y : Blk} (h : K (.ptr b (j + i.toNat) 0)) (h0 : 0 ≤ i := by first | decide | omega) (h1 : i.toNat < m := by first | assumption | omega) (hm : (b, y) ∈ L := by repeat constructor) (h2 : y.size = n := by rfl) : W.idx n (.sl b j m) (.int k i) L K := a_idx_s h0 h1 hm h2 h
theorem b_ext {i : Nat} {vs : List AV} {v : AV} (h : K v) (h1 : vs[i]? = some v := by rfl) : W.ext i (.tup vs) K := a_ext h1 h
theorem b_calm {us : List W.WR} {y : W.WR} {A : Prop} (h : A) (h1 : ∀ x ∈ us, W.free x y := by (simp only [W.free, slotOf, ↓reduceIte, Nat.reduceEqDiff, blocksOf, slOf, List.forall_mem_nil, List.forall_mem_cons, List.not_mem_nil, not_false_eq_true, implies_true, and_true, true_and, and_self, Bool.false_eq_true, reduceCtorEq, forall_const, false_implies, List.mem_singleton, forall_eq, List.append_nil, List.nil_append, List.mem_cons, or_false, false_or, forall_eq_or_imp, not_or]) <;> (repeat' constructor) <;> first | assumption | (exact Ne.symm (by assumption)) | (intro e_; subst e_; simp [SH.names] at *; done)) : W.calm us y A := a_calm h1 h
theorem b_pick_t {p : Bool} {x y : AV} (h : K x) (hp : p = true := by first | assumption | rfl) : W.pick (.bool p) x y K := a_pick_t hp h
theorem b_pick_f {p : Bool} {x y : AV} (h : K y) (hp : p = false := by first | assumption | rfl) : W.pick (.bool p) x y K := a_pick_f hp h
theorem b_grd_y {p want : Bool} {A : (AV → SH → Prop) → Prop} (h : A KL) (hp : p = want := by first | assumption | rfl) : W.grd (.bool p) want A L KL := a_grd_y hp h
theorem b_grd_n {p want : Bool} {A : (AV → SH → Prop) → Prop} (h : KL undefA L) (hp : p = !want := by first | assumption | rfl) : W.grd (.bool p) want A L KL := a_grd_n hp h
theorem b_dgrd_y {KF : AV → SH → W.Fp → Prop} {p want : Bool} {A : (AV → SH → W.Fp → Prop) → Prop} (h : A KF) (hp : p = want := by first | assumption | rfl) : W.dgrd (.bool p) want A L KF := a_dgrd_y hp h
theorem b_dgrd_n {KF : AV → SH → W.Fp → Prop} {p want : Bool} {A : (AV → SH → W.Fp → Prop) → Prop} (h : KF undefA L ⟨[], [], [], L.names⟩) (hp : p = !want := by first | assumption | rfl) : W.dgrd (.bool p) want A L KF := a_dgrd_n hp h
theorem b_frz_p {b i off : Nat} {x : Blk} {L' : SH} (h : KL (.pptr x.rows i off) L') (h1 : Del b x L L' := by repeat constructor) (h2 : 0 < x.size := by first | exact Nat.succ_pos _ | decide | simp) (h3 : 0 < x.rows.length := by first | exact Nat.succ_pos _ | decide | simp) : W.frz1 (.ptr b i off) L KL := a_frz_p h1 h2 h3 h
theorem b_store_box {KS : SH → Prop} {n b : Nat} {v : AV} {m : Nat} {r cs : List AV} {L' : SH} (h : KS L') (hu : Upd b ⟨m, [r]⟩ ⟨m, [cs]⟩ L L' := by repeat constructor) (h2 : v.cells? = some cs := by rfl) (h3 : cs.length = n := by rfl) (h4 : cs.all AV.one = true := by rfl) (h5 : r.length = n := by rfl) : W.store n (.ptr b 0 0) v L KS := a_store_box hu h2 h3 h4 h5 h
theorem b_store_one {KS : SH → Prop} {b i off : Nat} {v : AV} {x : Blk} {r : List AV} {L' : SH} (h : KS L') (hu : Upd b x ⟨x.size, x.rows.set i (r.set off v)⟩ L L' := by repeat constructor) (h1 : x.rows[i]? = some r := by first | assumption | rfl) (h2 : v.cells? = some [v] := by rfl) (h4 : v.one = true := by rfl) (h5 : off < r.length := by first | decide | exact Nat.lt_of_sub_pos (Nat.succ_pos _) | simp | omega) : W.store 1 (.ptr b i off) v L KS := a_store_one hu h1 h2 h4 h5 rfl h
theorem b_idxP_q {len n : Nat} {rows : List (List AV)} {j off : Nat} {k : IntKind} {i : Int} (h : K (.pptr rows j (off + i.toNat * n))) (h0 : 0 ≤ i := by first | decide | omega | exact Int.natCast_nonneg _) (h1 : i.toNat < len := by first | decide | omega) : W.idxP len n (.pptr rows j off) (.int k i) K := a_idxP_q h0 h1 h
theorem b_bslice {n : Nat} {z : List AV} {len : Nat} {ps : List (Nat × AV)} {rows : List (List AV)} (h : ∀ b, b ∉ L.names → KL (.sl b 0 len) ((b, ⟨n, rows⟩) :: L)) (h1 : len * n ≤ 2 ^ 24 := by decide) (h2 : fillRows n (List.replicate len z) ps = some rows := by rfl) : W.bslice n z len ps L KL := a_bslice h1 h2 h
theorem b_box {x : AV} {cs : List AV} (h : ∀ b, b ∉ L.names → KL (.ptr b 0 0) ((b, ⟨cs.length, [cs]⟩) :: L)) (h1 : x.cells? = some cs := by rfl) (h2 : cs.all AV.one = true := by rfl) : W.box x L KL := a_box h1 h2 h
theorem b_build {z : List AV} {ps : List (Nat × Nat × AV)} {cs : List AV} (h : K (.agg cs)) (h1 : W0.fillR z ps = some cs := by rfl) : W.build z ps K := a_build h1 h
theorem b_dcall {KN : AV → SH → List Nat → Prop} {us : List W.WR} {i : Nat} {g : FuncId} {args : List AV} {v : AV} (h : PureA P g args v) (hk : KN v L []) (hf : ∀ x ∈ us, W.free x ⟨i, [], [], [], true, []⟩ := by (simp only [W.free, slotOf, ↓reduceIte, Nat.reduceEqDiff, blocksOf, slOf, List.forall_mem_nil, List.forall_mem_cons, List.not_mem_nil, not_false_eq_true, implies_true, and_true, true_and, and_self, Bool.false_eq_true, reduceCtorEq, forall_const, false_implies, List.mem_singleton, forall_eq, List.append_nil, List.nil_append, List.mem_cons, or_false, false_or, forall_eq_or_imp, not_or]) <;> (repeat' constructor) <;> first | assumption | (exact Ne.symm (by assumption)) | (intro e_; subst e_; simp [SH.names] at *; done)) : W.dcallM P us i g args L KN := m_dcall h hf hk
end
end Go.Proofs.Ytadjimfkfmojkaa.Am

end
section
namespace Go.Proofs.Ytadjimfkfmojkaa.Am
set_option maxRecDepth 100000
set_option linter.unusedSimpArgs false
set_option linter.unusedVariables false
/-- what a predicate says of every number, over a heap that it leaves alone -/
def PredA (P : Program) (g : FuncId) (cs : List AV) (p : Int → Bool) : Prop := ∀ x : Int, PureA P g (.int .i64 x :: cs) (.bool (p x))
theorem PredA.call {P : Program} {g : FuncId} {cs : List AV} {p : Int → Bool} (h : PredA P g cs p) {x : Int} {L : SH} {KL : AV → SH → Prop} (hk : KL (.bool (p x)) L) : W.call P (.fn g cs) [.int .i64 x] L KL := ⟨(h x).call hk⟩
/-- where the first number lies that the predicate holds of -/
def idxF (p : Int → Bool) (l : List Int) : Int := if l.any p then (l.findIdx p : Int) else -1
theorem idxF_take {p : Int → Bool} {l : List Int} {i : Nat} (hi : i < l.length) (hno : (l.take i).any p = false) (hp : p l[i] = true) : idxF p l = i := by
  have h1 : l.any p = true := List.any_eq_true.2 ⟨l[i], List.getElem_mem hi, hp⟩
  have h2 : l.findIdx p = i := by
    rw [List.findIdx_eq hi]
    refine ⟨hp, fun j hj => ?_⟩
    have := List.any_eq_false.1 hno l[j] (List.mem_take_iff_getElem.2 ⟨j, by omega, rfl⟩)
    simpa using this
  rw [idxF, if_pos h1, h2]
theorem indexFunc_ok (g : FuncId) (cs : List AV) (p : Int → Bool) (hp : PredA Try.prog g cs p) (b : Nat) (xs : List Int) (hl : xs.length < 2 ^ 62) : CallA Try.prog 78 [.sl b 0 xs.length, .fn g cs] [(b, ⟨1, xs.map intE⟩)] fun v L => v = .int .i64 (idxF p xs) ∧ L = [(b, ⟨1, xs.map intE⟩)] := by
  refine slices_IndexFunc___int_int__ok _ _ _ _ ?_
  unfold slices_IndexFunc___int_int__w
  generalize hQ : (fun (v : AV) (L : SH) => v = AV.int .i64 (idxF p xs) ∧ L = [(b, (⟨1, xs.map intE⟩ : Blk))]) = Q
  repeat' (first | (refine h_len ?_; refine a_len_s ?_))
  refine for_by xs.length (fun i => ([.sl b 0 xs.length, .fn g cs, .int .i64 xs.length, .int .i64 i], [(b, ⟨1, xs.map intE⟩)])) (fun i => (xs.take i).any p = false) (by simp) rfl rfl ?_
  intro i hi hno
  dsimp only
  unfold slices_IndexFunc___int_int__l1
  rcases Nat.lt_or_ge i xs.length with h1 | h1
  · have hx := map_at (f := intE) h1
    have hd := dec_lt h1
    repeat' (first | (refine h_load1 ?_; refine b_load_p ?_) | (refine h_bin ?_; first | refine a_lss ?_ | refine a_add ?_) | (refine h_cond ?_; first | refine b_cond_t ?_ | refine a_cond (fun h => ?_) (fun h => ?_)) | (refine h_idx ?_; refine b_idx_sn ?_) | refine PredA.call hp ?_)
    · subst hQ
      exact ⟨by rw [idxF_take h1 hno h]; rfl, rfl⟩
    · refine ⟨i + 1, by omega, by omega, ?_, fzs_eq (by rw [i64_succ h1 hl]; rfl) rfl⟩
      rw [List.take_succ_eq_append_getElem h1, List.any_append, hno]
      simpa using h
  · have hd := dec_ge h1
    repeat' (first | (refine h_bin ?_; refine a_lss ?_) | (refine h_cond ?_; refine b_cond_f ?_))
    subst hQ
    rw [List.take_of_length_le h1] at hno
    exact ⟨by rw [idxF, if_neg (by simp [hno])], rfl⟩
theorem bound_nat {k : IntKind} {m d : Nat} : boundA (some (.int k (m : Int))) d = some m := by simp [boundA, natOf]
theorem idxF_split {p : Int → Bool} {l : List Int} (h : idxF p l ≠ -1) : ∃ i : Nat, idxF p l = i ∧ i < l.length ∧ (l.take (i + 1)).filter (fun x => !p x) = l.take i := by
  unfold idxF at h ⊢
  split at h
  · rename_i ha
    rw [if_pos ha]
    refine ⟨l.findIdx p, rfl, List.findIdx_lt_length.2 (List.any_eq_true.1 ha), ?_⟩
    have hlt := List.findIdx_lt_length.2 (List.any_eq_true.1 ha)
    rw [List.take_succ_eq_append_getElem hlt, List.filter_append]
    have h1 : p l[l.findIdx p] = true := List.findIdx_getElem
    rw [List.filter_cons_of_neg (by simp [h1]), List.filter_nil, List.append_nil, List.filter_eq_self]
    intro x hx
    obtain ⟨j, hj, rfl⟩ := List.mem_take_iff_getElem.1 hx
    have := List.not_of_lt_findIdx (xs := l) (p := p) (i := j) (by omega)
    simpa using this
  · exact absurd rfl h
theorem idxF_none {p : Int → Bool} {l : List Int} (h : idxF p l = -1) : l.filter (fun x => !p x) = l := by
  unfold idxF at h
  split at h
  · omega
  · rename_i ha
    rw [List.filter_eq_self]
    intro x hx
    simp only [Bool.not_eq_true, List.any_eq_false] at ha
    simpa using ha x hx
theorem deleteFunc_ok (g : FuncId) (cs : List AV) (p : Int → Bool) (hp : PredA Try.prog g cs p) (b : Nat) (xs : List Int) (hl : xs.length < 2 ^ 61) : CallA Try.prog 48 [.sl b 0 xs.length, .fn g cs] [(b, ⟨1, xs.map intE⟩)] fun v L => ∃ R : List Int, v = .sl b 0 (xs.filter fun x => !p x).length ∧ L = [(b, ⟨1, R.map intE⟩)] ∧ R.take (xs.filter fun x => !p x).length = (xs.filter fun x => !p x) ∧ R.length = xs.length := by
  refine slices_DeleteFunc___int_int__ok _ _ _ _ ?_
  unfold slices_DeleteFunc___int_int__w
  refine ⟨(indexFunc_ok g cs p hp b xs (by omega)).mono ?_⟩
  rintro v L ⟨rfl, rfl⟩
  unfold slices_DeleteFunc___int_int__c2
  generalize hQ : (fun (v : AV) (L : SH) => ∃ R : List Int, v = AV.sl b 0 (xs.filter fun x => !p x).length ∧ L = [(b, (⟨1, R.map intE⟩ : Blk))] ∧ R.take (xs.filter fun x => !p x).length = (xs.filter fun x => !p x) ∧ R.length = xs.length) = Q
  by_cases hm : idxF p xs = -1
  · have hd : decide (idxF p xs = -1) = true := decide_eq_true hm
    repeat' (first | (refine h_bin ?_; refine a_eql ?_) | (refine h_cond ?_; refine b_cond_t ?_))
    subst hQ
    refine ⟨xs, ?_, rfl, ?_, rfl⟩
    · rw [idxF_none hm]
    · rw [idxF_none hm]; simp
  · have hd : decide (idxF p xs = -1) = false := decide_eq_false hm
    obtain ⟨i0, hi0, hlt, hfil⟩ := idxF_split hm
    rw [hi0] at hd ⊢
    repeat' (first | (refine h_bin ?_; first | refine a_eql ?_ | refine a_add ?_) | (refine h_cond ?_; refine b_cond_f ?_))
    rw [i64_succ hlt (by omega)]
    have hc : ∀ j, ((xs.take j).filter fun x => !p x).length ≤ j := fun j => Nat.le_trans (List.length_filter_le _ _) (by simp; omega)
    refine loop_ex (xs.length - (i0 + 1)) (fun k (R : List Int) => ([.sl b 0 xs.length, .fn g cs, .int .i64 (((xs.take (i0 + 1 + k)).filter fun x => !p x).length : Nat), .int .i64 (i0 + 1 + k : Nat)], [(b, ⟨1, R.map intE⟩)]))
      (fun k R => R.length = xs.length ∧ R.take ((xs.take (i0 + 1 + k)).filter fun x => !p x).length = ((xs.take (i0 + 1 + k)).filter fun x => !p x) ∧ R.drop (i0 + 1 + k) = xs.drop (i0 + 1 + k)) xs ⟨rfl, by rw [Nat.add_zero, hfil]; simp, rfl⟩ (fzs_eq (by rw [Nat.add_zero, hfil, List.length_take, Nat.min_eq_left (by omega)]) rfl) ?_
    rintro k R hk ⟨r1, r2, r3⟩
    dsimp only
    unfold slices_DeleteFunc___int_int__l1
    have hcj := hc (i0 + 1 + k)
    generalize hj : i0 + 1 + k = j at r2 r3 hcj ⊢
    rcases Nat.lt_or_ge j xs.length with h1 | h1
    · have hd2 := dec_lt h1
      have h1' : j < R.length := by omega
      have hxj : R[j] = xs[j] := by
        have h0 := congrArg (fun l => l[0]?) r3
        simp only [List.getElem?_drop, Nat.add_zero] at h0
        rw [List.getElem?_eq_getElem h1', List.getElem?_eq_getElem h1] at h0
        exact Option.some.inj h0
      have hx := map_at (f := intE) h1'
      rw [hxj] at hx
      have htk : (xs.take (j + 1)).filter (fun x => !p x) = (xs.take j).filter (fun x => !p x) ++ ([xs[j]].filter fun x => !p x) := by rw [List.take_succ_eq_append_getElem h1, List.filter_append]
      have hm1 : ((xs.take j).filter fun x => !p x).length < xs.length := by omega
      have hm2 : ((xs.take j).filter fun x => !p x).length < R.length := by omega
      have hxm := map_at (f := intE) hm2
      cases hpx : p xs[j] with
      | true =>
        have hnp : (!p xs[j]) = false := by simp [hpx]
        repeat' (first | (refine h_load1 ?_; refine b_load_p ?_) | (refine h_bin ?_; first | refine a_lss ?_ | refine a_add ?_) | (refine h_cond ?_; first | refine b_cond_t ?_ | refine b_cond_f ?_) | (refine h_idx ?_; refine b_idx_sn ?_) | (refine h_len ?_; refine a_len_s ?_) | refine PredA.call hp ?_ | (refine h_un ?_; refine a_not ?_))
        refine ⟨k + 1, R, by omega, by omega, ⟨r1, ?_, ?_⟩, fzs_eq ?_ rfl⟩
        · rw [show i0 + 1 + (k + 1) = j + 1 by omega, htk]; simpa [hpx] using r2
        · rw [show i0 + 1 + (k + 1) = j + 1 by omega, ← List.drop_drop, ← List.drop_drop, r3]
        · rw [show i0 + 1 + (k + 1) = j + 1 by omega, htk, i64_succ h1 (by omega)]; simp [hpx, slotOf]
      | false =>
        have hnp : (!p xs[j]) = true := by simp [hpx]
        repeat' (first | (refine h_load1 ?_; refine b_load_p ?_) | (refine h_bin ?_; first | refine a_lss ?_ | refine a_add ?_) | (refine h_cond ?_; refine b_cond_t ?_) | (refine h_idx ?_; refine b_idx_sn ?_) | (refine h_len ?_; refine a_len_s ?_) | refine PredA.call hp ?_ | (refine h_un ?_; refine a_not ?_) | (refine h_store ?_; refine b_store_one ?_))
        refine ⟨k + 1, R.set ((xs.take j).filter fun x => !p x).length xs[j], by omega, by omega, ⟨by simp [r1], ?_, ?_⟩, fzs_eq ?_ ?_⟩
        · rw [show i0 + 1 + (k + 1) = j + 1 by omega, htk]
          simp only [List.filter_cons, hpx, Bool.not_false, if_true, List.filter_nil, List.length_append, List.length_singleton]
          rw [List.take_succ_eq_append_getElem (by simpa using hm2), List.take_set_of_le (Nat.le_refl _), r2]
          simp
        · rw [show i0 + 1 + (k + 1) = j + 1 by omega, List.drop_set_of_lt (by omega), ← List.drop_drop, ← List.drop_drop, r3]
        · rw [show i0 + 1 + (k + 1) = j + 1 by omega, htk, i64_succ h1 (by omega), i64_succ hm1 (by omega)]; simp [hpx, slotOf]
        · simp [List.map_set, intE]
    · have hd2 := dec_ge h1
      have ht : xs.take j = xs := List.take_of_length_le h1
      rw [ht] at r2 hcj ⊢
      have hle : (xs.filter fun x => !p x).length ≤ xs.length := List.length_filter_le _ _
      generalize hmm : (xs.filter fun x => !p x).length = m at r2 hcj hle hQ ⊢
      repeat' (first | (refine h_bin ?_; refine a_lss ?_) | (refine h_cond ?_; refine b_cond_f ?_) | (refine h_len ?_; refine a_len_s ?_) | refine a_slice_s (l := m) (h := xs.length) bound_nat rfl hle (Nat.le_refl _) (.head _) rfl ?_ | refine a_clear_s (.here _) rfl (by simp [r1]; omega) rfl ?_ | refine a_slice_s (l := 0) (h := m) rfl bound_nat (Nat.zero_le _) hle (.head _) rfl ?_)
      subst hQ
      refine ⟨R.take m ++ List.replicate (xs.length - m) 0, by simp, ?_, ?_, ?_⟩
      · simp only [Nat.zero_add]
        rw [List.drop_of_length_le (by simp [r1]; omega), List.append_nil, List.map_append, List.map_take]
        simp [intE]
      · rw [List.take_left' (by simp [r1]; omega)]; exact r2
      · simp [r1]; omega
theorem apply1_ok (t x : Int) (L : SH) : PredA Try.prog 49 [.pptr [[.int .i64 t]] 0 0] (fun x => decide (x = t)) := fun x => by
  refine object_Apply_1_ok _ _ _ _ ?_
  unfold object_Apply_1_w
  repeat' (first | (refine h_load1 ?_; refine b_load_q ?_) | (refine h_bin ?_; refine a_eql ?_))
  exact ⟨rfl, rfl⟩
end Go.Proofs.Ytadjimfkfmojkaa.Am

end
section
namespace Go.Proofs.Ytadjimfkfmojkaa.Am
set_option linter.unusedVariables false
/-- a block that may not be there yet is given up -/
inductive DelO (o : Option Nat) (n : Nat) (rows : List (List AV)) : SH → SH → Prop where
  | here (R : SH) : DelO o n rows (slotB o n rows ++ R) R
  | last : DelO o n rows (slotB o n rows) []
  | there (p : Nat × Blk) {L L' : SH} : DelO o n rows L L' → DelO o n rows (p :: L) (p :: L')
  | skip (o2 : Option Nat) (n2 : Nat) (rows2 : List (List AV)) {L L' : SH} : DelO o n rows L L' → DelO o n rows (slotB o2 n2 rows2 ++ L) (slotB o2 n2 rows2 ++ L')
theorem DelO.some' {b n : Nat} {rows : List (List AV)} {L L' : SH} (h : DelO (some b) n rows L L') : Del b ⟨n, rows⟩ L L' := by
  induction h with
  | here R => exact .here R
  | last => exact .here []
  | there p h ih => exact .there p ih
  | skip o2 n2 rows2 h ih => exact ih.app _
theorem DelO.none' {n : Nat} {rows : List (List AV)} {L L' : SH} (h : DelO none n rows L L') : L = L' := by
  induction h with
  | here R => rfl
  | last => rfl
  | there p h ih => rw [ih]
  | skip o2 n2 rows2 h ih => rw [ih]
theorem DelO.perm {o : Option Nat} {n : Nat} {rows : List (List AV)} {L L' : SH} (h : DelO o n rows L L') : L.Perm (slotB o n rows ++ L') := by
  cases o with
  | none => rw [h.none']; exact .refl _
  | some b => exact h.some'.perm
theorem Del.mem' {b : Nat} {x : Blk} {L L' : SH} (h : Del b x L L') : (b, x) ∈ L := by
  induction h with
  | here L => simp
  | there p h ih => simp [ih]
section
variable {KL : AV → SH → Prop} {L L' : SH}
theorem a_app_o {o : Option Nat} {i n by_ bX k : Nat} {rows m : List (List AV)} (hX : (bX, (⟨n, m⟩ : Blk)) ∈ L) (hd : DelO o n rows L L') (hr : rows.length = i) (h0 : o = none → rows = []) (hk : k = m.length) (hm : 0 < m.length) (h2 : 2 * (i + m.length) * by_ ≤ 2 ^ 48) (h3 : 2 * (i + m.length) ≤ 2 ^ 62) (h4 : (m.all fun r => r.all AV.one) = true)
    (h : ∀ b, b ∉ L.names → KL (.sl b 0 (i + m.length)) ((b, ⟨n, rows ++ m⟩) :: L')) : W.append n by_ (slotV o i) (.sl bX 0 k) L KL := by
  subst hk
  cases o with
  | none =>
    have hr0 := h0 rfl
    subst hr0
    simp only [List.length_nil] at hr
    subst hr
    have hl := hd.none'
    subst hl
    have := a_app_e (KL := KL) (L := L) (by_ := by_) (rowsR_s hX rfl rfl) (by simpa using h2) (by simpa using h3) h4 (by show m.length ≠ 0; omega) (fun b hb => by simpa using h b hb)
    exact this
  | some b =>
    subst hr
    exact a_app_s (y := ⟨n, rows⟩) (l := rows) hd.some'.mem' rfl (by simp) (by simp) (rowsR_s hX rfl rfl) h2 h3 h4 hd.some' (fun b' hb => h b' hb)
/-- some blocks are kept, in an order of one's own -/
inductive Pick : SH → SH → Prop where
  | nil (L : SH) : Pick L []
  | one {b : Nat} {x : Blk} {L L' R : SH} : Del b x L L' → Pick L' R → Pick L ((b, x) :: R)
  | slot {o : Option Nat} {n : Nat} {rows : List (List AV)} {L L' R : SH} : DelO o n rows L L' → Pick L' R → Pick L (slotB o n rows ++ R)
  | slotl {o : Option Nat} {n : Nat} {rows : List (List AV)} {L L' : SH} : DelO o n rows L L' → Pick L (slotB o n rows)
theorem Pick.perm {L R : SH} (h : Pick L R) : ∃ K, L.Perm (K ++ R) := by
  induction h with
  | nil L => exact ⟨L, by simp⟩
  | one hd hp ih =>
    obtain ⟨K, hK⟩ := ih
    exact ⟨K, (hd.perm.trans ((hK.cons _).trans List.perm_middle.symm))⟩
  | slot hd hp ih =>
    obtain ⟨K, hK⟩ := ih
    refine ⟨K, hd.perm.trans ((hK.append_left _).trans ?_)⟩
    rw [← List.append_assoc, ← List.append_assoc]
    exact List.perm_append_comm.append_right _
  | slotl hd => exact ⟨_, hd.perm.trans List.perm_append_comm⟩
theorem FzS.pick {vs vs2 : List AV} {R : SH} (h : Pick L R) (hv : vs = vs2) : FzS vs L vs2 R := by
  subst hv
  obtain ⟨K, hK⟩ := h.perm
  exact FzS.forget hK
end
end Go.Proofs.Ytadjimfkfmojkaa.Am

end
section
namespace Go.Proofs.Ytadjimfkfmojkaa.Am
set_option linter.unusedVariables false
theorem fit0 : Fit Try.prog (fun _ => none) := ⟨fun t ts h => (by cases h), fit.names, fit.order⟩
theorem closed_pure {f : FuncId} {n : Nat} (hrun : isTrue (callBy Try.prog (exec Try.prog (fun _ => none) n) f [] Heap.empty) = true) : PureA Try.prog f [] (.bool true) := by
  have hd := (goods checkedAll).2
  have hs := callBy_sound (P := Try.prog) hd (fun c τ H e τ' H' dr hx => exec_sound fit0 hd n c τ H e τ' H' dr hx)
  cases hc : callBy Try.prog (exec Try.prog (fun _ => none) n) f [] Heap.empty with
  | none => rw [hc] at hrun; cases hrun
  | some r =>
    obtain ⟨v, H'⟩ := r
    rw [hc] at hrun
    have hv : v = .bool true := by
      unfold isTrue at hrun
      split at hrun
      · rename_i heq; cases heq; rfl
      · cases hrun
    subst hv
    have hV : CallV Try.prog f [] (.bool true) := fun w σ vs hW hvs => (hs.ok _ _ _ _ _ hc w σ vs hW hvs).mono fun e w' ⟨v', σ', he, k1, k2, k3, k4⟩ => ⟨v', σ', H', he, k1, k3⟩
    exact ⟨hs.body _ _ _ _ _ hc, fun H hb hS => ⟨.bool true, H, [], lift (.bool true) (fun i a h => by simp at h) hV H, .refl hb hS, rfl, rfl⟩⟩
set_option maxRecDepth 1000000 in
theorem awake08 : PureA Try.prog 23 [] (.bool true) := closed_pure (n := 1000) (by kernel_rfl)
end Go.Proofs.Ytadjimfkfmojkaa.Am

end
section
namespace Go.Proofs.Ytadjimfkfmojkaa.Am
set_option maxRecDepth 100000
set_option linter.unusedSimpArgs false
set_option linter.unusedVariables false
theorem CallA.trim {P : Program} {f : FuncId} {args : List AV} {Q : AV → SH → Prop} {b n : Nat} {rows rows2 extra : List (List AV)} (he : rows = rows2 ++ extra) (h : CallA P f args [(b, ⟨n, rows2⟩)] Q) : CallA P f args [(b, ⟨n, rows⟩)] Q := by
  subst he
  refine ⟨h.1, fun H hb hs => ?_⟩
  have hg : H.get b = some ⟨n, rows2 ++ extra⟩ := hs.get (b, ⟨n, rows2 ++ extra⟩) (by simp)
  have hget : ∀ c, (H.put b (some ⟨n, rows2⟩)).get c = if b = c then some ⟨n, rows2⟩ else H.get c := fun c => Heap.get_put _ _ _ _
  have hne : ∀ c, c ≠ b → (H.put b (some ⟨n, rows2⟩)).get c = H.get c := fun c hc => by rw [hget, if_neg (fun e => hc e.symm)]
  have hb2 : Bd (H.put b (some ⟨n, rows2⟩)) := fun c hc => by
    rw [hne]; exact hb c hc
    rintro rfl; rw [hb _ hc] at hg; cases hg
  obtain ⟨v, H', L', h1, h2, h3⟩ := h.2 (H.put b (some ⟨n, rows2⟩)) hb2 ⟨by simp, fun p hp => by simp only [List.mem_singleton] at hp; subst hp; rw [hget, if_pos rfl]⟩
  refine ⟨v, H', L', fun w σ vs hW hvs => ?_, ⟨h2.next, h2.bd, h2.sub, fun c x hc hn => h2.keep c x (by rw [hne]; exact hc; rintro rfl; exact hn (by simp)) (by simpa using hn), fun c hc h0 => h2.dom c hc (by
      rw [hne]; exact h0
      rintro rfl; rw [hg] at h0; cases h0), fun c hc hlt => by have := h2.fresh c hc hlt; simpa using this⟩, h3⟩
  obtain ⟨pl, cs, e, g1, g2⟩ := hW.live b _ hg
  have hrow : ∀ (i : Nat) (r : List AV), rows2[i]? = some r → (rows2 ++ extra)[i]? = some r := fun i r hr => by
    rw [List.getElem?_append_left (lt_of_some hr)]; exact hr
  obtain ⟨p1, p2⟩ := hW.put hg g1 (Wrote.refl g2.block) (x' := ⟨n, rows2⟩) g2.size.symm (fun i r hr => g2.even i r (hrow i r hr)) (by have := g2.room; simp only [List.length_append] at this; have h0 : rows2.length * n ≤ (rows2.length + extra.length) * n := Nat.mul_le_mul_right _ (by omega); simp only; omega) (fun i r j a u hr hj hu => g2.rep i r j a u (hrow i r hr) hj hu)
  have hown : ∀ c, Own σ (H.put b (some ⟨n, rows2⟩)) c → Own σ H c := by
    rintro c (h | ⟨b', x, pl', k1, k2, k3⟩)
    · exact .inl h
    · by_cases hbb : b' = b
      · subst hbb; exact .inr ⟨b', _, pl', hg, k2, k3⟩
      · rw [hne _ hbb] at k1; exact .inr ⟨b', x, pl', k1, k2, k3⟩
  refine (h1 w σ vs p1 ⟨hvs.1, fun i a u q1 q2 => (hvs.2 i a u q1 q2).shrink hown⟩).mono ?_
  rintro e w' ⟨v', σ', rfl, k1, k2, k3, k4⟩
  exact ⟨v', σ', rfl, k1, k2, ⟨k3.os, k3.tape, k3.output, k3.size, fun c hc hT => k3.keep c hc (fun h => hT (hown c h)), k3.shape, k3.sig, k3.eqfr, k3.frame, fun c hc => (k3.own c hc).imp (hown c) id⟩, fun c pl hc => k4 c pl hc⟩
theorem split_take {xs l : List Int} {m : Nat} (h : xs.take m = l) : xs.map intE = l.map intE ++ (xs.drop m).map intE := by
  rw [← h, ← List.map_append, List.take_append_drop]
/-- Sort of the first part of a block -/
theorem sort_pre (b : Nat) (xs l : List Int) (h : xs.take l.length = l) (hl : l.length < 4611686018427387904) : CallA Try.prog 40 [.sl b 0 l.length] [(b, ⟨1, xs.map intE⟩)] fun v L => v = .tup [] ∧ L = [(b, ⟨1, (srt l).map intE⟩)] :=
  CallA.trim (split_take h) (sort_ok b l hl)
def isNils : Option (AV × Heap) → Bool
  | some (.nils, _) => true
  | _ => false
def isTup0 : Option (AV × Heap) → Bool
  | some (.tup [], _) => true
  | _ => false
theorem closed_args {f : FuncId} {n : Nat} {args : List AV} {v : AV} {H' : Heap} (hc : callBy Try.prog (exec Try.prog (fun _ => none) n) f args Heap.empty = some (v, H')) (ha : ∀ (i : Nat) (a : AV), args[i]? = some a → PureV a) (hv : PureV v) : PureA Try.prog f args v := by
  have hd := (goods checkedAll).2
  have hs := callBy_sound (P := Try.prog) hd (fun c τ H e τ' H' dr hx => exec_sound fit0 hd n c τ H e τ' H' dr hx)
  have hV : CallV Try.prog f args v := fun w σ vs hW hvs => (hs.ok _ _ _ _ _ hc w σ vs hW hvs).mono fun e w' ⟨v', σ', he, k1, k2, k3, k4⟩ => ⟨v', σ', H', he, k1, k3⟩
  exact ⟨hs.body _ _ _ _ _ hc, fun H hb hS => ⟨v, H, [], lift hv ha hV H, .refl hb hS, rfl, rfl⟩⟩
set_option maxRecDepth 1000000 in
theorem sort_nil : PureA Try.prog 40 [.nils] (.tup []) := by
  have hrun : isTup0 (callBy Try.prog (exec Try.prog (fun _ => none) 1000) 40 [.nils] Heap.empty) = true := by kernel_rfl
  cases hc : callBy Try.prog (exec Try.prog (fun _ => none) 1000) 40 [.nils] Heap.empty with
  | none => rw [hc] at hrun; cases hrun
  | some r =>
    obtain ⟨v, H'⟩ := r
    have hv : v = .tup [] := by
      rw [hc] at hrun
      unfold isTup0 at hrun
      split at hrun
      · rename_i heq; cases heq; rfl
      · cases hrun
    subst hv
    exact closed_args hc (fun i a h => by match i with | 0 => cases h; exact .nils | i + 1 => simp at h) (.tup [] (fun i a h => by simp at h))
set_option maxRecDepth 1000000 in
theorem compact_nil : PureA Try.prog 41 [.nils] .nils := by
  have hrun : isNils (callBy Try.prog (exec Try.prog (fun _ => none) 1000) 41 [.nils] Heap.empty) = true := by kernel_rfl
  cases hc : callBy Try.prog (exec Try.prog (fun _ => none) 1000) 41 [.nils] Heap.empty with
  | none => rw [hc] at hrun; cases hrun
  | some r =>
    obtain ⟨v, H'⟩ := r
    have hv : v = .nils := by
      rw [hc] at hrun
      unfold isNils at hrun
      split at hrun
      · rename_i heq; cases heq; rfl
      · cases hrun
    subst hv
    exact closed_args hc (fun i a h => by match i with | 0 => cases h; exact .nils | i + 1 => simp at h) .nils
theorem indexFunc_nil (g : FuncId) (cs : List AV) : PureA Try.prog 78 [.nils, .fn g cs] (.int .i64 (-1)) := by
  refine slices_IndexFunc___int_int__ok _ _ _ _ ?_
  unfold slices_IndexFunc___int_int__w
  repeat' (first | (refine h_len ?_; refine a_len_n ?_))
  refine for_by 0 (fun i => ([.nils, .fn g cs, .int .i64 (0 : Nat), .int .i64 (i : Nat)], [])) (fun _ => True) trivial rfl rfl ?_
  intro i hi _
  obtain rfl : i = 0 := by omega
  dsimp only
  unfold slices_IndexFunc___int_int__l1
  repeat' (first | (refine h_bin ?_; refine a_lss ?_) | (refine h_cond ?_; refine b_cond_f ?_))
  exact ⟨rfl, rfl⟩
theorem deleteFunc_nil (g : FuncId) (cs : List AV) : PureA Try.prog 48 [.nils, .fn g cs] .nils := by
  refine slices_DeleteFunc___int_int__ok _ _ _ _ ?_
  unfold slices_DeleteFunc___int_int__w
  repeat' (first | (refine h_bin ?_; refine a_eql ?_) | (refine h_cond ?_; refine b_cond_t ?_) | refine a_mark ?_ | ((with_reducible refine h_fn 78 ?_); refine m_call (indexFunc_nil _ _) ?_))
  exact ⟨rfl, rfl⟩
end Go.Proofs.Ytadjimfkfmojkaa.Am

end
section
namespace Go.Proofs.Ytadjimfkfmojkaa.Am
set_option maxRecDepth 100000
set_option linter.unusedSimpArgs false
set_option linter.unusedVariables false
theorem within_ok (i : Int) (n : Nat) : PureA Try.prog 52 [.int .i64 i, .int .i64 n] (.bool (inB i n)) := by
  refine object_within_ok _ _ _ _ ?_
  unfold object_within_w
  repeat' (first | (refine h_bin ?_; first | refine a_lss ?_ | refine a_geq ?_) | (refine h_pick ?_; first | refine b_pick_t ?_ | refine b_pick_f ?_) | (refine h_grd ?_; first | refine b_grd_y ?_ | refine b_grd_n ?_ | refine a_grd_t (fun h => ?_) (fun h => ?_)))
  · refine ⟨?_, rfl⟩; have := of_decide_eq_true h; simp [inB, this]
  · refine ⟨?_, rfl⟩; have := of_decide_eq_false h; simp [inB, this]
theorem in_ok (i : Int) (n : Nat) : PureA Try.prog 61 [.int .i64 i, .int .i64 n] (.bool (inB i n)) := by
  refine ref08_in_ok _ _ _ _ ?_
  unfold ref08_in_w
  repeat' (first | (refine h_bin ?_; first | refine a_lss ?_ | refine a_geq ?_) | (refine h_pick ?_; first | refine b_pick_t ?_ | refine b_pick_f ?_) | (refine h_grd ?_; first | refine b_grd_y ?_ | refine b_grd_n ?_ | refine a_grd_t (fun h => ?_) (fun h => ?_)))
  · refine ⟨?_, rfl⟩; have := of_decide_eq_true h; simp [inB, this]
  · refine ⟨?_, rfl⟩; have := of_decide_eq_false h; simp [inB, this]
def waitsS (t : ThrD) (c : Int) : Bool := decide (t.status = 3) && decide (t.cond = c)
theorem waits_ok (t : ThrD) (c : Int) : PureA Try.prog 79 [.agg t.enc, .int .i64 c] (.bool (waitsS t c)) := by
  refine object_waits_ok _ _ _ _ ?_
  unfold object_waits_w
  repeat' (first | (refine h_load1 ?_; refine b_load_q ?_) | (refine h_faddr ?_; refine a_faddr_q ?_) | (refine h_bin ?_; refine a_eql ?_) | (refine h_pick ?_; first | refine b_pick_t ?_ | refine b_pick_f ?_) | (refine h_grd ?_; first | refine b_grd_y ?_ | refine b_grd_n ?_ | refine a_grd_t (fun h => ?_) (fun h => ?_)) | (refine h_box ?_; refine b_box (fun nb_ hnb_ => ?_)) | (refine h_frz1 ?_; refine b_frz_p ?_))
  · refine ⟨?_, rfl⟩; have := of_decide_eq_true h; simp [waitsS, this]
  · refine ⟨?_, rfl⟩; have := of_decide_eq_false h; simp [waitsS, this]
theorem has_ok (l : List Int) (n : Int) (hl : l.length < 2 ^ 62) : PureA Try.prog 15 [.lst (l.map intE), .int .i64 n] (.bool (l.contains n)) := by
  refine ref07_Has_ok _ _ _ _ ?_
  unfold ref07_Has_w
  refine for_by l.length (fun i => ([.lst (l.map intE), .int .i64 n, .int .i64 i], [])) (fun i => n ∉ l.take i) (by simp) rfl rfl ?_
  intro i hi hno
  unfold ref07_Has_l0
  rcases Nat.lt_or_ge i l.length with h1 | h1
  · have hx := map_at (f := intE) h1
    have hd := dec_lt h1
    repeat' (first | (refine h_load1 ?_; refine b_load_q ?_) | (refine h_bin ?_; first | refine a_eql ?_ | refine a_lss ?_ | refine a_add ?_) | (refine h_cond ?_; first | refine b_cond_t ?_ | refine a_cond (fun h => ?_) (fun h => ?_)) | (refine h_idx ?_; refine b_idx_n ?_) | (refine h_len ?_; refine a_len_m ?_))
    · refine ⟨?_, rfl⟩
      have := of_decide_eq_true h
      have : l.contains n = true := by rw [List.contains_iff_mem, ← this]; exact List.getElem_mem h1
      rw [this]
    · have := of_decide_eq_false h
      refine ⟨i + 1, by omega, by omega, ?_, fzs_eq (by rw [i64_succ h1 hl]; rfl) rfl⟩
      rw [List.take_succ_eq_append_getElem h1]
      simp only [List.mem_append, List.mem_singleton, not_or]
      exact ⟨hno, fun h => this h.symm⟩
  · have hd := dec_ge h1
    repeat' (first | (refine h_bin ?_; refine a_lss ?_) | (refine h_cond ?_; refine b_cond_f ?_) | (refine h_len ?_; refine a_len_m ?_))
    refine ⟨?_, rfl⟩
    rw [List.take_of_length_le h1] at hno
    rw [show l.contains n = false by simpa using hno]
theorem index_ok (l : List Int) (n : Int) (hl : l.length < 2 ^ 62) : CallA Try.prog 80 [.lst (l.map intE), .int .i64 n] [] fun v L => ∃ k : Int, v = .int .i64 k ∧ decide (0 ≤ k) = l.contains n ∧ L = [] := by
  refine slices_Index___int_int__ok _ _ _ _ ?_
  unfold slices_Index___int_int__w
  repeat' (first | (refine h_len ?_; refine a_len_m ?_))
  refine for_by l.length (fun i => ([.lst (l.map intE), .int .i64 n, .int .i64 l.length, .int .i64 i], [])) (fun i => n ∉ l.take i) (by simp) rfl rfl ?_
  intro i hi hno
  unfold slices_Index___int_int__l0
  rcases Nat.lt_or_ge i l.length with h1 | h1
  · have hx := map_at (f := intE) h1
    have hd := dec_lt h1
    repeat' (first | (refine h_load1 ?_; refine b_load_q ?_) | (refine h_bin ?_; first | refine a_eql ?_ | refine a_lss ?_ | refine a_add ?_) | (refine h_cond ?_; first | refine b_cond_t ?_ | refine a_cond (fun h => ?_) (fun h => ?_)) | (refine h_idx ?_; refine b_idx_n ?_))
    · refine ⟨_, rfl, ?_, rfl⟩
      have := of_decide_eq_true h
      have : l.contains n = true := by rw [List.contains_iff_mem, this]; exact List.getElem_mem h1
      rw [this]
      simp
    · have := of_decide_eq_false h
      refine ⟨i + 1, by omega, by omega, ?_, fzs_eq (by rw [i64_succ h1 hl]; rfl) rfl⟩
      rw [List.take_succ_eq_append_getElem h1]
      simp only [List.mem_append, List.mem_singleton, not_or]
      exact ⟨hno, this⟩
  · have hd := dec_ge h1
    repeat' (first | (refine h_bin ?_; refine a_lss ?_) | (refine h_cond ?_; refine b_cond_f ?_))
    refine ⟨_, rfl, ?_, rfl⟩
    rw [List.take_of_length_le h1] at hno
    rw [show l.contains n = false by simpa using hno]
    rfl
theorem contains_ok (l : List Int) (n : Int) (hl : l.length < 2 ^ 62) : PureA Try.prog 60 [.lst (l.map intE), .int .i64 n] (.bool (l.contains n)) := by
  refine slices_Contains___int_int__ok _ _ _ _ ?_
  unfold slices_Contains___int_int__w
  refine ⟨(index_ok l n hl).mono ?_⟩
  rintro v L ⟨k, rfl, hk, rfl⟩
  unfold slices_Contains___int_int__c0
  repeat' (first | (refine h_bin ?_; refine a_geq ?_))
  exact ⟨by rw [hk], rfl⟩
def fitsS (w : WorldD) (s : SyncD) : Bool := decide (s.locks.length = w.locks.length) && decide (s.done.length = w.futures.length) && decide (s.threads.length = w.threads.length) && w.conds.all fun c => inB c.mutex w.locks.length
theorem fits_ok (w : WorldD) (s : SyncD) (hc : w.conds.length < 2 ^ 62) : PureA Try.prog 37 [.agg w.enc, .agg s.enc] (.bool (fitsS w s)) := by
  refine object_Fits_ok _ _ _ _ ?_
  unfold object_Fits_w
  repeat' (first | (refine h_load1 ?_; refine b_load_q ?_) | (refine h_faddr ?_; refine a_faddr_q ?_) | (refine h_bin ?_; refine a_neq ?_) | (refine h_cond ?_; first | refine b_cond_t ?_ | refine a_cond (fun h => ?_) (fun h => ?_)) | (refine h_len ?_; refine a_len_m ?_) | (refine h_pick ?_; first | refine b_pick_t ?_ | refine b_pick_f ?_) | (refine h_grd ?_; first | refine b_grd_y ?_ | refine b_grd_n ?_ | refine a_grd_f (fun h => ?_) (fun h => ?_)) | (refine h_box ?_; refine b_box (fun nb_ hnb_ => ?_)) | (refine h_frz1 ?_; refine b_frz_p ?_))
  · refine ⟨?_, rfl⟩; have := of_decide_eq_true h; simp only [ne_eq, Int.natCast_inj] at this; simp [fitsS, this]
  · rename_i h1 h2
    simp only [ne_eq, Int.natCast_inj, decide_eq_false_iff_not, Decidable.not_not] at h h1 h2
    refine for_by w.conds.length (fun i => ([.pptr [w.enc] 0 0, .lst (w.conds.map CondI.enc), .int .i64 w.conds.length, .int .i64 i], [])) (fun i => (w.conds.take i).all (fun c => inB c.mutex w.locks.length) = true) (by simp) rfl rfl ?_
    intro i hi hG
    dsimp only
    unfold object_Fits_l1
    rcases Nat.lt_or_ge i w.conds.length with g1 | g1
    · have hx := map_at (f := CondI.enc) g1
      have hd := dec_lt g1
      repeat' (first | (refine h_load1 ?_; refine b_load_q ?_) | (refine h_faddr ?_; refine a_faddr_q ?_) | (refine h_bin ?_; first | refine a_lss ?_ | refine a_add ?_) | (refine h_cond ?_; first | refine b_cond_t ?_ | refine a_cond (fun h => ?_) (fun h => ?_)) | (refine h_idx ?_; refine b_idx_n ?_) | (refine h_row ?_; refine b_row_q ?_) | (refine h_len ?_; refine a_len_m ?_) | refine a_mark ?_ | ((with_reducible refine h_fn 52 ?_); refine m_call (within_ok _ _) ?_) | (refine h_un ?_; refine a_not ?_) | (refine h_frz1 ?_; refine b_frz_p ?_) | (refine h_store ?_; refine b_store_box ?_) | refine a_alloc (fun nb_ hnb_ => ?_))
      · refine ⟨?_, rfl⟩
        have : w.conds.all (fun c => inB c.mutex w.locks.length) = false := by
          rw [List.all_eq_false]
          exact ⟨_, List.getElem_mem g1, by simpa using h⟩
        simp [fitsS, this]
      · refine ⟨i + 1, by omega, by omega, ?_, fzs_eq (by rw [i64_succ g1 hc]; rfl) rfl⟩
        rw [List.take_succ_eq_append_getElem g1, List.all_append, hG]
        simpa using h
    · have hd := dec_ge g1
      repeat' (first | (refine h_bin ?_; refine a_lss ?_) | (refine h_cond ?_; refine b_cond_f ?_))
      refine ⟨?_, rfl⟩
      rw [List.take_of_length_le g1] at hG
      simp [fitsS, h, h1, h2, hG]
  · refine ⟨?_, rfl⟩; have := of_decide_eq_true h; simp only [ne_eq, Int.natCast_inj] at this; simp [fitsS, this]
  · refine ⟨?_, rfl⟩; have := of_decide_eq_true h; simp only [ne_eq, Int.natCast_inj] at this; simp [fitsS, this]
theorem fitsR_ok (w : WorldD) (s : SyncD) (hc : w.conds.length < 2 ^ 62) : PureA Try.prog 38 [.agg w.enc, .agg s.enc] (.bool (fitsS w s)) := by
  refine ref08_Fits_ok _ _ _ _ ?_
  unfold ref08_Fits_w
  repeat' (first | (refine h_box ?_; refine b_box (fun nb_ hnb_ => ?_)) | (refine h_frz1 ?_; refine b_frz_p ?_))
  refine for_by w.conds.length (fun i => ([.pptr [w.enc] 0 0, .pptr [s.enc] 0 0, .int .i64 i], [])) (fun i => (w.conds.take i).all (fun c => inB c.mutex w.locks.length) = true) (by simp) rfl rfl ?_
  intro i hi hG
  dsimp only
  unfold ref08_Fits_l0
  rcases Nat.lt_or_ge i w.conds.length with g1 | g1
  · have hx := map_at (f := CondI.enc) g1
    have hd := dec_lt g1
    repeat' (first | (refine h_load1 ?_; refine b_load_q ?_) | (refine h_faddr ?_; refine a_faddr_q ?_) | (refine h_bin ?_; first | refine a_lss ?_ | refine a_geq ?_ | refine a_add ?_) | (refine h_cond ?_; first | refine b_cond_t ?_ | refine a_cond (fun h => ?_) (fun h => ?_)) | (refine h_idx ?_; refine b_idx_n ?_) | (refine h_len ?_; refine a_len_m ?_) | (refine h_calm ?_; refine b_calm ?_) | (refine h_note ?_; refine a_note ?_) | (refine h_pick ?_; first | refine b_pick_t ?_ | refine b_pick_f ?_) | (refine h_dgrd ?_; first | refine b_dgrd_y ?_ | refine b_dgrd_n ?_ | refine a_dgrd_f (fun h => ?_) (fun h => ?_)) | refine a_tt ?_)
    · rename_i h3
      refine ⟨?_, rfl⟩
      have : w.conds.all (fun c => inB c.mutex w.locks.length) = false := by
        rw [List.all_eq_false]
        refine ⟨_, List.getElem_mem g1, ?_⟩
        rw [inB_iff]; simp at h; omega
      simp [fitsS, this]
    · rename_i h3
      refine ⟨i + 1, by omega, by omega, ?_, fzs_eq (by rw [i64_succ g1 hc]; rfl) rfl⟩
      rw [List.take_succ_eq_append_getElem g1, List.all_append, hG]
      have : inB w.conds[i].mutex w.locks.length = true := by rw [inB_iff]; simp at h h3; omega
      simpa using this
    · refine ⟨?_, rfl⟩
      have : w.conds.all (fun c => inB c.mutex w.locks.length) = false := by
        rw [List.all_eq_false]
        refine ⟨_, List.getElem_mem g1, ?_⟩
        rw [inB_iff]; simp at h; omega
      simp [fitsS, this]
  · have hd := dec_ge g1
    rw [List.take_of_length_le g1] at hG
    repeat' (first | (refine h_load1 ?_; refine b_load_q ?_) | (refine h_faddr ?_; refine a_faddr_q ?_) | (refine h_bin ?_; first | refine a_eql ?_ | refine a_lss ?_) | (refine h_cond ?_; refine b_cond_f ?_) | (refine h_len ?_; refine a_len_m ?_) | (refine h_pick ?_; first | refine b_pick_t ?_ | refine b_pick_f ?_) | (refine h_grd ?_; first | refine b_grd_y ?_ | refine b_grd_n ?_ | refine a_grd_t (fun h => ?_) (fun h => ?_)))
    · rename_i h3
      simp only [Int.natCast_inj, decide_eq_true_eq] at h h3
      refine ⟨?_, rfl⟩
      simp only [fitsS, h, h3, hG, Int.natCast_inj, decide_true, Bool.true_and, Bool.and_true]
    · simp only [Int.natCast_inj, decide_eq_false_iff_not] at h
      refine ⟨?_, rfl⟩
      simp [fitsS, h]
    · simp only [Int.natCast_inj, decide_eq_false_iff_not] at h
      refine ⟨?_, rfl⟩
      simp [fitsS, h]
end Go.Proofs.Ytadjimfkfmojkaa.Am

end
section
namespace Go.Proofs.Ytadjimfkfmojkaa.Am
set_option maxRecDepth 100000
set_option linter.unusedSimpArgs false
set_option linter.unusedVariables false
theorem kinds (k : Int) : (k < 1 ∨ 23 < k) ∨ k = 1 ∨ k = 2 ∨ k = 3 ∨ k = 4 ∨ k = 5 ∨ k = 6 ∨ k = 7 ∨ k = 8 ∨ k = 9 ∨ k = 10 ∨ k = 11 ∨ k = 12 ∨ k = 13 ∨ k = 14 ∨ k = 15 ∨ k = 16 ∨ k = 17 ∨ k = 18 ∨ k = 19 ∨ k = 20 ∨ k = 21 ∨ k = 22 ∨ k = 23 := by omega
theorem dec_out {k c : Int} (hk : k < 1 ∨ 23 < k) (h1 : 1 ≤ c) (h2 : c ≤ 23) : decide (k = c) = false := by simp; omega
def rwAt (w : WorldD) (o : Int) : Bool := (w.locks.getD o.toNat default).rw
def allowedS (w : WorldD) (k o : Int) : Bool :=
  if k = 1 ∨ k = 2 ∨ k = 5 ∨ k = 12 ∨ k = 13 ∨ k = 14 ∨ k = 15 then decide (o = -1)
  else if k = 3 ∨ k = 4 then inB o w.cells.length
  else if k = 6 ∨ k = 7 then inB o w.locks.length && !rwAt w o
  else if k = 8 ∨ k = 9 ∨ k = 10 ∨ k = 11 then inB o w.locks.length && rwAt w o
  else if k = 16 ∨ k = 17 ∨ k = 18 ∨ k = 19 then inB o w.conds.length
  else if k = 20 ∨ k = 21 then inB o w.threads.length
  else if k = 22 ∨ k = 23 then inB o w.futures.length
  else false
set_option maxHeartbeats 4000000 in
theorem allowed_w (w : WorldD) (k o : Int) (Q : AV → SH → Prop) (hq : Q (.bool (allowedS w k o)) []) : object_allowed_w (.agg w.enc) (.int .i64 k) (.int .i64 o) [] Q := by
  unfold object_allowed_w
  rcases kinds k with hk | rfl | rfl | rfl | rfl | rfl | rfl | rfl | rfl | rfl | rfl | rfl | rfl | rfl | rfl | rfl | rfl | rfl | rfl | rfl | rfl | rfl | rfl | rfl
  · skip
    have hs : allowedS w k o = false := by simp only [allowedS]; repeat (rw [if_neg (by omega)])
    rw [hs] at hq
    repeat' (first | (refine h_bin ?_; refine a_eql ?_) | refine a_cond_f (dec_out hk (by decide) (by decide)) ?_ | (refine h_box ?_; refine b_box (fun nb_ hnb_ => ?_)) | (refine h_frz1 ?_; refine b_frz_p ?_) | refine a_join ?_)
    exact hq
  all_goals
    repeat' (first | (refine h_load1 ?_; first | refine b_load_q ?_ | refine b_load_i ?_) | (refine h_faddr ?_; refine a_faddr_q ?_) | (refine h_bin ?_; refine a_eql ?_) | (refine h_cond ?_; first | refine b_cond_t ?_ | refine b_cond_f ?_) | (refine h_idx ?_; refine b_idx_i ?_) | (refine h_len ?_; refine a_len_m ?_) | (refine h_pick ?_; first | refine b_pick_t ?_ | refine b_pick_f ?_) | (refine h_grd ?_; first | refine b_grd_y ?_ | refine b_grd_n ?_ | refine a_grd_t (fun h => ?_) (fun h => ?_)) | refine a_mark ?_ | ((with_reducible refine h_fn 52 ?_); refine m_call (within_ok _ _) ?_) | (refine h_un ?_; refine a_not ?_) | (refine h_box ?_; refine b_box (fun nb_ hnb_ => ?_)) | (refine h_frz1 ?_; refine b_frz_p ?_) | refine a_join ?_)
    all_goals (refine Eq.mp (congrArg (fun b => Q (AV.bool b) []) ?_) hq; clear hq; simp_all [allowedS, rwAt])
theorem allowed_ok (w : WorldD) (k o : Int) : PureA Try.prog 53 [.agg w.enc, .int .i64 k, .int .i64 o] (.bool (allowedS w k o)) := object_allowed_ok _ _ _ _ _ (allowed_w w k o _ ⟨rfl, rfl⟩)
set_option maxHeartbeats 4000000 in
theorem named_w (w : WorldD) (k o : Int) (Q : AV → SH → Prop) (hq : Q (.bool (allowedS w k o)) []) : ref08_named_w (.agg w.enc) (.int .i64 k) (.int .i64 o) [] Q := by
  unfold ref08_named_w
  rcases kinds k with hk | rfl | rfl | rfl | rfl | rfl | rfl | rfl | rfl | rfl | rfl | rfl | rfl | rfl | rfl | rfl | rfl | rfl | rfl | rfl | rfl | rfl | rfl | rfl
  · skip
    have hs : allowedS w k o = false := by simp only [allowedS]; repeat (rw [if_neg (by omega)])
    rw [hs] at hq
    repeat' (first | (refine h_bin ?_; refine a_eql ?_) | refine a_cond_f (dec_out hk (by decide) (by decide)) ?_ | (refine h_box ?_; refine b_box (fun nb_ hnb_ => ?_)) | (refine h_frz1 ?_; refine b_frz_p ?_) | refine a_join ?_)
    exact hq
  all_goals
    repeat' (first | (refine h_load1 ?_; first | refine b_load_q ?_ | refine b_load_i ?_) | (refine h_faddr ?_; refine a_faddr_q ?_) | (refine h_bin ?_; refine a_eql ?_) | (refine h_cond ?_; first | refine b_cond_t ?_ | refine b_cond_f ?_) | (refine h_idx ?_; refine b_idx_i ?_) | (refine h_len ?_; refine a_len_m ?_) | (refine h_pick ?_; first | refine b_pick_t ?_ | refine b_pick_f ?_) | (refine h_grd ?_; first | refine b_grd_y ?_ | refine b_grd_n ?_ | refine a_grd_t (fun h => ?_) (fun h => ?_)) | refine a_mark ?_ | ((with_reducible refine h_fn 61 ?_); refine m_call (in_ok _ _) ?_) | (refine h_un ?_; refine a_not ?_) | (refine h_box ?_; refine b_box (fun nb_ hnb_ => ?_)) | (refine h_frz1 ?_; refine b_frz_p ?_) | refine a_join ?_)
    all_goals (refine Eq.mp (congrArg (fun b => Q (AV.bool b) []) ?_) hq; clear hq; simp_all [allowedS, rwAt])
theorem named_ok (w : WorldD) (k o : Int) : PureA Try.prog 63 [.agg w.enc, .int .i64 k, .int .i64 o] (.bool (allowedS w k o)) := ref08_named_ok _ _ _ _ _ (named_w w k o _ ⟨rfl, rfl⟩)
end Go.Proofs.Ytadjimfkfmojkaa.Am

end
