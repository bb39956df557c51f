/- What the arguments of a law read as, as abstract values; the last step of a law. -/
import Derived.Test.YtdaejmkoenhbkaaMem
import Derived.Test.YtdaejmkoenhbkaaDat
namespace Go.Proofs.Ytdaejmkoenhbkaa.Am
open Go.ChangeShapes Go.WideShapes Go.ChangeAt Go.RowKit
set_option linter.unusedVariables false
def sig0 : Sig := ⟨fun _ => none, fun _ => False⟩
def tok0 : Nat → Prop := fun _ => False
/-- cells that read as the cells of a datum -/
def rAM {α : Type} (e : α → List AV) (G : α → Prop) : Rel α := fun w _ x cs => G x ∧ Reps w sig0 tok0 (e x) cs
theorem reps_one {w : World} {σ : Sig} {T : Nat → Prop} {a : AV} {v : Value} (h : Rep w σ T a v) : Reps w σ T [a] [v] := ⟨rfl, fun i x u h1 h2 => by
  match i with
  | 0 => cases h1; cases h2; exact h
  | i + 1 => simp at h1⟩
theorem reps_cons {w : World} {σ : Sig} {T : Nat → Prop} {a : AV} {v : Value} {l : List AV} {m : List Value} (h : Reps w σ T [a] [v]) (hl : Reps w σ T l m) : Reps w σ T (a :: l) (v :: m) := ⟨by simp [hl.1], fun i x u h1 h2 => by
  match i with
  | 0 => exact h.2 0 x u h1 h2
  | i + 1 => exact hl.2 i x u (by simpa using h1) (by simpa using h2)⟩
theorem reps_nil {w : World} {σ : Sig} {T : Nat → Prop} : Reps w σ T [] [] := ⟨rfl, fun i x u h1 h2 => by simp at h1⟩
section
variable {H : Type} {enc : TypeId × Value → H} {P : Program} {w : World} {base : Nat} {spare : Nat → Bool} {held : Bool}
theorem am_int {t : TypeId} {k : IntKind} (ht : P.underlying t = some (.int k)) : Opens H enc P w base spare held t (rAM (fun n : Int => [.int k n]) fun n => (Lit.int k n).wf = true) := fun fuel cs x h => by
  obtain ⟨n, rfl, hn⟩ := opens_int ht fuel cs x h
  exact ⟨n, hn, reps_one (.int k n)⟩
theorem am_bool {t : TypeId} (ht : P.underlying t = some .bool) : Opens H enc P w base spare held t (rAM (fun b : Bool => [.bool b]) fun _ => True) := fun fuel cs x h => by
  obtain ⟨n, rfl⟩ := opens_bool ht fuel cs x h
  exact ⟨n, trivial, reps_one (.bool n)⟩
theorem am_str {t : TypeId} (ht : P.underlying t = some .string) : Opens H enc P w base spare held t (rAM (fun s : Str => [.str s]) fun _ => True) := fun fuel cs x h => by
  obtain ⟨s, rfl, _⟩ := opens_str ht fuel cs x h
  exact ⟨s.data.toList, trivial, reps_one (.str s)⟩
theorem am_slice {α : Type} {t e : TypeId} {size : Nat} {f : α → List AV} {G : α → Prop} (ht : P.underlying t = some (.slice e)) (hc : P.cellsOf e = size) (hs : 0 < size) (he : Opens H enc P w base spare held e (rAM f G)) :
    Opens H enc P w base spare held t (rAM (fun l : List α => [.lst (l.map f)]) fun l => l.length ≤ maxLen ∧ ∀ x ∈ l, G x) := fun fuel cs x h => by
  obtain ⟨l, A, c, rfl, h1, h2, h3⟩ := opens_slice ht hc hs he fuel cs x h
  refine ⟨l, ⟨by omega, fun x hx => ?_⟩, reps_one ?_⟩
  · obtain ⟨i, hi, rfl⟩ := List.getElem_of_mem hx
    obtain ⟨b, o, _, _, hall⟩ := h3 (by omega)
    obtain ⟨cs', _, hR, _⟩ := hall i l[i] (List.getElem?_eq_getElem hi)
    exact hR.1
  · rcases Nat.eq_zero_or_pos l.length with h0 | h0
    · have : l = [] := List.length_eq_zero_iff.1 h0
      subst this
      exact .lst0 A c h2
    · obtain ⟨b, o, rfl, hb, hall⟩ := h3 h0
      have := Rep.lst (w := w) (σ := sig0) (T := tok0) (l.map f) b o size c ⟨fun h => h, fun i r hr => ?_, fun i j hi hj => ?_, hs, by simpa using h0⟩ (by simpa using h1) h2 (fun i r j a u hr ha hu => ?_)
      · simpa using this
      · rw [List.getElem?_map] at hr
        cases hx : l[i]? with
        | none => rw [hx] at hr; cases hr
        | some y =>
          rw [hx] at hr; cases hr
          obtain ⟨cs', k1, k2, _⟩ := hall i y hx
          rw [k2.2.1, k1]
      · have hi' : i < l.length := by simpa using hi
        obtain ⟨cs', k1, k2, k3⟩ := hall i l[i] (List.getElem?_eq_getElem hi')
        exact ⟨cs'[j], k3 j _ (List.getElem?_eq_getElem (by omega))⟩
      · rw [List.getElem?_map] at hr
        cases hx : l[i]? with
        | none => rw [hx] at hr; cases hr
        | some y =>
          rw [hx] at hr; cases hr
          obtain ⟨cs', k1, k2, k3⟩ := hall i y hx
          have hj : j < cs'.length := by rw [← k2.2.1]; exact lt_of_some ha
          have hu' := k3 j _ (List.getElem?_eq_getElem hj)
          rw [hu] at hu'
          cases hu'
          exact k2.2.2 j a _ ha (List.getElem?_eq_getElem hj)
/-- a struct of single cells -/
theorem am_cells {t : TypeId} {fs : Array Field} (tys : List TypeId) {fuel : Nat} {cs : List Value} {x : DataW H × List MemPlace} (ht : P.underlying t = some (.struct fs)) (h : DataW.trod enc P w base spare held fuel t cs = some x)
    (hf : fs.toList.map (fun f => (f.type, f.offset)) = tys.zipIdx) (hc : tys.all (fun ty => P.cellsOf ty == 1) = true) (hn : P.cellsOf t = tys.length) :
    cs.length = tys.length ∧ ∀ (i : Nat) (ty : TypeId), tys[i]? = some ty → ∃ c m y, cs[i]? = some c ∧ DataW.trod enc P w base spare held m ty [c] = some y := by
  obtain ⟨hl, hall⟩ := opens_fields ht h
  rw [hn] at hl
  refine ⟨hl, fun i ty hi => ?_⟩
  have hlt := lt_of_some hi
  have hci : i < cs.length := by omega
  obtain ⟨m, y, hy⟩ := hall i ty i 1 [cs[i]] (by
    have := congrArg (fun l => l[i]?) hf
    simp only [List.getElem?_map, List.getElem?_zipIdx, hi, Array.getElem?_toList] at this
    simpa using this) (by rw [List.all_eq_true] at hc; simpa using hc ty (List.mem_of_getElem? hi)) (by rw [List.drop_eq_getElem_cons hci]; rfl)
  exact ⟨cs[i], m, y, List.getElem?_eq_getElem hci, hy⟩
end
/-- A law that is true over the empty heap, in the model. -/
theorem law_calls {P : Program} {f : FuncId} {args : List AV} {vs : List Value} (h : PureA P f args (.bool true)) (w : World) (hv : Reps w sig0 tok0 args vs) : Calls P f vs.toArray w fun e w' => e = .returned (.bool true) ∧ Below w.heap.size w w' := by
  obtain ⟨v, H', L', h1, h2, rfl, rfl⟩ := h.2 Heap.empty (fun b _ => empty_get b) ⟨List.nodup_nil, fun p hp => by simp at hp⟩
  have hown : Own sig0 Heap.empty = tok0 := by
    funext c
    apply propext
    constructor
    · rintro (h | ⟨b, x, pl, h4, _, _⟩)
      · exact h
      · rw [empty_get] at h4; cases h4
    · exact fun h => h.elim
  have hW : WRel w sig0 Heap.empty := ⟨fun b pl hb => (by cases hb), fun b pl hb => (by cases hb), fun b x hb => (by rw [empty_get] at hb; cases hb), fun c hc => hc.elim, fun b b' x x' pl pl' hb => (by rw [empty_get] at hb; cases hb)⟩
  refine (h1 w sig0 vs hW (by rw [hown]; exact hv)).mono ?_
  rintro e w' ⟨v', σ', rfl, k1, k2, k3, _⟩
  cases k1
  rw [hown] at k3
  exact ⟨rfl, k3.os, k3.tape, k3.output, k3.size, fun k hk => k3.keep k hk fun h => h⟩
end Go.Proofs.Ytdaejmkoenhbkaa.Am
