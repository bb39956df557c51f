/- AM, part 25: closed calls; what is to be checked of a program. -/
import Derived.Test.YtdaejmkoenhbkaaEnd
namespace Go.Proofs.Ytdaejmkoenhbkaa.Am
open Go.RowKit
set_option linter.unusedVariables false
def statB (ops : Array Oper) : Bool :=
  let M := masks ops.toList []
  let N := ops.toList.map fun o => (o.dst, namesA ops o)
  (List.range ops.size).all fun i => (List.range i).all fun j =>
    (M.getD i 0).testBit j ||
    (match N[i]?, N[j]? with
      | some (di, ni), some (dj, nj) => (match dj with | some t => !ni.contains t | none => true) && (match di with | some t => !nj.contains t | none => true)
      | _, _ => true)
def edgesB (ops : Array Oper) : Bool := (List.range ops.size).all fun i => match ops[i]? with
  | some o => o.after.toList.all fun e => !Region.binds .any e || decide (e.on < i)
  | none => true
def drawsB : Code → Bool
  | .region _ ops draw => !draw || (statB ops && edgesB ops)
  | .seq a b => drawsB a && drawsB b
  | .cond _ a b => drawsB a && drawsB b
  | .block _ b => drawsB b
  | .loop b => drawsB b
  | _ => true
theorem statB_ok {ops : Array Oper} (h : statB ops = true) : StatOk ops := by
  intro i j oi oj hji hoi hoj
  have hi : i < ops.size := (Array.getElem?_eq_some_iff.1 hoi).1
  unfold statB at h
  simp only [List.all_eq_true, List.mem_range] at h
  have h1 := h i hi j hji
  have ei : (ops.toList.map fun o => (o.dst, namesA ops o))[i]? = some (oi.dst, namesA ops oi) := by rw [List.getElem?_map, Array.getElem?_toList, hoi]; rfl
  have ej : (ops.toList.map fun o => (o.dst, namesA ops o))[j]? = some (oj.dst, namesA ops oj) := by rw [List.getElem?_map, Array.getElem?_toList, hoj]; rfl
  rw [ei, ej] at h1
  simp only [Bool.or_eq_true, Bool.and_eq_true] at h1
  rcases h1 with h1 | ⟨h1, h2⟩
  · exact .inl h1
  · right
    refine ⟨fun t ht => ?_, fun t ht => ?_⟩
    · rw [ht] at h1; simpa using h1
    · rw [ht] at h2; simpa using h2
theorem edgesB_ok {ops : Array Oper} (h : edgesB ops = true) : EdgesOk ops := by
  intro i o ho e he hb
  have hi : i < ops.size := (Array.getElem?_eq_some_iff.1 ho).1
  unfold edgesB at h
  simp only [List.all_eq_true, List.mem_range] at h
  have h1 := h i hi
  rw [ho] at h1
  simp only [List.all_eq_true] at h1
  have := h1 e he
  rw [hb] at this
  simpa using this
theorem drawsB_ok : ∀ (c : Code), drawsB c = true → Draws c
  | .region _ ops draw, h => fun hd => by
    subst hd
    simp only [drawsB, Bool.not_true, Bool.false_or, Bool.and_eq_true] at h
    exact ⟨statB_ok h.1, edgesB_ok h.2⟩
  | .seq a b, h => by simp only [drawsB, Bool.and_eq_true] at h; exact ⟨drawsB_ok a h.1, drawsB_ok b h.2⟩
  | .cond _ a b, h => by simp only [drawsB, Bool.and_eq_true] at h; exact ⟨drawsB_ok a h.1, drawsB_ok b h.2⟩
  | .block _ b, h => drawsB_ok b h
  | .loop b, h => drawsB_ok b h
  | .skip, _ => trivial
  | .rangeFunc .., _ => trivial
  | .exit _, _ => trivial
  | .scope _, _ => trivial
  | .label _, _ => trivial
  | .goto _, _ => trivial
  | .ret, _ => trivial
  | .refuse _, _ => trivial
/-- what is checked of every function -/
def funcB (fn : Func) : Bool := (fn.name != "runtime.NumGoroutine") && (match fn.body with | some c => drawsB c | none => true)
theorem goods {P : Program} (h : P.funcs.toList.all funcB = true) : (∀ (g : Nat) (fn : Func), P.funcs[g]? = some fn → fn.name ≠ "runtime.NumGoroutine") ∧ ∀ (g : Nat) (fn : Func) (c : Code), P.funcs[g]? = some fn → fn.body = some c → Draws c := by
  rw [List.all_eq_true] at h
  have key : ∀ (g : Nat) (fn : Func), P.funcs[g]? = some fn → funcB fn = true := fun g fn hg => h fn (by rw [Array.mem_toList_iff]; exact Array.mem_of_getElem? hg)
  refine ⟨fun g fn hg => ?_, fun g fn c hg hc => ?_⟩
  · have := key g fn hg
    simp only [funcB, Bool.and_eq_true] at this
    simpa using this.1
  · have := key g fn hg
    simp only [funcB, Bool.and_eq_true, hc] at this
    exact drawsB_ok c this.2
def isTrue : Option (AV × Heap) → Bool
  | some (.bool true, _) => true
  | _ => false
/-- a closed call that the evaluator finds true -/
theorem closed_true {P : Program} {F : TypeId → Option (List TypeId)} (hF : ∀ t ts, F t = some ts → FlatT P t ts) (hP : P.funcs.toList.all funcB = true) (ho : P.follows .mixedOrders = true) {fuel : Nat} {g : FuncId}
    (h : isTrue (callBy P (exec P F fuel) g [] Heap.empty) = true) (w : World) : Calls P g #[] w fun e w' => e = .returned (.bool true) ∧ Below w.heap.size w w' := by
  obtain ⟨hn, hd⟩ := goods hP
  have fit : Fit P F := ⟨hF, hn, ho⟩
  have hs := callBy_sound (P := P) hd (fun c τ H e τ' H' dr hx => exec_sound fit hd fuel c τ H e τ' H' dr hx)
  cases hc : callBy P (exec P F fuel) g [] Heap.empty with
  | none => rw [hc] at h; cases h
  | some r =>
    obtain ⟨v, H'⟩ := r
    rw [hc] at h
    have hv : v = .bool true := by
      unfold isTrue at h
      split at h
      · rename_i heq; cases heq; rfl
      · cases h
    subst hv
    have hget : ∀ b, Heap.empty.get b = none := fun b => Tr.get_leaf b
    have hW : WRel w ⟨fun _ => none, fun _ => False⟩ Heap.empty := ⟨fun b pl hb => (by cases hb), fun b pl hb => (by cases hb), fun b x hb => (by rw [hget] at hb; cases hb), fun c hc => hc.elim, fun b b' x x' pl pl' hb => (by rw [hget] at hb; cases hb)⟩
    refine (hs.ok _ _ _ _ _ hc w _ [] hW ⟨rfl, by simp⟩).mono ?_
    rintro e w' ⟨v', σ', rfl, h1, h2, h3, _⟩
    cases h1
    refine ⟨rfl, h3.os, h3.tape, h3.output, h3.size, fun k hk => h3.keep k hk ?_⟩
    rintro (h | ⟨b, x, pl, h4, _, _⟩)
    · exact h
    · rw [hget] at h4; cases h4
end Go.Proofs.Ytdaejmkoenhbkaa.Am
