/- The closed facts of this seat's program. -/
import Derived.Test.YtdaejmkoenhbkaaSlg
import Derived.Test.YtdaejmkoenhbkaaProg
import Derived.KernelRfl
namespace Go.Proofs.Ytdaejmkoenhbkaa.Am
/-- the field types of a flat struct type -/
def flatOf (P : Program) (t : TypeId) : Option (List TypeId) := match P.underlying t with
  | some (.struct fs) => if (!P.stoodInHeld t && !P.eqGuardType P.depth t && fs.toList.zipIdx.all fun p => p.1.offset == p.2 && p.1.name != "_" && (match isAggA P p.1.type with | some false => true | _ => false)) = true then some (fs.toList.map (·.type)) else none
  | _ => none
theorem flatOf_ok {P : Program} {t : TypeId} {ts : List TypeId} (h : flatOf P t = some ts) : FlatT P t ts := by
  unfold flatOf at h
  split at h
  · rename_i fs hu
    split at h
    · rename_i hc
      cases h
      simp only [Bool.and_eq_true, Bool.not_eq_true', List.all_eq_true] at hc
      have hf : P.fieldsOf t = fs := by simp [Program.fieldsOf, hu]
      refine ⟨by rw [hf]; exact hu, hc.1.1, hc.1.2, by rw [hf], fun i f hi => ?_⟩
      rw [hf] at hi
      have := hc.2 (f, i) (by rw [List.mem_iff_getElem?]; exact ⟨i, by rw [List.getElem?_zipIdx, hi]; simp⟩)
      simp only [beq_iff_eq, bne_iff_ne] at this
      refine ⟨this.1.2, this.1.1, ?_⟩
      have h2 := this.2
      split at h2
      · assumption
      · cases h2
    · cases h
  · cases h
noncomputable def Fl : TypeId → Option (List TypeId) := flatOf Try.prog
set_option maxRecDepth 1000000 in
theorem checkedAll : Try.prog.funcs.toList.all funcB = true := by kernel_rfl
theorem fit : Fit Try.prog Fl := ⟨fun t ts h => flatOf_ok h, (goods checkedAll).1, by kernel_rfl⟩
end Go.Proofs.Ytdaejmkoenhbkaa.Am
