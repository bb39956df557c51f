/- ObjectBlocks: a running thread cannot acquire a lock or join a thread exactly if other threads, or it itself, stand in the way; a reader cannot read again: the law returns true for every list of events, thread and object. -/
import Derived.Test.YtadjimfkfmojkaaQ5e
import Derived.Test.YtadjimfkfmojkaaChecked
set_option linter.unusedSimpArgs false
set_option linter.unusedVariables false
section
namespace Go.Proofs.Ytadjimfkfmojkaa.objectBlocks
open Go.ChangeShapes Go.WideShapes Go.ChangeAt Go.RowKit Am
set_option linter.unusedVariables false
set_option linter.unusedSimpArgs false
theorem law (l : List EvD) (_ : l.length ≤ maxLen ∧ ∀ x ∈ l, True) (t : Int) (ht : (Lit.int .u8 t).wf = true) (k : Int) (hk : (Lit.int .u8 k).wf = true) : PureA Try.prog 13 [.lst (l.map EvD.enc), .int .u8 t, .int .u8 k] (.bool true) :=
  blocks l t k (u8_nn ht) (u8_nn hk)
theorem own : ownKnob Try.prog.godebug = none := by kernel_rfl
theorem laidOut : laidOutB Try.prog = true := by kernel_rfl
theorem agg_of {n : Nat} (hn : n ≠ 1) {v : Value} (h : v.cells.toList.length = n) : ∃ cs : List Value, v = .agg cs.toArray ∧ v.cells.toList = cs := by
  cases v with
  | agg a => exact ⟨a.toList, by simp, rfl⟩
  | _ => simp [Value.cells] at h; omega
set_option maxRecDepth 100000 in
theorem lifted (os : Os) (started : os.Started) (H : Type) (enc : TypeId × Value → H) :
    ReturnsInHanded {} Try.checked os 13 .any (Rows.objectBlocksSpec.pre6 enc Try.prog Try.f13 Rows.objectBlocksRow.domain false) (Rows.objectBlocksSpec.post enc Try.prog Try.f13 false true false false) := by
  refine returnsInHanded_of_change (C := Try.checked) own started (by kernel_rfl) Try.func13
    (ChangeSpec.witness6 (enc := enc) (C := Try.checked) false ⟨#[], #[.slice none 0 0, .int .u8 0, .int .u8 0], []⟩ 8 (by kernel_rfl) (by kernel_rfl) (by kernel_rfl) (by kernel_rfl)) ?_
  intro W base args ds gs before hval0 hW hcnd _
  have hval : ∀ (j : Nat) t v, Try.f13.params[j]? = some t → args[j]? = some v → Value.okWide Try.prog W .any base t v := hval0
  have hW' := hW
  obtain ⟨p, q, hA0, hV, rfl, hfz, hnd⟩ := hW
  have hA : DataW.TrodAll enc Try.prog W 0 (fun _ => true) true Try.f13.params.toList args.toList ds p := hA0
  rw [Try.params13] at hA hval
  obtain ⟨v0, vs0, d0, ds0, p0, q0, hargs, rfl, rfl, h0, r0⟩ := trodAll_cons hA
  obtain ⟨v1, vs1, d1, ds1, p1, q1, rfl, rfl, rfl, h1, r1⟩ := trodAll_cons r0
  obtain ⟨v2, vs2, d2, ds2, p2, q2, rfl, rfl, rfl, h2, r2⟩ := trodAll_cons r1
  obtain ⟨rfl, rfl, rfl⟩ := trodAll_nil r2
  obtain rfl : args = #[v0, v1, v2] := by cases args; simp_all
  obtain ⟨rfl, rfl⟩ := trodVars_none hV
  obtain ⟨fuel0, hf0⟩ := h0
  obtain ⟨a0, n0, c0, rfl⟩ := okWide_slice Try.underlying55 (hval 0 55 v0 rfl rfl)
  obtain ⟨x0, g0, k0⟩ := am_events _ _ _ hf0
  obtain ⟨fuel1, hf1⟩ := h1
  obtain ⟨x1, rfl, _, _, g1⟩ := open_int Try.underlying5 (hval 1 5 v1 rfl rfl) ⟨fuel1, hf1⟩
  have k1 := reps_one (Rep.int (w := W) (σ := sig0) (T := tok0) .u8 x1)
  obtain ⟨fuel2, hf2⟩ := h2
  obtain ⟨x2, rfl, _, _, g2⟩ := open_int Try.underlying5 (hval 2 5 v2 rfl rfl) ⟨fuel2, hf2⟩
  have k2 := reps_one (Rep.int (w := W) (σ := sig0) (T := tok0) .u8 x2)
  refine (law_calls (law x0 g0 x1 g1 x2 g2) W (reps_cons k0 (reps_cons k1 (reps_cons k2 reps_nil)))).mono fun e W' ⟨he, hb⟩ => ⟨.bool true, he, ?_⟩
  exact law_post laidOut (of_decide_eq_true (by kernel_rfl)) rfl rfl Try.underlying4 hW' rfl rfl rfl hb
theorem over : Rows.objectBlocksRow.holds Try.pinned (OpenSpec.ofChange Rows.objectBlocksSpec) :=
  OpenClaim.holds_of_wide 13 Try.f13 rfl rfl rfl rfl rfl rfl rfl ⟨rfl, rfl, rfl, rfl, rfl⟩ rfl rfl rfl rfl rfl (by kernel_rfl) Try.func13 (by kernel_rfl)
    (of_decide_eq_true (by kernel_rfl)) (by unfold Func.isWrapper; first | (rw [if_pos (by decide +kernel)]; kernel_rfl) | (rw [if_neg (by decide +kernel)]; exact ⟨rfl, rfl⟩))
    (fun os started H enc _ => lifted os started H enc)
theorem proved : Rows.ObjectBlocksSaid :=
  over
#print axioms proved
end Go.Proofs.Ytadjimfkfmojkaa.objectBlocks

end
