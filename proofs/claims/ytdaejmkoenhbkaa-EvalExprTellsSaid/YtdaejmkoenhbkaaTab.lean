/- AM, part 27: calls of functions whose contracts are known, in regions. -/
import Derived.Test.YtdaejmkoenhbkaaSym
namespace Go.Proofs.Ytdaejmkoenhbkaa.Am
set_option linter.unusedVariables false
/-- a contract: over every heap the call returns v and leaves the heap alone -/
def PureOk (P : Program) (f : FuncId) (args : List AV) (v : AV) : Prop := (∀ H, CallOk P f args H v H) ∧ ∃ fn c, P.funcs[f]? = some fn ∧ fn.body = some c
theorem PureOk.of_v {P : Program} {f : FuncId} {args : List AV} {v : AV} {fn : Func} {c : Code} (hf : P.funcs[f]? = some fn) (hb : fn.body = some c) (hv : PureV v) (ha : ∀ (i : Nat) (a : AV), args[i]? = some a → PureV a) (h : CallV P f args v) : PureOk P f args v :=
  ⟨fun H => lift hv ha h H, fn, c, hf, hb⟩
open Classical in
/-- the calls of one region -/
noncomputable def tab (L : List (FuncId × List AV × AV)) (f : FuncId) (args : List AV) (H : Heap) : Option (AV × Heap) :=
  match L with
  | [] => none
  | (g, as_, v) :: L => if f = g ∧ args = as_ then some (v, H) else tab L f args H
theorem tab_mem {f : FuncId} {args : List AV} {H H' : Heap} {v : AV} : ∀ {L : List (FuncId × List AV × AV)}, tab L f args H = some (v, H') → (f, args, v) ∈ L ∧ H' = H
  | [], h => by cases h
  | (g, bs, u) :: L, h => by
    unfold tab at h
    split at h
    · rename_i hc
      obtain ⟨rfl, rfl⟩ := hc
      cases h
      exact ⟨by simp, rfl⟩
    · obtain ⟨h1, h2⟩ := tab_mem h
      exact ⟨by simp [h1], h2⟩
theorem tab_sound {P : Program} {L : List (FuncId × List AV × AV)} (h : ∀ e ∈ L, PureOk P e.1 e.2.1 e.2.2) : Sound P (tab L) := by
  refine ⟨fun f args H v H' hc => ?_, fun f args H v H' hc => ?_, fun f args H v H' hc => ?_⟩
  · obtain ⟨h1, rfl⟩ := tab_mem hc; exact (h _ h1).1 H'
  · obtain ⟨_, rfl⟩ := tab_mem hc; exact Nat.le_refl _
  · obtain ⟨h1, _⟩ := tab_mem hc; exact (h _ h1).2
theorem tab_chg {L : List (FuncId × List AV × AV)} : ∀ f args H v H', Bd H → tab L f args H = some (v, H') → Chg H H' := fun f args H v H' _ hc => by
  obtain ⟨_, rfl⟩ := tab_mem hc; exact .refl _
theorem tab_hit {f : FuncId} {args : List AV} {v : AV} {L : List (FuncId × List AV × AV)} {H : Heap} : tab ((f, args, v) :: L) f args H = some (v, H) := by
  unfold tab; rw [if_pos ⟨rfl, rfl⟩]
theorem tab_skip {f g : FuncId} {args bs : List AV} {u v : AV} {L : List (FuncId × List AV × AV)} {H H' : Heap} (hne : f ≠ g ∨ args ≠ bs) (h : tab L f args H = some (v, H')) : tab ((g, bs, u) :: L) f args H = some (v, H') := by
  unfold tab
  rw [if_neg]
  · exact h
  · rintro ⟨h1, h2⟩
    rcases hne with h3 | h3
    · exact h3 h1
    · exact h3 h2
theorem step_call {P : Program} {F : TypeId → Option (List TypeId)} {call : FuncId → List AV → Heap → Option (AV × Heap)} {ops : Array Oper} {base i : Nat} {τ : List AV} {H H' : Heap} {o : Oper} {f : FuncId} {args : List AV} {v : AV}
    (ho : ops[i]? = some o) (hg : o.guard = none) (hop : aop P F o.op (aev τ) (base + i) H = some (.call f args)) (hc : call f args H = some (v, H')) : stepA P F call ops base i τ H = some (putA τ o.dst v, H') := by
  simp [stepA, ho, wantedA, hg, hop, hc]
end Go.Proofs.Ytdaejmkoenhbkaa.Am
