/- AM, part 39: calls are marked first, so that contracts can be tried without unfolding the program. -/
import Derived.Test.YtdaejmkoenhbkaaSlk
namespace Go.Proofs.Ytdaejmkoenhbkaa.Am
set_option linter.unusedVariables false
structure W.callM (P : Program) (g : FuncId) (args : List AV) (L : SH) (KL : AV → SH → Prop) : Prop where
  h : CallA P g args L KL
structure W.dcallM (P : Program) (us : List W.WR) (i : Nat) (g : FuncId) (args : List AV) (L : SH) (KN : AV → SH → List Nat → Prop) : Prop where
  h : ∃ Kc R : SH, L.Perm (Kc ++ R) ∧ (∀ x ∈ us, W.free x ⟨i, [], Kc.names, [], true, []⟩) ∧ CallA P g args Kc fun v Kc' => KN v (Kc' ++ R) Kc.names
section
variable {P : Program} {g : FuncId} {args : List AV} {L : SH} {KL : AV → SH → Prop} {KN : AV → SH → List Nat → Prop} {us : List W.WR} {i : Nat} {v : AV}
theorem a_mark (h : W.callM P g args L KL) : W.call P (.fn g []) args L KL := by rw [call_eq, List.append_nil]; exact h.h
theorem m_call (h1 : PureA P g args v) (h : KL v L) : W.callM P g args L KL := ⟨h1.call h⟩
theorem m_callA (h : CallA P g args L KL) : W.callM P g args L KL := ⟨h⟩
theorem m_callF {K R : SH} {R1 : AV → SH → Prop} (h : CallA P g args K R1) (hL : L.Perm (K ++ R)) (hq : ∀ v K', R1 v K' → KL v (K' ++ R)) : W.callM P g args L KL := ⟨h.frame hL hq⟩
theorem m_callD {b : Nat} {x : Blk} {L' : SH} {R1 : AV → SH → Prop} (h : CallA P g args [(b, x)] R1) (hd : Del b x L L') (hq : ∀ v K', R1 v K' → KL v (K' ++ L')) : W.callM P g args L KL := ⟨h.frame hd.perm hq⟩
theorem perm_two {b1 b2 : Nat} {x1 x2 : Blk} {L1 L2 : SH} (h1 : Del b1 x1 L L1) (h2 : Del b2 x2 L1 L2) : L.Perm ([(b1, x1), (b2, x2)] ++ L2) := h1.perm.trans (h2.perm.cons _)
theorem m_callD2 {b1 b2 : Nat} {x1 x2 : Blk} {L1 L2 : SH} {R1 : AV → SH → Prop} (h : CallA P g args [(b1, x1), (b2, x2)] R1) (h1 : Del b1 x1 L L1) (h2 : Del b2 x2 L1 L2) (hq : ∀ v K', R1 v K' → KL v (K' ++ L2)) : W.callM P g args L KL := ⟨h.frame (perm_two h1 h2) hq⟩
theorem m_dcallD {b : Nat} {x : Blk} {L' : SH} {R1 : AV → SH → Prop} (h : CallA P g args [(b, x)] R1) (hd : Del b x L L') (hf : ∀ y ∈ us, W.free y ⟨i, [], [b], [], true, []⟩) (hq : ∀ v K', R1 v K' → KN v (K' ++ L') [b]) : W.dcallM P us i g args L KN :=
  ⟨[(b, x)], L', hd.perm, hf, h.mono hq⟩
theorem m_dcallD2 {b1 b2 : Nat} {x1 x2 : Blk} {L1 L2 : SH} {R1 : AV → SH → Prop} (h : CallA P g args [(b1, x1), (b2, x2)] R1) (h1 : Del b1 x1 L L1) (h2 : Del b2 x2 L1 L2) (hf : ∀ y ∈ us, W.free y ⟨i, [], [b1, b2], [], true, []⟩) (hq : ∀ v K', R1 v K' → KN v (K' ++ L2) [b1, b2]) : W.dcallM P us i g args L KN :=
  ⟨[(b1, x1), (b2, x2)], L2, perm_two h1 h2, hf, h.mono hq⟩
theorem FzS.keep1 {v2 : AV} {b : Nat} {x : Blk} {L1 : SH} (h1 : Del b x L L1) (hv : Fz L1 v v2) : FzS [v] L [v2] [(b, x)] := by
  refine .drop (K := L1) (h1.perm.trans (List.perm_append_comm (l₁ := [(b, x)]))) rfl fun i a a2 e1 e2 => ?_
  match i with
  | 0 => cases e1; cases e2; exact hv
  | i + 1 => simp at e1
theorem FzS.keep2 {v2 : AV} {b1 b2 : Nat} {x1 x2 : Blk} {L1 L2 : SH} (h1 : Del b1 x1 L L1) (h2 : Del b2 x2 L1 L2) (hv : Fz L2 v v2) : FzS [v] L [v2] [(b1, x1), (b2, x2)] := by
  refine .drop (K := L2) ((perm_two h1 h2).trans List.perm_append_comm) rfl fun i a a2 e1 e2 => ?_
  match i with
  | 0 => cases e1; cases e2; exact hv
  | i + 1 => simp at e1
theorem CallA.nd {f : FuncId} {Q : AV → SH → Prop} (hb : ∃ fn c, P.funcs[f]? = some fn ∧ fn.body = some c) (h : L.names.Nodup → CallA P f args L Q) : CallA P f args L Q := ⟨hb, fun H hB hs => (h hs.nd).2 H hB hs⟩
/-- arguments as they read -/
theorem CallA.pre {f : FuncId} {args2 : List AV} {L2 : SH} {Q : AV → SH → Prop} (hz : FzS args L args2 L2) (h : CallA P f args2 L2 Q) : CallA P f args L Q := ⟨h.1, fun H hb hs => by
  obtain ⟨H2, f1, f2, f3, f4⟩ := fzs_sound hz hs hb
  obtain ⟨v, H', L', h1, h2, h3⟩ := h.2 H2 f1.bd f1.sub
  refine ⟨v, H', L', fun w σ vs hW hvs => ?_, f1.trans (h2.low (by rw [f2]; exact Nat.le_refl _)) (Nat.le_refl _), h3⟩
  obtain ⟨g1, g2, g3⟩ := f3 w σ hW
  refine (h1 w σ vs g1 (g3 vs hvs)).mono ?_
  rintro e w' ⟨v', σ', rfl, k1, k2, k3, k4⟩
  exact ⟨v', σ', rfl, k1, k2, ⟨k3.os, k3.tape, k3.output, k3.size, fun c hc hT => k3.keep c hc (fun h => hT (g2 c h)), k3.shape, k3.sig, k3.eqfr, k3.frame, fun c hc => (k3.own c hc).imp (g2 c) id⟩, fun c pl hc => by rw [← f2]; exact k4 c pl hc⟩⟩
/-- nothing but the arguments is read anew -/
theorem FzS.vals {vs vs2 : List AV} (h : FzL [] vs vs2) : FzS vs L vs2 L := .drop (K := []) (.refl _) h.at_.1 h.at_.2
theorem h_fn (k : FuncId) (h : W.callM P k args L KL) : W.callM P k args L KL := h
theorem h_dfn (k : FuncId) (h : W.dcallM P us i k args L KN) : W.dcallM P us i k args L KN := h
theorem a_dmark (h : W.dcallM P us i g args L KN) : W.dcall P us i (.fn g []) args L KN := by rw [dcall_eq, List.append_nil]; exact h.h
theorem m_dcall (h : PureA P g args v) (hf : ∀ x ∈ us, W.free x ⟨i, [], [], [], true, []⟩) (hk : KN v L []) : W.dcallM P us i g args L KN :=
  ⟨[], L, .refl _, hf, CallA.mono h fun u K ⟨h1, h2⟩ => by subst h1; subst h2; exact hk⟩
end
/-! the operation at the head -/
theorem h_load1 {n : Nat} {a : AV} {L : SH} {K : AV → Prop} (h : W.load false n a L K) : W.load false n a L K := h
theorem h_row {n : Nat} {a : AV} {L : SH} {K : AV → Prop} (h : W.load true n a L K) : W.load true n a L K := h
theorem h_faddr {off : Nat} {x : AV} {K : AV → Prop} (h : W.faddr off x K) : W.faddr off x K := h
theorem h_bin {P : Program} {F : TypeId → Option (List TypeId)} {op : BinOp} {t : TypeId} {x y : AV} {K : AV → Prop} (h : W.bin P F op t x y K) : W.bin P F op t x y K := h
theorem h_cond {v : AV} {A B : Prop} (h : W.cond v A B) : W.cond v A B := h
theorem h_idx {n : Nat} {x ix : AV} {L : SH} {K : AV → Prop} (h : W.idx n x ix L K) : W.idx n x ix L K := h
theorem h_len {x : AV} {K : AV → Prop} (h : W.len x K) : W.len x K := h
theorem h_ext {i : Nat} {x : AV} {K : AV → Prop} (h : W.ext i x K) : W.ext i x K := h
theorem h_calm {us : List W.WR} {y : W.WR} {A : Prop} (h : W.calm us y A) : W.calm us y A := h
theorem h_note {r : W.Fp} {K : W.Fp → Prop} (h : W.note r K) : W.note r K := h
theorem h_pick {c x y : AV} {K : AV → Prop} (h : W.pick c x y K) : W.pick c x y K := h
theorem h_grd {x : AV} {want : Bool} {A : (AV → SH → Prop) → Prop} {L : SH} {K : AV → SH → Prop} (h : W.grd x want A L K) : W.grd x want A L K := h
theorem h_dgrd {x : AV} {want : Bool} {A : (AV → SH → W.Fp → Prop) → Prop} {L : SH} {K : AV → SH → W.Fp → Prop} (h : W.dgrd x want A L K) : W.dgrd x want A L K := h
theorem h_un {op : UnOp} {x : AV} {K : AV → Prop} (h : W.un op x K) : W.un op x K := h
theorem h_box {x : AV} {L : SH} {K : AV → SH → Prop} (h : W.box x L K) : W.box x L K := h
theorem h_frz1 {v : AV} {L : SH} {K : AV → SH → Prop} (h : W.frz1 v L K) : W.frz1 v L K := h
theorem h_store {n : Nat} {a v : AV} {L : SH} {K : SH → Prop} (h : W.store n a v L K) : W.store n a v L K := h
theorem h_idxP {len n : Nat} {x ix : AV} {K : AV → Prop} (h : W.idxP len n x ix K) : W.idxP len n x ix K := h
theorem h_bslice {n : Nat} {z : List AV} {len : Nat} {ps : List (Nat × AV)} {L : SH} {K : AV → SH → Prop} (h : W.bslice n z len ps L K) : W.bslice n z len ps L K := h
theorem h_mslice {n by_ : Nat} {z : List AV} {l c : AV} {L : SH} {K : AV → SH → Prop} (h : W.mslice n by_ z l c L K) : W.mslice n by_ z l c L K := h
theorem h_nilchk {x : AV} {K : AV → Prop} (h : W.nilchk x K) : W.nilchk x K := h
end Go.Proofs.Ytdaejmkoenhbkaa.Am
