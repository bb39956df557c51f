/- AM, part 29: symbolic heaps: lists of named blocks; what a piece of code does to the part of the heap that it is told of. -/
import Derived.Test.YtdaejmkoenhbkaaFrz
namespace Go.Proofs.Ytdaejmkoenhbkaa.Am
open Go.RowKit
set_option linter.unusedVariables false
abbrev SH := List (Nat × Blk)
abbrev SH.names (L : SH) : List Nat := L.map Prod.fst
/-- the heap has these blocks -/
structure Sub (L : SH) (H : Heap) : Prop where
  nd : L.names.Nodup
  get : ∀ p ∈ L, H.get p.1 = some p.2
/-- what a piece of code that was told of L leaves; names below B are old -/
structure Fr (B : Nat) (L : SH) (H : Heap) (L' : SH) (H' : Heap) : Prop where
  next : H.next ≤ H'.next
  bd : Bd H'
  sub : Sub L' H'
  keep : ∀ b x, H.get b = some x → b ∉ L.names → H'.get b = some x ∧ b ∉ L'.names
  dom : ∀ b, b < B → H.get b = none → H'.get b = none
  fresh : ∀ b, b ∈ L'.names → b < B → b ∈ L.names
theorem Sub.mem {L : SH} {H : Heap} (h : Sub L H) {b : Nat} (hb : b ∈ L.names) : ∃ x, (b, x) ∈ L ∧ H.get b = some x := by
  obtain ⟨p, hp, rfl⟩ := List.mem_map.1 hb
  exact ⟨p.2, hp, h.get p hp⟩
theorem Sub.congr {L : SH} {H H' : Heap} (h : Sub L H) (hg : ∀ b, H'.get b = H.get b) : Sub L H' := ⟨h.nd, fun p hp => by rw [hg]; exact h.get p hp⟩
theorem Fr.refl {B : Nat} {L : SH} {H : Heap} (hb : Bd H) (h : Sub L H) : Fr B L H L H := ⟨Nat.le_refl _, hb, h, fun _ _ h1 h2 => ⟨h1, h2⟩, fun _ _ h => h, fun _ h _ => h⟩
theorem Fr.trans {B B' : Nat} {L L' L'' : SH} {H H' H'' : Heap} (h : Fr B L H L' H') (k : Fr B' L' H' L'' H'') (hB : B ≤ B') : Fr B L H L'' H'' where
  next := Nat.le_trans h.next k.next
  bd := k.bd
  sub := k.sub
  keep := fun b x h1 h2 => by obtain ⟨a1, a2⟩ := h.keep b x h1 h2; exact k.keep b x a1 a2
  dom := fun b hb h0 => k.dom b (Nat.lt_of_lt_of_le hb hB) (h.dom b hb h0)
  fresh := fun b h1 h2 => h.fresh b (k.fresh b h1 (Nat.lt_of_lt_of_le h2 hB)) h2
theorem Fr.low {B B' : Nat} {L L' : SH} {H H' : Heap} (h : Fr B' L H L' H') (hB : B ≤ B') : Fr B L H L' H' :=
  ⟨h.next, h.bd, h.sub, h.keep, fun b hb => h.dom b (Nat.lt_of_lt_of_le hb hB), fun b h1 h2 => h.fresh b h1 (Nat.lt_of_lt_of_le h2 hB)⟩
/-- a part of what is there may be handed on; the rest stays -/
theorem Sub.perm {L L' : SH} {H : Heap} (h : Sub L H) (hp : L.Perm L') : Sub L' H := ⟨(hp.map Prod.fst).nodup_iff.1 h.nd, fun p hq => h.get p (hp.mem_iff.2 hq)⟩
theorem Sub.left {K R : SH} {H : Heap} (h : Sub (K ++ R) H) : Sub K H := ⟨by have := h.nd; unfold SH.names at *; rw [List.map_append] at this; exact (List.nodup_append.1 this).1, fun p hp => h.get p (List.mem_append_left _ hp)⟩
theorem Sub.right {K R : SH} {H : Heap} (h : Sub (K ++ R) H) : Sub R H := ⟨by have := h.nd; unfold SH.names at *; rw [List.map_append] at this; exact (List.nodup_append.1 this).2.1, fun p hp => h.get p (List.mem_append_right _ hp)⟩
theorem Sub.disj {K R : SH} {H : Heap} (h : Sub (K ++ R) H) {b : Nat} (h1 : b ∈ K.names) (h2 : b ∈ R.names) : False := by
  have := h.nd
  unfold SH.names at *
  rw [List.map_append] at this
  exact (List.nodup_append.1 this).2.2 b h1 b h2 rfl
theorem Fr.frame {B : Nat} {K K' R L : SH} {H H' : Heap} (h : Fr B K H K' H') (hL : L.Perm (K ++ R)) (hs : Sub L H) : Fr B L H (K' ++ R) H' := by
  have hs' := hs.perm hL
  have hr : ∀ p ∈ R, H'.get p.1 = some p.2 ∧ p.1 ∉ K'.names := fun p hp =>
    h.keep p.1 p.2 (hs'.right.get p hp) (fun hk => hs'.disj hk (List.mem_map_of_mem hp))
  have hn : ∀ b, b ∈ L.names ↔ b ∈ K.names ∨ b ∈ R.names := fun b => by
    rw [(hL.map Prod.fst).mem_iff, List.map_append, List.mem_append]
  refine ⟨h.next, h.bd, ⟨?_, fun p hp => ?_⟩, fun b x h1 h2 => ?_, h.dom, fun b h1 h2 => ?_⟩
  · unfold SH.names
    rw [List.map_append, List.nodup_append]
    refine ⟨h.sub.nd, hs'.right.nd, fun a ha b hb he => ?_⟩
    subst he
    obtain ⟨p, hp, rfl⟩ := List.mem_map.1 hb
    exact (hr p hp).2 ha
  · rcases List.mem_append.1 hp with hp | hp
    · exact h.sub.get p hp
    · exact (hr p hp).1
  · rw [hn] at h2
    have h3 : b ∉ K.names := fun hk => h2 (.inl hk)
    obtain ⟨a1, a2⟩ := h.keep b x h1 h3
    refine ⟨a1, fun hk => ?_⟩
    unfold SH.names at hk
    rw [List.map_append, List.mem_append] at hk
    rcases hk with hk | hk
    · exact a2 hk
    · exact h2 (.inr hk)
  · unfold SH.names at h1
    rw [List.map_append, List.mem_append] at h1
    rw [hn]
    rcases h1 with h1 | h1
    · exact .inl (h.fresh b h1 h2)
    · exact .inr h1

section
variable {P : Program} {F : TypeId → Option (List TypeId)} {w w' : World} {σ σ' : Sig} {T T' : Nat → Prop}
theorem Rep.shrink {a : AV} {v : Value} (h : Rep w σ T a v) (hT : ∀ c, T' c → T c) : Rep w σ T' a v := by
  induction h with
  | int k n => exact .int k n
  | bool b => exact .bool b
  | str s => exact .str s
  | nilp => exact .nilp
  | ptr b i off pl h => exact .ptr b i off pl h
  | pptr rows i off b o sz hl h ih => exact .pptr rows i off b o sz (hl.shrink hT) ih
  | nils => exact .nils
  | emp a => exact .emp a
  | sl b i n pl a cap h hn hm ha => exact .sl b i n pl a cap h hn hm ha
  | lst0 a cap hm => exact .lst0 a cap hm
  | lst rows b o sz cap hl hn hm h ih => exact .lst rows b o sz cap (hl.shrink hT) hn hm ih
  | agg cs vs hl h ih => exact .agg cs vs hl ih
  | tup cs vs hl h ih => exact .tup cs vs hl ih
  | fn f cs vs hl h ih => exact .fn f cs vs hl ih
  | nilf => exact .nilf
  | junk v => exact .junk v
theorem Held.shrink {x : Blk} {pl : Place} {cs : Array Value} {e : TypeId} (h : Held w σ T x pl cs e) (hT : ∀ c, T' c → T c) : Held w σ T' x pl cs e :=
  ⟨h.size, h.block, h.even, h.room, fun i r j a u h1 h2 h3 => (h.rep i r j a u h1 h2 h3).shrink hT⟩
/-- fewer blocks -/
theorem Own.less {H H' : Heap} (h : ∀ b x, H'.get b = some x → H.get b = some x) (c : Nat) (hc : Own σ H' c) : Own σ H c := by
  rcases hc with hc | ⟨b, x, pl, h1, h2, h3⟩
  · exact .inl hc
  · exact .inr ⟨b, x, pl, h b x h1, h2, h3⟩
theorem WRel.less {H H' : Heap} (hW : WRel w σ H) (h : ∀ b x, H'.get b = some x → H.get b = some x) (hn : H.next ≤ H'.next) : WRel w σ H' where
  named := fun b pl hb => Nat.lt_of_lt_of_le (hW.named b pl hb) hn
  lt := hW.lt
  live := fun b x hb => by
    obtain ⟨pl, cs, e, h1, h2⟩ := hW.live b x (h b x hb)
    exact ⟨pl, cs, e, h1, h2.shrink (Own.less h)⟩
  apart := fun c hc => ⟨(hW.apart c hc).1, fun ⟨b, x, pl, h1, h2, h3⟩ => (hW.apart c hc).2 ⟨b, x, pl, h b x h1, h2, h3⟩⟩
  inj := fun b b' x x' pl pl' h1 h2 => hW.inj b b' x x' pl pl' (h b x h1) (h b' x' h2)
/-- every state that is told by the first is told by the second -/
def Shift (τ : List AV) (H : Heap) (τ1 : List AV) (H1 : Heap) : Prop :=
  H.next ≤ H1.next ∧ (∀ b x, H1.get b = some x → H.get b = some x) ∧ ∀ (w : World) (σ : Sig) (a : Act), WRel w σ H → TmpsOk w σ (Own σ H) τ a → TmpsOk w σ (Own σ H1) τ1 a
variable {c c1 c2 : Code} {τ τ1 τ2 : List AV} {H H1 H2 : Heap} {e : Ex}
theorem CodeOk.shift (h : CodeOk P c τ H e τ1 H1) (k : Shift τ1 H1 τ2 H2) : CodeOk P c τ H e τ2 H2 := by
  refine ⟨Nat.le_trans h.1 k.1, fun w σ a hW hτ Q hQ => h.2 w σ a hW hτ Q fun a' w' haf => hQ a' w' ?_⟩
  obtain ⟨σ', t, r, e1, m⟩ := haf
  exact ⟨σ', k.2.2 w' σ' a' r t, r.less k.2.1 k.1, ⟨e1.os, e1.tape, e1.output, e1.size, e1.keep, e1.shape, e1.sig, e1.eqfr, e1.frame, fun c hc => e1.own c (Own.less k.2.1 c hc)⟩, m⟩
theorem CodeOk.seq (h : CodeOk P c1 τ H .normal τ1 H1) (k : CodeOk P c2 τ1 H1 e τ2 H2) : CodeOk P (.seq c1 c2) τ H e τ2 H2 := by
  refine ⟨Nat.le_trans h.1 k.1, fun w σ a hW hτ Q hQ => wp_seq (h.2 w σ a hW hτ _ fun a' w' haf => ?_)⟩
  obtain ⟨σ1, t1, r1, e1, m1⟩ := haf
  exact k.2 w' σ1 a' r1 t1 Q fun a2 w2 haf2 => hQ a2 w2 (haf2.trans e1 m1 h.1)
theorem CodeOk.seq_out (h : CodeOk P c1 τ H e τ1 H1) (he : e ≠ .normal) : CodeOk P (.seq c1 c2) τ H e τ1 H1 := by
  refine ⟨h.1, fun w σ a hW hτ Q hQ => wp_seq (h.2 w σ a hW hτ _ fun a' w' haf => ?_)⟩
  cases e with
  | normal => exact absurd rfl he
  | exit id => exact hQ _ _ haf
  | ret => exact hQ _ _ haf
theorem CodeOk.cond {x : Operand} {t : Bool} (hb : aev τ x = .bool t) (h : CodeOk P (if t then c1 else c2) τ H e τ1 H1) : CodeOk P (.cond x c1 c2) τ H e τ1 H1 := by
  refine ⟨h.1, fun w σ a hW hτ Q hQ => wp_cond (t := t) ?_ (h.2 w σ a hW hτ Q hQ)⟩
  have := hτ.eval x
  rw [hb] at this
  generalize a.eval x = u at this
  cases this
  rfl
/-- how a block is left -/
def Ex.leave (id : Nat) : Ex → Ex
  | .exit id' => if id' = id then .normal else .exit id'
  | e => e
theorem CodeOk.block {id : Nat} (h : CodeOk P c τ H e τ1 H1) : CodeOk P (.block id c) τ H (e.leave id) τ1 H1 := by
  refine ⟨h.1, fun w σ a hW hτ Q hQ => wp_block (h.2 w σ a hW hτ _ fun a' w' haf => ?_)⟩
  have := hQ a' w' haf
  cases e with
  | normal => exact this
  | ret => exact this
  | exit id' =>
    simp only [exOf, Exit.inBlock]
    simp only [Ex.leave] at this
    by_cases hid : id' = id
    · simp only [hid, if_true] at this ⊢; exact this
    · simp only [hid, if_false] at this ⊢; exact this
theorem LoopOk.next {n : Nat} (h : CodeOk P c τ H .normal τ1 H1) (k : LoopOk P n c τ1 H1 e τ2 H2) : LoopOk P (n + 1) c τ H e τ2 H2 := by
  refine ⟨Nat.le_trans h.1 k.1, fun w σ a hW hτ Q hQ => ?_⟩
  rw [rounds_succ]
  refine h.2 w σ a hW hτ _ fun a' w' haf => ?_
  obtain ⟨σ1, t1, r1, e1, m1⟩ := haf
  exact k.2 w' σ1 a' r1 t1 Q fun a2 w2 haf2 => hQ a2 w2 (haf2.trans e1 m1 h.1)
theorem LoopOk.out (h : CodeOk P c τ H e τ1 H1) (he : e ≠ .normal) : LoopOk P 1 c τ H e τ1 H1 := by
  refine ⟨h.1, fun w σ a hW hτ Q hQ => ?_⟩
  rw [rounds_succ]
  refine h.2 w σ a hW hτ _ fun a' w' haf => ?_
  cases e with
  | normal => exact absurd rfl he
  | exit id => exact hQ _ _ haf
  | ret => exact hQ _ _ haf
theorem LoopOk.code {n : Nat} (h : LoopOk P n c τ H e τ1 H1) : CodeOk P (.loop c) τ H e τ1 H1 :=
  ⟨h.1, fun w σ a hW hτ Q hQ => wp_loop_rounds n (h.2 w σ a hW hτ Q hQ)⟩

/-! ### Code over a symbolic heap -/
def ARun (P : Program) (c : Code) (τ : List AV) (L : SH) (Q : Ex → List AV → SH → Prop) : Prop :=
  ∀ H, Bd H → Sub L H → ∃ e τ' H' L', CodeOk P c τ H e τ' H' ∧ Fr H.next L H L' H' ∧ Q e τ' L'
def CallA (P : Program) (f : FuncId) (args : List AV) (L : SH) (Q : AV → SH → Prop) : Prop :=
  (∃ fn c, P.funcs[f]? = some fn ∧ fn.body = some c) ∧ ∀ H, Bd H → Sub L H → ∃ v H' L', CallOk P f args H v H' ∧ Fr H.next L H L' H' ∧ Q v L'
variable {L : SH} {Q Q2 : Ex → List AV → SH → Prop}
theorem ARun.mono (h : ARun P c τ L Q) (hq : ∀ e τ' L', Q e τ' L' → Q2 e τ' L') : ARun P c τ L Q2 := fun H hb hs => by
  obtain ⟨e, τ', H', L', h1, h2, h3⟩ := h H hb hs
  exact ⟨e, τ', H', L', h1, h2, hq _ _ _ h3⟩
theorem CallA.mono {f : FuncId} {args : List AV} {R R2 : AV → SH → Prop} (h : CallA P f args L R) (hq : ∀ v L', R v L' → R2 v L') : CallA P f args L R2 := ⟨h.1, fun H hb hs => by
  obtain ⟨v, H', L', h1, h2, h3⟩ := h.2 H hb hs
  exact ⟨v, H', L', h1, h2, hq _ _ h3⟩⟩
theorem CallA.frame {f : FuncId} {args : List AV} {K R : SH} {R1 R2 : AV → SH → Prop} (h : CallA P f args K R1) (hL : L.Perm (K ++ R)) (hq : ∀ v K', R1 v K' → R2 v (K' ++ R)) : CallA P f args L R2 := ⟨h.1, fun H hb hs => by
  obtain ⟨v, H', K', h1, h2, h3⟩ := h.2 H hb (hs.perm hL).left
  exact ⟨v, H', K' ++ R, h1, h2.frame hL hs, hq _ _ h3⟩⟩
theorem ARun.stop (e : Ex) (hc : ∀ H, CodeOk P c τ H e τ H) (h : Q e τ L) : ARun P c τ L Q := fun H hb hs => ⟨e, τ, H, L, hc H, .refl hb hs, h⟩
theorem ARun.skip (h : Q .normal τ L) : ARun P .skip τ L Q := .stop .normal (fun H => ⟨Nat.le_refl _, fun w σ a hW hτ Q hQ => wp_skip (hQ _ _ (.refl hW hτ))⟩) h
theorem ARun.exit {id : Nat} (h : Q (.exit id) τ L) : ARun P (.exit id) τ L Q := .stop (.exit id) (fun H => ⟨Nat.le_refl _, fun w σ a hW hτ Q hQ => wp_exit (hQ _ _ (.refl hW hτ))⟩) h
theorem ARun.ret (h : Q .ret τ L) : ARun P .ret τ L Q := .stop .ret (fun H => ⟨Nat.le_refl _, fun w σ a hW hτ Q hQ => wp_ret (hQ _ _ (.refl hW hτ))⟩) h
theorem ARun.label {l : Nat} (h : Q .normal τ L) : ARun P (.label l) τ L Q := .stop .normal (fun H => ⟨Nat.le_refl _, fun w σ a hW hτ Q hQ => wp_label (hQ _ _ (.refl hW hτ))⟩) h
theorem ARun.seq (h : ARun P c1 τ L fun e τ' L' => match e with | .normal => ARun P c2 τ' L' Q | e => Q e τ' L') : ARun P (.seq c1 c2) τ L Q := fun H hb hs => by
  obtain ⟨e, τ1, H1, L1, h1, h2, h3⟩ := h H hb hs
  cases e with
  | normal =>
    obtain ⟨e, τ2, H2, L2, k1, k2, k3⟩ := h3 H1 h2.bd h2.sub
    exact ⟨e, τ2, H2, L2, h1.seq k1, h2.trans k2 h2.next, k3⟩
  | exit id => exact ⟨_, τ1, H1, L1, h1.seq_out (by simp), h2, h3⟩
  | ret => exact ⟨_, τ1, H1, L1, h1.seq_out (by simp), h2, h3⟩
theorem ARun.cond {x : Operand} {t : Bool} (hb : aev τ x = .bool t) (h : ARun P (if t then c1 else c2) τ L Q) : ARun P (.cond x c1 c2) τ L Q := fun H hB hs => by
  obtain ⟨e, τ1, H1, L1, h1, h2, h3⟩ := h H hB hs
  exact ⟨e, τ1, H1, L1, h1.cond hb, h2, h3⟩
theorem ARun.block {id : Nat} (h : ARun P c τ L fun e τ' L' => Q (e.leave id) τ' L') : ARun P (.block id c) τ L Q := fun H hB hs => by
  obtain ⟨e, τ1, H1, L1, h1, h2, h3⟩ := h H hB hs
  exact ⟨_, τ1, H1, L1, h1.block, h2, h3⟩
theorem ARun.loop (I : Nat → List AV → SH → Prop) (hs : ∀ n τ L, I n τ L → ARun P c τ L fun e τ' L' => match e with | .normal => ∃ m, m < n ∧ I m τ' L' | e => Q e τ' L') (n : Nat) (h0 : I n τ L) : ARun P (.loop c) τ L Q := by
  have key : ∀ n τ L, I n τ L → ∀ H, Bd H → Sub L H → ∃ k e τ' H' L', LoopOk P k c τ H e τ' H' ∧ Fr H.next L H L' H' ∧ Q e τ' L' := by
    intro n
    induction n using Nat.strongRecOn with
    | _ n ih =>
      intro τ L hI H hB hS
      obtain ⟨e, τ1, H1, L1, h1, h2, h3⟩ := hs n τ L hI H hB hS
      cases e with
      | normal =>
        obtain ⟨m, hm, hI1⟩ := h3
        obtain ⟨k, e, τ2, H2, L2, k1, k2, k3⟩ := ih m hm τ1 L1 hI1 H1 h2.bd h2.sub
        exact ⟨k + 1, e, τ2, H2, L2, .next h1 k1, h2.trans k2 h2.next, k3⟩
      | exit id => exact ⟨1, _, τ1, H1, L1, .out h1 (by simp), h2, h3⟩
      | ret => exact ⟨1, _, τ1, H1, L1, .out h1 (by simp), h2, h3⟩
  intro H hB hS
  obtain ⟨k, e, τ', H', L', h1, h2, h3⟩ := key n τ L h0 H hB hS
  exact ⟨e, τ', H', L', h1.code, h2, h3⟩
/-- slots of which nothing is said any more -/
def Dim (τ τ1 : List AV) : Prop := τ1.length = τ.length ∧ ∀ (i : Nat) (x : AV), τ1[i]? = some x → x = .junk ∨ τ[i]? = some x
theorem Dim.tmps {T : Nat → Prop} {a : Act} (h : Dim τ τ1) (ht : TmpsOk w σ T τ a) : TmpsOk w σ T τ1 a := by
  refine ⟨⟨by rw [h.1]; exact ht.1.1, fun i x u h1 h2 => ?_⟩, ht.2⟩
  rcases h.2 i x h1 with rfl | h3
  · exact .junk _
  · exact ht.1.2 i x u h3 h2
theorem ARun.dim (hd : Dim τ τ1) (h : ARun P c τ1 L Q) : ARun P c τ L Q := fun H hB hs => by
  obtain ⟨e, τ', H', L', h1, h2, h3⟩ := h H hB hs
  exact ⟨e, τ', H', L', ⟨h1.1, fun w σ a hW hτ Q hQ => h1.2 w σ a hW (hd.tmps hτ) Q hQ⟩, h2, h3⟩
end
end Go.Proofs.Ytdaejmkoenhbkaa.Am
