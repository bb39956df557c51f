/- AM, part 35: code over a symbolic heap, as one condition; calls. -/
import Derived.Test.YtdaejmkoenhbkaaSlf
namespace Go.Proofs.Ytdaejmkoenhbkaa.Am
open Go.RowKit
set_option linter.unusedVariables false
/-- where slots are forgotten or read as memory that nobody writes -/
structure Hints where
  /-- behind the code whose last region is this one: the slots that are needed later -/
  join : Nat → Option (List Nat)
  /-- in a loop whose first region is this one: the slots that are needed -/
  loop : Nat → List Nat
  /-- behind a region: the slots that are frozen -/
  frz : Nat → List Nat
  /-- of a drawn region: what its edges put ahead of each operation -/
  mask : Nat → List Nat
def gather (live : List Nat) (τ : List AV) : List AV := live.map fun t => τ.getD t .junk
def slotOf (live : List Nat) (vs : List AV) (t : Nat) : AV := match live, vs with
  | [], _ => .junk
  | _, [] => .junk
  | d :: ds, v :: vs => if d = t then v else slotOf ds vs t
def spread (n : Nat) (live : List Nat) (vs : List AV) : List AV := (List.range n).map (slotOf live vs)
def firstReg : Code → Option Nat
  | .region id _ _ => some id
  | .seq a b => match firstReg a with
    | some i => some i
    | none => firstReg b
  | .cond _ a b => match firstReg a with
    | some i => some i
    | none => firstReg b
  | .block _ b => firstReg b
  | .loop b => firstReg b
  | _ => none
def lastReg : Code → Option Nat
  | .region id _ _ => some id
  | .seq a b => match lastReg b with
    | some i => some i
    | none => lastReg a
  | .cond _ a b => match lastReg b with
    | some i => some i
    | none => lastReg a
  | .block _ b => lastReg b
  | .loop b => lastReg b
  | _ => none
namespace W
abbrev Kn := List AV → SH → Prop
/-- the value of a slot, frozen -/
def frz0 (v : AV) (L : SH) (K : AV → SH → Prop) : Prop := match v with
  | .ptr b i off => ∃ x L', Del b x L L' ∧ 0 < x.size ∧ 0 < x.rows.length ∧ K (.pptr x.rows i off) L'
  | .sl b i n => ∃ x L', Del b x L L' ∧ 0 < x.size ∧ i + n ≤ x.rows.length ∧ K (.lst ((x.rows.drop i).take n)) L'
  | .nils => K (.lst []) L
  | .emp => K (.lst []) L
  | v => K v L
structure frz1 (v : AV) (L : SH) (K : AV → SH → Prop) : Prop where
  h : frz0 v L K
def frzs : List Nat → List AV → SH → Kn → Prop
  | [], τ, L, K => K τ L
  | d :: ds, τ, L, K => frz1 (τ.getD d .junk) L fun v L => frzs ds (τ.set d v) L K
structure cond (v : AV) (A B : Prop) : Prop where
  h : (v = .bool true ∧ A) ∨ (v = .bool false ∧ B)
/-- ways meet -/
structure join (J : Kn) (B : Kn → Prop) : Prop where
  h : B J
structure loop (B : List AV → SH → Kn → Prop) (vs : List AV) (L : SH) : Prop where
  h : ∃ I : Nat → Kn, (∃ n vs2 L2, FzS vs L vs2 L2 ∧ I n vs2 L2) ∧ ∀ n vs L, I n vs L → B vs L fun vs' L' => ∃ m vs2 L2, m < n ∧ FzS vs' L' vs2 L2 ∧ I m vs2 L2
section
variable (P : Program) (F : TypeId → Option (List TypeId)) (ht : Hints)
def code : Code → List AV → SH → Kn → (Nat → Kn) → Kn → Prop
  | .skip, τ, L, kn, _, _ => kn τ L
  | .label _, τ, L, kn, _, _ => kn τ L
  | .region id ops draw, τ, L, kn, _, _ => if draw then (statB ops && edgesB ops && (masks ops.toList [] == ht.mask id)) = true ∧ dr P F ops (ht.mask id) (List.range' 0 ops.size) τ L [] fun τ L => frzs (ht.frz id) τ L kn
      else sq P F ops (List.range ops.size) τ L fun τ L => frzs (ht.frz id) τ L kn
  | .seq a b, τ, L, kn, kx, kr => match (lastReg a).bind ht.join with
    | none => code a τ L (fun τ L => code b τ L kn kx kr) kx kr
    | some live => join (fun vs L => code b (spread τ.length live vs) L kn kx kr) fun j => code a τ L (fun τ L => j (gather live τ) L) kx kr
  | .cond x a b, τ, L, kn, kx, kr => cond (aev τ x) (code a τ L kn kx kr) (code b τ L kn kx kr)
  | .block id b, τ, L, kn, kx, kr => code b τ L kn (fun id' τ L => if id' = id then kn τ L else kx id' τ L) kr
  | .loop b, τ, L, kn, kx, kr => match firstReg b with
    | none => False
    | some r => loop (fun vs L next => code b (spread τ.length (ht.loop r) vs) L (fun τ L => next (gather (ht.loop r) τ) L) kx kr) (gather (ht.loop r) τ) L
  | .exit id, τ, L, _, kx, _ => kx id τ L
  | .ret, τ, L, _, _, kr => kr τ L
  | _, _, _, _, _, _ => False
def pack : List AV → AV
  | [v] => v
  | vs => .tup vs
/-- the results of a function -/
def res : List ResultVar → List AV → SH → List AV → (AV → SH → Prop) → Prop
  | [], _, L, vs, Q => Q (pack vs.reverse) L
  | .tmp t :: rs, τ, L, vs, Q => res rs τ L (τ.getD t undefA :: vs) Q
  | .cell a t :: rs, τ, L, vs, Q => match isAggA P t, sizeA P t with
    | some ag, some n => load ag n (τ.getD a undefA) L fun v => res rs τ L (v :: vs) Q
    | _, _ => False
def func (fn : Func) (c : Code) (args : List AV) (L : SH) (Q : AV → SH → Prop) : Prop :=
  code P F ht c (args ++ List.replicate (fn.ntmps - args.length) undefA) L (fun τ L => res P fn.results.toList τ L [] Q) (fun _ _ _ => False) (fun τ L => res P fn.results.toList τ L [] Q)
end
end W
section
variable {P : Program} {F : TypeId → Option (List TypeId)} {ht : Hints}
theorem slotOf_gather (τ : List AV) (t : Nat) : ∀ live : List Nat, slotOf live (gather live τ) t = .junk ∨ slotOf live (gather live τ) t = τ.getD t .junk
  | [] => .inl rfl
  | d :: ds => by
    simp only [gather, List.map_cons, slotOf]
    by_cases h : d = t
    · subst h; rw [if_pos rfl]; exact .inr rfl
    · rw [if_neg h]; exact slotOf_gather τ t ds
theorem spread_dim (live : List Nat) (τ : List AV) : Dim τ (spread τ.length live (gather live τ)) := by
  refine ⟨by simp [spread], fun i x hx => ?_⟩
  simp only [spread, List.getElem?_map] at hx
  rcases Nat.lt_or_ge i τ.length with hi | hi
  · rw [List.getElem?_range hi] at hx
    simp only [Option.map_some, Option.some.injEq] at hx
    subst hx
    rcases slotOf_gather τ i live with h | h
    · exact .inl h
    · right
      rw [h, List.getElem?_eq_getElem hi]
      simp [List.getD, hi]
  · rw [List.getElem?_eq_none (by simpa using hi)] at hx; cases hx
/-- what holds of chosen slots, holds of all -/
theorem spread_fz {n : Nat} {live : List Nat} {vs vs2 : List AV} {L L2 : SH} (h : FzS vs L vs2 L2) : FzS (spread n live vs) L (spread n live vs2) L2 := by
  obtain ⟨K, R, h1, ⟨h2, h3⟩, h4⟩ := h.ex
  refine ⟨K, R, h1, ⟨by simp [spread], fun i a a2 g1 g2 => ?_⟩, h4⟩
  simp only [spread, List.getElem?_map] at g1 g2
  cases hr : (List.range n)[i]? with
  | none => rw [hr] at g1; cases g1
  | some t =>
    rw [hr] at g1 g2
    simp only [Option.map_some, Option.some.injEq] at g1 g2
    subst g1; subst g2
    clear hr h1 h h4
    induction live generalizing vs vs2 with
    | nil => exact .refl _
    | cons d ds ih =>
      cases vs with
      | nil => cases vs2 with
        | nil => exact .refl _
        | cons y ys => simp at h2
      | cons x xs => cases vs2 with
        | nil => simp at h2
        | cons y ys =>
          simp only [slotOf]
          by_cases hd : d = t
          · rw [if_pos hd, if_pos hd]; exact h3 0 x y rfl rfl
          · rw [if_neg hd, if_neg hd]
            exact ih (by simpa using h2) fun i a a2 e1 e2 => h3 (i + 1) a a2 (by simpa using e1) (by simpa using e2)
theorem set_fz {τ : List AV} {d : Nat} {v : AV} {L K R : SH} (hL : L.Perm (K ++ R)) (hv : Fz K (τ.getD d .junk) v) : FzS τ L (τ.set d v) R := by
  refine .drop hL (by simp) fun i a a2 h1 h2 => ?_
  rw [List.getElem?_set] at h2
  by_cases hd : d = i
  · subst hd
    rw [if_pos rfl] at h2
    split at h2
    · cases h2
      rw [List.getD, h1] at hv
      exact hv
    · cases h2
  · rw [if_neg hd, h1] at h2
    cases h2
    exact .refl _
theorem Fz.rows {K : SH} {b i n : Nat} {x : Blk} (hm : (b, x) ∈ K) (hs : 0 < x.size) (hle : i + n ≤ x.rows.length) : Fz K (.sl b i n) (.lst ((x.rows.drop i).take n)) := by
  rcases Nat.eq_zero_or_pos n with rfl | hn
  · simp only [List.take_zero]; exact .sl0 b i
  · have get : ∀ (j : Nat) (r r2 : List AV), x.rows[i + j]? = some r → ((x.rows.drop i).take n)[j]? = some r2 → r = r2 := fun j r r2 h1 h2 => by
      rw [List.getElem?_take] at h2
      split at h2
      · rw [List.getElem?_drop, h1] at h2; cases h2; rfl
      · cases h2
    refine .sl b i n x _ hm hs hn (by simp; omega) hle (fun j r r2 h1 h2 => by rw [get j r r2 h1 h2]) fun j r r2 q a a2 h1 h2 h3 h4 => ?_
    have := get j r r2 h1 h2
    subst this
    rw [h3] at h4; cases h4
    exact .refl _
theorem Fz.box {K : SH} {b i off : Nat} {x : Blk} (hm : (b, x) ∈ K) (hs : 0 < x.size) (hn : 0 < x.rows.length) : Fz K (.ptr b i off) (.pptr x.rows i off) :=
  .ptr b i off x x.rows hm hs rfl hn (fun j r r2 h1 h2 => by rw [h1] at h2; cases h2; rfl) fun j r r2 q a a2 h1 h2 h3 h4 => by
    rw [h1] at h2; cases h2; rw [h3] at h4; cases h4; exact .refl _
/-- behind a piece of code, states are described anew -/
theorem ARun.post {c : Code} {τ : List AV} {L : SH} {Q Q2 : Ex → List AV → SH → Prop} (h : ARun P c τ L Q) (hq : ∀ e τ' L', Q e τ' L' → ∃ τ2 L2, FzS τ' L' τ2 L2 ∧ Q2 e τ2 L2) : ARun P c τ L Q2 := fun H hb hs => by
  obtain ⟨e, τ', H', L', h1, h2, h3⟩ := h H hb hs
  obtain ⟨τ2, L2, hz, h4⟩ := hq e τ' L' h3
  obtain ⟨H2, f1, f2, f3, f4⟩ := fzs_sound hz h2.sub h2.bd
  refine ⟨e, τ2, H2, L2, ⟨by rw [f2]; exact h1.1, fun w σ a hW hτ Q hQ => h1.2 w σ a hW hτ Q fun a' w' ⟨σ', t, r, e1, m⟩ => ?_⟩, h2.trans (f1.low h2.next) (Nat.le_refl _), h4⟩
  obtain ⟨g1, g2, g3⟩ := f3 w' σ' r
  exact hQ a' w' ⟨σ', ⟨g3 _ t.1, t.2⟩, g1, ⟨e1.os, e1.tape, e1.output, e1.size, e1.keep, e1.shape, e1.sig, e1.eqfr, e1.frame, fun c hc => e1.own c (g2 c hc)⟩, m⟩
theorem ARun.frzs {c : Code} {τ : List AV} {L : SH} {K : W.Kn} {n : Nat} : ∀ (ds : List Nat), ARun P c τ L (fun e τ' L' => e = .normal ∧ τ'.length = n ∧ W.frzs ds τ' L' K) → ARun P c τ L (fun e τ' L' => e = .normal ∧ τ'.length = n ∧ K τ' L')
  | [], h => h
  | d :: ds, h => by
    refine ARun.frzs ds (h.post ?_)
    rintro e τ' L' ⟨he, hn, hz⟩
    simp only [W.frzs] at hz
    have hz := hz.h
    simp only [W.frz0] at hz
    have set : ∀ (v : AV) (L2 : SH), FzS τ' L' (τ'.set d v) L2 → W.frzs ds (τ'.set d v) L2 K → ∃ τ2 L2, FzS τ' L' τ2 L2 ∧ e = .normal ∧ τ2.length = n ∧ W.frzs ds τ2 L2 K := fun v L2 h1 h2 => ⟨_, L2, h1, he, by simpa using hn, h2⟩
    split at hz
    · rename_i b i off hv
      obtain ⟨x, L2, h1, h2, h3, h4⟩ := hz
      refine set _ L2 (set_fz (K := [(b, x)]) h1.perm ?_) h4
      rw [hv]
      exact .box (by simp) h2 h3
    · rename_i b i k hv
      obtain ⟨x, L2, h1, h2, h3, h4⟩ := hz
      refine set _ L2 (set_fz (K := [(b, x)]) h1.perm ?_) h4
      rw [hv]
      exact .rows (by simp) h2 h3
    · rename_i hv
      refine set _ L' (set_fz (K := []) (.refl _) ?_) hz
      rw [hv]
      exact .nils
    · rename_i hv
      refine set _ L' (set_fz (K := []) (.refl _) ?_) hz
      rw [hv]
      exact .emp
    · refine set _ L' (set_fz (K := []) (.refl _) ?_) hz
      exact .refl _
theorem put_len (τ : List AV) (d : Option Tmp) (v : AV) : (putA τ d v).length = τ.length := by cases d <;> simp [putA]
theorem opsA_len {ops : Array Oper} {base : Nat} {call : FuncId → List AV → Heap → Option (AV × Heap)} : ∀ (l : List Nat) (τ : List AV) (H : Heap) (τ' : List AV) (H' : Heap), opsA P F call ops base l τ H = some (τ', H') → τ'.length = τ.length
  | [], τ, H, τ', H', h => by cases h; rfl
  | i :: l, τ, H, τ', H', h => by
    unfold opsA at h
    split at h
    · rename_i τ1 H1 hs
      rw [opsA_len l _ _ _ _ h]
      unfold stepA at hs
      repeat' (first | (cases hs; exact put_len _ _ _) | (cases hs; done) | split at hs)
    · cases h
theorem drawA_len {ops : Array Oper} {base : Nat} {before : List Nat} {call : FuncId → List AV → Heap → Option (AV × Heap)} : ∀ (l : List Nat) (τ : List AV) (H : Heap) (rs : List Rec) (τ' : List AV) (H' : Heap) (rs' : List Rec), drawA P F call ops base before l τ H rs = some (τ', H', rs') → τ'.length = τ.length
  | [], τ, H, rs, τ', H', rs', h => by cases h; rfl
  | i :: l, τ, H, rs, τ', H', rs', h => by
    have key : ∀ {mask : Nat} {τ1 : List AV} {H1 : Heap} {r : Option Rec}, drawStep P F call ops base i mask τ H = some (τ1, H1, r) → τ1.length = τ.length := fun {mask τ1 H1 r} hs => by
      unfold drawStep at hs
      repeat' (first | (cases hs; exact put_len _ _ _) | (cases hs; done) | split at hs)
    unfold drawA at h
    split at h
    · rename_i hs; rw [drawA_len l _ _ _ _ _ _ h, key hs]
    · rename_i hs
      split at h
      · rw [drawA_len l _ _ _ _ _ _ h, key hs]
      · cases h
    · cases h
theorem ARun.region' {ops : Array Oper} {id : Nat} {τ : List AV} {L : SH} {K : W.Kn} (fit : Fit P F) (h : W.sq P F ops (List.range ops.size) τ L K) : ARun P (.region id ops false) τ L fun e τ' L' => e = .normal ∧ τ'.length = τ.length ∧ K τ' L' := fun H hb hs => by
  obtain ⟨call, τ', H', L', k1, k2, k3, k4, k5⟩ := sq_sound (base := H.next) (List.range ops.size) τ L _ h List.nodup_range { H with next := H.next + ops.size } (hb.bump _ _ (Nat.le_add_right _ _)) (hs.congr fun _ => rfl)
    (fun i hi => ⟨Nat.add_lt_add_left (List.mem_range.1 hi) _, hb _ (Nat.le_add_right _ _)⟩) (Nat.le_add_right _ _)
  have hr : regionA P F call ops false τ H = some (τ', H') := by simp only [regionA, Bool.false_eq_true, if_false]; exact k3
  exact ⟨.normal, τ', H', L', region_sound fit k1 hr, ⟨Nat.le_trans (Nat.le_add_right _ _) k4.next, k4.bd, k4.sub, k4.keep, k4.dom, k4.fresh⟩, rfl, opsA_len _ _ _ _ _ k3, k5⟩
theorem ARun.draw' {ops : Array Oper} {id : Nat} {τ : List AV} {L : SH} {K : W.Kn} (fit : Fit P F) (hst : StatOk ops) (hed : EdgesOk ops) (h : W.dr P F ops (masks ops.toList []) (List.range' 0 ops.size) τ L [] K) : ARun P (.region id ops true) τ L fun e τ' L' => e = .normal ∧ τ'.length = τ.length ∧ K τ' L' := fun H hb hs => by
  obtain ⟨call, τ', H', L', rs', k1, k2, k3, k4, k5⟩ := dr_sound (base := H.next) ops.size 0 τ L [] _ h { H with next := H.next + ops.size } [] (hb.bump _ _ (Nat.le_add_right _ _)) (hs.congr fun _ => rfl)
    (fun i _ hi => ⟨by show H.next + i < H.next + ops.size; omega, hb _ (Nat.le_add_right _ _)⟩) (by show H.next + 0 ≤ H.next + ops.size; omega) (by simp) (fun j hj => by omega)
  have hr : regionA P F call ops true τ H = some (τ', { H' with log := rs'.flatMap (·.writes) ++ H'.log }) := by
    simp only [regionA, if_true]
    rw [List.range_eq_range', k3]
  obtain ⟨n1, n2⟩ := draw_sound fit k1 k2 hst hed hr
  exact ⟨.normal, τ', _, L', ⟨n1, fun w σ a hW hτ Q hQ => n2 id w σ a hW hτ Q hQ⟩, ⟨Nat.le_trans (Nat.le_add_right _ _) k4.next, k4.bd, k4.sub.congr fun _ => rfl, k4.keep, k4.dom, k4.fresh⟩, rfl, drawA_len _ _ _ _ _ _ _ k3, k5⟩
/-- the state at the end of code, by the way in which it ends -/
def Ends (n : Nat) (kn : W.Kn) (kx : Nat → W.Kn) (kr : W.Kn) (e : Ex) (τ : List AV) (L : SH) : Prop := τ.length = n ∧ match e with
  | .normal => kn τ L
  | .exit id => kx id τ L
  | .ret => kr τ L
theorem code_sound (fit : Fit P F) : ∀ (c : Code) (τ : List AV) (L : SH) (kn : W.Kn) (kx : Nat → W.Kn) (kr : W.Kn), W.code P F ht c τ L kn kx kr → ARun P c τ L (Ends τ.length kn kx kr)
  | .skip, τ, L, kn, kx, kr, h => .skip ⟨rfl, h⟩
  | .label l, τ, L, kn, kx, kr, h => .label ⟨rfl, h⟩
  | .exit id, τ, L, kn, kx, kr, h => .exit ⟨rfl, h⟩
  | .ret, τ, L, kn, kx, kr, h => .ret ⟨rfl, h⟩
  | .region id ops draw, τ, L, kn, kx, kr, h => by
    simp only [W.code] at h
    have fin : ARun P (.region id ops draw) τ L (fun e τ' L' => e = .normal ∧ τ'.length = τ.length ∧ kn τ' L') → ARun P (.region id ops draw) τ L (Ends τ.length kn kx kr) := fun h => h.mono fun e τ' L' ⟨h1, h2, h3⟩ => by subst h1; exact ⟨h2, h3⟩
    cases draw with
    | false => exact fin (.frzs _ (.region' fit h))
    | true =>
      simp only [if_true, Bool.and_eq_true] at h
      have hm := h.2
      rw [← eq_of_beq h.1.2] at hm
      exact fin (.frzs _ (.draw' fit (statB_ok h.1.1.1) (edgesB_ok h.1.1.2) hm))
  | .seq a b, τ, L, kn, kx, kr, h => by
    simp only [W.code] at h
    split at h
    · refine ARun.seq ((code_sound fit a τ L _ kx kr h).mono fun e τ' L' ⟨h1, h2⟩ => ?_)
      cases e with
      | normal => simp only; rw [← h1]; exact code_sound fit b τ' L' kn kx kr h2
      | exit id => exact ⟨h1, h2⟩
      | ret => exact ⟨h1, h2⟩
    · rename_i live _
      have hB := h.h
      refine ARun.seq ((code_sound fit a τ L _ kx kr hB).mono fun e τ' L' ⟨h1, h2⟩ => ?_)
      cases e with
      | normal =>
        have h5 := code_sound fit b _ L' kn kx kr h2
        have hlen : (spread τ.length live (gather live τ')).length = τ.length := by simp [spread]
        rw [hlen] at h5
        have hd := spread_dim live τ'
        rw [h1] at hd
        exact ARun.dim hd h5
      | exit id => exact ⟨h1, h2⟩
      | ret => exact ⟨h1, h2⟩
  | .cond x a b, τ, L, kn, kx, kr, h => by
    rcases h.h with ⟨h1, h2⟩ | ⟨h1, h2⟩
    · exact ARun.cond (t := true) h1 (code_sound fit a τ L kn kx kr h2)
    · exact ARun.cond (t := false) h1 (code_sound fit b τ L kn kx kr h2)
  | .block id b, τ, L, kn, kx, kr, h => by
    refine ARun.block ((code_sound fit b τ L _ _ kr h).mono fun e τ' L' ⟨h1, h2⟩ => ?_)
    cases e with
    | normal => exact ⟨h1, h2⟩
    | ret => exact ⟨h1, h2⟩
    | exit id' =>
      simp only [Ex.leave]
      simp only at h2
      by_cases hid : id' = id
      · rw [if_pos hid] at h2 ⊢; exact ⟨h1, h2⟩
      · rw [if_neg hid] at h2 ⊢; exact ⟨h1, h2⟩
  | .loop b, τ, L, kn, kx, kr, h => by
    simp only [W.code] at h
    split at h
    · exact h.elim
    · rename_i r _
      obtain ⟨I, ⟨n, vs0, L0, hz0, h0⟩, hB⟩ := h.h
      refine ARun.loop (fun m τ' L' => τ'.length = τ.length ∧ ∃ vs2 L2, FzS (gather (ht.loop r) τ') L' vs2 L2 ∧ I m vs2 L2) (fun m τ' L' ⟨h1, vs2, L2, hz, h2⟩ => ?_) n ⟨rfl, vs0, L0, hz0, h0⟩
      have h4 := code_sound fit b _ L2 _ kx kr (hB m vs2 L2 h2)
      have hlen : (spread τ.length (ht.loop r) vs2).length = τ.length := by simp [spread]
      rw [hlen] at h4
      have h5 := ARun.fz (spread_fz (n := τ.length) (live := ht.loop r) hz) h4
      have hd := spread_dim (ht.loop r) τ'
      rw [h1] at hd
      refine (ARun.dim hd h5).mono fun e τ1 L1 ⟨g1, g2⟩ => ?_
      cases e with
      | normal =>
        obtain ⟨m', vs3, L3, k1, k2, k3⟩ := g2
        exact ⟨m', k1, g1, vs3, L3, k2, k3⟩
      | exit id => exact ⟨g1, g2⟩
      | ret => exact ⟨g1, g2⟩
  | .rangeFunc .., _, _, _, _, _, h => h.elim
  | .scope _, _, _, _, _, _, h => h.elim
  | .goto _, _, _, _, _, _, h => h.elim
  | .refuse _, _, _, _, _, _, h => h.elim
theorem res_ok {τ : List AV} {L : SH} {H : Heap} {Q : AV → SH → Prop} (hs : Sub L H) : ∀ (rs : List ResultVar) (vs : List AV), W.res P rs τ L vs Q → ∃ us, allSome (rs.map (resultA P τ H)) = some us ∧ Q (W.pack (vs.reverse ++ us)) L
  | [], vs, h => ⟨[], rfl, by simpa [W.res] using h⟩
  | .tmp t :: rs, vs, h => by
    obtain ⟨us, h1, h2⟩ := res_ok hs rs _ h
    refine ⟨τ.getD t undefA :: us, ?_, by simpa using h2⟩
    simp only [List.map_cons, resultA, allSome, h1]
  | .cell a t :: rs, vs, h => by
    simp only [W.res] at h
    split at h
    · rename_i ag n hag hn
      obtain ⟨v, g1, g2⟩ := load_ok hs hag hn h.h
      obtain ⟨us, h1, h2⟩ := res_ok hs rs _ g2
      refine ⟨v :: us, ?_, by simpa using h2⟩
      simp only [List.map_cons, resultA, g1, allSome, h1]
    · exact h.elim
/-- a function, by what its body demands -/
theorem func_sound (fit : Fit P F) {f : FuncId} {fn : Func} {c : Code} {args : List AV} {L : SH} {Q : AV → SH → Prop} (hf : P.funcs[f]? = some fn) (hb : fn.body = some c) (h : W.func P F ht fn c args L Q) : CallA P f args L Q := by
  refine ⟨⟨fn, c, hf, hb⟩, fun H hB hs => ?_⟩
  obtain ⟨e, τ', H', L', k1, k2, k3, k4⟩ := code_sound fit c _ L _ _ _ h H hB hs
  have hres : (e = .normal ∨ e = .ret) ∧ W.res P fn.results.toList τ' L' [] Q := by
    cases e with
    | normal => exact ⟨.inl rfl, k4⟩
    | ret => exact ⟨.inr rfl, k4⟩
    | exit id => exact k4.elim
  obtain ⟨he, hr⟩ := hres
  obtain ⟨us, r1, r2⟩ := res_ok k2.sub _ _ hr
  have hv : resultsA P τ' H' fn.results.toList = some (W.pack us) := by
    unfold resultsA
    rw [r1]
    match us with
    | [] => rfl
    | [v] => rfl
    | v :: u :: l => rfl
  simp only [List.reverse_nil, List.nil_append] at r2
  refine ⟨_, H', L', fun w σ vs hW hvs => ?_, k2, r2⟩
  refine calls_of_wp hf hb (k1.2 w σ _ hW ⟨⟨by simp [hvs.1], fun i x u h1 h2 => ?_⟩, rfl⟩ _ fun a' w' haf => ?_)
  · simp only [Array.toList_append, Array.toList_replicate] at h2
    rcases Nat.lt_or_ge i args.length with hi | hi
    · rw [List.getElem?_append_left hi] at h1
      rw [List.getElem?_append_left (by rw [← hvs.1]; exact hi)] at h2
      exact hvs.2 i x u h1 h2
    · rw [List.getElem?_append_right hi, List.getElem?_replicate] at h1
      rw [List.getElem?_append_right (by rw [← hvs.1]; exact hi), List.getElem?_replicate] at h2
      split at h1
      · split at h2
        · cases h1; cases h2; exact undef_rep
        · cases h2
      · cases h1
  · obtain ⟨σ', t1, g1, e1, m1⟩ := haf
    obtain ⟨v', q1, q2⟩ := results_sound (P := P) g1 t1 hv
    have hpost : a'.defers = [] ∧ ∃ v, (results fn a'.tmps).run P w' = .ok v w' ∧ ∃ v' σ', Ending.returned v = .returned v' ∧ Rep w' σ' (Own σ' H') _ v' ∧ WRel w' σ' H' ∧ Ext w σ (Own σ H) w' σ' (Own σ' H') ∧ ∀ c pl, σ' c = some pl → σ c = some pl ∨ H.next ≤ c :=
      ⟨t1.2, v', q1, v', σ', rfl, q2, g1, e1, m1⟩
    rcases he with rfl | rfl
    · exact hpost
    · exact hpost
end
end Go.Proofs.Ytdaejmkoenhbkaa.Am
