/- AM, part 38: words for memory that is being built: slices in blocks of their own, loops. -/
import Derived.Test.YtdaejmkoenhbkaaDat
namespace Go.Proofs.Ytdaejmkoenhbkaa.Am
set_option maxRecDepth 100000
set_option linter.unusedSimpArgs false
set_option linter.unusedVariables false
/-- a slice that reads as a list -/
theorem Fz.slm {α : Type} {K : SH} {b n size : Nat} {l : List α} {f g : α → List AV} {rows : List (List AV)} (hm : (b, ⟨size, rows⟩) ∈ K) (hr : rows = l.map f) (hs : 0 < size) (hn : n = l.length) (hl : ∀ y ∈ l, (f y).length = (g y).length)
    (hc : ∀ y ∈ l, ∀ (q : Nat) (a a2 : AV), (f y)[q]? = some a → (g y)[q]? = some a2 → Fz K a a2) : Fz K (.sl b 0 n) (.lst (l.map g)) := by
  subst hr
  subst hn
  cases l with
  | nil => exact .sl0 b 0
  | cons x l =>
    have get : ∀ (j : Nat) (r r2 : List AV), ((x :: l).map f)[0 + j]? = some r → ((x :: l).map g)[j]? = some r2 → ∃ y ∈ x :: l, r = f y ∧ r2 = g y := fun j r r2 h1 h2 => by
      rw [Nat.zero_add, List.getElem?_map] at h1
      rw [List.getElem?_map] at h2
      cases hj : (x :: l)[j]? with
      | none => rw [hj] at h1; cases h1
      | some y =>
        rw [hj] at h1 h2
        cases h1; cases h2
        exact ⟨y, List.mem_of_getElem? hj, rfl, rfl⟩
    refine .sl b 0 _ ⟨size, (x :: l).map f⟩ _ hm hs (by simp) (by simp) (by simp) (fun j r r2 h1 h2 => ?_) (fun j r r2 q a a2 h1 h2 h3 h4 => ?_)
    · obtain ⟨y, hy, rfl, rfl⟩ := get j r r2 h1 h2; exact hl y hy
    · obtain ⟨y, hy, rfl, rfl⟩ := get j r r2 h1 h2; exact hc y hy q a a2 h3 h4
theorem Fz.sls {α : Type} {K : SH} {b n size : Nat} {l : List α} {f : α → List AV} {rows : List (List AV)} (hm : (b, ⟨size, rows⟩) ∈ K) (hr : rows = l.map f) (hs : 0 < size) (hn : n = l.length) : Fz K (.sl b 0 n) (.lst (l.map f)) :=
  Fz.slm hm hr hs hn (fun _ _ => rfl) fun y _ q a a2 h1 h2 => by rw [h1] at h2; cases h2; exact .refl _
/-- cell by cell -/
inductive FzL (K : SH) : List AV → List AV → Prop where
  | nil : FzL K [] []
  | cons {a b : AV} {l m : List AV} : Fz K a b → FzL K l m → FzL K (a :: l) (b :: m)
theorem FzL.at_ {K : SH} {l m : List AV} (h : FzL K l m) : l.length = m.length ∧ ∀ (i : Nat) (a b : AV), l[i]? = some a → m[i]? = some b → Fz K a b := by
  induction h with
  | nil => exact ⟨rfl, fun i a b h => by simp at h⟩
  | cons h1 h2 ih =>
    refine ⟨by simp [ih.1], fun i a b ha hb => ?_⟩
    match i with
    | 0 => cases ha; cases hb; exact h1
    | i + 1 => exact ih.2 i a b (by simpa using ha) (by simpa using hb)
theorem Fz.aggs {K : SH} {l m : List AV} (h : FzL K l m) : Fz K (.agg l) (.agg m) := .agg l m h.at_.1 h.at_.2
theorem Fz.tups {K : SH} {l m : List AV} (h : FzL K l m) : Fz K (.tup l) (.tup m) := .tup l m h.at_.1 h.at_.2
theorem FzS.all {L : SH} {v v2 : AV} (h : Fz L v v2) : FzS [v] L [v2] [] := .drop (K := L) (R := []) (by simp) rfl fun i a a2 h1 h2 => by
  match i with
  | 0 => cases h1; cases h2; exact h
  | i + 1 => simp at h1
theorem rep_set {α : Type} (i n : Nat) (A B : α) (h : i < n) : (List.replicate i A ++ List.replicate (n - i) B).set i A = List.replicate (i + 1) A ++ List.replicate (n - (i + 1)) B := by
  rw [List.set_append_right _ _ (by simp), List.length_replicate, Nat.sub_self]
  obtain ⟨k, hk⟩ : ∃ k, n - i = k + 1 := ⟨n - i - 1, by omega⟩
  rw [hk, List.replicate_succ, List.set_cons_zero, show n - (i + 1) = k by omega, List.replicate_succ', List.append_assoc, List.singleton_append]
theorem rep_get {α : Type} (i n : Nat) (A B : α) (h : i < n) : (List.replicate i A ++ List.replicate (n - i) B)[i]? = some B := by
  rw [List.getElem?_append_right (by simp), List.length_replicate, Nat.sub_self]
  obtain ⟨k, hk⟩ : ∃ k, n - i = k + 1 := ⟨n - i - 1, by omega⟩
  rw [hk, List.replicate_succ]; rfl
/-- a slice that has no room as long as nothing was appended to it -/
def slotV : Option Nat → Nat → AV
  | none, _ => .emp
  | some b, n => .sl b 0 n
def slotB (o : Option Nat) (size : Nat) (rows : List (List AV)) : SH := match o with
  | none => []
  | some b => [(b, ⟨size, rows⟩)]
theorem Del.app {b : Nat} {x : Blk} {L L' : SH} (h : Del b x L L') : ∀ M : SH, Del b x (M ++ L) (M ++ L')
  | [] => h
  | p :: M => .there p (h.app M)
theorem a_app_slot (M : SH) {KL : AV → SH → Prop} {o : Option Nat} {i n by_ bX : Nat} {R : SH} {rows m : List (List AV)} {k : Nat} (hr : rows.length = i) (h0 : o = none → rows = []) (hk : k = m.length) (hm : 0 < m.length) (h2 : 2 * (i + m.length) * by_ ≤ 2 ^ 48) (h3 : 2 * (i + m.length) ≤ 2 ^ 62) (h4 : (m.all fun r => r.all AV.one) = true)
    (h : ∀ b, KL (.sl b 0 (i + m.length)) ((b, ⟨n, rows ++ m⟩) :: (bX, ⟨n, m⟩) :: (M ++ R))) : W.append n by_ (slotV o i) (.sl bX 0 k) ((bX, ⟨n, m⟩) :: (M ++ (slotB o n rows ++ R))) KL := by
  subst hk
  cases o with
  | none =>
    have hr0 := h0 rfl
    subst hr0
    simp only [List.length_nil] at hr
    subst hr
    have := a_app_e (KL := KL) (L := (bX, ⟨n, m⟩) :: (M ++ R)) (by_ := by_) (rowsR_s (.head _) rfl rfl) (by simpa using h2) (by simpa using h3) h4 (by show m.length ≠ 0; omega) (fun b _ => by simpa using h b)
    exact this
  | some b =>
    subst hr
    exact a_app_s (y := ⟨n, rows⟩) (l := rows) (by simp [slotB]) rfl (by simp) (by simp) (rowsR_s (.head _) rfl rfl) h2 h3 h4 (.there _ (Del.app (.here R) M)) (fun b' _ => h b')
theorem perm_rot2 {α : Type} (x y u z : α) (R : List α) : (x :: y :: u :: z :: R).Perm ([y, u] ++ (z :: ([x] ++ R))) := (List.Perm.swap y x _).trans (((List.Perm.swap u x _).trans ((List.Perm.swap z x R).cons u)).cons y)
theorem perm_rot {α : Type} (x y z : α) (R : List α) : (x :: y :: z :: R).Perm ([y] ++ (z :: ([x] ++ R))) := (List.Perm.swap y x _).trans ((List.Perm.swap z x R).cons y)
/-- a list of blocks, without some -/
theorem FzS.forget {vs : List AV} {L K R : SH} (hL : L.Perm (K ++ R)) : FzS vs L vs R := .drop hL rfl fun i a a2 h1 h2 => by rw [h1] at h2; cases h2; exact .refl _
/-- the cells of a box are read anew -/
theorem FzS.box {vs : List AV} {L K R : SH} {b n : Nat} {r r' : List AV} (hL : L.Perm (K ++ (b, ⟨n, [r]⟩) :: R)) (hr : FzL K r r') : FzS vs L vs ((b, ⟨n, [r']⟩) :: R) := by
  refine ⟨K, (b, ⟨n, [r]⟩) :: R, hL, ⟨rfl, fun i a a2 h1 h2 => by rw [h1] at h2; cases h2; exact .refl _⟩, rfl, fun i p q h1 h2 => ?_⟩
  match i with
  | 0 =>
    cases h1; cases h2
    refine ⟨rfl, rfl, rfl, fun j s s2 g1 g2 => ?_⟩
    match j with
    | 0 => cases g1; cases g2; exact ⟨hr.at_.1, hr.at_.2⟩
    | j + 1 => simp at g1
  | i + 1 =>
    simp only [List.getElem?_cons_succ] at h1 h2
    rw [h1] at h2; cases h2
    exact ⟨rfl, rfl, rfl, fun j r r2 h3 h4 => by rw [h3] at h4; cases h4; exact ⟨rfl, fun k a a2 h5 h6 => by rw [h5] at h6; cases h6; exact .refl _⟩⟩
theorem Fz.slot {α : Type} {o : Option Nat} {size : Nat} {l : List α} {f g : α → List AV} {rows : List (List AV)} (hr : rows = l.map f) (h0 : o = none → rows = []) (hs : 0 < size) (hl : ∀ y ∈ l, (f y).length = (g y).length)
    (hc : ∀ y ∈ l, ∀ (q : Nat) (a a2 : AV), (f y)[q]? = some a → (g y)[q]? = some a2 → Fz (slotB o size rows) a a2) : Fz (slotB o size rows) (slotV o l.length) (.lst (l.map g)) := by
  cases o with
  | none =>
    have := h0 rfl
    subst hr
    have : l = [] := by simpa using this
    subst this
    exact .emp
  | some b => exact Fz.slm (List.mem_singleton.2 rfl) hr hs rfl hl hc
/-- a loop, over states that are described by a number and something more -/
theorem loop_ex {β : Type} (n : Nat) (S : Nat → β → List AV × SH) (G : Nat → β → Prop) {B : List AV → SH → W.Kn → Prop} {vs : List AV} {L : SH} (b0 : β) (h0 : G 0 b0) (hz : FzS vs L (S 0 b0).1 (S 0 b0).2)
    (h : ∀ i o, i ≤ n → G i o → B (S i o).1 (S i o).2 fun vs' L' => ∃ j o', i < j ∧ j ≤ n ∧ G j o' ∧ FzS vs' L' (S j o').1 (S j o').2) : W.loop B vs L := by
  refine ⟨fun k vs L => ∃ i o, i ≤ n ∧ G i o ∧ k = n - i ∧ vs = (S i o).1 ∧ L = (S i o).2, ⟨n, _, _, hz, 0, b0, Nat.zero_le _, h0, rfl, rfl, rfl⟩, ?_⟩
  rintro k vs L ⟨i, o, hi, hG, rfl, rfl, rfl⟩
  have e : (fun vs' L' => ∃ m vs2 L2, m < n - i ∧ FzS vs' L' vs2 L2 ∧ ∃ j o', j ≤ n ∧ G j o' ∧ m = n - j ∧ vs2 = (S j o').1 ∧ L2 = (S j o').2) = fun vs' L' => ∃ j o', i < j ∧ j ≤ n ∧ G j o' ∧ FzS vs' L' (S j o').1 (S j o').2 := by
    funext vs' L'
    apply propext
    constructor
    · rintro ⟨m, vs2, L2, h1, h2, j, o', h3, h4, rfl, rfl, rfl⟩; exact ⟨j, o', by omega, h3, h4, h2⟩
    · rintro ⟨j, o', h1, h2, h3, h4⟩; exact ⟨n - j, _, _, by omega, h4, j, o', h2, h3, rfl, rfl, rfl⟩
  rw [e]
  exact h i o hi hG
end Go.Proofs.Ytdaejmkoenhbkaa.Am
