/- ObjectAny: all functions return what is specified for every event in every state of a world, also in states that are never reached: the law returns true for every state and number. -/
import Derived.Test.YtadjimfkfmojkaaQ6f
import Derived.Test.YtadjimfkfmojkaaChecked
import Derived.OpenShut
set_option linter.unusedSimpArgs false
set_option linter.unusedVariables false
section
namespace Go.Proofs.Ytadjimfkfmojkaa.Am
open Go.ChangeShapes Go.WideShapes Go.ChangeAt Go.RowKit
set_option linter.unusedVariables false
def sig0 : Sig := ⟨fun _ => none, fun _ => False⟩
def tok0 : Nat → Prop := fun _ => False
/-- cells that read as the cells of a datum -/
def rAM {α : Type} (e : α → List AV) (G : α → Prop) : Rel α := fun w _ x cs => G x ∧ Reps w sig0 tok0 (e x) cs
theorem reps_one {w : World} {σ : Sig} {T : Nat → Prop} {a : AV} {v : Value} (h : Rep w σ T a v) : Reps w σ T [a] [v] := ⟨rfl, fun i x u h1 h2 => by
  match i with
  | 0 => cases h1; cases h2; exact h
  | i + 1 => simp at h1⟩
theorem reps_cons {w : World} {σ : Sig} {T : Nat → Prop} {a : AV} {v : Value} {l : List AV} {m : List Value} (h : Reps w σ T [a] [v]) (hl : Reps w σ T l m) : Reps w σ T (a :: l) (v :: m) := ⟨by simp [hl.1], fun i x u h1 h2 => by
  match i with
  | 0 => exact h.2 0 x u h1 h2
  | i + 1 => exact hl.2 i x u (by simpa using h1) (by simpa using h2)⟩
theorem reps_nil {w : World} {σ : Sig} {T : Nat → Prop} : Reps w σ T [] [] := ⟨rfl, fun i x u h1 h2 => by simp at h1⟩
section
variable {H : Type} {enc : TypeId × Value → H} {P : Program} {w : World} {base : Nat} {spare : Nat → Bool} {held : Bool}
theorem am_int {t : TypeId} {k : IntKind} (ht : P.underlying t = some (.int k)) : Opens H enc P w base spare held t (rAM (fun n : Int => [.int k n]) fun n => (Lit.int k n).wf = true) := fun fuel cs x h => by
  obtain ⟨n, rfl, hn⟩ := opens_int ht fuel cs x h
  exact ⟨n, hn, reps_one (.int k n)⟩
theorem am_bool {t : TypeId} (ht : P.underlying t = some .bool) : Opens H enc P w base spare held t (rAM (fun b : Bool => [.bool b]) fun _ => True) := fun fuel cs x h => by
  obtain ⟨n, rfl⟩ := opens_bool ht fuel cs x h
  exact ⟨n, trivial, reps_one (.bool n)⟩
theorem am_slice {α : Type} {t e : TypeId} {size : Nat} {f : α → List AV} {G : α → Prop} (ht : P.underlying t = some (.slice e)) (hc : P.cellsOf e = size) (hs : 0 < size) (he : Opens H enc P w base spare held e (rAM f G)) :
    Opens H enc P w base spare held t (rAM (fun l : List α => [.lst (l.map f)]) fun l => l.length ≤ maxLen ∧ ∀ x ∈ l, G x) := fun fuel cs x h => by
  obtain ⟨l, A, c, rfl, h1, h2, h3⟩ := opens_slice ht hc hs he fuel cs x h
  refine ⟨l, ⟨by omega, fun x hx => ?_⟩, reps_one ?_⟩
  · obtain ⟨i, hi, rfl⟩ := List.getElem_of_mem hx
    obtain ⟨b, o, _, _, hall⟩ := h3 (by omega)
    obtain ⟨cs', _, hR, _⟩ := hall i l[i] (List.getElem?_eq_getElem hi)
    exact hR.1
  · rcases Nat.eq_zero_or_pos l.length with h0 | h0
    · have : l = [] := List.length_eq_zero_iff.1 h0
      subst this
      exact .lst0 A c h2
    · obtain ⟨b, o, rfl, hb, hall⟩ := h3 h0
      have := Rep.lst (w := w) (σ := sig0) (T := tok0) (l.map f) b o size c ⟨fun h => h, fun i r hr => ?_, fun i j hi hj => ?_, hs, by simpa using h0⟩ (by simpa using h1) h2 (fun i r j a u hr ha hu => ?_)
      · simpa using this
      · rw [List.getElem?_map] at hr
        cases hx : l[i]? with
        | none => rw [hx] at hr; cases hr
        | some y =>
          rw [hx] at hr; cases hr
          obtain ⟨cs', k1, k2, _⟩ := hall i y hx
          rw [k2.2.1, k1]
      · have hi' : i < l.length := by simpa using hi
        obtain ⟨cs', k1, k2, k3⟩ := hall i l[i] (List.getElem?_eq_getElem hi')
        exact ⟨cs'[j], k3 j _ (List.getElem?_eq_getElem (by omega))⟩
      · rw [List.getElem?_map] at hr
        cases hx : l[i]? with
        | none => rw [hx] at hr; cases hr
        | some y =>
          rw [hx] at hr; cases hr
          obtain ⟨cs', k1, k2, k3⟩ := hall i y hx
          have hj : j < cs'.length := by rw [← k2.2.1]; exact lt_of_some ha
          have hu' := k3 j _ (List.getElem?_eq_getElem hj)
          rw [hu] at hu'
          cases hu'
          exact k2.2.2 j a _ ha (List.getElem?_eq_getElem hj)
/-- a struct of single cells -/
theorem am_cells {t : TypeId} {fs : Array Field} (tys : List TypeId) {fuel : Nat} {cs : List Value} {x : DataW H × List MemPlace} (ht : P.underlying t = some (.struct fs)) (h : DataW.trod enc P w base spare held fuel t cs = some x)
    (hf : fs.toList.map (fun f => (f.type, f.offset)) = tys.zipIdx) (hc : tys.all (fun ty => P.cellsOf ty == 1) = true) (hn : P.cellsOf t = tys.length) :
    cs.length = tys.length ∧ ∀ (i : Nat) (ty : TypeId), tys[i]? = some ty → ∃ c m y, cs[i]? = some c ∧ DataW.trod enc P w base spare held m ty [c] = some y := by
  obtain ⟨hl, hall⟩ := opens_fields ht h
  rw [hn] at hl
  refine ⟨hl, fun i ty hi => ?_⟩
  have hlt := lt_of_some hi
  have hci : i < cs.length := by omega
  obtain ⟨m, y, hy⟩ := hall i ty i 1 [cs[i]] (by
    have := congrArg (fun l => l[i]?) hf
    simp only [List.getElem?_map, List.getElem?_zipIdx, hi, Array.getElem?_toList] at this
    simpa using this) (by rw [List.all_eq_true] at hc; simpa using hc ty (List.mem_of_getElem? hi)) (by rw [List.drop_eq_getElem_cons hci]; rfl)
  exact ⟨cs[i], m, y, List.getElem?_eq_getElem hci, hy⟩
end
/-- A law that is true over the empty heap, in the model. -/
theorem law_calls {P : Program} {f : FuncId} {args : List AV} {vs : List Value} (h : PureA P f args (.bool true)) (w : World) (hv : Reps w sig0 tok0 args vs) : Calls P f vs.toArray w fun e w' => e = .returned (.bool true) ∧ Below w.heap.size w w' := by
  obtain ⟨v, H', L', h1, h2, rfl, rfl⟩ := h.2 Heap.empty (fun b _ => empty_get b) ⟨List.nodup_nil, fun p hp => by simp at hp⟩
  have hown : Own sig0 Heap.empty = tok0 := by
    funext c
    apply propext
    constructor
    · rintro (h | ⟨b, x, pl, h4, _, _⟩)
      · exact h
      · rw [empty_get] at h4; cases h4
    · exact fun h => h.elim
  have hW : WRel w sig0 Heap.empty := ⟨fun b pl hb => (by cases hb), fun b pl hb => (by cases hb), fun b x hb => (by rw [empty_get] at hb; cases hb), fun c hc => hc.elim, fun b b' x x' pl pl' hb => (by rw [empty_get] at hb; cases hb)⟩
  refine (h1 w sig0 vs hW (by rw [hown]; exact hv)).mono ?_
  rintro e w' ⟨v', σ', rfl, k1, k2, k3, _⟩
  cases k1
  rw [hown] at k3
  exact ⟨rfl, k3.os, k3.tape, k3.output, k3.size, fun k hk => k3.keep k hk fun h => h⟩
end Go.Proofs.Ytadjimfkfmojkaa.Am

end
section
namespace Go.Proofs.Ytadjimfkfmojkaa.Am
set_option linter.unusedVariables false
set_option linter.unusedSimpArgs false
set_option maxRecDepth 100000
theorem a_convE {k k' : IntKind} {n m : Int} {K : AV → Prop} (e : k.wrap n = m) (h : K (.int k m)) : W.conv k (.int k' n) K := a_conv (by rw [e]; exact h)
end Go.Proofs.Ytadjimfkfmojkaa.Am

end
section
namespace Go.Proofs.Ytadjimfkfmojkaa.Am
set_option linter.unusedVariables false
set_option linter.unusedSimpArgs false
set_option maxRecDepth 100000
theorem i8_nn {x : Int} (h : (Lit.int .i8 x).wf = true) : -128 ≤ x ∧ x < 128 := by
  simp only [Lit.wf, Bool.and_eq_true, decide_eq_true_eq] at h
  have h1 : IntKind.i8.min = -128 := by decide
  have h2 : IntKind.i8.max = 127 := by decide
  omega
end Go.Proofs.Ytadjimfkfmojkaa.Am

end
section
namespace Go.Proofs.Ytadjimfkfmojkaa.Am
set_option linter.unusedVariables false
set_option linter.unusedSimpArgs false
set_option maxRecDepth 100000
set_option linter.unusedSectionVars false
theorem lockX_rd (x : StD) (i : Nat) : (lockX x i).readers.length ≤ 4 := by simp [lockX]; omega
theorem sync_rd (x : StD) : ∀ l ∈ (syncS x).locks, l.readers.length < 2 ^ 40 := fun l hl => by
  obtain ⟨i, _, rfl⟩ := List.mem_map.1 hl
  have := lockX_rd x i
  omega
theorem sync_small (x : StD) : Small W0 (syncS x) := ⟨by decide, by simp [syncS], by simp [syncS], by simp [syncS], sync_rd x⟩
theorem sync_smallS (x : StD) : SmallS (syncS x) := ⟨by simp [syncS], by simp [syncS], by simp [syncS], sync_rd x⟩
structure LenLe (s : SyncD) (a b c d : Nat) : Prop where
  l : s.locks.length ≤ a
  dn : s.done.length ≤ b
  t : s.threads.length ≤ c
  r : ∀ x ∈ s.locks, x.readers.length ≤ d
theorem lock_le {s : SyncD} {a b c d : Nat} (h : LenLe s a b c d) (o : Int) : (lockAt s o).readers.length ≤ d := by
  unfold lockAt
  rcases Nat.lt_or_ge o.toNat s.locks.length with hi | hi
  · rw [show s.locks.getD o.toNat default = s.locks[o.toNat] by simp [hi]]; exact h.r _ (List.getElem_mem hi)
  · rw [show s.locks.getD o.toNat default = default by simp [List.getD, List.getElem?_eq_none hi]]; exact Nat.zero_le _
theorem setLock_le {s : SyncD} {a b c d : Nat} (h : LenLe s a b c d) (o : Int) (f : LockD → LockD) (hf : (f (lockAt s o)).readers.length ≤ d + 1) : ∀ x ∈ setLock s o f, x.readers.length ≤ d + 1 := fun x hx => by
  rcases List.mem_or_eq_of_mem_set hx with h1 | h1
  · have := h.r x h1; omega
  · rw [h1]; exact hf
theorem addRd_len (l : List Int) (t : Int) : (addRd l t).length ≤ l.length + 1 := by
  have := compact_len (srt (l ++ [t]))
  rw [srt_len] at this
  unfold addRd
  simp at this
  exact this
theorem apply_len {w : WorldD} {s : SyncD} {a b c d : Nat} (h : LenLe s a b c d) (t k o wake : Int) : LenLe (applyS w s t k o wake).1 a b c (d + 1) := by
  have same : LenLe s a b c (d + 1) := ⟨h.l, h.dn, h.t, fun x hx => Nat.le_succ_of_le (h.r x hx)⟩
  have thr : ∀ th : List ThrD, th.length = s.threads.length → LenLe { s with threads := th } a b c (d + 1) := fun th e => ⟨h.l, h.dn, by show th.length ≤ c; rw [e]; exact h.t, same.r⟩
  have lk : ∀ (o : Int) (f : LockD → LockD), (f (lockAt s o)).readers.length ≤ d + 1 → LenLe { s with locks := setLock s o f } a b c (d + 1) := fun o f hf => ⟨by show (setLock s o f).length ≤ a; rw [setLock_len]; exact h.l, h.dn, h.t, setLock_le h o f hf⟩
  have lkt : ∀ (o : Int) (f : LockD → LockD) (th : List ThrD), (f (lockAt s o)).readers.length ≤ d + 1 → th.length = s.threads.length → LenLe { s with locks := setLock s o f, threads := th } a b c (d + 1) := fun o f th hf e => ⟨by show (setLock s o f).length ≤ a; rw [setLock_len]; exact h.l, h.dn, by show th.length ≤ c; rw [e]; exact h.t, setLock_le h o f hf⟩
  have le := fun o => Nat.le_succ_of_le (lock_le h o)
  unfold applyS
  refine iteInduction (motive := fun x : SyncD × Int => LenLe x.1 a b c (d + 1)) (fun _ => thr _ setThr_len) (fun _ => ?_)
  refine iteInduction (motive := fun x : SyncD × Int => LenLe x.1 a b c (d + 1)) (fun _ => thr _ setThr_len) (fun _ => ?_)
  refine iteInduction (motive := fun x : SyncD × Int => LenLe x.1 a b c (d + 1)) (fun _ => lk o _ (le o)) (fun _ => ?_)
  refine iteInduction (motive := fun x : SyncD × Int => LenLe x.1 a b c (d + 1)) (fun _ => lk o _ (le o)) (fun _ => ?_)
  refine iteInduction (motive := fun x : SyncD × Int => LenLe x.1 a b c (d + 1)) (fun _ => lk o _ (Nat.le_trans (addRd_len _ _) (Nat.succ_le_succ (lock_le h o)))) (fun _ => ?_)
  refine iteInduction (motive := fun x : SyncD × Int => LenLe x.1 a b c (d + 1)) (fun _ => lk o _ (Nat.le_trans (List.length_filter_le _ _) (le o))) (fun _ => ?_)
  refine iteInduction (motive := fun x : SyncD × Int => LenLe x.1 a b c (d + 1)) (fun _ => ⟨h.l, h.dn, h.t, same.r⟩) (fun _ => ?_)
  refine iteInduction (motive := fun x : SyncD × Int => LenLe x.1 a b c (d + 1)) (fun _ => ⟨h.l, h.dn, h.t, same.r⟩) (fun _ => ?_)
  refine iteInduction (motive := fun x : SyncD × Int => LenLe x.1 a b c (d + 1)) (fun _ => thr _ setThr_len) (fun _ => ?_)
  refine iteInduction (motive := fun x : SyncD × Int => LenLe x.1 a b c (d + 1)) (fun _ => thr _ setThr_len) (fun _ => ?_)
  refine iteInduction (motive := fun x : SyncD × Int => LenLe x.1 a b c (d + 1)) (fun _ => lkt _ _ _ (le _) setThr_len) (fun _ => ?_)
  refine iteInduction (motive := fun x : SyncD × Int => LenLe x.1 a b c (d + 1)) (fun _ => lkt _ _ _ (le _) setThr_len) (fun _ => ?_)
  refine iteInduction (motive := fun x : SyncD × Int => LenLe x.1 a b c (d + 1)) (fun _ => thr _ (woken_len _ _ _)) (fun _ => ?_)
  refine iteInduction (motive := fun x : SyncD × Int => LenLe x.1 a b c (d + 1)) (fun _ => thr _ (wakeAll_len _ _ _)) (fun _ => ?_)
  refine iteInduction (motive := fun x : SyncD × Int => LenLe x.1 a b c (d + 1)) (fun _ => thr _ setThr_len) (fun _ => ?_)
  refine iteInduction (motive := fun x : SyncD × Int => LenLe x.1 a b c (d + 1)) (fun _ => ⟨h.l, by simpa using h.dn, h.t, same.r⟩) (fun _ => same)
theorem res_len {w : WorldD} {s : SyncD} {a b c d : Nat} (h : LenLe s a b c d) (t k o wake : Int) : LenLe (resS w s t k o wake).1 a b c (d + 1) := by
  unfold resS
  split
  · exact apply_len h t k o wake
  · exact ⟨Nat.zero_le _, Nat.zero_le _, Nat.zero_le _, fun x hx => by cases hx⟩
theorem len_small {s : SyncD} {a b c d : Nat} (h : LenLe s a b c d) (ha : a < 2 ^ 40) (hb : b < 2 ^ 40) (hc : c < 2 ^ 40) (hd : d < 2 ^ 40) : SmallS s := ⟨Nat.lt_of_le_of_lt h.l ha, Nat.lt_of_le_of_lt h.dn hb, Nat.lt_of_le_of_lt h.t hc, fun x hx => Nat.lt_of_le_of_lt (h.r x hx) hd⟩
theorem res_en (w : WorldD) (s : SyncD) (t k o wake : Int) : (resS w s t k o wake).2.2 = enabledS w s t k o := by
  unfold resS
  cases enabledS w s t k o <;> rfl
section
variable (x : StD) (wake : Int) (hw0 : IntKind.i64.wrap wake = wake) (Q : AV → SH → Prop)
include hw0
theorem any_l3 (t k : Int) (nx : W.Kn) (hnx : nx [.int .i8 wake, .pptr [x.enc] 0 0, .pptr [W0.enc] 0 0, .pptr [(syncS x).enc] 0 0, .int .i64 t, .int .i64 (IntKind.i64.wrap (k + 1))] []) :
    W.loop (law08_ObjectAny_l3 Q nx) [.int .i8 wake, .pptr [x.enc] 0 0, .pptr [W0.enc] 0 0, .pptr [(syncS x).enc] 0 0, .int .i64 t, .int .i64 k, .int .i64 (-1)] [] := by
  refine for_by 5 (fun i => ([.int .i8 wake, .pptr [x.enc] 0 0, .pptr [W0.enc] 0 0, .pptr [(syncS x).enc] 0 0, .int .i64 t, .int .i64 k, .int .i64 ((i : Int) - 1)], [])) (fun _ => True) trivial rfl rfl ?_
  intro i hi _
  dsimp only
  unfold law08_ObjectAny_l3
  have hi1 : IntKind.i64.wrap ((i : Int) - 1 + 1) = ((i + 1 : Nat) : Int) - 1 := by rw [IntWalk.i64_in _ (by omega)]; omega
  obtain ⟨o, ho⟩ : ∃ o : Int, o = (i : Int) - 1 := ⟨_, rfl⟩
  rw [← ho] at hi1 ⊢
  rcases Nat.lt_or_ge i 5 with g1 | g1
  · have hd : decide (o ≤ 3) = true := decide_eq_true (by omega)
    have fin : ∃ j, i < j ∧ j ≤ 5 ∧ True ∧ FzS [.int .i8 wake, .pptr [x.enc] 0 0, .pptr [W0.enc] 0 0, .pptr [(syncS x).enc] 0 0, .int .i64 t, .int .i64 k, .int .i64 (IntKind.i64.wrap (o + 1))] [] [.int .i8 wake, .pptr [x.enc] 0 0, .pptr [W0.enc] 0 0, .pptr [(syncS x).enc] 0 0, .int .i64 t, .int .i64 k, .int .i64 ((j : Int) - 1)] [] := ⟨i + 1, by omega, by omega, trivial, fzs_eq (by rw [hi1]) rfl⟩
    have hap1 := apply_ok W0 (syncS x) t k o wake (sync_small x)
    have hap2 := applyR_ok W0 (syncS x) t k o wake (sync_small x)
    have hen := enabled_ok W0 (syncS x) t k o (by decide) (sync_rd x)
    have hb1 := blockers_ok W0 (syncS x) t k o (by decide) (sync_rd x)
    have hb2 := blockersR_ok W0 (syncS x) t k o (by decide) (sync_rd x)
    have hle : LenLe (syncS x) 3 1 3 4 := ⟨by simp [syncS], by simp [syncS], by simp [syncS], fun l hl => by obtain ⟨i, _, rfl⟩ := List.mem_map.1 hl; exact lockX_rd x i⟩
    have hsm := same_ok (resS W0 (syncS x) t k o wake).1 (resS W0 (syncS x) t k o wake).1 (len_small (res_len hle t k o wake) (by decide) (by decide) (by decide) (by decide))
    rw [decide_eq_true rfl] at hsm
    have hbl : (blockersS W0 (syncS x) t k o).length < 2 ^ 62 := by
      unfold blockersS
      split
      · have h1 := compact_len (srt ((rawB W0 (syncS x) t k o).filter fun y => inB y W0.threads.length))
        rw [srt_len] at h1
        have h2 : ((rawB W0 (syncS x) t k o).filter fun y => inB y W0.threads.length).length ≤ (rawB W0 (syncS x) t k o).length := List.length_filter_le _ _
        have h3 : (rawB W0 (syncS x) t k o).length ≤ 5 := by
          have := lock_le hle o
          unfold rawB
          split
          · simp
          split
          · simp; omega
          split
          · simp
          split
          · split <;> simp
          · simp
        unfold asc
        omega
      · decide
    have hsi := sameInts_ok (blockersS W0 (syncS x) t k o) (blockersS W0 (syncS x) t k o) hbl
    rw [decide_eq_true rfl] at hsi
    have hrk := res_en W0 (syncS x) t k o wake
    unfold encR at hap1 hap2
    generalize resS W0 (syncS x) t k o wake = r at *
    obtain ⟨a, v, ok⟩ := r
    dsimp only at hap1 hap2 hsm hrk
    rw [← hrk] at hen
    have dv : decide (v ≠ v) = false := decide_eq_false (fun e => e rfl)
    have nf : (!true) = false := rfl
    clear hrk hle hbl
    generalize blockersS W0 (syncS x) t k o = bl at *
    cases ok <;>
    · repeat' (first | refine a_convE hw0 ?_ | refine neq_bool _ _ ?_ | (refine h_bin ?_; first | refine a_neq ?_ | refine a_leq ?_ | refine a_add ?_) | (refine h_cond ?_; first | refine b_cond_t ?_ | refine b_cond_f ?_) | (refine h_row ?_; refine b_row_q ?_) | (refine h_ext ?_; refine b_ext ?_) | (refine h_calm ?_; refine b_calm ?_) | (refine h_note ?_; refine a_note ?_) | (refine h_pick ?_; refine b_pick_f ?_) | (refine h_dgrd ?_; refine b_dgrd_y ?_) | refine a_mark ?_ | refine a_dmark ?_ | ((with_reducible refine h_fn 26 ?_); refine m_call (hap1) ?_) | ((with_reducible refine h_fn 29 ?_); refine m_call (hap2) ?_) | ((with_reducible refine h_dfn 27 ?_); refine b_dcall (hen) ?_) | ((with_reducible refine h_dfn 35 ?_); refine b_dcall (hb1) ?_) | ((with_reducible refine h_dfn 36 ?_); refine b_dcall (hb2) ?_) | ((with_reducible refine h_dfn 20 ?_); refine b_dcall (hsm) ?_) | ((with_reducible refine h_dfn 34 ?_); refine b_dcall (hsi) ?_) | (refine h_un ?_; refine a_not ?_) | (refine h_frz1 ?_; refine b_frz_p ?_) | (refine h_store ?_; refine b_store_box ?_) | refine a_alloc (fun nb_ hnb_ => ?_) | refine a_tt ?_)
      exact fin
  · have hd : decide (o ≤ 3) = false := decide_eq_false (by omega)
    repeat' (first | (refine h_bin ?_; first | refine a_leq ?_ | refine a_add ?_) | (refine h_cond ?_; refine b_cond_f ?_))
    exact hnx
theorem holdsS_len (s : SyncD) (t : Int) (hl : s.locks.length ≤ 40) : (holdsS W0 s t).1.length < 2 ^ 62 ∧ (holdsS W0 s t).2.length < 2 ^ 62 := by
  unfold holdsS
  split
  · have h1 := wh_len (ownsS s t) s.locks.length
    have h2 := wh_len (readsS s t) s.locks.length
    exact ⟨by show (wh (ownsS s t) s.locks.length).length < _; omega, by show (wh (readsS s t) s.locks.length).length < _; omega⟩
  · exact ⟨by decide, by decide⟩
theorem any_l7 (t : Int) (nx : W.Kn) (hnx : nx [.int .i8 wake, .pptr [x.enc] 0 0, .pptr [W0.enc] 0 0, .pptr [(syncS x).enc] 0 0, .int .i64 (IntKind.i64.wrap (t + 1))] []) :
    W.loop (law08_ObjectAny_l7 Q nx) [.int .i8 wake, .pptr [x.enc] 0 0, .pptr [W0.enc] 0 0, .pptr [(syncS x).enc] 0 0, .int .i64 t, .int .i64 (0 : Nat)] [] := by
  refine for_by 25 (fun i => ([.int .i8 wake, .pptr [x.enc] 0 0, .pptr [W0.enc] 0 0, .pptr [(syncS x).enc] 0 0, .int .i64 t, .int .i64 i], [])) (fun _ => True) trivial rfl rfl ?_
  intro i hi _
  dsimp only
  unfold law08_ObjectAny_l7
  rcases Nat.lt_or_ge i 25 with g1 | g1
  · have hd : decide ((i : Int) ≤ 24) = true := decide_eq_true (by omega)
    have hl := any_l3 x wake hw0 Q t i (fun vs' L' => ∃ j : Nat, i < j ∧ j ≤ 25 ∧ True ∧ FzS vs' L' [.int .i8 wake, .pptr [x.enc] 0 0, .pptr [W0.enc] 0 0, .pptr [(syncS x).enc] 0 0, .int .i64 t, .int .i64 j] []) ⟨i + 1, by omega, by omega, trivial, fzs_eq (by rw [i64_succ g1 (by decide)]) rfl⟩
    repeat' (first | (refine h_bin ?_; refine a_leq ?_) | (refine h_cond ?_; refine b_cond_t ?_))
    exact hl
  · have hd : decide ((i : Int) ≤ 24) = false := decide_eq_false (by omega)
    have hh1 := holds_ok W0 (syncS x) t (by decide) (by simp [syncS]) (sync_rd x)
    have hh2 := holdsR_ok W0 (syncS x) t (by decide) (by simp [syncS]) (sync_rd x)
    obtain ⟨l1, l2⟩ := holdsS_len wake hw0 (syncS x) t (by simp [syncS])
    have s1 := sameInts_ok (holdsS W0 (syncS x) t).1 (holdsS W0 (syncS x) t).1 l1
    have s2 := sameInts_ok (holdsS W0 (syncS x) t).2 (holdsS W0 (syncS x) t).2 l2
    rw [decide_eq_true rfl] at s1 s2
    unfold encH at hh1 hh2
    generalize holdsS W0 (syncS x) t = p at *
    have nf : (!true) = false := rfl
    repeat' (first | (refine h_bin ?_; first | refine a_leq ?_ | refine a_add ?_) | (refine h_cond ?_; refine b_cond_f ?_) | (refine h_row ?_; refine b_row_q ?_) | (refine h_ext ?_; refine b_ext ?_) | (refine h_pick ?_; refine b_pick_f ?_) | (refine h_grd ?_; refine b_grd_y ?_) | refine a_mark ?_ | ((with_reducible refine h_fn 32 ?_); refine m_call (hh1) ?_) | ((with_reducible refine h_fn 33 ?_); refine m_call (hh2) ?_) | ((with_reducible refine h_fn 34 ?_); refine m_call (s1) ?_) | ((with_reducible refine h_fn 34 ?_); refine m_call (s2) ?_) | (refine h_un ?_; refine a_not ?_))
    exact hnx
theorem any_l10 (hq : ∀ L, Q (.bool true) L) : W.loop (law08_ObjectAny_l10 Q) [.int .i8 wake, .pptr [x.enc] 0 0, .pptr [W0.enc] 0 0, .pptr [(syncS x).enc] 0 0, .int .i64 (-1)] [] := by
  refine for_by 5 (fun i => ([.int .i8 wake, .pptr [x.enc] 0 0, .pptr [W0.enc] 0 0, .pptr [(syncS x).enc] 0 0, .int .i64 ((i : Int) - 1)], [])) (fun _ => True) trivial rfl rfl ?_
  intro i hi _
  dsimp only
  unfold law08_ObjectAny_l10
  have hi1 : IntKind.i64.wrap ((i : Int) - 1 + 1) = ((i + 1 : Nat) : Int) - 1 := by rw [IntWalk.i64_in _ (by omega)]; omega
  obtain ⟨o, ho⟩ : ∃ o : Int, o = (i : Int) - 1 := ⟨_, rfl⟩
  rw [← ho] at hi1 ⊢
  rcases Nat.lt_or_ge i 5 with g1 | g1
  · have hd : decide (o ≤ 3) = true := decide_eq_true (by omega)
    have hl := any_l7 x wake hw0 Q o (fun vs' L' => ∃ j : Nat, i < j ∧ j ≤ 5 ∧ True ∧ FzS vs' L' [.int .i8 wake, .pptr [x.enc] 0 0, .pptr [W0.enc] 0 0, .pptr [(syncS x).enc] 0 0, .int .i64 ((j : Int) - 1)] []) ⟨i + 1, by omega, by omega, trivial, fzs_eq (by rw [hi1]) rfl⟩
    repeat' (first | (refine h_bin ?_; refine a_leq ?_) | (refine h_cond ?_; refine b_cond_t ?_))
    exact hl
  · have hd : decide (o ≤ 3) = false := decide_eq_false (by omega)
    have hsm := same_ok (syncS x) (syncS x) (sync_smallS x)
    rw [decide_eq_true rfl] at hsm
    repeat' (first | (refine h_bin ?_; refine a_leq ?_) | (refine h_cond ?_; refine b_cond_f ?_) | (refine h_row ?_; refine b_row_q ?_) | (refine h_calm ?_; refine b_calm ?_) | (refine h_note ?_; refine a_note ?_) | (refine h_pick ?_; refine b_pick_t ?_) | (refine h_dgrd ?_; refine b_dgrd_y ?_) | refine a_dmark ?_ | ((with_reducible refine h_dfn 39 ?_); refine b_dcall (sync_ok x) ?_) | ((with_reducible refine h_dfn 20 ?_); refine b_dcall (hsm) ?_) | ((with_reducible refine h_dfn 23 ?_); refine b_dcall (awake08) ?_) | refine a_tt ?_)
    exact hq _
end
theorem any (x : StD) (wake : Int) (hw : -128 ≤ wake ∧ wake < 128) : PureA Try.prog 12 [.agg x.enc, .int .i8 wake] (.bool true) := by
  refine CallA.fz (law08_ObjectAny_ok _ _ _ _ ?_)
  unfold law08_ObjectAny_w
  have hw0 : IntKind.i64.wrap wake = wake := IntWalk.i64_in _ (by omega)
  generalize hQ : (fun (v : AV) (L : SH) => ∃ v2 L2, FzS [v] L [v2] L2 ∧ v2 = AV.bool true ∧ L2 = []) = Q
  have hq : ∀ L, Q (.bool true) L := by subst hQ; exact fun L => ⟨_, [], FzS.all (.refl _), rfl, rfl⟩
  have hl := any_l10 x wake hw0 Q hq
  repeat' (first | (refine h_row ?_; refine b_row_q ?_) | (refine h_calm ?_; refine b_calm ?_) | (refine h_note ?_; refine a_note ?_) | refine a_dmark ?_ | ((with_reducible refine h_dfn 24 ?_); refine b_dcall (world_ok) ?_) | ((with_reducible refine h_dfn 39 ?_); refine b_dcall (sync_ok x) ?_) | (refine h_box ?_; refine b_box (fun nb_ hnb_ => ?_)) | (refine h_frz1 ?_; refine b_frz_p ?_) | (refine h_store ?_; refine b_store_box ?_) | refine a_alloc (fun nb_ hnb_ => ?_) | refine a_tt ?_)
  exact hl
end Go.Proofs.Ytadjimfkfmojkaa.Am

end
section
namespace Go.Proofs.Ytadjimfkfmojkaa.Am
open Go.ChangeShapes Go.WideShapes Go.ChangeAt Go.RowKit
set_option linter.unusedVariables false
set_option maxRecDepth 10000
def SlotD.enc (s : SlotD) : List AV := [.int .u8 s.st, .int .u8 s.cd, .bool s.at_]
section
variable {H : Type} {enc : TypeId × Value → H} {w : World} {base : Nat} {spare : Nat → Bool} {held : Bool}
theorem reps_app {w : World} {σ : Sig} {T : Nat → Prop} {a b : List AV} {u v : List Value} (h1 : Reps w σ T a u) (h2 : Reps w σ T b v) : Reps w σ T (a ++ b) (u ++ v) := ⟨by simp [h1.1, h2.1], fun i x y hx hy => by
  rcases Nat.lt_or_ge i a.length with h | h
  · rw [List.getElem?_append_left h] at hx
    rw [List.getElem?_append_left (by rw [← h1.1]; exact h)] at hy
    exact h1.2 i x y hx hy
  · rw [List.getElem?_append_right h] at hx
    rw [List.getElem?_append_right (by rw [← h1.1]; exact h), ← h1.1] at hy
    exact h2.2 _ x y hx hy⟩
/-- an array of three -/
theorem am_three {α : Type} {t e : TypeId} {size : Nat} {f : α → List AV} {G : α → Prop} {fuel : Nat} {cs : List Value} {y : DataW H × List MemPlace} (ht : Try.prog.underlying t = some (.array 3 e)) (hc : Try.prog.cellsOf e = size) (hct : Try.prog.cellsOf t = 3 * size)
    (he : Opens H enc Try.prog w base spare held e (rAM f G)) (h : DataW.trod enc Try.prog w base spare held fuel t cs = some y) :
    ∃ a b c, Reps w sig0 tok0 (f a ++ (f b ++ f c)) cs := by
  obtain ⟨xs, m, _, _, hl, hx, hall⟩ := DataW.trod_array ht h
  rw [hct] at hl
  rw [hc] at hall
  have get : ∀ i, i < 3 → ∃ z, DataW.trod enc Try.prog w base spare held m e ((cs.drop (i * size)).take size) = some z := fun i hi => by
    rw [hall i hi]
    exact ⟨xs[i]'(by omega), List.getElem?_eq_getElem _⟩
  obtain ⟨z0, h0⟩ := get 0 (by decide)
  obtain ⟨z1, h1⟩ := get 1 (by decide)
  obtain ⟨z2, h2⟩ := get 2 (by decide)
  obtain ⟨a, ra⟩ := he _ _ _ h0
  obtain ⟨b, rb⟩ := he _ _ _ h1
  obtain ⟨c, rc⟩ := he _ _ _ h2
  have hcs : cs = (cs.drop (0 * size)).take size ++ ((cs.drop (1 * size)).take size ++ (cs.drop (2 * size)).take size) := by
    rw [Nat.zero_mul, List.drop_zero, Nat.one_mul]
    have e1 : (cs.drop (2 * size)).take size = cs.drop (2 * size) := List.take_of_length_le (by rw [List.length_drop, hl]; omega)
    have e2 : cs.drop (2 * size) = (cs.drop size).drop size := by rw [List.drop_drop, Nat.two_mul]
    rw [e1, e2, List.take_append_drop, List.take_append_drop]
  have hr := reps_app ra.2 (reps_app rb.2 rc.2)
  rw [← hcs] at hr
  exact ⟨a, b, c, hr⟩
theorem u_u8 : Try.prog.underlying 5 = some (.int .u8) := by kernel_rfl
theorem u_bool' : Try.prog.underlying 4 = some .bool := by kernel_rfl
theorem am_slot : Opens H enc Try.prog w base spare held 82 (rAM SlotD.enc fun _ => True) := fun fuel cs x h => by
  obtain ⟨hl, hall⟩ := am_cells [5, 5, 4] Try.underlying82 h rfl (by kernel_rfl) (by kernel_rfl)
  obtain ⟨c0, m0, y0, e0, k0⟩ := hall 0 _ rfl
  obtain ⟨d0, _, r0⟩ := am_int u_u8 _ _ _ k0
  obtain ⟨c1, m1, y1, e1, k1⟩ := hall 1 _ rfl
  obtain ⟨d1, _, r1⟩ := am_int u_u8 _ _ _ k1
  obtain ⟨c2, m2, y2, e2, k2⟩ := hall 2 _ rfl
  obtain ⟨d2, _, r2⟩ := am_bool u_bool' _ _ _ k2
  have hcs : cs = [c0, c1, c2] := by
    match cs, hl with
    | [a0, a1, a2], _ => simp only [List.getElem?_cons_zero, List.getElem?_cons_succ, Option.some.injEq] at e0 e1 e2; rw [e0, e1, e2]
  subst hcs
  exact ⟨⟨d0, d1, d2⟩, trivial, (reps_cons r0 (reps_cons r1 (reps_cons r2 reps_nil)))⟩
theorem am_state : Opens H enc Try.prog w base spare held 85 (rAM StD.enc fun _ => True) := fun fuel cs x h => by
  obtain ⟨hl, hall⟩ := opens_fields Try.underlying85 h
  rw [show Try.prog.cellsOf 85 = 17 by kernel_rfl] at hl
  obtain ⟨m0, y0, k0⟩ := hall 0 78 0 3 _ rfl (by kernel_rfl) rfl
  obtain ⟨m1, y1, k1⟩ := hall 1 80 3 3 _ rfl (by kernel_rfl) rfl
  obtain ⟨m2, y2, k2⟩ := hall 2 4 6 1 _ rfl (by kernel_rfl) rfl
  obtain ⟨m3, y3, k3⟩ := hall 3 5 7 1 _ rfl (by kernel_rfl) rfl
  obtain ⟨m4, y4, k4⟩ := hall 4 83 8 9 _ rfl (by kernel_rfl) rfl
  obtain ⟨a0, b0, c0, r0⟩ := am_three (size := 1) Try.underlying78 (by kernel_rfl) (by kernel_rfl) (am_int u_u8) k0
  obtain ⟨a1, b1, c1, r1⟩ := am_three (size := 1) Try.underlying80 (by kernel_rfl) (by kernel_rfl) (am_slice (size := 1) Try.underlying79 (by kernel_rfl) (by decide) (am_int u_u8)) k1
  obtain ⟨d2, _, r2⟩ := am_bool u_bool' _ _ _ k2
  obtain ⟨d3, _, r3⟩ := am_int u_u8 _ _ _ k3
  obtain ⟨a4, b4, c4, r4⟩ := am_three (size := 3) Try.underlying83 (by kernel_rfl) (by kernel_rfl) am_slot k4
  refine ⟨⟨a0, b0, c0, a1, b1, c1, d2, d3, a4, b4, c4⟩, trivial, ?_⟩
  have hcs : cs = (cs.drop 0).take 3 ++ ((cs.drop 3).take 3 ++ ((cs.drop 6).take 1 ++ ((cs.drop 7).take 1 ++ (cs.drop 8).take 9))) := by
    match cs, hl with
    | [_, _, _, _, _, _, _, _, _, _, _, _, _, _, _, _, _], _ => rfl
  have hr := reps_app r0 (reps_app r1 (reps_app r2 (reps_app r3 r4)))
  rw [← hcs] at hr
  exact hr
end
end Go.Proofs.Ytadjimfkfmojkaa.Am

end
section
namespace Go.Proofs.Ytadjimfkfmojkaa.objectAny
open Go.ChangeShapes Go.WideShapes Go.ChangeAt Go.RowKit Am
set_option linter.unusedVariables false
set_option linter.unusedSimpArgs false
theorem law (x : StD) (_ : True) (k : Int) (hk : (Lit.int .i8 k).wf = true) : PureA Try.prog 12 [.agg x.enc, .int .i8 k] (.bool true) := any x k (i8_nn hk)
theorem own : ownKnob Try.prog.godebug = none := by kernel_rfl
theorem laidOut : laidOutB Try.prog = true := by kernel_rfl
theorem agg_of {n : Nat} (hn : n ≠ 1) {v : Value} (h : v.cells.toList.length = n) : ∃ cs : List Value, v = .agg cs.toArray ∧ v.cells.toList = cs := by
  cases v with
  | agg a => exact ⟨a.toList, by simp, rfl⟩
  | _ => simp [Value.cells] at h; omega
set_option maxRecDepth 100000 in
theorem lifted (os : Os) (started : os.Started) (H : Type) (enc : TypeId × Value → H) :
    ReturnsInHanded {} Try.checked os 12 .any (Rows.objectAnySpec.pre6 enc Try.prog Try.f12 Rows.objectAnyRow.domain false) (Rows.objectAnySpec.post enc Try.prog Try.f12 false true false false) := by
  refine returnsInHanded_of_change (C := Try.checked) own started (by kernel_rfl) Try.func12
    (ChangeSpec.witness6 (enc := enc) (C := Try.checked) false ⟨#[], #[.agg #[.int .u8 0, .int .u8 0, .int .u8 0, .slice none 0 0, .slice none 0 0, .slice none 0 0, .bool false, .int .u8 0, .int .u8 0, .int .u8 0, .bool false, .int .u8 0, .int .u8 0, .bool false, .int .u8 0, .int .u8 0, .bool false], .int .i8 0], []⟩ 8 (by kernel_rfl) (by kernel_rfl) (by kernel_rfl) (by kernel_rfl)) ?_
  intro W base args ds gs before hval0 hW hcnd _
  have hval : ∀ (j : Nat) t v, Try.f12.params[j]? = some t → args[j]? = some v → Value.okWide Try.prog W .any base t v := hval0
  have hW' := hW
  obtain ⟨p, q, hA0, hV, rfl, hfz, hnd⟩ := hW
  have hA : DataW.TrodAll enc Try.prog W 0 (fun _ => true) true Try.f12.params.toList args.toList ds p := hA0
  rw [Try.params12] at hA hval
  obtain ⟨v0, vs0, d0, ds0, p0, q0, hargs, rfl, rfl, h0, r0⟩ := trodAll_cons hA
  obtain ⟨v1, vs1, d1, ds1, p1, q1, rfl, rfl, rfl, h1, r1⟩ := trodAll_cons r0
  obtain ⟨rfl, rfl, rfl⟩ := trodAll_nil r1
  obtain rfl : args = #[v0, v1] := by cases args; simp_all
  obtain ⟨rfl, rfl⟩ := trodVars_none hV
  obtain ⟨fuel0, hf0⟩ := h0
  obtain ⟨x0, g0, k0⟩ := am_state _ _ _ hf0
  obtain ⟨cs0, rfl, hcs0⟩ := agg_of (n := 17) (by decide) (v := v0) (by rw [← k0.1]; first | rfl | exact enc_len _ | simp)
  rw [hcs0] at k0
  have k0 := reps_one (Rep.agg _ _ k0.1 k0.2)
  obtain ⟨fuel1, hf1⟩ := h1
  obtain ⟨x1, rfl, _, _, g1⟩ := open_int Try.underlying64 (hval 1 64 v1 rfl rfl) ⟨fuel1, hf1⟩
  have k1 := reps_one (Rep.int (w := W) (σ := sig0) (T := tok0) .i8 x1)
  refine (law_calls (law x0 g0 x1 g1) W (reps_cons k0 (reps_cons k1 reps_nil))).mono fun e W' ⟨he, hb⟩ => ⟨.bool true, he, ?_⟩
  exact law_post laidOut (of_decide_eq_true (by kernel_rfl)) rfl rfl Try.underlying4 hW' rfl rfl rfl hb
theorem over : Rows.objectAnyRow.holds Try.pinned (OpenSpec.ofChange Rows.objectAnySpec) :=
  OpenClaim.holds_of_wide 12 Try.f12 rfl rfl rfl rfl rfl rfl rfl ⟨rfl, rfl, rfl, rfl, rfl⟩ rfl rfl rfl rfl rfl (by kernel_rfl) Try.func12 (by kernel_rfl)
    (of_decide_eq_true (by kernel_rfl)) (by unfold Func.isWrapper; first | (rw [if_pos (by decide +kernel)]; kernel_rfl) | (rw [if_neg (by decide +kernel)]; exact ⟨rfl, rfl⟩))
    (fun os started H enc _ => lifted os started H enc)
theorem proved : Rows.ObjectAnySaid :=
  over
#print axioms proved
end Go.Proofs.Ytadjimfkfmojkaa.objectAny

end
