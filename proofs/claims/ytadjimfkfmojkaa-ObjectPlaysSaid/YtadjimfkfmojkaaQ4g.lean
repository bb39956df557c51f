/- ObjectPlays: sequences of events have the specified results, and every state that is reached excludes owners and readers from one another: the law returns true for every list of events. -/
import Derived.Test.YtadjimfkfmojkaaQ4f
import Derived.Test.YtadjimfkfmojkaaChecked
set_option linter.unusedSimpArgs false
set_option linter.unusedVariables false
section
namespace Go.Proofs.Ytadjimfkfmojkaa.Am
open Go.ChangeShapes Go.WideShapes Go.ChangeAt Go.RowKit
set_option linter.unusedVariables false
def sig0 : Sig := ⟨fun _ => none, fun _ => False⟩
def tok0 : Nat → Prop := fun _ => False
/-- cells that read as the cells of a datum -/
def rAM {α : Type} (e : α → List AV) (G : α → Prop) : Rel α := fun w _ x cs => G x ∧ Reps w sig0 tok0 (e x) cs
theorem reps_one {w : World} {σ : Sig} {T : Nat → Prop} {a : AV} {v : Value} (h : Rep w σ T a v) : Reps w σ T [a] [v] := ⟨rfl, fun i x u h1 h2 => by
  match i with
  | 0 => cases h1; cases h2; exact h
  | i + 1 => simp at h1⟩
theorem reps_cons {w : World} {σ : Sig} {T : Nat → Prop} {a : AV} {v : Value} {l : List AV} {m : List Value} (h : Reps w σ T [a] [v]) (hl : Reps w σ T l m) : Reps w σ T (a :: l) (v :: m) := ⟨by simp [hl.1], fun i x u h1 h2 => by
  match i with
  | 0 => exact h.2 0 x u h1 h2
  | i + 1 => exact hl.2 i x u (by simpa using h1) (by simpa using h2)⟩
theorem reps_nil {w : World} {σ : Sig} {T : Nat → Prop} : Reps w σ T [] [] := ⟨rfl, fun i x u h1 h2 => by simp at h1⟩
section
variable {H : Type} {enc : TypeId × Value → H} {P : Program} {w : World} {base : Nat} {spare : Nat → Bool} {held : Bool}
theorem am_int {t : TypeId} {k : IntKind} (ht : P.underlying t = some (.int k)) : Opens H enc P w base spare held t (rAM (fun n : Int => [.int k n]) fun n => (Lit.int k n).wf = true) := fun fuel cs x h => by
  obtain ⟨n, rfl, hn⟩ := opens_int ht fuel cs x h
  exact ⟨n, hn, reps_one (.int k n)⟩
theorem am_slice {α : Type} {t e : TypeId} {size : Nat} {f : α → List AV} {G : α → Prop} (ht : P.underlying t = some (.slice e)) (hc : P.cellsOf e = size) (hs : 0 < size) (he : Opens H enc P w base spare held e (rAM f G)) :
    Opens H enc P w base spare held t (rAM (fun l : List α => [.lst (l.map f)]) fun l => l.length ≤ maxLen ∧ ∀ x ∈ l, G x) := fun fuel cs x h => by
  obtain ⟨l, A, c, rfl, h1, h2, h3⟩ := opens_slice ht hc hs he fuel cs x h
  refine ⟨l, ⟨by omega, fun x hx => ?_⟩, reps_one ?_⟩
  · obtain ⟨i, hi, rfl⟩ := List.getElem_of_mem hx
    obtain ⟨b, o, _, _, hall⟩ := h3 (by omega)
    obtain ⟨cs', _, hR, _⟩ := hall i l[i] (List.getElem?_eq_getElem hi)
    exact hR.1
  · rcases Nat.eq_zero_or_pos l.length with h0 | h0
    · have : l = [] := List.length_eq_zero_iff.1 h0
      subst this
      exact .lst0 A c h2
    · obtain ⟨b, o, rfl, hb, hall⟩ := h3 h0
      have := Rep.lst (w := w) (σ := sig0) (T := tok0) (l.map f) b o size c ⟨fun h => h, fun i r hr => ?_, fun i j hi hj => ?_, hs, by simpa using h0⟩ (by simpa using h1) h2 (fun i r j a u hr ha hu => ?_)
      · simpa using this
      · rw [List.getElem?_map] at hr
        cases hx : l[i]? with
        | none => rw [hx] at hr; cases hr
        | some y =>
          rw [hx] at hr; cases hr
          obtain ⟨cs', k1, k2, _⟩ := hall i y hx
          rw [k2.2.1, k1]
      · have hi' : i < l.length := by simpa using hi
        obtain ⟨cs', k1, k2, k3⟩ := hall i l[i] (List.getElem?_eq_getElem hi')
        exact ⟨cs'[j], k3 j _ (List.getElem?_eq_getElem (by omega))⟩
      · rw [List.getElem?_map] at hr
        cases hx : l[i]? with
        | none => rw [hx] at hr; cases hr
        | some y =>
          rw [hx] at hr; cases hr
          obtain ⟨cs', k1, k2, k3⟩ := hall i y hx
          have hj : j < cs'.length := by rw [← k2.2.1]; exact lt_of_some ha
          have hu' := k3 j _ (List.getElem?_eq_getElem hj)
          rw [hu] at hu'
          cases hu'
          exact k2.2.2 j a _ ha (List.getElem?_eq_getElem hj)
/-- a struct of single cells -/
theorem am_cells {t : TypeId} {fs : Array Field} (tys : List TypeId) {fuel : Nat} {cs : List Value} {x : DataW H × List MemPlace} (ht : P.underlying t = some (.struct fs)) (h : DataW.trod enc P w base spare held fuel t cs = some x)
    (hf : fs.toList.map (fun f => (f.type, f.offset)) = tys.zipIdx) (hc : tys.all (fun ty => P.cellsOf ty == 1) = true) (hn : P.cellsOf t = tys.length) :
    cs.length = tys.length ∧ ∀ (i : Nat) (ty : TypeId), tys[i]? = some ty → ∃ c m y, cs[i]? = some c ∧ DataW.trod enc P w base spare held m ty [c] = some y := by
  obtain ⟨hl, hall⟩ := opens_fields ht h
  rw [hn] at hl
  refine ⟨hl, fun i ty hi => ?_⟩
  have hlt := lt_of_some hi
  have hci : i < cs.length := by omega
  obtain ⟨m, y, hy⟩ := hall i ty i 1 [cs[i]] (by
    have := congrArg (fun l => l[i]?) hf
    simp only [List.getElem?_map, List.getElem?_zipIdx, hi, Array.getElem?_toList] at this
    simpa using this) (by rw [List.all_eq_true] at hc; simpa using hc ty (List.mem_of_getElem? hi)) (by rw [List.drop_eq_getElem_cons hci]; rfl)
  exact ⟨cs[i], m, y, List.getElem?_eq_getElem hci, hy⟩
end
/-- A law that is true over the empty heap, in the model. -/
theorem law_calls {P : Program} {f : FuncId} {args : List AV} {vs : List Value} (h : PureA P f args (.bool true)) (w : World) (hv : Reps w sig0 tok0 args vs) : Calls P f vs.toArray w fun e w' => e = .returned (.bool true) ∧ Below w.heap.size w w' := by
  obtain ⟨v, H', L', h1, h2, rfl, rfl⟩ := h.2 Heap.empty (fun b _ => empty_get b) ⟨List.nodup_nil, fun p hp => by simp at hp⟩
  have hown : Own sig0 Heap.empty = tok0 := by
    funext c
    apply propext
    constructor
    · rintro (h | ⟨b, x, pl, h4, _, _⟩)
      · exact h
      · rw [empty_get] at h4; cases h4
    · exact fun h => h.elim
  have hW : WRel w sig0 Heap.empty := ⟨fun b pl hb => (by cases hb), fun b pl hb => (by cases hb), fun b x hb => (by rw [empty_get] at hb; cases hb), fun c hc => hc.elim, fun b b' x x' pl pl' hb => (by rw [empty_get] at hb; cases hb)⟩
  refine (h1 w sig0 vs hW (by rw [hown]; exact hv)).mono ?_
  rintro e w' ⟨v', σ', rfl, k1, k2, k3, _⟩
  cases k1
  rw [hown] at k3
  exact ⟨rfl, k3.os, k3.tape, k3.output, k3.size, fun k hk => k3.keep k hk fun h => h⟩
end Go.Proofs.Ytadjimfkfmojkaa.Am

end
section
namespace Go.Proofs.Ytadjimfkfmojkaa.Am
set_option linter.unusedVariables false
set_option linter.unusedSimpArgs false
set_option maxRecDepth 100000
theorem small_s {s : SyncD} (h : OInv s) : SmallS s := ⟨by rw [h.nl]; decide, by rw [h.nd]; decide, by rw [h.nt]; decide, h.small.rd⟩
end Go.Proofs.Ytadjimfkfmojkaa.Am

end
section
namespace Go.Proofs.Ytadjimfkfmojkaa.Am
set_option maxRecDepth 100000
set_option linter.unusedSimpArgs false
set_option linter.unusedVariables false
def lockRow : List AV := [.int .i64 (-1), .nils]
set_option maxHeartbeats 4000000 in
theorem startR_ok (w : WorldD) (h1 : w.locks.length ≤ 100) (h2 : w.futures.length ≤ 100) (h3 : w.threads.length ≤ 100) : PureA Try.prog 22 [.agg w.enc] (.agg (startS w).enc) := by
  refine CallA.fz (ref08_Start_ok _ _ _ ?_)
  unfold ref08_Start_w
  generalize hQ : (fun (v : AV) (L : SH) => ∃ v2 L2, FzS [v] L [v2] L2 ∧ v2 = AV.agg (startS w).enc ∧ L2 = []) = Q
  repeat' (first | (refine h_box ?_; refine b_box (fun nb_ hnb_ => ?_)) | (refine h_frz1 ?_; refine b_frz_p ?_) | (refine h_store ?_; refine b_store_box ?_) | refine a_alloc (fun nb_ hnb_ => ?_) | refine b_build ?_)
  rename_i b1 _ b2 _
  revert nb_
  intro b3 _
  refine loop_ex w.locks.length (fun i (o : Option Nat) => ([.pptr [w.enc] 0 0, .ptr b2 0 0, .ptr b3 0 0, .int .i64 i], (b3, ⟨4, [[slotV o i, .int .i64 (-1), .nils, .nils]]⟩) :: (slotB o 2 (List.replicate i lockRow) ++ [(b2, ⟨4, [[.nils, .int .i64 0, .nils, .nils]]⟩)]))) (fun i o => o = none → i = 0) none (fun _ => rfl) (FzS.box (K := []) (.refl _) (.cons .nile (.cons (.refl _) (.cons (.refl _) (.cons (.refl _) .nil))))) ?_
  intro i o hi ho
  dsimp only
  unfold ref08_Start_l3
  rcases Nat.lt_or_ge i w.locks.length with g1 | g1
  · have hd := dec_lt g1
    repeat' (first | (refine h_load1 ?_; first | refine b_load_q ?_ | refine b_load_p ?_) | (refine h_faddr ?_; first | refine a_faddr_q ?_ | refine a_faddr_p ?_) | (refine h_bin ?_; first | refine a_lss ?_ | refine a_add ?_) | (refine h_cond ?_; refine b_cond_t ?_) | (refine h_len ?_; refine a_len_m ?_) | refine a_app_slot [_] (by simp) (fun e => by rw [ho e]; rfl) rfl (by decide) (by simp; omega) (by simp; omega) rfl (fun nb_ => ?_) | (refine h_store ?_; refine b_store_one ?_) | (refine h_bslice ?_; refine b_bslice (fun nb_ hnb_ => ?_)) | refine b_build ?_)
    refine ⟨i + 1, some nb_, by omega, by omega, nofun, ?_⟩
    rw [i64_succ g1 (by omega), show List.replicate (i + 1) lockRow = List.replicate i lockRow ++ [lockRow] from List.replicate_succ']
    exact FzS.forget (perm_rot _ _ _ _)
  · have hd := dec_ge g1
    have hi0 : i = w.locks.length := by omega
    subst hi0
    repeat' (first | (refine h_load1 ?_; refine b_load_q ?_) | (refine h_faddr ?_; refine a_faddr_q ?_) | (refine h_bin ?_; refine a_lss ?_) | (refine h_cond ?_; refine b_cond_f ?_) | (refine h_len ?_; refine a_len_m ?_))
    have hll : (startS w).locks.length = w.locks.length := by simp [startS]
    refine loop_ex w.futures.length (fun j (o2 : Option Nat) => ([.pptr [w.enc] 0 0, .ptr b2 0 0, .ptr b3 0 0, .int .i64 j], (b3, ⟨4, [[.lst ((startS w).locks.map LockD.enc), .int .i64 (-1), slotV o2 j, .nils]]⟩) :: (slotB o2 1 (List.replicate j [.bool false]) ++ [(b2, ⟨4, [[.nils, .int .i64 0, .nils, .nils]]⟩)]))) (fun j o2 => o2 = none → j = 0) none (fun _ => rfl) ?_ ?_
    · refine FzS.box (K := slotB o 2 (List.replicate w.locks.length lockRow)) List.perm_middle.symm (.cons ?_ (.cons (.refl _) (.cons .nile (.cons (.refl _) .nil))))
      rw [← hll]
      refine Fz.slot (f := fun _ => lockRow) (by simp [startS]) (fun e => by rw [hll, ho e]; rfl) (by decide) (fun y hy => rfl) (fun y hy q a a2 q1 q2 => ?_)
      have : y = ⟨-1, []⟩ := by simp [startS] at hy; exact hy.2
      subst this
      match q with
      | 0 => cases q1; cases q2; exact .refl _
      | 1 => cases q1; cases q2; exact .nils
      | q + 2 => simp [lockRow] at q1
    clear ho hi g1 hd
    intro j o2 hj ho2
    dsimp only
    unfold ref08_Start_l2
    rcases Nat.lt_or_ge j w.futures.length with g1 | g1
    · have hd := dec_lt g1
      repeat' (first | (refine h_load1 ?_; first | refine b_load_q ?_ | refine b_load_p ?_) | (refine h_faddr ?_; first | refine a_faddr_q ?_ | refine a_faddr_p ?_) | (refine h_bin ?_; first | refine a_lss ?_ | refine a_add ?_) | (refine h_cond ?_; refine b_cond_t ?_) | (refine h_len ?_; refine a_len_m ?_) | refine a_app_slot [_] (by simp) (fun e => by rw [ho2 e]; rfl) rfl (by decide) (by simp; omega) (by simp; omega) rfl (fun nb_ => ?_) | (refine h_store ?_; refine b_store_one ?_) | (refine h_bslice ?_; refine b_bslice (fun nb_ hnb_ => ?_)))
      refine ⟨j + 1, some nb_, by omega, by omega, nofun, ?_⟩
      rw [i64_succ g1 (by omega), show List.replicate (j + 1) ([.bool false] : List AV) = List.replicate j [.bool false] ++ [[.bool false]] from List.replicate_succ']
      exact FzS.forget (perm_rot _ _ _ _)
    · have hd := dec_ge g1
      have hj0 : j = w.futures.length := by omega
      subst hj0
      repeat' (first | (refine h_load1 ?_; refine b_load_q ?_) | (refine h_faddr ?_; refine a_faddr_q ?_) | (refine h_bin ?_; refine a_lss ?_) | (refine h_cond ?_; refine b_cond_f ?_) | (refine h_len ?_; refine a_len_m ?_))
      have hfl : (startS w).done.length = w.futures.length := by simp [startS]
      have htl : (startS w).threads.length = w.threads.length := by simp [startS]
      refine loop_ex w.threads.length (fun k (o3 : Option Nat) => ([.pptr [w.enc] 0 0, .ptr b2 0 0, .ptr b3 0 0, .int .i64 k], (b3, ⟨4, [[.lst ((startS w).locks.map LockD.enc), .int .i64 (-1), .lst ((startS w).done.map boolE), slotV o3 k]]⟩) :: (slotB o3 3 (((startS w).threads.take k).map ThrD.enc) ++ [(b2, ⟨4, [[.nils, .int .i64 0, .nils, .nils]]⟩)]))) (fun k o3 => o3 = none → k = 0) none (fun _ => rfl) ?_ ?_
      · refine FzS.box (K := slotB o2 1 (List.replicate w.futures.length [.bool false])) List.perm_middle.symm (.cons (.refl _) (.cons (.refl _) (.cons ?_ (.cons .nile .nil))))
        rw [← hfl]
        exact Fz.slot (f := boolE) (by simp [startS, boolE]) (fun e => by rw [hfl, ho2 e]; rfl) (by decide) (fun y hy => rfl) (fun y hy q a a2 q1 q2 => by rw [q1] at q2; cases q2; exact .refl _)
      clear ho2 hj g1 hd
      intro k o3 hk ho3
      dsimp only
      unfold ref08_Start_l1
      rcases Nat.lt_or_ge k w.threads.length with g1 | g1
      · have hd := dec_lt g1
        have hkt : k < (startS w).threads.length := by omega
        have htk : ((startS w).threads.take (k + 1)).map ThrD.enc = ((startS w).threads.take k).map ThrD.enc ++ [((startS w).threads[k]).enc] := by rw [List.take_succ_eq_append_getElem hkt, List.map_append]; rfl
        have hlen : (((startS w).threads.take k).map ThrD.enc).length = k := by simp; omega
        rcases Nat.eq_zero_or_pos k with g2 | g2
        · have hd2 : decide ((k : Int) = 0) = true := by simp [g2]
          have hrow : ((startS w).threads[k]).enc = [.int .i64 1, .int .i64 0, .bool false] := by subst g2; simp [startS, ThrD.enc]
          rw [hrow] at htk
          repeat' (first | (refine h_load1 ?_; first | refine b_load_q ?_ | refine b_load_p ?_) | (refine h_faddr ?_; first | refine a_faddr_q ?_ | refine a_faddr_p ?_) | (refine h_bin ?_; first | refine a_eql ?_ | refine a_lss ?_ | refine a_add ?_) | (refine h_cond ?_; refine b_cond_t ?_) | (refine h_row ?_; refine b_row_p ?_) | (refine h_len ?_; refine a_len_m ?_) | refine a_app_slot [_, _] hlen (fun e => by rw [ho3 e]; rfl) rfl (by decide) (by simp; omega) (by simp; omega) rfl (fun nb_ => ?_) | (refine h_store ?_; first | refine b_store_box ?_ | refine b_store_one ?_) | (refine h_bslice ?_; refine b_bslice (fun nb_ hnb_ => ?_)) | refine a_alloc (fun nb_ hnb_ => ?_) | refine b_build ?_ | refine a_join ?_)
          refine ⟨k + 1, some nb_, by omega, by omega, nofun, ?_⟩
          rw [i64_succ g1 (by omega), htk]
          exact FzS.forget (perm_rot2 _ _ _ _ _)
        · have hd2 : decide ((k : Int) = 0) = false := by simp; omega
          have hrow : ((startS w).threads[k]).enc = [.int .i64 0, .int .i64 0, .bool false] := by
            have : (startS w).threads[k] = ⟨0, 0, false⟩ := by simp only [startS]; rw [List.getElem_set_ne (by omega)]; simp
            rw [this]; rfl
          rw [hrow] at htk
          repeat' (first | (refine h_load1 ?_; first | refine b_load_q ?_ | refine b_load_p ?_) | (refine h_faddr ?_; first | refine a_faddr_q ?_ | refine a_faddr_p ?_) | (refine h_bin ?_; first | refine a_eql ?_ | refine a_lss ?_ | refine a_add ?_) | (refine h_cond ?_; first | refine b_cond_t ?_ | refine b_cond_f ?_) | (refine h_row ?_; refine b_row_p ?_) | (refine h_len ?_; refine a_len_m ?_) | refine a_app_slot [_, _] hlen (fun e => by rw [ho3 e]; rfl) rfl (by decide) (by simp; omega) (by simp; omega) rfl (fun nb_ => ?_) | (refine h_store ?_; first | refine b_store_box ?_ | refine b_store_one ?_) | (refine h_bslice ?_; refine b_bslice (fun nb_ hnb_ => ?_)) | refine a_alloc (fun nb_ hnb_ => ?_) | refine b_build ?_ | refine a_join ?_)
          refine ⟨k + 1, some nb_, by omega, by omega, nofun, ?_⟩
          rw [i64_succ g1 (by omega), htk]
          exact FzS.forget (perm_rot2 _ _ _ _ _)
      · have hd := dec_ge g1
        have hk0 : k = w.threads.length := by omega
        subst hk0
        cases o3 with
        | none =>
          dsimp only [slotB, slotV, List.nil_append]
          repeat' (first | (refine h_load1 ?_; refine b_load_q ?_) | (refine h_faddr ?_; refine a_faddr_q ?_) | (refine h_bin ?_; refine a_lss ?_) | (refine h_cond ?_; refine b_cond_f ?_) | (refine h_row ?_; refine b_row_p ?_) | (refine h_len ?_; refine a_len_m ?_) | (refine h_store ?_; refine b_store_box ?_))
          subst hQ
          refine ⟨_, [], FzS.all (Fz.aggs (.cons (.refl _) (.cons (.refl _) (.cons (.refl _) (.cons ?_ .nil))))), rfl, rfl⟩
          have h0 := ho3 rfl
          have : (startS w).threads = [] := by simp [startS, h0]
          rw [this]
          exact .emp
        | some b =>
          dsimp only [slotB, slotV, List.cons_append, List.nil_append]
          repeat' (first | (refine h_load1 ?_; refine b_load_q ?_) | (refine h_faddr ?_; refine a_faddr_q ?_) | (refine h_bin ?_; refine a_lss ?_) | (refine h_cond ?_; refine b_cond_f ?_) | (refine h_row ?_; refine b_row_p ?_) | (refine h_len ?_; refine a_len_m ?_) | (refine h_store ?_; refine b_store_box ?_))
          subst hQ
          refine ⟨_, [], FzS.all (Fz.aggs (.cons (.refl _) (.cons (.refl _) (.cons (.refl _) (.cons ?_ .nil))))), rfl, rfl⟩
          exact Fz.sls (l := (startS w).threads) (.tail _ (.head _)) (by rw [List.take_of_length_le (by omega)]) (by decide) htl.symm
end Go.Proofs.Ytadjimfkfmojkaa.Am

end
section
namespace Go.Proofs.Ytadjimfkfmojkaa.Am
set_option linter.unusedVariables false
set_option linter.unusedSimpArgs false
set_option maxRecDepth 100000
theorem plays (l : List EvD) : PureA Try.prog 10 [.lst (l.map EvD.enc)] (.bool true) := by
  refine CallA.fz (law08_ObjectPlays_ok _ _ _ ?_)
  unfold law08_ObjectPlays_w
  rcases Nat.lt_or_ge 200 l.length with h1 | h1
  · have hd : decide ((200 : Int) < (l.length : Int)) = true := decide_eq_true (by omega)
    repeat' (first | (refine h_bin ?_; refine a_gtr ?_) | (refine h_cond ?_; refine b_cond_t ?_) | (refine h_len ?_; refine a_len_m ?_))
    exact ⟨_, [], FzS.all (.refl _), rfl, rfl⟩
  · have hd : decide ((200 : Int) < (l.length : Int)) = false := decide_eq_false (by omega)
    generalize hQ : (fun (v : AV) (L : SH) => ∃ v2 L2, FzS [v] L [v2] L2 ∧ v2 = AV.bool true ∧ L2 = []) = Q
    have hq : ∀ L, Q (.bool true) L := by subst hQ; exact fun L => ⟨_, [], FzS.all (.refl _), rfl, rfl⟩
    have hs1 := start_ok W0 (by decide) (by decide) (by decide)
    have hs2 := startR_ok W0 (by decide) (by decide) (by decide)
    repeat' (first | (refine h_bin ?_; refine a_gtr ?_) | (refine h_cond ?_; refine b_cond_f ?_) | (refine h_row ?_; refine b_row_q ?_) | (refine h_len ?_; refine a_len_m ?_) | (refine h_calm ?_; refine b_calm ?_) | (refine h_note ?_; refine a_note ?_) | refine a_mark ?_ | refine a_dmark ?_ | ((with_reducible refine h_fn 24 ?_); refine m_call (world_ok) ?_) | ((with_reducible refine h_dfn 21 ?_); refine b_dcall (hs1) ?_) | ((with_reducible refine h_dfn 22 ?_); refine b_dcall (hs2) ?_) | (refine h_frz1 ?_; refine b_frz_p ?_) | (refine h_store ?_; refine b_store_box ?_) | refine a_alloc (fun nb_ hnb_ => ?_) | refine a_tt ?_)
    rename_i b4 _
    revert nb_
    intro b5 hb5
    refine loop_ex l.length (fun i (s : SyncD) => ([.lst (l.map EvD.enc), .pptr [W0.enc] 0 0, .ptr b4 0 0, .ptr b5 0 0, .int .i64 i], [(b5, ⟨4, [s.enc]⟩), (b4, ⟨4, [s.enc]⟩)])) (fun _ s => Safe s) (startS W0) safe_start (fzs_eq rfl rfl) ?_
    intro i s hi hS
    dsimp only
    unfold law08_ObjectPlays_l6
    rcases Nat.lt_or_ge i l.length with g1 | g1
    · have hd := dec_lt g1
      have hx := map_at (f := EvD.enc) g1
      have hap1 := fun t k o wake => apply_ok W0 s t k o wake hS.inv.small
      have hap2 := fun t k o wake => applyR_ok W0 s t k o wake hS.inv.small
      have htry := try_ok l[i]
      repeat' (first | (refine h_bin ?_; refine a_lss ?_) | (refine h_cond ?_; refine b_cond_t ?_) | (refine h_idx ?_; refine b_idx_n ?_) | (refine h_row ?_; first | refine b_row_q ?_ | refine b_row_p ?_) | (refine h_len ?_; refine a_len_m ?_) | (refine h_ext ?_; refine b_ext ?_) | refine a_mark ?_ | ((with_reducible refine h_fn 28 ?_); (refine m_callF (K := []) htry (.refl _) ?_; rintro _ _ ⟨t, k, o, wake, rfl, rfl⟩)))
      have hap1 := hap1 t k o wake
      have hap2 := hap2 t k o wake
      have nf : (!true) = false := rfl
      cases hen : enabledS W0 s t k o with
      | false =>
        have e : resS W0 s t k o wake = (zeroS, 0, false) := by unfold resS; rw [hen]; rfl
        rw [e] at hap1 hap2
        unfold encR at hap1 hap2
        have hsm := same_ok zeroS zeroS ⟨by decide, by decide, by decide, fun l hl => by cases hl⟩
        rw [decide_eq_true rfl] at hsm
        have hsf := safe_ok s hS
        repeat' (first | refine neq_bool _ _ ?_ | (refine h_bin ?_; first | refine a_neq ?_ | refine a_add ?_) | (refine h_cond ?_; refine b_cond_f ?_) | (refine h_row ?_; first | refine b_row_q ?_ | refine b_row_p ?_) | (refine h_ext ?_; refine b_ext ?_) | (refine h_pick ?_; refine b_pick_f ?_) | (refine h_grd ?_; refine b_grd_y ?_) | refine a_mark ?_ | ((with_reducible refine h_fn 26 ?_); refine m_call (hap1) ?_) | ((with_reducible refine h_fn 29 ?_); refine m_call (hap2) ?_) | ((with_reducible refine h_fn 20 ?_); refine m_call (hsm) ?_) | ((with_reducible refine h_fn 30 ?_); refine m_call (hsf) ?_) | (refine h_un ?_; refine a_not ?_) | (refine h_frz1 ?_; refine b_frz_p ?_) | (refine h_store ?_; refine b_store_box ?_) | refine a_alloc (fun nb_ hnb_ => ?_) | refine a_join ?_)
        exact ⟨i + 1, s, by omega, by omega, hS, FzS.pick (by repeat constructor) (by rw [i64_succ g1 (by omega)]; rfl)⟩
      | true =>
        have e : resS W0 s t k o wake = ((applyS W0 s t k o wake).1, (applyS W0 s t k o wake).2, true) := by unfold resS; rw [hen]; rfl
        have hS' := safe_step hS (wake := wake) hen
        rw [e] at hap1 hap2
        unfold encR at hap1 hap2
        generalize (applyS W0 s t k o wake).1 = s' at *
        generalize (applyS W0 s t k o wake).2 = v' at *
        have dv : decide (v' ≠ v') = false := decide_eq_false (fun e => e rfl)
        have hsm := same_ok s' s' (small_s hS'.inv)
        rw [decide_eq_true rfl] at hsm
        have hsf := safe_ok s' hS'
        repeat' (first | refine neq_bool _ _ ?_ | (refine h_bin ?_; first | refine a_neq ?_ | refine a_add ?_) | (refine h_cond ?_; first | refine b_cond_t ?_ | refine b_cond_f ?_) | (refine h_row ?_; first | refine b_row_q ?_ | refine b_row_p ?_) | (refine h_ext ?_; refine b_ext ?_) | (refine h_calm ?_; refine b_calm ?_) | (refine h_note ?_; refine a_note ?_) | (refine h_pick ?_; refine b_pick_f ?_) | (refine h_grd ?_; refine b_grd_y ?_) | refine a_mark ?_ | ((with_reducible refine h_fn 26 ?_); refine m_call (hap1) ?_) | ((with_reducible refine h_fn 29 ?_); refine m_call (hap2) ?_) | ((with_reducible refine h_fn 20 ?_); refine m_call (hsm) ?_) | ((with_reducible refine h_fn 30 ?_); refine m_call (hsf) ?_) | (refine h_un ?_; refine a_not ?_) | (refine h_frz1 ?_; refine b_frz_p ?_) | (refine h_store ?_; refine b_store_box ?_) | refine a_alloc (fun nb_ hnb_ => ?_) | refine a_join ?_ | refine a_tt ?_)
        exact ⟨i + 1, s', by omega, by omega, hS', FzS.pick (by repeat constructor) (by rw [i64_succ g1 (by omega)]; rfl)⟩
    · have hd := dec_ge g1
      have hsf := safe_ok s hS
      repeat' (first | (refine h_bin ?_; refine a_lss ?_) | (refine h_cond ?_; refine b_cond_f ?_) | (refine h_row ?_; first | refine b_row_q ?_ | refine b_row_p ?_) | (refine h_len ?_; refine a_len_m ?_) | (refine h_pick ?_; refine b_pick_t ?_) | (refine h_grd ?_; refine b_grd_y ?_) | refine a_mark ?_ | ((with_reducible refine h_fn 30 ?_); refine m_call (hsf) ?_) | ((with_reducible refine h_fn 23 ?_); refine m_call (awake08) ?_))
      exact hq _
end Go.Proofs.Ytadjimfkfmojkaa.Am

end
section
namespace Go.Proofs.Ytadjimfkfmojkaa.Am
open Go.ChangeShapes Go.WideShapes Go.ChangeAt Go.RowKit
set_option linter.unusedVariables false
section
variable {H : Type} {enc : TypeId × Value → H} {w : World} {base : Nat} {spare : Nat → Bool} {held : Bool}
theorem u_i8 : Try.prog.underlying 64 = some (.int .i8) := by kernel_rfl
theorem am_event : Opens H enc Try.prog w base spare held 70 (rAM EvD.enc fun _ => True) := fun fuel cs x h => by
  obtain ⟨hl, hall⟩ := am_cells [64, 64, 64, 64] Try.underlying70 h rfl (by kernel_rfl) (by kernel_rfl)
  obtain ⟨c0, m0, y0, e0, k0⟩ := hall 0 _ rfl
  obtain ⟨d0, _, r0⟩ := am_int u_i8 _ _ _ k0
  obtain ⟨c1, m1, y1, e1, k1⟩ := hall 1 _ rfl
  obtain ⟨d1, _, r1⟩ := am_int u_i8 _ _ _ k1
  obtain ⟨c2, m2, y2, e2, k2⟩ := hall 2 _ rfl
  obtain ⟨d2, _, r2⟩ := am_int u_i8 _ _ _ k2
  obtain ⟨c3, m3, y3, e3, k3⟩ := hall 3 _ rfl
  obtain ⟨d3, _, r3⟩ := am_int u_i8 _ _ _ k3
  have hcs : cs = [c0, c1, c2, c3] := by
    match cs, hl with
    | [a0, a1, a2, a3], _ => simp only [List.getElem?_cons_zero, List.getElem?_cons_succ, Option.some.injEq] at e0 e1 e2 e3; rw [e0, e1, e2, e3]
  subst hcs
  exact ⟨⟨d0, d1, d2, d3⟩, trivial, (reps_cons r0 (reps_cons r1 (reps_cons r2 (reps_cons r3 reps_nil))))⟩
theorem am_events : Opens H enc Try.prog w base spare held 55 (rAM (fun l : List EvD => [.lst (l.map EvD.enc)]) fun l => l.length ≤ maxLen ∧ ∀ x ∈ l, True) :=
  am_slice (size := 4) Try.underlying55 (by kernel_rfl) (by decide) am_event
end
end Go.Proofs.Ytadjimfkfmojkaa.Am

end
section
namespace Go.Proofs.Ytadjimfkfmojkaa.objectPlays
open Go.ChangeShapes Go.WideShapes Go.ChangeAt Go.RowKit Am
set_option linter.unusedVariables false
set_option linter.unusedSimpArgs false
theorem law (l : List EvD) (_ : l.length ≤ maxLen ∧ ∀ x ∈ l, True) : PureA Try.prog 10 [.lst (l.map EvD.enc)] (.bool true) := plays l
theorem own : ownKnob Try.prog.godebug = none := by kernel_rfl
theorem laidOut : laidOutB Try.prog = true := by kernel_rfl
theorem agg_of {n : Nat} (hn : n ≠ 1) {v : Value} (h : v.cells.toList.length = n) : ∃ cs : List Value, v = .agg cs.toArray ∧ v.cells.toList = cs := by
  cases v with
  | agg a => exact ⟨a.toList, by simp, rfl⟩
  | _ => simp [Value.cells] at h; omega
set_option maxRecDepth 100000 in
theorem lifted (os : Os) (started : os.Started) (H : Type) (enc : TypeId × Value → H) :
    ReturnsInHanded {} Try.checked os 10 .any (Rows.objectPlaysSpec.pre6 enc Try.prog Try.f10 Rows.objectPlaysRow.domain false) (Rows.objectPlaysSpec.post enc Try.prog Try.f10 false true false false) := by
  refine returnsInHanded_of_change (C := Try.checked) own started (by kernel_rfl) Try.func10
    (ChangeSpec.witness6 (enc := enc) (C := Try.checked) false ⟨#[], #[.slice none 0 0], []⟩ 8 (by kernel_rfl) (by kernel_rfl) (by kernel_rfl) (by kernel_rfl)) ?_
  intro W base args ds gs before hval0 hW hcnd _
  have hval : ∀ (j : Nat) t v, Try.f10.params[j]? = some t → args[j]? = some v → Value.okWide Try.prog W .any base t v := hval0
  have hW' := hW
  obtain ⟨p, q, hA0, hV, rfl, hfz, hnd⟩ := hW
  have hA : DataW.TrodAll enc Try.prog W 0 (fun _ => true) true Try.f10.params.toList args.toList ds p := hA0
  rw [Try.params10] at hA hval
  obtain ⟨v0, vs0, d0, ds0, p0, q0, hargs, rfl, rfl, h0, r0⟩ := trodAll_cons hA
  obtain ⟨rfl, rfl, rfl⟩ := trodAll_nil r0
  obtain rfl : args = #[v0] := by cases args; simp_all
  obtain ⟨rfl, rfl⟩ := trodVars_none hV
  obtain ⟨fuel0, hf0⟩ := h0
  obtain ⟨a0, n0, c0, rfl⟩ := okWide_slice Try.underlying55 (hval 0 55 v0 rfl rfl)
  obtain ⟨x0, g0, k0⟩ := am_events _ _ _ hf0
  refine (law_calls (law x0 g0) W (reps_cons k0 reps_nil)).mono fun e W' ⟨he, hb⟩ => ⟨.bool true, he, ?_⟩
  exact law_post laidOut (of_decide_eq_true (by kernel_rfl)) rfl rfl Try.underlying4 hW' rfl rfl rfl hb
theorem over : Rows.objectPlaysRow.holds Try.pinned (OpenSpec.ofChange Rows.objectPlaysSpec) :=
  OpenClaim.holds_of_wide 10 Try.f10 rfl rfl rfl rfl rfl rfl rfl ⟨rfl, rfl, rfl, rfl, rfl⟩ rfl rfl rfl rfl rfl (by kernel_rfl) Try.func10 (by kernel_rfl)
    (of_decide_eq_true (by kernel_rfl)) (by unfold Func.isWrapper; first | (rw [if_pos (by decide +kernel)]; kernel_rfl) | (rw [if_neg (by decide +kernel)]; exact ⟨rfl, rfl⟩))
    (fun os started H enc _ => lifted os started H enc)
theorem proved : Rows.ObjectPlaysSaid :=
  over
#print axioms proved
end Go.Proofs.Ytadjimfkfmojkaa.objectPlays

end
