/- AM, part 30: what single operations do, over a symbolic heap. -/
import Derived.Test.YtdaejmkoenhbkaaSla
namespace Go.Proofs.Ytdaejmkoenhbkaa.Am
open Go.RowKit
set_option linter.unusedVariables false
/-- block b becomes x' -/
inductive Upd (b : Nat) (x x' : Blk) : SH → SH → Prop where
  | here (L : SH) : Upd b x x' ((b, x) :: L) ((b, x') :: L)
  | there (p : Nat × Blk) {L L' : SH} : Upd b x x' L L' → Upd b x x' (p :: L) (p :: L')
/-- block b is given up -/
inductive Del (b : Nat) (x : Blk) : SH → SH → Prop where
  | here (L : SH) : Del b x ((b, x) :: L) L
  | there (p : Nat × Blk) {L L' : SH} : Del b x L L' → Del b x (p :: L) (p :: L')
theorem Upd.mem {b : Nat} {x x' : Blk} {L L' : SH} (h : Upd b x x' L L') : (b, x) ∈ L := by
  induction h with
  | here L => simp
  | there p h ih => simp [ih]
theorem Upd.names {b : Nat} {x x' : Blk} {L L' : SH} (h : Upd b x x' L L') : L'.names = L.names := by
  induction h with
  | here L => rfl
  | there p h ih => simp only [List.map_cons, ih]
theorem Upd.get {b : Nat} {x x' : Blk} {L L' : SH} (h : Upd b x x' L L') (hn : L.names.Nodup) : ∀ p ∈ L', p = (b, x') ∨ (p ∈ L ∧ p.1 ≠ b) := by
  induction h with
  | here L =>
    intro p hp
    rcases List.mem_cons.1 hp with rfl | hp
    · exact .inl rfl
    · refine .inr ⟨by simp [hp], fun he => ?_⟩
      simp only [List.map_cons, List.nodup_cons] at hn
      exact hn.1 (he ▸ List.mem_map_of_mem hp)
  | there q h ih =>
    intro p hp
    simp only [List.map_cons, List.nodup_cons] at hn
    rcases List.mem_cons.1 hp with rfl | hp
    · refine .inr ⟨by simp, fun he => hn.1 ?_⟩
      rw [he]
      exact List.mem_map_of_mem (f := Prod.fst) h.mem
    · rcases ih hn.2 p hp with rfl | ⟨h1, h2⟩
      · exact .inl rfl
      · exact .inr ⟨by simp [h1], h2⟩
theorem Del.perm {b : Nat} {x : Blk} {L L' : SH} (h : Del b x L L') : L.Perm ((b, x) :: L') := by
  induction h with
  | here L => exact .refl _
  | there p h ih => exact (ih.cons p).trans (.swap _ _ _)

def getB : SH → Nat → Option Blk
  | [], _ => none
  | (c, x) :: L, b => if c = b then some x else getB L b
def setB : SH → Nat → Blk → SH
  | [], _, _ => []
  | (c, x) :: L, b, y => if c = b then (c, y) :: L else (c, x) :: setB L b y
def delB : SH → Nat → SH
  | [], _ => []
  | (c, x) :: L, b => if c = b then L else (c, x) :: delB L b
theorem getB_mem {b : Nat} {x : Blk} : ∀ {L : SH}, getB L b = some x → (b, x) ∈ L
  | [], h => by cases h
  | (c, y) :: L, h => by
    unfold getB at h
    split at h
    · rename_i e; subst e; cases h; simp
    · exact List.mem_cons_of_mem _ (getB_mem h)
theorem getB_some {b : Nat} {x : Blk} : ∀ {L : SH}, (b, x) ∈ L → ∃ y, getB L b = some y
  | (c, y) :: L, h => by
    unfold getB
    by_cases e : c = b
    · rw [if_pos e]; exact ⟨y, rfl⟩
    · rw [if_neg e]
      rcases List.mem_cons.1 h with h | h
      · cases h; exact absurd rfl e
      · exact getB_some h
theorem setB_upd {b : Nat} {x : Blk} : ∀ {L : SH}, getB L b = some x → ∀ y, Upd b x y L (setB L b y)
  | [], h, _ => by cases h
  | (c, z) :: L, h, y => by
    unfold getB at h
    unfold setB
    split at h
    · rename_i e; subst e; cases h; rw [if_pos rfl]; exact .here L
    · rename_i e; rw [if_neg e]; exact .there _ (setB_upd h y)
theorem delB_del {b : Nat} {x : Blk} : ∀ {L : SH}, getB L b = some x → Del b x L (delB L b)
  | [], h => by cases h
  | (c, z) :: L, h => by
    unfold getB at h
    unfold delB
    split at h
    · rename_i e; subst e; cases h; rw [if_pos rfl]; exact .here L
    · rename_i e; rw [if_neg e]; exact .there _ (delB_del h)

/-- what one operation leaves; b: the name of the block that it may make -/
structure OpFr (b : Nat) (L : SH) (H : Heap) (L' : SH) (H' : Heap) : Prop where
  next : H'.next = H.next
  bd : Bd H'
  sub : Sub L' H'
  keep : ∀ c x, H.get c = some x → c ∉ L.names → H'.get c = some x ∧ c ∉ L'.names
  dom : ∀ c, c ≠ b → H.get c = none → H'.get c = none
  fresh : ∀ c, c ∈ L'.names → c = b ∨ c ∈ L.names
theorem OpFr.refl {b : Nat} {L : SH} {H : Heap} (hb : Bd H) (hs : Sub L H) : OpFr b L H L H := ⟨rfl, hb, hs, fun _ _ h1 h2 => ⟨h1, h2⟩, fun _ _ h => h, fun _ h => .inr h⟩
theorem Sub.not_mem {L : SH} {H : Heap} (hs : Sub L H) {b : Nat} (h : H.get b = none) : b ∉ L.names := fun hb => by
  obtain ⟨x, _, hx⟩ := hs.mem hb
  rw [h] at hx; cases hx
theorem OpFr.new {b : Nat} {L : SH} {H : Heap} (hb : Bd H) (hs : Sub L H) (hlt : b < H.next) (h0 : H.get b = none) (x : Blk) : OpFr b L H ((b, x) :: L) (H.new b x) where
  next := rfl
  bd := fun c hc => by
    have hc' : H.next ≤ c := hc
    rw [Heap.get_new, if_neg (by omega)]; exact hb c hc'
  sub := ⟨by simp only [List.map_cons, List.nodup_cons]; exact ⟨hs.not_mem h0, hs.nd⟩, fun p hp => by
    rcases List.mem_cons.1 hp with rfl | hp
    · rw [Heap.get_new, if_pos rfl]
    · have := hs.get p hp
      rw [Heap.get_new, if_neg]
      · exact this
      · intro he; rw [← he, h0] at this; cases this⟩
  keep := fun c y h1 h2 => by
    have hne : b ≠ c := fun he => by rw [← he, h0] at h1; cases h1
    refine ⟨by rw [Heap.get_new, if_neg hne]; exact h1, fun hm => ?_⟩
    simp only [List.map_cons, List.mem_cons] at hm
    rcases hm with hm | hm
    · exact hne hm.symm
    · exact h2 hm
  dom := fun c hc h => by rw [Heap.get_new, if_neg (fun e => hc e.symm)]; exact h
  fresh := fun c hc => by simpa using hc
theorem OpFr.put {b c : Nat} {L L' : SH} {H : Heap} {x x' : Blk} (hb : Bd H) (hs : Sub L H) (hu : Upd c x x' L L') : OpFr b L H L' (H.put c (some x')) where
  next := rfl
  bd := fun d hd => by
    have hd' : H.next ≤ d := hd
    have h1 := hs.get _ hu.mem
    rw [Heap.get_put, if_neg (fun e => by subst e; rw [hb _ hd'] at h1; cases h1)]
    exact hb d hd'
  sub := ⟨by rw [hu.names]; exact hs.nd, fun p hp => by
    rcases hu.get hs.nd p hp with rfl | ⟨h1, h2⟩
    · rw [Heap.get_put, if_pos rfl]
    · rw [Heap.get_put, if_neg (fun e => h2 e.symm)]; exact hs.get p h1⟩
  keep := fun d y h1 h2 => by
    have hne : c ≠ d := fun e => h2 (e ▸ List.mem_map_of_mem (f := Prod.fst) hu.mem)
    exact ⟨by rw [Heap.get_put, if_neg hne]; exact h1, by rw [hu.names]; exact h2⟩
  dom := fun d _ h => by
    rw [Heap.get_put, if_neg]
    · exact h
    · intro e
      have h1 := hs.get _ hu.mem
      rw [e, h] at h1; cases h1
  fresh := fun d hd => by rw [hu.names] at hd; exact .inr hd
theorem OpFr.del {b c : Nat} {L L' : SH} {H : Heap} {x : Blk} (hb : Bd H) (hs : Sub L H) (hu : Del c x L L') : OpFr b L H L' (H.put c none) := by
  have hs' : Sub ((c, x) :: L') H := hs.perm hu.perm
  have hn : ∀ d, d ∈ L.names ↔ d = c ∨ d ∈ L'.names := fun d => by rw [(hu.perm.map Prod.fst).mem_iff]; simp
  have hnd := hs'.nd
  simp only [List.map_cons, List.nodup_cons] at hnd
  refine ⟨rfl, fun d hd => ?_, ⟨hnd.2, fun p hp => ?_⟩, fun d y h1 h2 => ?_, fun d _ h => ?_, fun d hd => .inr ((hn d).2 (.inr hd))⟩
  · have hd' : H.next ≤ d := hd
    rw [Heap.get_put]
    split
    · rfl
    · exact hb d hd'
  · rw [Heap.get_put, if_neg (fun (e : c = p.1) => hnd.1 (e ▸ List.mem_map_of_mem (f := Prod.fst) hp))]
    exact hs'.get p (by simp [hp])
  · rw [hn] at h2
    refine ⟨by rw [Heap.get_put, if_neg (fun e => h2 (.inl e.symm))]; exact h1, fun h => h2 (.inr h)⟩
  · rw [Heap.get_put]
    split
    · rfl
    · exact h
theorem OpFr.trans {b : Nat} {L L' L'' : SH} {H H' H'' : Heap} (h : OpFr b L H L' H') (k : OpFr b L' H' L'' H'') : OpFr b L H L'' H'' where
  next := k.next.trans h.next
  bd := k.bd
  sub := k.sub
  keep := fun c x h1 h2 => by obtain ⟨a1, a2⟩ := h.keep c x h1 h2; exact k.keep c x a1 a2
  dom := fun c hc h0 => k.dom c hc (h.dom c hc h0)
  fresh := fun c hc => by
    rcases k.fresh c hc with h1 | h1
    · exact .inl h1
    · exact h.fresh c h1

/-! ### The operations, as conditions for what comes behind them -/
namespace W0
def rowLd (ag : Bool) (n : Nat) (row : List AV) (off : Nat) : Option AV :=
  if ag then (if off + n ≤ row.length then some (.agg ((row.drop off).take n)) else none) else row[off]?
def fillR (cells : List AV) : List (Nat × Nat × AV) → Option (List AV)
  | [] => some cells
  | (off, size, v) :: rest => match v.cells? with
    | some cs => if cs.length = size ∧ off + size ≤ cells.length ∧ cs.all AV.one then fillR (rowStore cells off cs) rest else none
    | none => none
section
variable (P : Program) (F : TypeId → Option (List TypeId))
def opt (x : Option AV) (K : AV → Prop) : Prop := ∃ v, x = some v ∧ K v
def pick (c x y : AV) (K : AV → Prop) : Prop := ∃ t, c = .bool t ∧ K (if t then x else y)
def un (op : UnOp) (x : AV) (K : AV → Prop) : Prop := opt (unA op x) K
def bin (op : BinOp) (t : TypeId) (x y : AV) (K : AV → Prop) : Prop := opt (binA P F op t x y) K
def conv (k : IntKind) (x : AV) (K : AV → Prop) : Prop := ∃ k' n, x = .int k' n ∧ K (.int k (k.wrap n))
def convS (x : AV) (K : AV → Prop) : Prop := ∃ s, x = .str s ∧ K (.str s)
def faddr (off : Nat) (x : AV) (K : AV → Prop) : Prop := match x with
  | .ptr b i o => K (.ptr b i (o + off))
  | .pptr rows i o => K (.pptr rows i (o + off))
  | _ => False
def fld (ag : Bool) (n off : Nat) (x : AV) (K : AV → Prop) : Prop := ∃ cs v, x = .agg cs ∧ rowLd ag n cs off = some v ∧ K v
def loadR (ag : Bool) (n : Nat) (a : AV) (L : SH) (K : AV → Prop) : Prop := match a with
  | .ptr b i off => ∃ x r v, (b, x) ∈ L ∧ x.rows[i]? = some r ∧ rowLd ag n r off = some v ∧ K v
  | .pptr rows i off => ∃ r v, rows[i]? = some r ∧ rowLd ag n r off = some v ∧ K v
  | _ => False
def storeR (n : Nat) (a v : AV) (L : SH) (K : SH → Prop) : Prop := match a with
  | .ptr b i off => ∃ x r cs L', x.rows[i]? = some r ∧ v.cells? = some cs ∧ cs.length = n ∧ cs.all AV.one = true ∧ off + n ≤ r.length ∧ Upd b x ⟨x.size, x.rows.set i (rowStore r off cs)⟩ L L' ∧ K L'
  | _ => False
def idxR (n : Nat) (x ix : AV) (L : SH) (K : AV → Prop) : Prop := match x with
  | .sl b j m => ∃ k i y, ix = .int k i ∧ 0 ≤ i ∧ i.toNat < m ∧ (b, y) ∈ L ∧ y.size = n ∧ K (.ptr b (j + i.toNat) 0)
  | .lst rows => ∃ k i r, ix = .int k i ∧ 0 ≤ i ∧ rows[i.toNat]? = some r ∧ r.length = n ∧ K (.pptr rows i.toNat 0)
  | _ => False
def idxP (len n : Nat) (x ix : AV) (K : AV → Prop) : Prop := ∃ k i, ix = .int k i ∧ 0 ≤ i ∧ i.toNat < len ∧ (match x with
  | .ptr b j off => K (.ptr b j (off + i.toNat * n))
  | .pptr rows j off => K (.pptr rows j (off + i.toNat * n))
  | _ => False)
def ixS (x ix : AV) (K : AV → Prop) : Prop := ∃ s k i b, x = .str s ∧ ix = .int k i ∧ 0 ≤ i ∧ s[i.toNat]? = some b ∧ K (.int .u8 b.toNat)
def ixA (ag : Bool) (len n : Nat) (x ix : AV) (K : AV → Prop) : Prop := ∃ cs k i v, x = .agg cs ∧ ix = .int k i ∧ 0 ≤ i ∧ i.toNat < len ∧ rowLd ag n cs (i.toNat * n) = some v ∧ K v
def ext (i : Nat) (x : AV) (K : AV → Prop) : Prop := ∃ vs v, x = .tup vs ∧ vs[i]? = some v ∧ K v
def nilchk (x : AV) (K : AV → Prop) : Prop := match x with
  | .ptr b i off => K (.ptr b i off)
  | .pptr rows i off => K (.pptr rows i off)
  | .fn f cs => K (.fn f cs)
  | _ => False
def build (z : List AV) (parts : List (Nat × Nat × AV)) (K : AV → Prop) : Prop := ∃ cs, fillR z parts = some cs ∧ K (.agg cs)
def alloc (cs : List AV) (L : SH) (K : AV → SH → Prop) : Prop := ∀ b, b ∉ L.names → K (.ptr b 0 0) ((b, ⟨cs.length, [cs]⟩) :: L)
def box (x : AV) (L : SH) (K : AV → SH → Prop) : Prop := ∃ cs, x.cells? = some cs ∧ cs.all AV.one = true ∧ ∀ b, b ∉ L.names → K (.ptr b 0 0) ((b, ⟨cs.length, [cs]⟩) :: L)
def bslice (n : Nat) (z : List AV) (len : Nat) (parts : List (Nat × AV)) (L : SH) (K : AV → SH → Prop) : Prop :=
  len * n ≤ 2 ^ 24 ∧ ∃ rows, fillRows n (List.replicate len z) parts = some rows ∧ ∀ b, b ∉ L.names → K (.sl b 0 len) ((b, ⟨n, rows⟩) :: L)
def mslice (n by_ : Nat) (z : List AV) (l c : AV) (L : SH) (K : AV → SH → Prop) : Prop :=
  ∃ (k k' : IntKind) (i j : Nat), l = .int k i ∧ c = .int k' j ∧ i ≤ j ∧ j ≤ 2 ^ 62 ∧ j * by_ ≤ 2 ^ 48 ∧ ∀ b, b ∉ L.names → K (.sl b 0 i) ((b, ⟨n, List.replicate i z⟩) :: L)
/-- the rows of a slice -/
def rowsR (L : SH) (n : Nat) (s : AV) (rows : List (List AV)) : Prop := match s with
  | .nils => rows = []
  | .emp => rows = []
  | .lst l => rows = l ∧ ∀ r, l.head? = some r → r.length = n
  | .sl b i k => ∃ x, (b, x) ∈ L ∧ x.size = n ∧ i + k ≤ x.rows.length ∧ rows = (x.rows.drop i).take k
  | _ => False
def appendR (n by_ : Nat) (s x : AV) (L : SH) (K : AV → SH → Prop) : Prop :=
  ∃ l m, rowsR L n s l ∧ rowsR L n x m ∧ 2 * (l.length + m.length) * by_ ≤ 2 ^ 48 ∧ 2 * (l.length + m.length) ≤ 2 ^ 62 ∧ (m.all fun r => r.all AV.one) = true ∧
  (match s with
    | .nils => (m.length = 0 → K .nils L) ∧ (m.length ≠ 0 → ∀ b, b ∉ L.names → K (.sl b 0 m.length) ((b, ⟨n, m⟩) :: L))
    | .emp => (m.length = 0 → K .emp L) ∧ (m.length ≠ 0 → ∀ b, b ∉ L.names → K (.sl b 0 m.length) ((b, ⟨n, m⟩) :: L))
    | .sl b' _ _ => ∃ y L', Del b' y L L' ∧ ∀ b, b ∉ L.names → K (.sl b 0 (l.length + m.length)) ((b, ⟨n, l ++ m⟩) :: L')
    | _ => False)
def len (x : AV) (K : AV → Prop) : Prop := ∃ n : Nat, lenA x = some n ∧ K (.int .i64 (n : Int))
def lenS (x : AV) (K : AV → Prop) : Prop := ∃ s, x = .str s ∧ K (.int .i64 (s.length : Int))
def mnx (mx : Bool) (x y : AV) (K : AV → Prop) : Prop := ∃ k a c, x = .int k a ∧ y = .int k c ∧ K (.int k (if mx then (if c > a then c else a) else (if c < a then c else a)))
/-- x[lo:hi] of a slice of elements of n cells -/
def sliceR (n : Nat) (x : AV) (lo hi mx : Option AV) (L : SH) (K : AV → Prop) : Prop :=
  ∃ len l h m, lenA x = some len ∧ boundA lo 0 = some l ∧ boundA hi len = some h ∧ boundA mx len = some m ∧ l ≤ h ∧ h ≤ m ∧ m ≤ len ∧
  (match x with
    | .nils => K .nils
    | .sl b i _ => (∃ y, (b, y) ∈ L ∧ y.size = n) ∧ K (.sl b (i + l) (h - l))
    | .lst rows => (∀ r, rows.head? = some r → r.length = n) ∧ K (.lst ((rows.drop l).take (h - l)))
    | _ => False)
def sliceS (x : AV) (lo hi : Option AV) (K : AV → Prop) : Prop :=
  ∃ s l h, x = .str s ∧ boundA lo 0 = some l ∧ boundA hi s.length = some h ∧ l ≤ h ∧ h ≤ s.length ∧ K (.str ((s.drop l).take (h - l)))
def load (ag : Bool) (n : Nat) (a : AV) (L : SH) (K : AV → Prop) : Prop := match a with
  | .ptr b i off => (match getB L b with
    | some x => opt ((x.rows[i]?).bind fun r => rowLd ag n r off) K
    | none => False)
  | .pptr rows i off => opt ((rows[i]?).bind fun r => rowLd ag n r off) K
  | _ => False
def store (n : Nat) (a v : AV) (L : SH) (K : SH → Prop) : Prop := match a with
  | .ptr b i off => (match getB L b with
    | some x => (match x.rows[i]?, v.cells? with
      | some r, some cs => (cs.length = n ∧ cs.all AV.one = true ∧ off + n ≤ r.length) ∧ K (setB L b ⟨x.size, x.rows.set i (rowStore r off cs)⟩)
      | _, _ => False)
    | none => False)
  | _ => False
def idx (n : Nat) (x ix : AV) (L : SH) (K : AV → Prop) : Prop := match x, ix with
  | .sl b j m, .int _ i => (match getB L b with
    | some y => (0 ≤ i ∧ i.toNat < m ∧ y.size = n) ∧ K (.ptr b (j + i.toNat) 0)
    | none => False)
  | .lst rows, .int _ i => 0 ≤ i ∧ (match rows[i.toNat]? with
    | some r => r.length = n ∧ K (.pptr rows i.toNat 0)
    | none => False)
  | _, _ => False
def rowsF (L : SH) (n : Nat) (s : AV) (K : List (List AV) → Prop) : Prop := match s with
  | .nils => K []
  | .emp => K []
  | .lst l => (∀ r, l.head? = some r → r.length = n) ∧ K l
  | .sl b i k => (match getB L b with
    | some x => (x.size = n ∧ i + k ≤ x.rows.length) ∧ K ((x.rows.drop i).take k)
    | none => False)
  | _ => False
def append (n by_ : Nat) (s x : AV) (L : SH) (K : AV → SH → Prop) : Prop :=
  rowsF L n s fun l => rowsF L n x fun m => (2 * (l.length + m.length) * by_ ≤ 2 ^ 48 ∧ 2 * (l.length + m.length) ≤ 2 ^ 62 ∧ (m.all fun r => r.all AV.one) = true) ∧
  (match s with
    | .nils => (m.length = 0 → K .nils L) ∧ (m.length ≠ 0 → ∀ b, b ∉ L.names → K (.sl b 0 m.length) ((b, ⟨n, m⟩) :: L))
    | .emp => (m.length = 0 → K .emp L) ∧ (m.length ≠ 0 → ∀ b, b ∉ L.names → K (.sl b 0 m.length) ((b, ⟨n, m⟩) :: L))
    | .sl b' _ _ => ∀ b, b ∉ L.names → K (.sl b 0 (l.length + m.length)) ((b, ⟨n, l ++ m⟩) :: delB L b')
    | _ => False)
/-- x[lo:hi] of a slice of elements of n cells -/
def slice (n : Nat) (x : AV) (lo hi mx : Option AV) (L : SH) (K : AV → Prop) : Prop := match lenA x with
  | some len => (match boundA lo 0, boundA hi len, boundA mx len with
    | some l, some h, some m => (l ≤ h ∧ h ≤ m ∧ m ≤ len) ∧ (match x with
      | .nils => K .nils
      | .sl b i _ => (match getB L b with
        | some y => y.size = n ∧ K (.sl b (i + l) (h - l))
        | none => False)
      | .lst rows => (∀ r, rows.head? = some r → r.length = n) ∧ K (.lst ((rows.drop l).take (h - l)))
      | _ => False)
    | _, _, _ => False)
  | none => False
theorem load_R {ag : Bool} {n : Nat} {a : AV} {L : SH} {K : AV → Prop} (h : load ag n a L K) : loadR ag n a L K := by
  unfold load at h
  unfold loadR
  split at h
  · rename_i b i off
    split at h
    · rename_i x hx
      obtain ⟨v, h1, h2⟩ := h
      obtain ⟨r, hr, h1⟩ := Option.bind_eq_some_iff.1 h1
      exact ⟨x, r, v, getB_mem hx, hr, h1, h2⟩
    · exact h.elim
  · rename_i rows i off
    obtain ⟨v, h1, h2⟩ := h
    obtain ⟨r, hr, h1⟩ := Option.bind_eq_some_iff.1 h1
    exact ⟨r, v, hr, h1, h2⟩
  · exact h
theorem store_R {n : Nat} {a v : AV} {L : SH} {K : SH → Prop} (h : store n a v L K) : storeR n a v L K := by
  unfold store at h
  unfold storeR
  split at h
  · split at h
    · rename_i x hx
      split at h
      · rename_i r cs h1 h2
        exact ⟨x, r, cs, _, h1, h2, h.1.1, h.1.2.1, h.1.2.2, setB_upd hx _, h.2⟩
      · exact h.elim
    · exact h.elim
  · exact h
theorem idx_R {n : Nat} {x ix : AV} {L : SH} {K : AV → Prop} (h : idx n x ix L K) : idxR n x ix L K := by
  unfold idx at h
  unfold idxR
  split at h
  · split at h
    · rename_i y hy; exact ⟨_, _, y, rfl, h.1.1, h.1.2.1, getB_mem hy, h.1.2.2, h.2⟩
    · exact h.elim
  · obtain ⟨h0, h⟩ := h
    split at h
    · rename_i r hr; exact ⟨_, _, r, rfl, h0, hr, h.1, h.2⟩
    · exact h.elim
  · exact h.elim
theorem rows_R {L : SH} {n : Nat} {s : AV} {K : List (List AV) → Prop} (h : rowsF L n s K) : ∃ l, rowsR L n s l ∧ K l := by
  unfold rowsF at h
  unfold rowsR
  split at h
  · exact ⟨[], rfl, h⟩
  · exact ⟨[], rfl, h⟩
  · exact ⟨_, ⟨rfl, h.1⟩, h.2⟩
  · split at h
    · rename_i x hx; exact ⟨_, ⟨x, getB_mem hx, h.1.1, h.1.2, rfl⟩, h.2⟩
    · exact h.elim
  · exact h.elim
theorem append_R {n by_ : Nat} {s x : AV} {L : SH} {K : AV → SH → Prop} (h : append n by_ s x L K) : appendR n by_ s x L K := by
  obtain ⟨l, h1, h2⟩ := rows_R h
  obtain ⟨m, h3, h4⟩ := rows_R h2
  refine ⟨l, m, h1, h3, h4.1.1, h4.1.2.1, h4.1.2.2, ?_⟩
  have h5 := h4.2
  split at h5
  · exact h5
  · exact h5
  · unfold rowsR at h1
    obtain ⟨y, hy, _⟩ := h1
    obtain ⟨z, hz⟩ := getB_some hy
    exact ⟨z, _, delB_del hz, h5⟩
  · exact h5.elim
theorem slice_R {n : Nat} {x : AV} {lo hi mx : Option AV} {L : SH} {K : AV → Prop} (h : slice n x lo hi mx L K) : sliceR n x lo hi mx L K := by
  unfold slice at h
  split at h
  · rename_i len hl
    split at h
    · rename_i l hh m h1 h2 h3
      refine ⟨len, l, hh, m, hl, h1, h2, h3, h.1.1, h.1.2.1, h.1.2.2, ?_⟩
      have h5 := h.2
      split at h5
      · exact h5
      · split at h5
        · rename_i y hy; exact ⟨⟨y, getB_mem hy, h5.1⟩, h5.2⟩
        · exact h5.elim
      · exact h5
      · exact h5.elim
    · exact h.elim
  · exact h.elim
/-- clear of a slice of elements of n cells, whose zero is z -/
def clearR (n : Nat) (z : List AV) (x : AV) (L : SH) (K : SH → Prop) : Prop := match x with
  | .nils => K L
  | .sl b i k => ∃ y L', y.size = n ∧ i + k ≤ y.rows.length ∧ Upd b y ⟨y.size, y.rows.take i ++ List.replicate k z ++ y.rows.drop (i + k)⟩ L L' ∧ K L'
  | _ => False
def zof (t : TypeId) : Option (List AV) := (zeroA P t).bind AV.cells?
/-- What an operation demands; none: it is a call. -/
def op (o : Op) (ρ : Operand → AV) (L : SH) (K : AV → SH → Prop) : Prop :=
  let k := fun v => K v L
  match o with
  | .move x | .assign x => K (ρ x) L
  | .pick c x y => pick (ρ c) (ρ x) (ρ y) k
  | .alloc t => match zof P t with
    | some cs => alloc cs L K
    | none => False
  | .box _ x => box (ρ x) L K
  | .build t parts => match P.underlying t, zeroA P t with
    | some (.struct fs), some (.agg z) => if (fs.toList.all fun f => (sizeA P f.type).isSome) = true then
        (match allSome (parts.toList.map fun p => (placesA P fs p.1).map fun q => (q.1, q.2, ρ p.2)) with
          | some ps => build z ps k
          | none => False)
      else False
    | some (.array _ e), some (.agg z) => (match sizeA P e with
      | some n => build z (parts.toList.map fun p => (p.1 * n, n, ρ p.2)) k
      | none => False)
    | _, _ => False
  | .buildSlice t len parts => match P.underlying t with
    | some (.slice e) => match sizeA P e, zof P e with
      | some n, some z => if z.length = n ∧ 0 < n then bslice n z len (parts.toList.map fun p => (p.1, ρ p.2)) L K else False
      | _, _ => False
    | _ => False
  | .load t a => match isAggA P t, sizeA P t with
    | some ag, some n => loadR ag n (ρ a) L k
    | _, _ => False
  | .store t a x => match sizeA P t with
    | some n => storeR n (ρ a) (ρ x) L (K (.tup []))
    | none => False
  | .nilCheck x => nilchk (ρ x) k
  | .binOp op t x y _ => bin P F op t (ρ x) (ρ y) k
  | .unOp op _ x => un op (ρ x) k
  | .convert s d x => match P.underlying s, P.underlying d with
    | some (.int _), some (.int kd) => conv kd (ρ x) k
    | some .string, some .string => convS (ρ x) k
    | _, _ => False
  | .makeFunc (.func f) first cap => if first.size = 0 then K (.fn f (cap.toList.map ρ)) L else False
  | .makeSlice t l c => match P.underlying t with
    | some (.slice e) => match sizeA P e, bytesA P e, zof P e with
      | some n, some by_, some z => if z.length = n ∧ 0 < n then mslice n by_ z (ρ l) (ρ c) L K else False
      | _, _, _ => False
    | _ => False
  | .slice t x lo hi mx => if (hi.isNone && mx.isSome) = true then False else match P.underlying t with
    | some (.slice e) => (match sizeA P e with
      | some n => sliceR n (ρ x) (lo.map ρ) (hi.map ρ) (mx.map ρ) L k
      | none => False)
    | some .string => if mx.isNone = true then sliceS (ρ x) (lo.map ρ) (hi.map ρ) k else False
    | _ => False
  | .fieldAddr s x f => match P.underlying s with
    | some (.struct fs) => match fs[f]? with
      | some f => (match sizeA P f.type with
        | some n => if n = 0 then False else faddr f.offset (ρ x) k
        | none => False)
      | none => False
    | _ => False
  | .field s x f => match P.underlying s with
    | some (.struct fs) => match fs[f]? with
      | some f => (match isAggA P f.type, sizeA P f.type with
        | some ag, some n => fld ag n f.offset (ρ x) k
        | _, _ => False)
      | none => False
    | _ => False
  | .indexAddr t x ix => match P.underlying t with
    | some (.slice e) => (match sizeA P e with
      | some n => idxR n (ρ x) (ρ ix) L k
      | none => False)
    | some (.array len e) => (match sizeA P e with
      | some n => idxP len n (ρ x) (ρ ix) k
      | none => False)
    | _ => False
  | .index t x ix => match P.underlying t with
    | some .string => ixS (ρ x) (ρ ix) k
    | some (.array len e) => (match isAggA P e, sizeA P e with
      | some ag, some n => ixA ag len n (ρ x) (ρ ix) k
      | _, _ => False)
    | _ => False
  | .extract x i => ext i (ρ x) k
  | .call c => match c.callee with
    | .builtin .len => (match c.args.toList, (c.argTypes[0]?).bind P.underlying with
      | [x], some (.slice _) => len (ρ x) k
      | [x], some .string => lenS (ρ x) k
      | [x], some (.array n _) => (match ρ x with | .str _ => False | _ => K (.int .i64 n) L)
      | _, _ => False)
    | .builtin .append => (match c.args.toList, c.argTypes.toList with
      | [s, x], [t, tx] => (match P.underlying t, P.underlying tx with
        | some (.slice e), some (.slice _) => (match sizeA P e, bytesA P e, zof P e with
          | some n, some by_, some z => if z.length = n ∧ 0 < n then appendR n by_ (ρ s) (ρ x) L K else False
          | _, _, _ => False)
        | _, _ => False)
      | _, _ => False)
    | .builtin .min => (match c.args.toList with
      | [x, y] => mnx false (ρ x) (ρ y) k
      | _ => False)
    | .builtin .max => (match c.args.toList with
      | [x, y] => mnx true (ρ x) (ρ y) k
      | _ => False)
    | .builtin .clear => (match c.args.toList, c.argTypes.toList with
      | [x], [t] => (match P.underlying t with
        | some (.slice e) => (match sizeA P e, zof P e with
          | some n, some z => if (z.length = n ∧ 0 < n) ∧ z.all AV.one = true then clearR n z (ρ x) L (K (.tup [])) else False
          | _, _ => False)
        | _ => False)
      | _, _ => False)
    | .value f => (match ρ f with
      | .fn g cs => CallA P g (c.args.toList.map ρ ++ cs) L K
      | _ => False)
    | _ => False
  | _ => False
end
end W0
end Go.Proofs.Ytdaejmkoenhbkaa.Am
