/- AM, part 4: what an abstract value stands for in a world. -/
import Derived.Test.YtdaejmkoenhbkaaEx
import Derived.Handy
import Derived.RowKit
namespace Go.Proofs.Ytdaejmkoenhbkaa.Am

/-- where a block of the abstract heap lies -/
structure Place where
  block : Nat
  base : Nat
  size : Nat
/-- where the blocks of the abstract heap lie; fr: blocks of the world that belong to somebody else, who may write them later -/
structure Sig where
  map : Nat → Option Place
  fr : Nat → Prop
instance : CoeFun Sig (fun _ => Nat → Option Place) := ⟨Sig.map⟩

/-- rows of cells that lie in block b from cell o on, in a block that is not one of T -/
structure Lies (w : World) (T : Nat → Prop) (rows : List (List AV)) (b o sz : Nat) : Prop where
  out : ¬ T b
  even : ∀ (i : Nat) (r : List AV), rows[i]? = some r → r.length = sz
  cell : ∀ i j, i < rows.length → j < sz → ∃ u, w.cell? ⟨b, o + i * sz + j, none⟩ = some u
  pos : 0 < sz
  ne : 0 < rows.length

inductive Rep (w : World) (σ : Sig) (T : Nat → Prop) : AV → Value → Prop where
  | int (k : IntKind) (n : Int) : Rep w σ T (.int k n) (.int k n)
  | bool (b : Bool) : Rep w σ T (.bool b) (.bool b)
  | str (s : ByteArray) : Rep w σ T (.str s.data.toList) (.string s)
  | nilp : Rep w σ T .nilp (.pointer none)
  | ptr (b i off : Nat) (pl : Place) (h : σ b = some pl) : Rep w σ T (.ptr b i off) (.pointer (some ⟨pl.block, pl.base + i * pl.size + off, none⟩))
  | pptr (rows : List (List AV)) (i off b o sz : Nat) (hl : Lies w T rows b o sz)
      (h : ∀ (i : Nat) (r : List AV) (j : Nat) (a : AV) (u : Value), rows[i]? = some r → r[j]? = some a → w.cell? ⟨b, o + i * sz + j, none⟩ = some u → Rep w σ T a u) :
      Rep w σ T (.pptr rows i off) (.pointer (some ⟨b, o + i * sz + off, none⟩))
  | nils : Rep w σ T .nils (.slice none 0 0)
  | emp (a : Option Addr) : Rep w σ T .emp (.slice a 0 0)
  | sl (b i n : Nat) (pl : Place) (a : Addr) (cap : Nat) (h : σ b = some pl) (hn : n ≤ cap) (hm : cap ≤ maxLen)
      (ha : 0 < cap → a = ⟨pl.block, pl.base + i * pl.size, none⟩ ∧ ∃ cs e, w.heap[pl.block]? = some (.cells cs e (0, 0)) ∧ pl.base + (i + cap) * pl.size ≤ cs.size) :
      Rep w σ T (.sl b i n) (.slice (some a) n cap)
  | lst0 (a : Option Addr) (cap : Nat) (hm : cap ≤ maxLen) : Rep w σ T (.lst []) (.slice a 0 cap)
  | lst (rows : List (List AV)) (b o sz cap : Nat) (hl : Lies w T rows b o sz) (hn : rows.length ≤ cap) (hm : cap ≤ maxLen)
      (h : ∀ (i : Nat) (r : List AV) (j : Nat) (a : AV) (u : Value), rows[i]? = some r → r[j]? = some a → w.cell? ⟨b, o + i * sz + j, none⟩ = some u → Rep w σ T a u) :
      Rep w σ T (.lst rows) (.slice (some ⟨b, o, none⟩) rows.length cap)
  | agg (cs : List AV) (vs : List Value) (hl : cs.length = vs.length) (h : ∀ (i : Nat) (a : AV) (v : Value), cs[i]? = some a → vs[i]? = some v → Rep w σ T a v) : Rep w σ T (.agg cs) (.agg vs.toArray)
  | tup (cs : List AV) (vs : List Value) (hl : cs.length = vs.length) (h : ∀ (i : Nat) (a : AV) (v : Value), cs[i]? = some a → vs[i]? = some v → Rep w σ T a v) : Rep w σ T (.tup cs) (.tuple vs.toArray)
  | fn (f : FuncId) (cs : List AV) (vs : List Value) (hl : cs.length = vs.length) (h : ∀ (i : Nat) (a : AV) (v : Value), cs[i]? = some a → vs[i]? = some v → Rep w σ T a v) : Rep w σ T (.fn f cs) (.func (.func f) #[] vs.toArray)
  | nilf : Rep w σ T .nilf .nilFunc
  | junk (v : Value) : Rep w σ T .junk v

/-- values one by one -/
def Reps (w : World) (σ : Sig) (T : Nat → Prop) (cs : List AV) (vs : List Value) : Prop :=
  cs.length = vs.length ∧ ∀ (i : Nat) (a : AV) (v : Value), cs[i]? = some a → vs[i]? = some v → Rep w σ T a v

/-- the blocks of the world that the abstract heap's living blocks lie in -/
def Tok (σ : Sig) (H : Heap) (c : Nat) : Prop := ∃ b x pl, H.get b = some x ∧ σ b = some pl ∧ pl.block = c
/-- the blocks that somebody may write -/
def Own (σ : Sig) (H : Heap) (c : Nat) : Prop := σ.fr c ∨ Tok σ H c

/-- a living block and what it lies on -/
structure Held (w : World) (σ : Sig) (T : Nat → Prop) (x : Blk) (pl : Place) (cs : Array Value) (e : TypeId) : Prop where
  size : pl.size = x.size
  block : w.heap[pl.block]? = some (.cells cs e (0, 0))
  even : ∀ (i : Nat) (r : List AV), x.rows[i]? = some r → r.length = x.size
  room : pl.base + x.rows.length * x.size ≤ cs.size
  rep : ∀ (i : Nat) (r : List AV) (j : Nat) (a : AV) (u : Value), x.rows[i]? = some r → r[j]? = some a → cs[pl.base + i * x.size + j]? = some u → Rep w σ T a u

structure WRel (w : World) (σ : Sig) (H : Heap) : Prop where
  named : ∀ b pl, σ b = some pl → b < H.next
  lt : ∀ b pl, σ b = some pl → pl.block < w.heap.size
  live : ∀ b x, H.get b = some x → ∃ pl cs e, σ b = some pl ∧ Held w σ (Own σ H) x pl cs e
  apart : ∀ c, σ.fr c → c < w.heap.size ∧ ¬ Tok σ H c
  inj : ∀ b b' x x' pl pl', H.get b = some x → H.get b' = some x' → σ b = some pl → σ b' = some pl' → pl.block = pl'.block → b = b'

/-- what a piece of the program leaves alone -/
structure Ext (w : World) (σ : Sig) (T : Nat → Prop) (w' : World) (σ' : Sig) (T' : Nat → Prop) : Prop where
  os : w'.os = w.os
  tape : w'.tape = w.tape
  output : w'.output = w.output
  size : w.heap.size ≤ w'.heap.size
  keep : ∀ c, c < w.heap.size → ¬ T c → w'.heap[c]? = w.heap[c]?
  shape : ∀ (c : Nat) (cs : Array Value) (e : TypeId), w.heap[c]? = some (.cells cs e (0, 0)) → ∃ cs' : Array Value, w'.heap[c]? = some (.cells cs' e (0, 0)) ∧ cs'.size = cs.size
  sig : ∀ b pl, σ b = some pl → σ' b = some pl
  eqfr : σ'.fr = σ.fr
  frame : ∀ c, σ.fr c → w'.heap[c]? = w.heap[c]?
  own : ∀ c, T' c → T c ∨ w.heap.size ≤ c

theorem Ext.refl (w : World) (σ : Sig) (T : Nat → Prop) : Ext w σ T w σ T :=
  ⟨rfl, rfl, rfl, Nat.le_refl _, fun _ _ _ => rfl, fun _ cs _ h => ⟨cs, h, rfl⟩, fun _ _ h => h, rfl, fun _ _ => rfl, fun _ h => .inl h⟩
theorem Ext.trans {w w' w'' : World} {σ σ' σ'' : Sig} {T T' T'' : Nat → Prop} (h : Ext w σ T w' σ' T') (k : Ext w' σ' T' w'' σ'' T'') : Ext w σ T w'' σ'' T'' where
  os := k.os.trans h.os
  tape := k.tape.trans h.tape
  output := k.output.trans h.output
  size := Nat.le_trans h.size k.size
  keep := fun c hc hT => by
    have hc' : c < w'.heap.size := Nat.lt_of_lt_of_le hc h.size
    have : ¬ T' c := fun ht => by
      rcases h.own c ht with h1 | h1
      · exact hT h1
      · omega
    exact (k.keep c hc' this).trans (h.keep c hc hT)
  shape := fun c cs e hcs => by
    obtain ⟨cs', h1, h2⟩ := h.shape c cs e hcs
    obtain ⟨cs'', h3, h4⟩ := k.shape c cs' e h1
    exact ⟨cs'', h3, h4.trans h2⟩
  sig := fun b pl hb => k.sig b pl (h.sig b pl hb)
  eqfr := k.eqfr.trans h.eqfr
  frame := fun c hc => (k.frame c (by rw [h.eqfr]; exact hc)).trans (h.frame c hc)
  own := fun c hc => by
    rcases k.own c hc with h1 | h1
    · exact h.own c h1
    · exact .inr (Nat.le_trans h.size h1)

theorem lt_of_cell' {w : World} {b o : Nat} {u : Value} (h : w.cell? ⟨b, o, none⟩ = some u) : b < w.heap.size := by
  rcases Nat.lt_or_ge b w.heap.size with hlt | hge
  · exact hlt
  · simp [World.cell?, Array.getElem?_eq_none hge] at h
theorem Lies.lt {w : World} {T : Nat → Prop} {rows : List (List AV)} {b o sz : Nat} (h : Lies w T rows b o sz) : b < w.heap.size := by
  obtain ⟨u, hu⟩ := h.cell 0 0 h.ne h.pos
  exact lt_of_cell' hu
theorem Lies.cell_eq {w w' : World} {σ σ' : Sig} {T T' : Nat → Prop} {rows : List (List AV)} {b o sz : Nat} (h : Lies w T rows b o sz) (e : Ext w σ T w' σ' T') (k : Nat) :
    w'.cell? ⟨b, k, none⟩ = w.cell? ⟨b, k, none⟩ :=
  World.cell?_of_block (w := w) (w' := w') (a := ⟨b, k, none⟩) (e.keep b h.lt h.out)
theorem Lies.mono {w w' : World} {σ σ' : Sig} {T T' : Nat → Prop} {rows : List (List AV)} {b o sz : Nat} (h : Lies w T rows b o sz) (e : Ext w σ T w' σ' T') : Lies w' T' rows b o sz where
  out := fun ht => by
    rcases e.own b ht with h1 | h1
    · exact h.out h1
    · have := h.lt; omega
  even := h.even
  cell := fun i j hi hj => by rw [h.cell_eq e]; exact h.cell i j hi hj
  pos := h.pos
  ne := h.ne

theorem Rep.mono {w w' : World} {σ σ' : Sig} {T T' : Nat → Prop} (e : Ext w σ T w' σ' T') {a : AV} {v : Value} (h : Rep w σ T a v) : Rep w' σ' T' a v := by
  induction h with
  | int k n => exact .int k n
  | bool b => exact .bool b
  | str s => exact .str s
  | nilp => exact .nilp
  | ptr b i off pl h => exact .ptr b i off pl (e.sig b pl h)
  | pptr rows i off b o sz hl h ih => exact .pptr rows i off b o sz (hl.mono e) fun i r j a u h1 h2 h3 => ih i r j a u h1 h2 (by rwa [hl.cell_eq e] at h3)
  | nils => exact .nils
  | emp a => exact .emp a
  | sl b i n pl a cap h hn hm ha =>
    refine .sl b i n pl a cap (e.sig b pl h) hn hm fun hc => ?_
    obtain ⟨h1, cs, ty, h2, h3⟩ := ha hc
    obtain ⟨cs', h4, h5⟩ := e.shape _ _ _ h2
    exact ⟨h1, cs', ty, h4, by omega⟩
  | lst0 a cap hm => exact .lst0 a cap hm
  | lst rows b o sz cap hl hn hm h ih => exact .lst rows b o sz cap (hl.mono e) hn hm fun i r j a u h1 h2 h3 => ih i r j a u h1 h2 (by rwa [hl.cell_eq e] at h3)
  | agg cs vs hl h ih => exact .agg cs vs hl ih
  | tup cs vs hl h ih => exact .tup cs vs hl ih
  | fn f cs vs hl h ih => exact .fn f cs vs hl ih
  | nilf => exact .nilf
  | junk v => exact .junk v
theorem Reps.mono {w w' : World} {σ σ' : Sig} {T T' : Nat → Prop} (e : Ext w σ T w' σ' T') {cs : List AV} {vs : List Value} (h : Reps w σ T cs vs) : Reps w' σ' T' cs vs :=
  ⟨h.1, fun i a v h1 h2 => (h.2 i a v h1 h2).mono e⟩
end Go.Proofs.Ytdaejmkoenhbkaa.Am
