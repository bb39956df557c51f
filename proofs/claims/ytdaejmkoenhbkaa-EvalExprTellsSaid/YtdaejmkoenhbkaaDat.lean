/- The data of the program's types, as Lean values, and how memory holds them. -/
import Derived.Test.YtdaejmkoenhbkaaSli
namespace Go.Proofs.Ytdaejmkoenhbkaa.Am
set_option linter.unusedVariables false
abbrev Str := List UInt8
structure CellD where
  name : Str
  index : Int
  size : Int
  volatile : Bool
  init : Int
  deriving Inhabited, DecidableEq
structure LockI where
  name : Str
  rw : Bool
  deriving Inhabited, DecidableEq
structure CondI where
  name : Str
  mutex : Int
  deriving Inhabited, DecidableEq
structure SiteD where
  thread : Int
  stmt : Int
  line : Int
  deriving Inhabited, DecidableEq
structure WorldD where
  cells : List CellD
  locks : List LockI
  conds : List CondI
  futures : List Str
  threads : List Str
  sites : List SiteD
  deriving Inhabited, DecidableEq
structure LockD where
  owner : Int
  readers : List Int
  deriving Inhabited, DecidableEq
structure ThrD where
  status : Int
  cond : Int
  atomic : Bool
  deriving Inhabited, DecidableEq
structure SyncD where
  locks : List LockD
  tx : Int
  done : List Bool
  threads : List ThrD
  deriving Inhabited, DecidableEq
def CellD.enc (c : CellD) : List AV := [.str c.name, .int .i64 c.index, .int .i64 c.size, .bool c.volatile, .int .i64 c.init]
def LockI.enc (c : LockI) : List AV := [.str c.name, .bool c.rw]
def CondI.enc (c : CondI) : List AV := [.str c.name, .int .i64 c.mutex]
def SiteD.enc (c : SiteD) : List AV := [.int .i64 c.thread, .int .i64 c.stmt, .int .i64 c.line]
def strE (s : Str) : List AV := [.str s]
def intE (n : Int) : List AV := [.int .i64 n]
def boolE (b : Bool) : List AV := [.bool b]
def LockD.enc (l : LockD) : List AV := [.int .i64 l.owner, .lst (l.readers.map intE)]
def ThrD.enc (t : ThrD) : List AV := [.int .i64 t.status, .int .i64 t.cond, .bool t.atomic]
def WorldD.enc (w : WorldD) : List AV := [.lst (w.cells.map CellD.enc), .lst (w.locks.map LockI.enc), .lst (w.conds.map CondI.enc), .lst (w.futures.map strE), .lst (w.threads.map strE), .lst (w.sites.map SiteD.enc)]
def SyncD.enc (s : SyncD) : List AV := [.lst (s.locks.map LockD.enc), .int .i64 s.tx, .lst (s.done.map boolE), .lst (s.threads.map ThrD.enc)]
theorem map_at {α β : Type} {f : α → β} {l : List α} {i : Nat} (h : i < l.length) : (l.map f)[i]? = some (f l[i]) := by simp [h]
theorem map_at' {α β : Type} {f : α → β} {l : List α} {i : Nat} {x : α} (h : l[i]? = some x) : (l.map f)[i]? = some (f x) := by simp [h]
theorem i64_succ {i n : Nat} (h : i < n) (hn : n < 2 ^ 62) : IntKind.i64.wrap ((i : Int) + 1) = ((i + 1 : Nat) : Int) := by rw [IntWalk.i64_in _ (by omega)]; omega
theorem dec_lt {i n : Nat} (h : i < n) : decide ((i : Int) < (n : Int)) = true := by simpa using h
theorem dec_ge {i n : Nat} (h : n ≤ i) : decide ((i : Int) < (n : Int)) = false := by simpa using h
theorem fzs_eq {vs vs2 : List AV} {L L2 : SH} (hv : vs = vs2) (hL : L = L2) : FzS vs L vs2 L2 := by subst hv; subst hL; exact .refl _ _
/-- a loop that counts -/
theorem for_by (n : Nat) (S : Nat → List AV × SH) (G : Nat → Prop) {B : List AV → SH → W.Kn → Prop} {vs : List AV} {L : SH} (h0 : G 0) (hv : vs = (S 0).1) (hL : L = (S 0).2)
    (h : ∀ i, i ≤ n → G i → B (S i).1 (S i).2 fun vs' L' => ∃ j, i < j ∧ j ≤ n ∧ G j ∧ FzS vs' L' (S j).1 (S j).2) : W.loop B vs L := by
  refine ⟨fun k vs L => ∃ i, i ≤ n ∧ G i ∧ k = n - i ∧ vs = (S i).1 ∧ L = (S i).2, ⟨n, _, _, .refl _ _, 0, Nat.zero_le _, h0, rfl, hv, hL⟩, ?_⟩
  rintro k vs L ⟨i, hi, hG, rfl, rfl, rfl⟩
  have e : (fun vs' L' => ∃ m vs2 L2, m < n - i ∧ FzS vs' L' vs2 L2 ∧ ∃ j, j ≤ n ∧ G j ∧ m = n - j ∧ vs2 = (S j).1 ∧ L2 = (S j).2) = fun vs' L' => ∃ j, i < j ∧ j ≤ n ∧ G j ∧ FzS vs' L' (S j).1 (S j).2 := by
    funext vs' L'
    apply propext
    constructor
    · rintro ⟨m, vs2, L2, h1, h2, j, h3, h4, rfl, rfl, rfl⟩; exact ⟨j, by omega, h3, h4, h2⟩
    · rintro ⟨j, h1, h2, h3, h4⟩; exact ⟨n - j, _, _, by omega, h4, j, h2, h3, rfl, rfl, rfl⟩
  rw [e]
  exact h i hi hG
def inB (i : Int) (n : Nat) : Bool := decide (0 ≤ i) && decide (i < (n : Int))
theorem inB_iff {i : Int} {n : Nat} : inB i n = true ↔ 0 ≤ i ∧ i < n := by simp [inB]
theorem nn_inB {i : Int} {n : Nat} (h : inB i n = true) : 0 ≤ i := (inB_iff.1 h).1
theorem at_inB {α : Type} [Inhabited α] {f : α → List AV} {l : List α} {i : Int} (h : inB i l.length = true) : (l.map f)[i.toNat]? = some (f (l.getD i.toNat default)) := by
  obtain ⟨h1, h2⟩ := inB_iff.1 h
  have : i.toNat < l.length := by omega
  simp [this]
end Go.Proofs.Ytdaejmkoenhbkaa.Am
