/- Tables and indexes: how they lie in memory, and what is found in them. Plain Lean. -/
import Derived.Test.YtnoioimphcmeiaaGreatDoorSLex
namespace Go.Proofs.YtnoioimphcmeiaaGreatDoor
open Go.RowKit
set_option maxRecDepth 20000

/-- The cells of some things in a row. -/
def cellsL {α : Type} (f : α → List Value) (l : List α) : List Value := l.flatMap f
theorem cellsL_app {α : Type} {f : α → List Value} {l r : List α} : cellsL f (l ++ r) = cellsL f l ++ cellsL f r := List.flatMap_append
theorem cellsL_one {α : Type} {f : α → List Value} {a : α} : cellsL f [a] = f a := by simp [cellsL]
theorem cellsL_cons {α : Type} {f : α → List Value} {a : α} {l : List α} : cellsL f (a :: l) = f a ++ cellsL f l := List.flatMap_cons
theorem cellsL_len {α : Type} {f : α → List Value} {m : Nat} (h : ∀ a, (f a).length = m) : ∀ l : List α, (cellsL f l).length = l.length * m
  | [] => by simp [cellsL]
  | a :: l => by rw [cellsL_cons, List.length_append, h, cellsL_len h l, List.length_cons, Nat.add_mul, Nat.one_mul, Nat.add_comm]
theorem cellsL_take {α : Type} {f : α → List Value} {m : Nat} (h : ∀ a, (f a).length = m) (l : List α) (i : Nat) : (cellsL f l).take (i * m) = cellsL f (l.take i) := by
  rcases Nat.lt_or_ge i l.length with hi | hi
  · have e : cellsL f l = cellsL f (l.take i) ++ cellsL f (l.drop i) := by rw [← cellsL_app, List.take_append_drop]
    have hl := cellsL_len h (l.take i)
    rw [List.length_take, Nat.min_eq_left (Nat.le_of_lt hi)] at hl
    rw [e, ← hl, List.take_left]
  · rw [List.take_of_length_le hi, List.take_of_length_le (by rw [cellsL_len h]; exact Nat.mul_le_mul_right m hi)]
theorem cellsL_drop {α : Type} {f : α → List Value} {m : Nat} (h : ∀ a, (f a).length = m) (l : List α) (i : Nat) : (cellsL f l).drop (i * m) = cellsL f (l.drop i) := by
  rcases Nat.lt_or_ge i l.length with hi | hi
  · have e : cellsL f l = cellsL f (l.take i) ++ cellsL f (l.drop i) := by rw [← cellsL_app, List.take_append_drop]
    have hl := cellsL_len h (l.take i)
    rw [List.length_take, Nat.min_eq_left (Nat.le_of_lt hi)] at hl
    rw [e, ← hl, List.drop_left]
  · rw [List.drop_eq_nil_of_le hi, List.drop_eq_nil_of_le (by rw [cellsL_len h]; exact Nat.mul_le_mul_right m hi)]
    rfl
theorem drop_at {α : Type} {l : List α} {i : Nat} {a : α} (ha : l[i]? = some a) : l.drop i = a :: l.drop (i + 1) := by
  obtain ⟨h2, h3⟩ := List.getElem?_eq_some_iff.1 ha
  rw [List.drop_eq_getElem_cons h2, h3]
theorem take_at {α : Type} {l : List α} {i : Nat} {a : α} (ha : l[i]? = some a) : l.take (i + 1) = l.take i ++ [a] := by rw [List.take_add_one, ha]; rfl
/-- The cells of one of them. -/
theorem cellsL_row {α : Type} {f : α → List Value} {m : Nat} (h : ∀ a, (f a).length = m) {w : World} {b o i : Nat} {l : List α} {a : α} (hr : Row w b o (cellsL f l)) (ha : l[i]? = some a) : Row w b (o + i * m) (f a) := by
  have h1 := hr.drop (i * m)
  rw [cellsL_drop h, drop_at ha, cellsL_cons] at h1
  have h2 := h1.take (f a).length
  rwa [List.take_left] at h2
/-- A slice of some things that lies so. -/
theorem cellsL_at {α : Type} {f : α → List Value} {m : Nat} (h : ∀ a, (f a).length = m) (hm : 0 < m) {w : World} {A : Option Addr} {i : Nat} {l : List α} {a : α} (hr : SlR w A (cellsL f l)) (ha : l[i]? = some a) : ∃ b o, A = some ⟨b, o, none⟩ ∧ Row w b o (cellsL f l) ∧ Row w b (o + i * m) (f a) := by
  have hi := (List.getElem?_eq_some_iff.1 ha).1
  have h1 : i * m < (cellsL f l).length := by rw [cellsL_len h]; exact Nat.mul_lt_mul_of_pos_right hi hm
  obtain ⟨b, o, hA, hr'⟩ := hr.form h1
  exact ⟨b, o, hA, hr', cellsL_row h hr' ha⟩

/-- A column. -/
structure Col where
  name : List UInt8
  ty : Int
  nt : Bool
  deriving DecidableEq
def colC (c : Col) : List Value := [.string (str c.name), .int .i64 c.ty, .bool c.nt]
/-- A table, and where its columns lie. -/
structure Tab where
  name : List UInt8
  cols : List Col
  A : Option Addr
  cap : Nat
  root : Int
  next : Int
  rows : Int
def tabC (t : Tab) : List Value := [.string (str t.name), .slice t.A t.cols.length t.cap, .int .i64 t.root, .int .i64 t.next, .int .i64 t.rows]
structure TabOk (w : World) (t : Tab) : Prop where
  sl : SlR w t.A (cellsL colC t.cols)
  le : t.cols.length ≤ t.cap
/-- An index, and where its places lie. -/
structure Idx where
  name : List UInt8
  table : List UInt8
  cols : List Int
  A : Option Addr
  cap : Nat
  state : Int
  root : Int
  cursor : Int
def intC (n : Int) : List Value := [.int .i64 n]
def idxC (x : Idx) : List Value := [.string (str x.name), .string (str x.table), .slice x.A x.cols.length x.cap, .int .i64 x.state, .int .i64 x.root, .int .i64 x.cursor]
structure IdxOk (w : World) (x : Idx) : Prop where
  sl : SlR w x.A (cellsL intC x.cols)
  le : x.cols.length ≤ x.cap
/-- A schema, and where it lies. -/
structure Sch where
  tabs : List Tab
  A : Option Addr
  c : Nat
  idxs : List Idx
  B : Option Addr
  d : Nat
def schC (s : Sch) : List Value := [.slice s.A s.tabs.length s.c, .slice s.B s.idxs.length s.d]
structure SchOk (w : World) (s : Sch) : Prop where
  tsl : SlR w s.A (cellsL tabC s.tabs)
  tle : s.tabs.length ≤ s.c
  tab : ∀ t ∈ s.tabs, TabOk w t
  isl : SlR w s.B (cellsL idxC s.idxs)
  ile : s.idxs.length ≤ s.d
  idx : ∀ x ∈ s.idxs, IdxOk w x
theorem colC_len (c : Col) : (colC c).length = 3 := rfl
theorem tabC_len (c : Tab) : (tabC c).length = 5 := rfl
theorem idxC_len (c : Idx) : (idxC c).length = 6 := rfl
theorem intC_len (c : Int) : (intC c).length = 1 := rfl
theorem colC_one (c : Col) : ∀ v ∈ colC c, v.oneCell' = true := by simp [colC, Value.oneCell']
theorem tabC_one (c : Tab) : ∀ v ∈ tabC c, v.oneCell' = true := by simp [tabC, Value.oneCell']
theorem idxC_one (c : Idx) : ∀ v ∈ idxC c, v.oneCell' = true := by simp [idxC, Value.oneCell']
theorem schC_one (c : Sch) : ∀ v ∈ schC c, v.oneCell' = true := by simp [schC, Value.oneCell']
variable {w w' : World}
theorem TabOk.no {t : Tab} (h : TabOk w t) (hm : Mv No w w') : TabOk w' t := ⟨h.sl.no hm, h.le⟩
theorem IdxOk.no {t : Idx} (h : IdxOk w t) (hm : Mv No w w') : IdxOk w' t := ⟨h.sl.no hm, h.le⟩
theorem SchOk.no {s : Sch} (h : SchOk w s) (hm : Mv No w w') : SchOk w' s := ⟨h.tsl.no hm, h.tle, fun t ht => (h.tab t ht).no hm, h.isl.no hm, h.ile, fun t ht => (h.idx t ht).no hm⟩
/-- The place of the first that is so; -1: none is. -/
def findN {α : Type} (p : α → Bool) (l : List α) : Int := match l.findIdx? p with
  | some i => (i : Int)
  | none => -1
theorem findN_some {α : Type} {p : α → Bool} {l : List α} {i : Nat} {a : α} (ha : l[i]? = some a) (hp : p a = true) (hb : ∀ x ∈ l.take i, p x = false) : findN p l = (i : Int) := by
  obtain ⟨hi, he⟩ := List.getElem?_eq_some_iff.1 ha
  have : l.findIdx? p = some i := by
    rw [List.findIdx?_eq_some_iff_getElem]
    refine ⟨hi, by rw [he]; exact hp, fun j hj => ?_⟩
    rw [hb _ (List.mem_take_iff_getElem.2 ⟨j, by omega, rfl⟩)]
    decide
  unfold findN
  rw [this]
theorem findN_none {α : Type} {p : α → Bool} {l : List α} (hb : ∀ x ∈ l, p x = false) : findN p l = -1 := by
  have : l.findIdx? p = none := List.findIdx?_eq_none_iff.2 hb
  unfold findN
  rw [this]
theorem findN_cases {α : Type} (p : α → Bool) (l : List α) : (findN p l = -1 ∧ ∀ x ∈ l, p x = false) ∨ ∃ (i : Nat) (a : α), findN p l = (i : Int) ∧ l[i]? = some a ∧ p a = true ∧ ∀ x ∈ l.take i, p x = false := by
  cases h : l.findIdx? p with
  | none =>
    have h1 := List.findIdx?_eq_none_iff.1 h
    exact .inl ⟨findN_none h1, h1⟩
  | some i =>
    obtain ⟨hi, h2, h3⟩ := List.findIdx?_eq_some_iff_getElem.1 h
    have hb : ∀ x ∈ l.take i, p x = false := fun x hx => by
      obtain ⟨j, hj, rfl⟩ := List.mem_take_iff_getElem.1 hx
      have := h3 j (by omega)
      simpa using this
    exact .inr ⟨i, l[i], findN_some (List.getElem?_eq_getElem hi) h2 hb, List.getElem?_eq_getElem hi, h2, hb⟩
end Go.Proofs.YtnoioimphcmeiaaGreatDoor
