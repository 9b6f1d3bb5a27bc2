/- Sets of things as numbers, what fits, the seed, the growth: plain Lean, no program in sight. -/
import Derived.Test.YthihhibadpbncaaDoorOpsG
namespace Go.Proofs.YthihhibadpbncaaDoor

def bitsOf (n x : Nat) : List Nat := (List.range n).filter fun i => x.testBit i
def pop (x : Nat) : Nat := (bitsOf 32 x).length
def popT : List UInt8 := (List.range 256).map fun j => UInt8.ofNat (bitsOf 8 j).length

theorem bitsOf_le (n x : Nat) : (bitsOf n x).length ≤ n := by
  have := List.length_filter_le (fun i => x.testBit i) (List.range n)
  simpa [bitsOf] using this
theorem popT_ex {j : Nat} (h : j < 256) : ∃ b : UInt8, popT[j]? = some b ∧ b.toNat = (bitsOf 8 j).length := by
  refine ⟨UInt8.ofNat (bitsOf 8 j).length, by simp [popT, h], ?_⟩
  have := bitsOf_le 8 j
  rw [UInt8.toNat_ofNat']
  omega
theorem popT_use {s : ByteArray} {j : Nat} {b : UInt8} (h : s.data.toList = popT) (hb : popT[j]? = some b) : s.data.toList[j]? = some b := by rw [h]; exact hb

theorem bitsOf_split (n m x : Nat) : (bitsOf (n + m) x).length = (bitsOf n x).length + (bitsOf m (x >>> n)).length := by
  simp only [bitsOf, List.range_add, List.filter_append, List.length_append, List.filter_map, List.length_map]
  congr 1
  congr 1
  apply List.filter_congr
  intro i _
  simp [Nat.testBit_shiftRight]
theorem bitsOf_and (y : Nat) : bitsOf 8 (y &&& 255) = bitsOf 8 y := by
  simp only [bitsOf]
  apply List.filter_congr
  intro i hi
  have h8 : i < 8 := List.mem_range.1 hi
  have := Nat.testBit_two_pow_sub_one 8 i
  rw [show (2 ^ 8 - 1 : Nat) = 255 by rfl] at this
  simp [Nat.testBit_and, this, h8]
theorem pop_sum (x : Nat) : pop x = (bitsOf 8 (x >>> 24)).length + (bitsOf 8 (x >>> 16 &&& 255)).length + (bitsOf 8 (x >>> 8 &&& 255)).length + (bitsOf 8 (x &&& 255)).length := by
  rw [bitsOf_and, bitsOf_and, bitsOf_and]
  have h1 := bitsOf_split 8 24 x
  have h2 := bitsOf_split 8 16 (x >>> 8)
  have h3 := bitsOf_split 8 8 (x >>> 8 >>> 8)
  rw [← Nat.shiftRight_add] at h2 h3
  rw [← Nat.shiftRight_add] at h3
  simp only [pop]
  have e1 : (8 + 24 : Nat) = 32 := rfl
  have e2 : (8 + 16 : Nat) = 24 := rfl
  have e3 : (8 + 8 : Nat) = 16 := rfl
  have e4 : (16 + 8 : Nat) = 24 := rfl
  simp only [e1, e2, e3, e4] at h1 h2 h3
  omega
theorem pop_le (x : Nat) : pop x ≤ 32 := bitsOf_le 32 x

theorem bit01 (x i : Nat) : (x >>> i) &&& 1 = if x.testBit i then 1 else 0 := by
  rw [Nat.and_one_is_mod, Nat.testBit_eq_decide_div_mod_eq, Nat.shiftRight_eq_div_pow]
  by_cases h : x / 2 ^ i % 2 = 1
  · simp [h]
  · simp [h]; omega

/-- Does a set fit? -/
def fitsF : List Int → Int → Nat → Nat → Bool
  | [], _, _, _ => true
  | n :: r, left, x, i => if x.testBit i then (if n < 0 ∨ left < n then false else fitsF r (left - n) x (i + 1)) else fitsF r left x (i + 1)
def aheadF (a b : Nat) : Bool := if a ^^^ b = 0 then false else a.testBit (Lib.ctz 32 (a ^^^ b))
def better (pr : Nat → Int) (s : Nat) (best : Nat × Int) : Bool := decide (pr s < best.2) || (decide (pr s = best.2) && (decide (pop s < pop best.1) || (decide (pop s = pop best.1) && aheadF s best.1)))
def seedStep (sz : List Int) (bud : Int) (pr : Nat → Int) (m : Int) (best : Nat × Int) (s : Nat) : Nat × Int :=
  if m < (pop s : Int) then best else if fitsF sz bud s 0 = false then best else if better pr s best then (s, pr s) else best
/-- The best of the sets up to one. -/
def seedF (sz : List Int) (bud : Int) (pr : Nat → Int) (m : Int) : Nat → Nat × Int
  | 0 => (0, pr 0)
  | k + 1 => seedStep sz bud pr m (seedF sz bud pr m k) (k + 1)
def addStep (sz : List Int) (bud : Int) (pr : Nat → Int) (best next : Nat × Int) (i : Nat) : Nat × Int :=
  if best.1 ||| 2 ^ i = best.1 then next else if fitsF sz bud (best.1 ||| 2 ^ i) 0 = false then next else if pr (best.1 ||| 2 ^ i) < next.2 then (best.1 ||| 2 ^ i, pr (best.1 ||| 2 ^ i)) else next
/-- The best with one thing more, of the first so many things. -/
def addF (sz : List Int) (bud : Int) (pr : Nat → Int) (best : Nat × Int) : Nat → Nat × Int
  | 0 => best
  | i + 1 => addStep sz bud pr best (addF sz bud pr best i) i
def growF (sz : List Int) (bud : Int) (pr : Nat → Int) (k : Int) : Nat → Nat × Int → Nat × Int
  | 0, b => b
  | f + 1, b => if (pop b.1 : Int) < k then (if addF sz bud pr b sz.length = b then b else growF sz bud pr k f (addF sz bud pr b sz.length)) else b
def searchF (sz : List Int) (bud : Int) (pr : Nat → Int) (m k : Int) : Nat :=
  (growF sz bud pr k sz.length (seedF sz bud pr (min m k) (2 ^ sz.length - 1))).1

theorem seedF_lt (sz : List Int) (bud : Int) (pr : Nat → Int) (m : Int) : ∀ k, (seedF sz bud pr m k).1 ≤ k
  | 0 => Nat.le_refl _
  | k + 1 => by
    have := seedF_lt sz bud pr m k
    simp only [seedF, seedStep]
    repeat' split
    all_goals first | omega | (dsimp only; omega)
theorem seedF_pr (sz : List Int) (bud : Int) (pr : Nat → Int) (m : Int) : ∀ k, (seedF sz bud pr m k).2 = pr (seedF sz bud pr m k).1
  | 0 => rfl
  | k + 1 => by
    have := seedF_pr sz bud pr m k
    simp only [seedF, seedStep]
    repeat' split
    all_goals first | exact this | rfl

theorem or_bit_lt {b i n : Nat} (hb : b < 2 ^ n) (hi : i < n) : b ||| 2 ^ i < 2 ^ n := Nat.or_lt_two_pow hb (Nat.pow_lt_pow_right (by omega) hi)
/-- What the growth by one comes to: nothing, or one thing that was not there. -/
theorem addF_form (sz : List Int) (bud : Int) (pr : Nat → Int) (best : Nat × Int) : ∀ k, addF sz bud pr best k = best ∨ ∃ i, i < k ∧ best.1.testBit i = false ∧ addF sz bud pr best k = (best.1 ||| 2 ^ i, pr (best.1 ||| 2 ^ i))
  | 0 => .inl rfl
  | k + 1 => by
    have ih := addF_form sz bud pr best k
    have keep : addF sz bud pr best k = best ∨ ∃ i, i < k + 1 ∧ best.1.testBit i = false ∧ addF sz bud pr best k = (best.1 ||| 2 ^ i, pr (best.1 ||| 2 ^ i)) := by
      rcases ih with h | ⟨i, h1, h2, h3⟩
      · exact .inl h
      · exact .inr ⟨i, by omega, h2, h3⟩
    simp only [addF, addStep]
    split
    · exact keep
    · rename_i hne
      split
      · exact keep
      · split
        · refine .inr ⟨k, by omega, ?_, rfl⟩
          cases hb : best.1.testBit k with
          | false => rfl
          | true =>
            refine absurd (Nat.eq_of_testBit_eq fun j => ?_) hne
            rw [Nat.testBit_or, Nat.testBit_two_pow]
            by_cases hj : k = j
            · subst hj; simp [hb]
            · simp [hj]
        · exact keep

theorem bitsOf_or {n b i : Nat} (hi : i < n) (hb : b.testBit i = false) : (bitsOf n (b ||| 2 ^ i)).length = (bitsOf n b).length + 1 := by
  induction n with
  | zero => omega
  | succ n ih =>
    simp only [bitsOf, List.range_succ, List.filter_append, List.length_append]
    by_cases h : i = n
    · subst h
      have e : (List.range i).filter (fun j => (b ||| 2 ^ i).testBit j) = (List.range i).filter (fun j => b.testBit j) := by
        apply List.filter_congr
        intro j hj
        have := List.mem_range.1 hj
        simp [Nat.testBit_or, Nat.testBit_two_pow, show i ≠ j by omega]
      rw [e]
      simp [Nat.testBit_or, Nat.testBit_two_pow, hb]
    · have h2 := ih (by omega)
      simp only [bitsOf] at h2
      rw [h2]
      have : (b ||| 2 ^ i).testBit n = b.testBit n := by simp [Nat.testBit_or, Nat.testBit_two_pow, h]
      have e : (List.filter (fun j => (b ||| 2 ^ i).testBit j) [n]) = List.filter (fun j => b.testBit j) [n] := by simp only [List.filter_cons, this, List.filter_nil]
      rw [e]
      omega
theorem pop_or {b i : Nat} (hi : i < 32) (hb : b.testBit i = false) : pop (b ||| 2 ^ i) = pop b + 1 := bitsOf_or hi hb
theorem bitsOf_ge {n b : Nat} (m : Nat) (hb : b < 2 ^ n) : (bitsOf (n + m) b).length = (bitsOf n b).length := by
  rw [bitsOf_split]
  have : b >>> n = 0 := by rw [Nat.shiftRight_eq_div_pow]; exact Nat.div_eq_of_lt hb
  rw [this]
  have e : (bitsOf m 0) = [] := by simp [bitsOf]
  rw [e]; rfl
theorem pop_lt {n b : Nat} (hn : n ≤ 32) (hb : b < 2 ^ n) : pop b ≤ n := by
  have h := bitsOf_ge (32 - n) hb
  rw [show n + (32 - n) = 32 by omega] at h
  have := bitsOf_le n b
  simp only [pop]
  omega
end Go.Proofs.YthihhibadpbncaaDoor
