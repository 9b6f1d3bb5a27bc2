/- What the search comes to: plain Lean. -/
import Derived.Test.YthihhibadpbncaaDoorGLib
namespace Go.Proofs.YthihhibadpbncaaDoor

theorem fitsF_zero : ∀ (sz : List Int) (bud : Int) (i : Nat), fitsF sz bud 0 i = true
  | [], _, _ => rfl
  | n :: r, bud, i => by simp only [fitsF, Nat.zero_testBit]; exact fitsF_zero r bud (i + 1)
theorem pop_zero : pop 0 = 0 := by decide

/-- Of a set that was found: it fits, has no more than so many, its price stands beside it. -/
structure Good (sz : List Int) (bud : Int) (pr : Nat → Int) (k : Int) (b : Nat × Int) : Prop where
  fit : fitsF sz bud b.1 0 = true
  few : (pop b.1 : Int) ≤ k
  pr : b.2 = pr b.1
  lt : b.1 < 2 ^ sz.length

theorem seedF_good {sz : List Int} {bud : Int} {pr : Nat → Int} {m : Int} (hm : 0 ≤ m) : ∀ k, k < 2 ^ sz.length → Good sz bud pr m (seedF sz bud pr m k)
  | 0, h => ⟨fitsF_zero _ _ _, by show (pop 0 : Int) ≤ m; rw [pop_zero]; omega, rfl, h⟩
  | k + 1, h => by
    have ih := seedF_good (sz := sz) (bud := bud) (pr := pr) hm k (by omega)
    simp only [seedF, seedStep]
    split
    · exact ih
    · rename_i h1
      split
      · exact ih
      · rename_i h2
        split
        · exact ⟨by simpa using h2, by dsimp only; omega, rfl, h⟩
        · exact ih
theorem seedF_least {sz : List Int} {bud : Int} {pr : Nat → Int} {m : Int} : ∀ k s, s ≤ k → (pop s : Int) ≤ m → fitsF sz bud s 0 = true → (seedF sz bud pr m k).2 ≤ pr s
  | 0, s, h, _, _ => by
    obtain rfl : s = 0 := by omega
    exact Int.le_refl _
  | k + 1, s, h, hp, hf => by
    have ih := seedF_least (sz := sz) (bud := bud) (pr := pr) (m := m) k
    have step : (seedF sz bud pr m (k + 1)).2 ≤ (seedF sz bud pr m k).2 := by
      simp only [seedF, seedStep]
      split
      · exact Int.le_refl _
      · split
        · exact Int.le_refl _
        · split
          · rename_i hb
            simp only [better, Bool.or_eq_true, decide_eq_true_eq, Bool.and_eq_true] at hb
            dsimp only
            omega
          · exact Int.le_refl _
    by_cases hs : s = k + 1
    · subst hs
      simp only [seedF, seedStep]
      rw [if_neg (by omega), if_neg (by simp [hf])]
      split
      · exact Int.le_refl _
      · rename_i hb
        simp only [better, Bool.or_eq_true, decide_eq_true_eq, Bool.and_eq_true] at hb
        omega
    · exact Int.le_trans step (ih s (by omega) hp hf)

theorem addF_good {sz : List Int} {bud : Int} {pr : Nat → Int} {k : Int} {b : Nat × Int} (h : Good sz bud pr k b) (hl : sz.length ≤ 32) (hk : (pop b.1 : Int) < k) : ∀ i, i ≤ sz.length → Good sz bud pr k (addF sz bud pr b i) ∧ (addF sz bud pr b i).2 ≤ b.2
  | 0, _ => ⟨h, Int.le_refl _⟩
  | i + 1, hi => by
    obtain ⟨h1, h2⟩ := addF_good h hl hk i (by omega)
    simp only [addF, addStep]
    split
    · exact ⟨h1, h2⟩
    · rename_i hne
      split
      · exact ⟨h1, h2⟩
      · rename_i hf
        split
        · rename_i hlt
          have hbit : b.1.testBit i = false := by
            cases hb : b.1.testBit i with
            | false => rfl
            | true =>
              refine absurd (Nat.eq_of_testBit_eq fun j => ?_) hne
              rw [Nat.testBit_or, Nat.testBit_two_pow]
              by_cases hj : i = j
              · subst hj; simp [hb]
              · simp [hj]
          have hpop := pop_or (b := b.1) (i := i) (by omega) hbit
          exact ⟨⟨by simpa using hf, by dsimp only; omega, rfl, or_bit_lt h.lt (by omega)⟩, by dsimp only; omega⟩
        · exact ⟨h1, h2⟩
theorem growF_good {sz : List Int} {bud : Int} {pr : Nat → Int} {k : Int} (hl : sz.length ≤ 32) : ∀ f b, Good sz bud pr k b → Good sz bud pr k (growF sz bud pr k f b) ∧ (growF sz bud pr k f b).2 ≤ b.2
  | 0, b, h => ⟨h, Int.le_refl _⟩
  | f + 1, b, h => by
    simp only [growF]
    split
    · rename_i hk
      split
      · exact ⟨h, Int.le_refl _⟩
      · obtain ⟨h1, h2⟩ := addF_good h hl hk sz.length (Nat.le_refl _)
        obtain ⟨h3, h4⟩ := growF_good hl f _ h1
        exact ⟨h3, Int.le_trans h4 h2⟩
    · exact ⟨h, Int.le_refl _⟩

/-- The set fits, has no more things than it may, and costs no more than any small set that fits. -/
theorem search_fits {sz : List Int} {bud : Int} {pr : Nat → Int} {m k : Int} (hl : sz.length ≤ 32) (hm : 0 ≤ m) (hk : 0 ≤ k) :
    fitsF sz bud (searchF sz bud pr m k) 0 = true ∧ (pop (searchF sz bud pr m k) : Int) ≤ k ∧ searchF sz bud pr m k < 2 ^ sz.length ∧
      ∀ s, s < 2 ^ sz.length → (pop s : Int) ≤ min m k → fitsF sz bud s 0 = true → pr (searchF sz bud pr m k) ≤ pr s := by
  have hpos : 0 < 2 ^ sz.length := Nat.two_pow_pos _
  have g := seedF_good (sz := sz) (bud := bud) (pr := pr) (m := min m k) (by omega) (2 ^ sz.length - 1) (by omega)
  have g2 : Good sz bud pr k (seedF sz bud pr (min m k) (2 ^ sz.length - 1)) := { g with few := by have := g.few; omega }
  obtain ⟨h1, h2⟩ := growF_good (k := k) hl sz.length _ g2
  refine ⟨h1.fit, h1.few, h1.lt, fun s hs hp hf => ?_⟩
  have h3 := seedF_least (sz := sz) (bud := bud) (pr := pr) (m := min m k) (2 ^ sz.length - 1) s (by omega) hp hf
  show pr (growF sz bud pr k sz.length (seedF sz bud pr (min m k) (2 ^ sz.length - 1))).1 ≤ pr s
  rw [← h1.pr]
  omega

theorem bitsOf_one (x : Nat) : (bitsOf 1 x).length = x % 2 := by
  simp only [bitsOf, show List.range 1 = [0] from rfl, List.filter_cons, List.filter_nil, Nat.testBit_zero]
  have : x % 2 = 0 ∨ x % 2 = 1 := by omega
  rcases this with h | h <;> simp [h]
theorem pop_half {x : Nat} (hx : x < 4294967296) : pop x = x % 2 + pop (x / 2) := by
  have h := bitsOf_split 1 31 x
  have h2 := bitsOf_ge (n := 31) (b := x / 2) 1 (by show x / 2 < 2147483648; omega)
  rw [bitsOf_one, Nat.shiftRight_eq_div_pow] at h
  simp only [pop]
  have e1 : (1 + 31 : Nat) = 32 := rfl
  have e2 : (31 + 1 : Nat) = 32 := rfl
  rw [e1] at h
  rw [e2] at h2
  rw [h, h2]
end Go.Proofs.YthihhibadpbncaaDoor
