/- Things that don't touch one another's prices: the best sum of so many, and that the search has it. Plain Lean. -/
import Derived.Test.YthihhibadpbncaaDoorGLaw
namespace Go.Proofs.YthihhibadpbncaaDoor

/-- The sum of a set's values. -/
def sumF (a : Nat → Int) (x : Nat) : Nat → Int
  | 0 => 0
  | i + 1 => if x.testBit i = true then sumF a x i + a i else sumF a x i
/-- The greatest sum of at most so many of the first so many. -/
def wF (a : Nat → Int) : Nat → Nat → Int
  | 0, _ => 0
  | _ + 1, 0 => 0
  | n + 1, j + 1 => max (wF a n (j + 1)) (a n + wF a n j)
theorem wF_zero (a : Nat → Int) : ∀ n, wF a n 0 = 0
  | 0 => rfl
  | _ + 1 => rfl

theorem bitsOf_succ (n x : Nat) : (bitsOf (n + 1) x).length = (bitsOf n x).length + (if x.testBit n = true then 1 else 0) := by
  simp only [bitsOf, List.range_succ, List.filter_append, List.length_append]
  congr 1
  by_cases h : x.testBit n = true <;> simp [h]
theorem wF_mono (a : Nat → Int) : ∀ n j, wF a n j ≤ wF a n (j + 1)
  | 0, _ => Int.le_refl _
  | n + 1, 0 => by
    have := wF_mono a n 0
    rw [wF_zero] at this
    simp only [wF]
    omega
  | n + 1, j + 1 => by
    have h1 := wF_mono a n (j + 1)
    have h2 := wF_mono a n j
    simp only [wF]
    omega
theorem wF_mono' (a : Nat → Int) (n : Nat) {i j : Nat} (h : i ≤ j) : wF a n i ≤ wF a n j := by
  induction h with
  | refl => exact Int.le_refl _
  | step _ ih => exact Int.le_trans ih (wF_mono a n _)
/-- No set of at most so many has more. -/
theorem sum_le (a : Nat → Int) (x : Nat) : ∀ n j, (bitsOf n x).length ≤ j → sumF a x n ≤ wF a n j
  | 0, _, _ => Int.le_refl _
  | n + 1, j, h => by
    rw [bitsOf_succ] at h
    simp only [sumF]
    by_cases hb : x.testBit n = true
    · rw [if_pos hb] at h ⊢
      obtain ⟨j, rfl⟩ : ∃ i, j = i + 1 := ⟨j - 1, by omega⟩
      have := sum_le a x n j (by omega)
      simp only [wF]
      omega
    · rw [if_neg hb] at h ⊢
      have := sum_le a x n j (by omega)
      cases j with
      | zero => rw [wF_zero] at this ⊢; exact this
      | succ j => simp only [wF]; omega
theorem sum_bit (a : Nat → Int) (x i : Nat) : ∀ n, n ≤ i → sumF a (x ||| 2 ^ i) n = sumF a x n
  | 0, _ => rfl
  | n + 1, h => by
    have := sum_bit a x i n (by omega)
    simp only [sumF, this, Nat.testBit_or, Nat.testBit_two_pow, show ¬ i = n by omega, decide_false, Bool.or_false]
theorem sum_or (a : Nat → Int) {x i : Nat} (hx : x.testBit i = false) : ∀ n, i < n → sumF a (x ||| 2 ^ i) n = sumF a x n + a i
  | 0, h => by omega
  | n + 1, h => by
    by_cases hi : i = n
    · subst hi
      have := sum_bit a x i i (Nat.le_refl _)
      simp [sumF, this, Nat.testBit_or, Nat.testBit_two_pow, hx]
    · have := sum_or a hx n (by omega)
      simp only [sumF, this, Nat.testBit_or, Nat.testBit_two_pow, hi, decide_false, Bool.or_false]
      split <;> omega
theorem bits_bit {x i : Nat} : ∀ n, n ≤ i → (bitsOf n (x ||| 2 ^ i)).length = (bitsOf n x).length
  | 0, _ => rfl
  | n + 1, h => by
    have := bits_bit (x := x) n (show n ≤ i by omega)
    rw [bitsOf_succ, bitsOf_succ, this]
    simp only [Nat.testBit_or, Nat.testBit_two_pow, show ¬ i = n by omega, decide_false, Bool.or_false]
theorem sum_lo (a : Nat → Int) {n x y : Nat} (h : ∀ i, i < n → x.testBit i = y.testBit i) : sumF a x n = sumF a y n := by
  induction n with
  | zero => rfl
  | succ n ih => simp only [sumF, ih (fun i hi => h i (by omega)), h n (by omega)]
theorem bits_lo {n x y : Nat} (h : ∀ i, i < n → x.testBit i = y.testBit i) : (bitsOf n x).length = (bitsOf n y).length := by
  induction n with
  | zero => rfl
  | succ n ih => rw [bitsOf_succ, bitsOf_succ, ih (fun i hi => h i (by omega)), h n (by omega)]
theorem clear_bit (x i j : Nat) (h : x < 2 ^ i) : x.testBit i = false ∧ ∀ k, k < i → (x ||| 2 ^ i).testBit k = x.testBit k :=
  ⟨Nat.testBit_lt_two_pow h, fun k hk => by simp [Nat.testBit_or, Nat.testBit_two_pow, show ¬ i = k by omega]⟩
/-- Some set of at most so many has it. -/
theorem sum_ex (a : Nat → Int) : ∀ n j, ∃ x, x < 2 ^ n ∧ (bitsOf n x).length ≤ j ∧ sumF a x n = wF a n j
  | 0, j => ⟨0, by simp, Nat.zero_le _, rfl⟩
  | n + 1, 0 => by
    obtain ⟨x, h1, h2, h3⟩ := sum_ex a n 0
    rw [wF_zero] at h3
    have hb : x.testBit n = false := Nat.testBit_lt_two_pow h1
    exact ⟨x, by rw [Nat.pow_succ]; omega, by rw [bitsOf_succ, hb]; simpa using h2, by simp [sumF, hb, h3, wF]⟩
  | n + 1, j + 1 => by
    by_cases hle : a n + wF a n j ≤ wF a n (j + 1)
    · obtain ⟨x, h1, h2, h3⟩ := sum_ex a n (j + 1)
      have hb : x.testBit n = false := Nat.testBit_lt_two_pow h1
      exact ⟨x, by rw [Nat.pow_succ]; omega, by rw [bitsOf_succ, hb]; simpa using h2, by simp only [sumF, hb, h3, wF]; rw [if_neg (by simp)]; omega⟩
    · obtain ⟨x, h1, h2, h3⟩ := sum_ex a n j
      have hb : x.testBit n = false := Nat.testBit_lt_two_pow h1
      refine ⟨x ||| 2 ^ n, Nat.or_lt_two_pow (by rw [Nat.pow_succ]; omega) (Nat.pow_lt_pow_right (by omega) (by omega)), ?_, ?_⟩
      · rw [bitsOf_or (by omega) hb, bitsOf_succ, hb]
        simp
        omega
      · rw [sum_or a hb (n + 1) (by omega)]
        simp only [sumF, hb, h3, wF]
        rw [if_neg (by simp)]
        omega

/-- One thing out of a set. -/
theorem sum_out (a : Nat → Int) {x i n : Nat} (hx : x < 2 ^ n) (hi : x.testBit i = true) : ∃ y, y < 2 ^ n ∧ (bitsOf n y).length + 1 = (bitsOf n x).length ∧ sumF a y n + a i = sumF a x n := by
  have hin : i < n := by
    rcases Nat.lt_or_ge i n with h | h
    · exact h
    · have := Nat.testBit_lt_two_pow (x := x) (i := i) (Nat.lt_of_lt_of_le hx (Nat.pow_le_pow_right (by omega) h))
      rw [this] at hi; cases hi
  have hy : (x ^^^ 2 ^ i).testBit i = false := by simp [Nat.testBit_xor, Nat.testBit_two_pow, hi]
  have he : (x ^^^ 2 ^ i) ||| 2 ^ i = x := by
    apply Nat.eq_of_testBit_eq
    intro j
    by_cases hj : i = j
    · subst hj; simp [Nat.testBit_or, Nat.testBit_two_pow, hi]
    · simp [Nat.testBit_or, Nat.testBit_xor, Nat.testBit_two_pow, hj]
  refine ⟨x ^^^ 2 ^ i, Nat.xor_lt_two_pow hx (Nat.pow_lt_pow_right (by omega) hin), ?_, ?_⟩
  · have := bitsOf_or hin hy
    rw [he] at this
    exact this.symm
  · have := sum_or a hy n hin
    rw [he] at this
    exact this.symm
/-- Of two sets the one with more things has one that the other hasn't. -/
theorem has_more {x y : Nat} : ∀ n, (bitsOf n x).length < (bitsOf n y).length → ∃ i, i < n ∧ x.testBit i = false ∧ y.testBit i = true
  | 0, h => by simp [bitsOf] at h
  | n + 1, h => by
    rw [bitsOf_succ, bitsOf_succ] at h
    by_cases h1 : (bitsOf n x).length < (bitsOf n y).length
    · obtain ⟨i, h2, h3⟩ := has_more n h1
      exact ⟨i, by omega, h3⟩
    · refine ⟨n, by omega, ?_⟩
      cases hx : x.testBit n <;> cases hy : y.testBit n <;> simp [hx, hy] at h ⊢ <;> omega
theorem sum_over (a : Nat → Int) {x y : Nat} : ∀ n, (∀ i, i < n → x.testBit i = false → a i ≤ 0) → (∀ i, i < n → x.testBit i = true → 0 ≤ a i) → sumF a y n ≤ sumF a x n
  | 0, _, _ => Int.le_refl _
  | n + 1, h1, h2 => by
    have ih := sum_over a (x := x) (y := y) n (fun i hi => h1 i (by omega)) (fun i hi => h2 i (by omega))
    have g1 := h1 n (by omega)
    have g2 := h2 n (by omega)
    simp only [sumF]
    cases hx : x.testBit n <;> cases hy : y.testBit n <;> simp [hx] at g1 g2 ⊢ <;> omega

/-- Best, of as many things as it has. -/
def Best (a : Nat → Int) (n x : Nat) : Prop := x < 2 ^ n ∧ sumF a x n = wF a n (bitsOf n x).length
theorem Best.pos {a : Nat → Int} {n x : Nat} (h : Best a n x) : ∀ i, i < n → x.testBit i = true → 0 ≤ a i := fun i hi hb => by
  obtain ⟨y, h1, h2, h3⟩ := sum_out a h.1 hb
  have h4 := sum_le a y n (bitsOf n x).length (by omega)
  have h5 := h.2
  omega
/-- Nothing is left that takes off: it is best of any number. -/
theorem Best.all {a : Nat → Int} {n x : Nat} (h : Best a n x) (hn : ∀ i, i < n → x.testBit i = false → a i ≤ 0) {j : Nat} (hj : (bitsOf n x).length ≤ j) : sumF a x n = wF a n j := by
  obtain ⟨y, _, _, h3⟩ := sum_ex a n j
  have h4 := sum_over a (x := x) (y := y) n hn h.pos
  have h5 := wF_mono' a n hj
  have h6 := h.2
  omega
/-- One more, the best of all, is best again. -/
theorem Best.more {a : Nat → Int} {n x i : Nat} (h : Best a n x) (hi : i < n) (hb : x.testBit i = false) (hp : 0 < a i) (hmax : ∀ j, j < n → x.testBit j = false → a j ≤ a i) : Best a n (x ||| 2 ^ i) := by
  refine ⟨or_bit_lt h.1 hi, ?_⟩
  rw [bitsOf_or hi hb, sum_or a hb n hi]
  have hle := sum_le a (x ||| 2 ^ i) n ((bitsOf n x).length + 1) (by rw [bitsOf_or hi hb]; exact Nat.le_refl _)
  rw [sum_or a hb n hi] at hle
  obtain ⟨y, h1, h2, h3⟩ := sum_ex a n ((bitsOf n x).length + 1)
  by_cases hc : (bitsOf n y).length ≤ (bitsOf n x).length
  · have := sum_le a y n _ hc
    have := h.2
    omega
  · obtain ⟨j, hj, hx, hy⟩ := has_more n (by omega : (bitsOf n x).length < (bitsOf n y).length)
    obtain ⟨z, g1, g2, g3⟩ := sum_out a h1 hy
    have g4 := sum_le a z n (bitsOf n x).length (by omega)
    have g5 := h.2
    have g6 := hmax j hj hx
    omega

/- the sorted list -/
def tops : List Int → Nat → Int
  | [], _ => 0
  | _ :: _, 0 => 0
  | d :: D, j + 1 => max d 0 + tops D j
def Desc (D : List Int) : Prop := D.Pairwise (· ≥ ·)
theorem tops_zero : ∀ D, tops D 0 = 0
  | [] => rfl
  | _ :: _ => rfl
theorem tops_step : ∀ (D : List Int) (v : Int) (j : Nat), (∀ d ∈ D, d ≤ v) → tops D (j + 1) ≤ max v 0 + tops D j
  | [], v, j, _ => by simp only [tops]; omega
  | d :: D, v, 0, h => by
    have := h d (by simp)
    have h1 := tops_zero D
    simp only [tops]
    omega
  | d :: D, v, j + 1, h => by
    have := tops_step D v j (fun e he => h e (by simp [he]))
    have e1 : tops (d :: D) (j + 1 + 1) = max d 0 + tops D (j + 1) := rfl
    have e2 : tops (d :: D) (j + 1) = max d 0 + tops D j := rfl
    omega
theorem tops_neg : ∀ (D : List Int) (j : Nat), (∀ d ∈ D, d ≤ 0) → tops D j = 0
  | [], _, _ => rfl
  | _ :: _, 0, _ => rfl
  | d :: D, j + 1, h => by
    have h1 := h d (by simp)
    have h2 := tops_neg D j (fun e he => h e (by simp [he]))
    simp only [tops, h2]
    omega
theorem tops_nonneg : ∀ (D : List Int) (j : Nat), 0 ≤ tops D j
  | [], _ => Int.le_refl _
  | _ :: _, 0 => Int.le_refl _
  | d :: D, j + 1 => by
    have := tops_nonneg D j
    simp only [tops]
    omega
/-- A value set in at its place. -/
theorem tops_ins : ∀ (D : List Int) (v : Int) (p : Nat), Desc D → p ≤ D.length → (∀ i, i < p → v ≤ D.getD i 0) → (∀ i, p ≤ i → i < D.length → D.getD i 0 < v) →
    Desc (D.take p ++ v :: D.drop p) ∧ ∀ j, tops (D.take p ++ v :: D.drop p) (j + 1) = max (tops D (j + 1)) (v + tops D j)
  | D, v, 0, hD, _, _, hlt => by
    have hall : ∀ d ∈ D, d < v := fun d hd => by
      obtain ⟨i, hi, rfl⟩ := List.getElem_of_mem hd
      have := hlt i (Nat.zero_le _) hi
      rwa [List.getD_eq_getElem?_getD, List.getElem?_eq_getElem hi] at this
    refine ⟨?_, fun j => ?_⟩
    · simp only [List.take_zero, List.drop_zero, List.nil_append]
      exact List.pairwise_cons.2 ⟨fun d hd => Int.le_of_lt (hall d hd), hD⟩
    · simp only [List.take_zero, List.drop_zero, List.nil_append, tops]
      have h1 := tops_step D v j (fun d hd => Int.le_of_lt (hall d hd))
      by_cases hv : v ≤ 0
      · have h2 := tops_neg D j (fun d hd => by have := hall d hd; omega)
        have h3 := tops_neg D (j + 1) (fun d hd => by have := hall d hd; omega)
        omega
      · omega
  | [], v, p + 1, _, hp, _, _ => by simp at hp
  | d :: D, v, p + 1, hD, hp, hge, hlt => by
    obtain ⟨hd, hD'⟩ := List.pairwise_cons.1 hD
    have hdv : v ≤ d := hge 0 (by omega)
    obtain ⟨ih1, ih2⟩ := tops_ins D v p hD' (by simpa using hp) (fun i hi => by simpa using hge (i + 1) (by omega)) (fun i h1 h2 => by simpa using hlt (i + 1) (by omega) (by simpa using h2))
    refine ⟨?_, fun j => ?_⟩
    · simp only [List.take_succ_cons, List.drop_succ_cons, List.cons_append]
      refine List.pairwise_cons.2 ⟨fun e he => ?_, ih1⟩
      rcases List.mem_append.1 he with he | he
      · exact hd e (List.mem_of_mem_take he)
      · rcases List.mem_cons.1 he with rfl | he
        · exact hdv
        · exact hd e (List.mem_of_mem_drop he)
    · simp only [List.take_succ_cons, List.drop_succ_cons, List.cons_append, tops]
      cases j with
      | zero =>
        have h0 := tops_zero (D.take p ++ v :: D.drop p)
        have h1 := tops_zero D
        have h2 := tops_zero (d :: D)
        omega
      | succ j =>
        rw [ih2 j]
        simp only [tops]
        omega
end Go.Proofs.YthihhibadpbncaaDoor
