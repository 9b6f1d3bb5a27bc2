/- Lists of unlike things and their sets. Plain Lean. -/
import Derived.Test.YthihhibadpbncaaDoorGFind
import Derived.Test.YthihhibadpbncaaDoorGRef
namespace Go.Proofs.YthihhibadpbncaaDoor

inductive Rep (n : Nat) : List Nat → Nat → Prop
  | nil : Rep n [] 0
  | snoc {l : List Nat} {t i : Nat} : Rep n l t → i < n → t.testBit i = false → Rep n (l ++ [i]) (t ||| 2 ^ i)

theorem Rep.lt {n : Nat} {l : List Nat} {t : Nat} (h : Rep n l t) : t < 2 ^ n := by
  induction h with
  | nil => exact Nat.two_pow_pos _
  | snoc _ hi _ ih => exact or_bit_lt ih hi
theorem Rep.mem {n : Nat} {l : List Nat} {t : Nat} (h : Rep n l t) (i : Nat) : i ∈ l ↔ t.testBit i = true := by
  induction h with
  | nil => simp
  | snoc _ hi _ ih =>
    rename_i j _ _
    simp only [List.mem_append, ih, List.mem_cons, List.not_mem_nil, or_false, Nat.testBit_or, Nat.testBit_two_pow, Bool.or_eq_true, decide_eq_true_eq]
    constructor
    · rintro (h | h)
      · exact .inl h
      · exact .inr h.symm
    · rintro (h | h)
      · exact .inl h
      · exact .inr h.symm
theorem Rep.has {n : Nat} {l : List Nat} {t : Nat} (h : Rep n l t) (i : Nat) : l.contains i = t.testBit i := by
  have := h.mem i
  cases hb : t.testBit i with
  | true => simpa [hb] using this
  | false => simpa [hb] using this
theorem Rep.len {n : Nat} (hn : n ≤ 32) {l : List Nat} {t : Nat} (h : Rep n l t) : l.length = pop t := by
  induction h with
  | nil => simp [pop_zero]
  | snoc _ hi hb ih => rw [pop_or (by omega) hb]; simp [ih]
theorem Rep.bnd {n : Nat} {l : List Nat} {t : Nat} (h : Rep n l t) : ∀ i ∈ l, i < n := by
  induction h with
  | nil => simp
  | snoc _ hi _ ih =>
    intro i hi'
    rcases List.mem_append.1 hi' with h | h
    · exact ih i h
    · simp at h; omega

theorem sum_pow (n : Nat) : ∀ x, x < 2 ^ n → sumF (fun j => ((2 ^ j : Nat) : Int)) x n = (x : Int) := by
  induction n with
  | zero => intro x hx; have : x = 0 := by simpa using hx
            subst this; rfl
  | succ n ih =>
    intro x hx
    have hlo := sum_lo (fun j => ((2 ^ j : Nat) : Int)) (n := n) (x := x) (y := x % 2 ^ n) (fun i hi => by rw [Nat.testBit_mod_two_pow]; simp [hi])
    have h1 := ih (x % 2 ^ n) (Nat.mod_lt _ (Nat.two_pow_pos _))
    have h2 := Nat.div_add_mod x (2 ^ n)
    have h3 : x / 2 ^ n < 2 := by
      rw [Nat.pow_succ] at hx
      exact Nat.div_lt_of_lt_mul (by omega)
    simp only [sumF, hlo, h1]
    rw [Nat.testBit_eq_decide_div_mod_eq]
    clear ih hlo h1
    by_cases hq : x / 2 ^ n = 1
    · rw [if_pos (by simp [hq])]
      rw [hq, Nat.mul_one] at h2
      generalize x % 2 ^ n = r at *
      generalize 2 ^ n = z at *
      omega
    · have hq0 : x / 2 ^ n = 0 := by
        clear h2 hx
        generalize x / 2 ^ n = q at *
        omega
      rw [if_neg (by simp [hq0])]
      rw [hq0, Nat.mul_zero] at h2
      generalize x % 2 ^ n = r at *
      omega
theorem or_add {n t i : Nat} (ht : t < 2 ^ n) (hi : i < n) (hb : t.testBit i = false) : t ||| 2 ^ i = t + 2 ^ i := by
  have h1 := sum_pow n (t ||| 2 ^ i) (or_bit_lt ht hi)
  have h2 := sum_pow n t ht
  rw [sum_or _ hb n hi, h2] at h1
  omega
theorem Rep.set {n : Nat} {l : List Nat} {t : Nat} (h : Rep n l t) : setL l = t := by
  induction h with
  | nil => rfl
  | snoc hr hi hb ih => rw [setL_append, ih, or_add hr.lt hi hb]; simp [setL]

/- what fits -/
def szF (sz : List Int) (i : Nat) : Int := sz.getD i 0
def totL (sz : List Int) : List Nat → Int
  | [] => 0
  | x :: r => szF sz x + totL sz r
theorem totL_append (sz : List Int) (a b : List Nat) : totL sz (a ++ b) = totL sz a + totL sz b := by
  induction a with
  | nil => simp [totL]
  | cons x r ih => simp only [List.cons_append, totL, ih]; omega
theorem totL_nonneg (sz : List Int) : ∀ l, (∀ x ∈ l, 0 ≤ szF sz x) → 0 ≤ totL sz l
  | [], _ => Int.le_refl _
  | x :: r, h => by
    have h1 := h x (by simp)
    have h2 := totL_nonneg sz r (fun y hy => h y (by simp [hy]))
    simp only [totL]
    omega
theorem fitsL_iff (sz : List Int) : ∀ (l : List Nat) (left : Int), 0 ≤ left → (fitsL sz l left = true ↔ (∀ x ∈ l, 0 ≤ szF sz x) ∧ totL sz l ≤ left)
  | [], left, h => by simp [fitsL, totL, h]
  | x :: r, left, h => by
    simp only [fitsL, totL]
    show (if szF sz x < 0 ∨ left < szF sz x then false else fitsL sz r (left - szF sz x)) = true ↔ _
    by_cases hbad : szF sz x < 0 ∨ left < szF sz x
    · rw [if_pos hbad]
      refine ⟨fun h => (by cases h), fun ⟨h1, h2⟩ => ?_⟩
      have h3 := h1 x (by simp)
      have h4 := totL_nonneg sz r (fun y hy => h1 y (by simp [hy]))
      omega
    · rw [if_neg hbad, fitsL_iff sz r _ (by omega)]
      constructor
      · rintro ⟨h1, h2⟩
        refine ⟨fun y hy => ?_, by omega⟩
        rcases List.mem_cons.1 hy with rfl | hy
        · omega
        · exact h1 y hy
      · rintro ⟨h1, h2⟩
        exact ⟨fun y hy => h1 y (by simp [hy]), by omega⟩
theorem Rep.tot {n : Nat} (sz : List Int) {l : List Nat} {t : Nat} (h : Rep n l t) : totL sz l = sumF (szF sz) t n := by
  induction h with
  | nil =>
    have : ∀ k, sumF (szF sz) 0 k = 0 := by
      intro k
      induction k with
      | zero => rfl
      | succ k ih => simp [sumF, ih]
    rw [this]; rfl
  | snoc hr hi hb ih => rw [totL_append, sum_or _ hb n hi, ih]; simp [totL]
theorem sum_front (a : Nat → Int) (y : Nat) : ∀ k, sumF a y (k + 1) = (if y.testBit 0 = true then a 0 else 0) + sumF (fun j => a (j + 1)) (y >>> 1) k
  | 0 => by simp only [sumF]; split <;> omega
  | k + 1 => by
    have ih := sum_front a y k
    have e1 : sumF a y (k + 1 + 1) = if y.testBit (k + 1) = true then sumF a y (k + 1) + a (k + 1) else sumF a y (k + 1) := rfl
    have e2 : sumF (fun j => a (j + 1)) (y >>> 1) (k + 1) = if (y >>> 1).testBit k = true then sumF (fun j => a (j + 1)) (y >>> 1) k + a (k + 1) else sumF (fun j => a (j + 1)) (y >>> 1) k := rfl
    rw [e1, e2, ih, Nat.testBit_shiftRight, Nat.add_comm 1 k]
    split <;> omega
theorem sum_nonneg (a : Nat → Int) (y : Nat) : ∀ k, (∀ j, j < k → y.testBit j = true → 0 ≤ a j) → 0 ≤ sumF a y k
  | 0, _ => Int.le_refl _
  | k + 1, h => by
    have ih := sum_nonneg a y k (fun j hj => h j (by omega))
    simp only [sumF]
    split
    · rename_i hb
      have := h k (by omega) hb
      omega
    · exact ih
/-- A set's fit, by its bits and its sum. -/
theorem fitsF_iff : ∀ (sz : List Int) (left : Int) (x i : Nat), 0 ≤ left → (fitsF sz left x i = true ↔ (∀ j, j < sz.length → x.testBit (i + j) = true → 0 ≤ szF sz j) ∧ sumF (szF sz) (x >>> i) sz.length ≤ left)
  | [], left, x, i, h => by simp [fitsF, sumF, h]
  | n :: r, left, x, i, h => by
    have hs : sumF (szF (n :: r)) (x >>> i) (r.length + 1) = (if x.testBit i = true then n else 0) + sumF (szF r) (x >>> (i + 1)) r.length := by
      rw [sum_front, Nat.testBit_shiftRight, Nat.add_zero, ← Nat.shiftRight_add]
      rfl
    have hall : (∀ j, j < (n :: r).length → x.testBit (i + j) = true → 0 ≤ szF (n :: r) j) ↔ ((x.testBit i = true → 0 ≤ n) ∧ ∀ j, j < r.length → x.testBit (i + 1 + j) = true → 0 ≤ szF r j) := by
      constructor
      · intro k
        refine ⟨fun hb => k 0 (by simp) (by simpa using hb), fun j hj hb => k (j + 1) (by simpa using hj) (by rw [show i + (j + 1) = i + 1 + j by omega]; exact hb)⟩
      · rintro ⟨k1, k2⟩ j hj hb
        cases j with
        | zero => exact k1 (by simpa using hb)
        | succ j => exact k2 j (by simpa using hj) (by rw [show i + 1 + j = i + (j + 1) by omega]; exact hb)
    rw [hall]
    show fitsF (n :: r) left x i = true ↔ _ ∧ sumF (szF (n :: r)) (x >>> i) (r.length + 1) ≤ left
    rw [hs]
    simp only [fitsF]
    by_cases hb : x.testBit i = true
    · rw [if_pos hb, if_pos hb]
      by_cases hbad : n < 0 ∨ left < n
      · rw [if_pos hbad]
        refine ⟨fun h => (by cases h), fun ⟨⟨k1, k2⟩, k3⟩ => ?_⟩
        have h1 := k1 hb
        have h2 := sum_nonneg (szF r) (x >>> (i + 1)) r.length (fun j hj hbj => k2 j hj (by rw [Nat.testBit_shiftRight] at hbj; exact hbj))
        omega
      · rw [if_neg hbad, fitsF_iff r (left - n) x (i + 1) (by omega)]
        constructor
        · rintro ⟨k1, k2⟩
          exact ⟨⟨fun _ => by omega, k1⟩, by omega⟩
        · rintro ⟨⟨_, k1⟩, k2⟩
          exact ⟨k1, by omega⟩
    · rw [if_neg hb, if_neg hb, fitsF_iff r left x (i + 1) h]
      constructor
      · rintro ⟨k1, k2⟩
        exact ⟨⟨fun hh => absurd hh hb, k1⟩, by omega⟩
      · rintro ⟨⟨_, k1⟩, k2⟩
        exact ⟨k1, by omega⟩
theorem Rep.fit {n : Nat} {sz : List Int} (hn : sz.length = n) {l : List Nat} {t : Nat} {bud : Int} (hb : 0 ≤ bud) (h : Rep n l t) : fitsL sz l bud = fitsF sz bud t 0 := by
  subst hn
  have h1 := fitsL_iff sz l bud hb
  have h2 := fitsF_iff sz bud t 0 hb
  rw [h.tot] at h1
  simp only [Nat.zero_add, Nat.shiftRight_zero] at h2
  have h3 : (∀ x ∈ l, 0 ≤ szF sz x) ↔ (∀ j, j < sz.length → t.testBit j = true → 0 ≤ szF sz j) :=
    ⟨fun k j _ hj => k j ((h.mem j).2 hj), fun k x hx => k x (h.bnd x hx) ((h.mem x).1 hx)⟩
  rw [h3] at h1
  rw [Bool.eq_iff_iff, h1, h2]
end Go.Proofs.YthihhibadpbncaaDoor
