/- What is written is read again: plain lists. -/
import Derived.Test.YtgicoidmjfhnbaaLib
namespace Go.Proofs.Ytgicoidmjfhnbaa

theorem takeF_numB : ∀ (m i acc : Nat) (rest : List UInt8), m * 2 ^ (7 * i) < 18446744073709551616 → (0 < m ∨ i = 0) → i ≤ 9 → takeF i acc (numB m ++ rest) = .ok (acc + m * 2 ^ (7 * i), rest) := by
  intro m
  induction m using Nat.strongRecOn with
  | _ m ih =>
    intro i acc rest hlt hz hi
    by_cases hm : m < 128
    · rw [numB_lt hm]
      have hc : (UInt8.ofNat m).toNat = m := by rw [UInt8.toNat_ofNat']; omega
      simp only [List.singleton_append, takeF, hc]
      rw [if_neg, if_pos hm, if_neg (by omega), Nat.mod_eq_of_lt hm]
      rintro ⟨rfl, h1⟩
      have : 2 * 2 ^ (7 * 9) ≤ m * 2 ^ (7 * 9) := Nat.mul_le_mul_right _ (by omega)
      omega
    · rw [numB_ge hm]
      have hc : (UInt8.ofNat (m % 128 + 128)).toNat = m % 128 + 128 := by rw [UInt8.toNat_ofNat']; omega
      have hp : 2 ^ (7 * (i + 1)) = 2 ^ (7 * i) * 128 := by rw [show 7 * (i + 1) = 7 * i + 7 by omega, Nat.pow_add]
      have hi8 : i ≤ 8 := by
        rcases Nat.lt_or_ge i 9 with h | h
        · omega
        · obtain rfl : i = 9 := by omega
          have : 128 * 2 ^ (7 * 9) ≤ m * 2 ^ (7 * 9) := Nat.mul_le_mul_right _ (by omega)
          omega
      have hle : m / 128 * 2 ^ (7 * (i + 1)) ≤ m * 2 ^ (7 * i) := by
        rw [hp, Nat.mul_comm (2 ^ (7 * i)) 128, ← Nat.mul_assoc]
        exact Nat.mul_le_mul_right _ (by omega)
      simp only [List.cons_append, takeF, hc]
      rw [if_neg (by omega), if_neg (by omega), ih (m / 128) (by omega) (i + 1) _ rest (by omega) (.inl (by omega)) (by omega)]
      congr 2
      have h1 : (m % 128 + 128) % 128 = m % 128 := by omega
      rw [h1, hp, Nat.add_assoc, Nat.mul_comm (2 ^ (7 * i)) 128, ← Nat.mul_assoc, ← Nat.add_mul]
      have : m % 128 + m / 128 * 128 = m := by omega
      rw [this]

theorem rNum_numB (n : Nat) (hn : n < 18446744073709551616) (rest : List UInt8) : rNum (numB n ++ rest) 0 = (n, rest, 0) := by
  have := takeF_numB n 0 0 rest (by simpa using hn) (.inr rfl) (by omega)
  simp [rNum, this, ofTake]

theorem unzig_zig (n : Int) (_h0 : -9223372036854775808 ≤ n) (_h9 : n < 9223372036854775808) : unzig (zig n) = n := by
  unfold unzig zig
  by_cases h : n < 0
  · rw [if_pos h]
    split <;> omega
  · rw [if_neg h]
    split <;> omega
theorem zig_lt (n : Int) (h0 : -9223372036854775808 ≤ n) (h9 : n < 9223372036854775808) : zig n < 18446744073709551616 := by
  unfold zig
  split <;> omega

theorem rCount_numB (n : Nat) (hn : n < 18446744073709551616) (most : Int) (hm : (n : Int) ≤ most) (rest : List UInt8) : rCount (numB n ++ rest) 0 most = ((n : Int), rest, 0) := by
  have h := rNum_numB n hn rest
  simp only [rCount, h]
  rw [if_neg (by simp), if_neg (by omega)]
  rfl
theorem rCount_many (n : Nat) (hn : n < 18446744073709551616) (most : Int) (hm : most < (n : Int)) (rest : List UInt8) : rCount (numB n ++ rest) 0 most = (0, numB n ++ rest, 11) := by
  have h := rNum_numB n hn rest
  simp only [rCount, h]
  rw [if_neg (by simp), if_pos ⟨trivial, .inr hm⟩]
theorem rText_ok (l rest : List UInt8) (hl : l.length < 18446744073709551616) (most : Int) (hm : (l.length : Int) ≤ most) : rText (numB l.length ++ (l ++ rest)) 0 most = (l, rest, 0) := by
  have h := rCount_numB l.length hl most hm (l ++ rest)
  simp only [rText, h]
  rw [if_neg (by simp), if_neg (by simp), if_neg (by simp; omega)]
  simp
theorem rText_many (l rest : List UInt8) (hl : l.length < 18446744073709551616) (most : Int) (hm : most < (l.length : Int)) : rText (numB l.length ++ rest) 0 most = ([], numB l.length ++ rest, 11) := by
  have h := rCount_many l.length hl most hm rest
  simp only [rText, h]
  rw [if_neg (by simp), if_pos (by simp)]

/-- The bytes of neither begin those of the other. -/
theorem numB_prefix {a b : Nat} (ha : a < 18446744073709551616) (hb : b < 18446744073709551616) (n : Nat) (hn : n = min (numB a).length (numB b).length) : (numB a).take n = (numB b).take n ↔ a = b := by
  constructor
  · intro h
    have hA := rNum_numB a ha []
    have hB := rNum_numB b hb []
    rw [List.append_nil] at hA hB
    rcases Nat.le_total (numB a).length (numB b).length with hl | hl
    · have h1 : (numB a).take n = numB a := List.take_of_length_le (by omega)
      have h2 : numB b = numB a ++ (numB b).drop n := by rw [← h1, h, List.take_append_drop]
      have h3 := rNum_numB a ha ((numB b).drop n)
      rw [← h2, hB] at h3
      simp only [Prod.mk.injEq] at h3
      exact h3.1.symm
    · have h1 : (numB b).take n = numB b := List.take_of_length_le (by omega)
      have h2 : numB a = numB b ++ (numB a).drop n := by rw [← h1, ← h, List.take_append_drop]
      have h3 := rNum_numB b hb ((numB a).drop n)
      rw [← h2, hA] at h3
      simp only [Prod.mk.injEq] at h3
      exact h3.1
  · rintro rfl; rfl

theorem numB_mono : ∀ (a b : Nat), a ≤ b → (numB a).length ≤ (numB b).length := by
  intro a
  induction a using Nat.strongRecOn with
  | _ a ih =>
    intro b h
    by_cases ha : a < 128
    · rw [numB_lt ha]; exact numB_pos b
    · rw [numB_ge ha, numB_ge (by omega : ¬ b < 128)]
      simp only [List.length_cons]
      have := ih (a / 128) (by omega) (b / 128) (by omega)
      omega

end Go.Proofs.Ytgicoidmjfhnbaa
