/- Numbers as bytes: plain lists. -/
namespace Go.Proofs.Ytgicoidmjfhnbaa

/-- The bytes of a number: seven bits a byte, the least first. -/
def numB (n : Nat) : List UInt8 := if n < 128 then [UInt8.ofNat n] else UInt8.ofNat (n % 128 + 128) :: numB (n / 128)
decreasing_by omega

theorem numB_lt {n : Nat} (h : n < 128) : numB n = [UInt8.ofNat n] := by rw [numB, if_pos h]
theorem numB_ge {n : Nat} (h : ¬ n < 128) : numB n = UInt8.ofNat (n % 128 + 128) :: numB (n / 128) := by rw [numB, if_neg h]

theorem numB_len_pow (k : Nat) : ∀ n, n < 2 ^ (7 * (k + 1)) → (numB n).length ≤ k + 1 := by
  induction k with
  | zero => intro n h; rw [numB_lt (by omega)]; simp
  | succ k ih =>
    intro n h
    by_cases hn : n < 128
    · rw [numB_lt hn]; simp
    · rw [numB_ge hn]
      have : n / 128 < 2 ^ (7 * (k + 1)) := by
        rw [Nat.div_lt_iff_lt_mul (by omega)]
        calc n < 2 ^ (7 * (k + 1 + 1)) := h
          _ = 2 ^ (7 * (k + 1)) * 128 := by rw [show 7 * (k + 1 + 1) = 7 * (k + 1) + 7 by omega, Nat.pow_add]
      have := ih _ this
      simp only [List.length_cons]; omega

theorem numB_len (n : Nat) (h : n < 18446744073709551616) : (numB n).length ≤ 10 :=
  numB_len_pow 9 n (Nat.lt_of_lt_of_le h (by decide))

theorem numB_pos (n : Nat) : 0 < (numB n).length := by
  by_cases h : n < 128
  · rw [numB_lt h]; simp
  · rw [numB_ge h]; simp

theorem numB_pre {pre : List UInt8} {m n : Nat} (h : pre ++ numB m = numB n) (hl : (numB n).length ≤ 10) : pre.length < 10 := by
  have e := congrArg List.length h
  have p := numB_pos m
  rw [List.length_append] at e
  omega

/-- A number off the front: the error, or the number and what is left. 'i' bytes were taken, they came to 'acc'. -/
def takeF : Nat → Nat → List UInt8 → Except Int (Nat × List UInt8)
  | _, _, [] => .error 10
  | i, acc, c :: r =>
    if i = 9 ∧ 1 < c.toNat then .error 7
    else if c.toNat < 128 then (if c.toNat = 0 ∧ 0 < i then .error 7 else .ok (acc + c.toNat % 128 * 2 ^ (7 * i), r))
    else takeF (i + 1) (acc + c.toNat % 128 * 2 ^ (7 * i)) r

def ofTake (bs : List UInt8) : Except Int (Nat × List UInt8) → Nat × List UInt8 × Int
  | .error e => (0, bs, e)
  | .ok (n, r) => (n, r, 0)
/-- What a reader's Num comes to: the number, what is left, the error. -/
def rNum (bs : List UInt8) (err : Int) : Nat × List UInt8 × Int :=
  if err ≠ 0 then (0, bs, err) else ofTake bs (takeF 0 0 bs)

theorem takeF_suffix : ∀ (i acc : Nat) (bs : List UInt8) (n : Nat) (r : List UInt8), takeF i acc bs = .ok (n, r) → ∃ k, k ≤ bs.length ∧ r = bs.drop k
  | _, _, [], n, r, h => by simp [takeF] at h
  | i, acc, c :: bs, n, r, h => by
    simp only [takeF] at h
    split at h
    · cases h
    · split at h
      · split at h
        · cases h
        · cases h
          exact ⟨1, by simp, by simp⟩
      · obtain ⟨k, hk, hr⟩ := takeF_suffix _ _ bs n r h
        exact ⟨k + 1, by simp; omega, by simpa using hr⟩

theorem takeF_lt : ∀ (i acc : Nat) (bs : List UInt8) (n : Nat) (r : List UInt8), i ≤ 9 → acc < 2 ^ (7 * i) → takeF i acc bs = .ok (n, r) → n < 18446744073709551616
  | _, _, [], n, r, _, _, h => by simp [takeF] at h
  | i, acc, c :: bs, n, r, hi, ha, h => by
    simp only [takeF] at h
    have hp : 2 ^ (7 * (i + 1)) = 2 ^ (7 * i) * 128 := by rw [show 7 * (i + 1) = 7 * i + 7 by omega, Nat.pow_add]
    have hm : c.toNat % 128 * 2 ^ (7 * i) ≤ 127 * 2 ^ (7 * i) := Nat.mul_le_mul_right _ (by omega)
    have hlt : acc + c.toNat % 128 * 2 ^ (7 * i) < 2 ^ (7 * (i + 1)) := by omega
    split at h
    · cases h
    · rename_i h9
      split at h
      · split at h
        · cases h
        · cases h
          by_cases hi9 : i = 9
          · subst hi9
            have : c.toNat % 128 * 2 ^ 63 ≤ 1 * 2 ^ 63 := Nat.mul_le_mul_right _ (by omega)
            omega
          · have : 2 ^ (7 * (i + 1)) ≤ 2 ^ 63 := Nat.pow_le_pow_right (by omega) (by omega)
            omega
      · rename_i hc
        by_cases hi9 : i = 9
        · omega
        · exact takeF_lt (i + 1) _ bs n r (by omega) hlt h

theorem rNum_lt (bs : List UInt8) (err : Int) : (rNum bs err).1 < 18446744073709551616 := by
  unfold rNum
  split
  · simp
  · cases h : takeF 0 0 bs with
    | error e => simp [ofTake]
    | ok p => exact takeF_lt 0 0 bs p.1 p.2 (by omega) (by simp) h

theorem rNum_drop (bs : List UInt8) (err : Int) : ∃ k, k ≤ bs.length ∧ (rNum bs err).2.1 = bs.drop k := by
  unfold rNum
  split
  · exact ⟨0, by simp, by simp⟩
  · cases h : takeF 0 0 bs with
    | error e => exact ⟨0, by simp, by simp [ofTake]⟩
    | ok p => exact takeF_suffix 0 0 bs p.1 p.2 h

/-- A number that may be below 0. -/
def unzig (n : Nat) : Int := if n % 2 = 1 then -((n / 2 : Nat) : Int) - 1 else ((n / 2 : Nat) : Int)
def rInt (bs : List UInt8) (err : Int) : Int × List UInt8 × Int := (unzig (rNum bs err).1, (rNum bs err).2)
def rCount (bs : List UInt8) (err : Int) (most : Int) : Int × List UInt8 × Int :=
  if err ≠ 0 then (0, bs, err) else
  let x := rNum bs err
  if x.2.2 = 0 ∧ (most < 0 ∨ most < (x.1 : Int)) then (0, bs, 11) else (if x.2.2 = 0 then (x.1 : Int) else 0, x.2)
def rText (bs : List UInt8) (err : Int) (most : Int) : List UInt8 × List UInt8 × Int :=
  if err ≠ 0 then ([], bs, err) else
  let x := rCount bs err most
  if x.2.2 ≠ 0 then ([], x.2)
  else if (x.2.1.length : Int) < x.1 then ([], bs, 10)
  else (x.2.1.take x.1.toNat, x.2.1.drop x.1.toNat, 0)
def rBool (bs : List UInt8) (err : Int) : Bool × List UInt8 × Int :=
  if err ≠ 0 then (false, bs, err) else
  match bs with
  | [] => (false, [], 10)
  | c :: r => if 1 < c.toNat then (false, c :: r, 7) else (decide (c.toNat = 1), r, 0)
def rEnd (bs : List UInt8) (err : Int) : Int := if err = 0 ∧ 0 < bs.length then 12 else err
def rFail (err e : Int) : Int := if err = 0 then e else err

/-- A number that may be below 0, as one that is not. -/
def zig (n : Int) : Nat := if n < 0 then (-(n + 1) * 2 + 1).toNat else (n * 2).toNat

end Go.Proofs.Ytgicoidmjfhnbaa
