/- Of things of one size that don't touch one another's prices, the search has the best sum. Plain Lean. -/
import Derived.Test.YthihhibadpbncaaDoorGTop
namespace Go.Proofs.YthihhibadpbncaaDoor

theorem fits_rep {size : Int} (h0 : 0 ≤ size) (x : Nat) : ∀ (r : Nat) (left : Int) (i : Nat), 0 ≤ left → (fitsF (List.replicate r size) left x i = true ↔ size * ((bitsOf r (x >>> i)).length : Int) ≤ left)
  | 0, left, i, hl => by simp [fitsF, bitsOf, hl]
  | r + 1, left, i, hl => by
    have hs := bitsOf_split 1 r (x >>> i)
    rw [bitsOf_one, ← Nat.shiftRight_add, Nat.add_comm 1 r] at hs
    have hb : (x >>> i) % 2 = if x.testBit i then 1 else 0 := by
      have := bit01 x i
      rwa [Nat.and_one_is_mod] at this
    rw [hb] at hs
    rw [hs]
    simp only [List.replicate_succ, fitsF]
    generalize hc : (bitsOf r (x >>> (i + 1))).length = c
    have hcn : 0 ≤ size * (c : Int) := Int.mul_nonneg h0 (by omega)
    by_cases hbit : x.testBit i = true
    · rw [if_pos hbit]
      have e : size * (((if x.testBit i then 1 else 0) + c : Nat) : Int) = size + size * (c : Int) := by
        rw [if_pos hbit, Int.natCast_add, Int.mul_add]
        simp
      rw [e]
      by_cases hbad : size < 0 ∨ left < size
      · rw [if_pos hbad]
        simp
        omega
      · rw [if_neg hbad, fits_rep h0 x r (left - size) (i + 1) (by omega), hc]
        omega
    · rw [if_neg hbit]
      have e : size * (((if x.testBit i then 1 else 0) + c : Nat) : Int) = size * (c : Int) := by
        rw [if_neg hbit]
        simp
      rw [e, fits_rep h0 x r left (i + 1) hl, hc]

theorem pop_n {n x : Nat} (hn : n ≤ 32) (hx : x < 2 ^ n) : pop x = (bitsOf n x).length := by
  have h := bitsOf_ge (32 - n) hx
  rw [show n + (32 - n) = 32 by omega] at h
  exact h

theorem addF_lt (sz : List Int) (bud : Int) (pr : Nat → Int) (b : Nat × Int) : ∀ j, addF sz bud pr b j = b ∨ (addF sz bud pr b j).2 < b.2
  | 0 => .inl rfl
  | j + 1 => by
    have ih := addF_lt sz bud pr b j
    simp only [addF, addStep]
    split
    · exact ih
    · split
      · exact ih
      · split
        · rename_i h
          right
          rcases ih with ih | ih
          · rw [ih] at h; exact h
          · dsimp only; omega
        · exact ih
theorem addF_least (sz : List Int) (bud : Int) (pr : Nat → Int) (b : Nat × Int) {i : Nat} (hb : b.1.testBit i = false) (hf : fitsF sz bud (b.1 ||| 2 ^ i) 0 = true) : ∀ j, i < j → (addF sz bud pr b j).2 ≤ pr (b.1 ||| 2 ^ i)
  | 0, h => by omega
  | j + 1, h => by
    have hne : ¬ (b.1 ||| 2 ^ i = b.1) := by
      intro he
      have : (b.1 ||| 2 ^ i).testBit i = true := by simp [Nat.testBit_or, Nat.testBit_two_pow]
      rw [he, hb] at this
      cases this
    by_cases hij : i = j
    · subst hij
      simp only [addF, addStep]
      rw [if_neg hne, if_neg (by simp [hf])]
      split
      · exact Int.le_refl _
      · omega
    · have ih := addF_least sz bud pr b hb hf j (by omega)
      simp only [addF, addStep]
      split
      · exact ih
      · split
        · exact ih
        · split
          · dsimp only; omega
          · exact ih

section
variable {n R : Nat} {size bud P0 m k : Int} {pr : Nat → Int} {a : Nat → Int}
theorem grow_alone (hn : n ≤ 32) (h0 : 0 ≤ size) (hbud : 0 ≤ bud) (hpr : ∀ x, pr x = P0 - sumF a x n) (hR : ∀ p : Nat, p ≤ R ↔ (p : Int) ≤ k ∧ size * (p : Int) ≤ bud) :
    ∀ f b, Good (List.replicate n size) bud pr k b → Best a n b.1 → n ≤ f + pop b.1 → sumF a (growF (List.replicate n size) bud pr k f b).1 n = wF a n R := by
  have hlen : (List.replicate n size).length = n := List.length_replicate
  have hfit : ∀ x, x < 2 ^ n → (fitsF (List.replicate n size) bud x 0 = true ↔ size * ((bitsOf n x).length : Int) ≤ bud) := fun x hx => by
    have := fits_rep h0 x n bud 0 hbud
    simpa using this
  have inR : ∀ b, Good (List.replicate n size) bud pr k b → b.1 < 2 ^ n → (bitsOf n b.1).length ≤ R := fun b hg hb => by
    have h1 := (hfit b.1 hb).1 hg.fit
    have h2 := hg.few
    rw [pop_n hn hb] at h2
    exact (hR _).2 ⟨h2, h1⟩
  intro f
  induction f with
  | zero =>
    intro b hg hB hf
    refine hB.all (fun i hi hb => ?_) (inR b hg hB.1)
    have h1 := pop_or (b := b.1) (i := i) (by omega) hb
    have h2 := pop_lt hn (or_bit_lt hB.1 hi)
    omega
  | succ f ih =>
    intro b hg hB hf
    have hbR := inR b hg hB.1
    have hpn := pop_n hn hB.1
    simp only [growF]
    split
    · rename_i hk
      rw [hlen]
      split
      · rename_i hsame
        by_cases hfull : (bitsOf n b.1).length = R
        · rw [← hfull]; exact hB.2
        · refine hB.all (fun i hi hb => ?_) hbR
          have hx := or_bit_lt hB.1 hi
          have hfi : fitsF (List.replicate n size) bud (b.1 ||| 2 ^ i) 0 = true := by
            rw [hfit _ hx, bitsOf_or hi hb]
            exact ((hR ((bitsOf n b.1).length + 1)).1 (by omega)).2
          have h1 := addF_least (List.replicate n size) bud pr b hb hfi n hi
          rw [hsame, hg.pr, hpr, hpr, sum_or a hb n hi] at h1
          omega
      · rename_i hdiff
        obtain ⟨hg2, _⟩ := addF_good hg (by rw [hlen]; exact hn) hk n (by rw [hlen]; exact Nat.le_refl _)
        rcases addF_form (List.replicate n size) bud pr b n with h | ⟨i, hi, hb, he⟩
        · exact absurd h hdiff
        · have hlt := addF_lt (List.replicate n size) bud pr b n
          have hlt2 : (addF (List.replicate n size) bud pr b n).2 < b.2 := by
            rcases hlt with h | h
            · exact absurd h hdiff
            · exact h
          rw [he] at hlt2 hg2 ⊢
          dsimp only at hlt2
          rw [hg.pr, hpr, hpr, sum_or a hb n hi] at hlt2
          have hmore : Best a n (b.1 ||| 2 ^ i) := hB.more hi hb (by omega) fun j hj hbj => by
            have hfj : fitsF (List.replicate n size) bud (b.1 ||| 2 ^ j) 0 = true := by
              have h1 := hg2.fit
              dsimp only at h1
              rw [hfit _ (or_bit_lt hB.1 hi), bitsOf_or hi hb] at h1
              rw [hfit _ (or_bit_lt hB.1 hj), bitsOf_or hj hbj]
              exact h1
            have h2 := addF_least (List.replicate n size) bud pr b hbj hfj n hj
            rw [he] at h2
            dsimp only at h2
            rw [hpr, hpr, sum_or a hb n hi, sum_or a hbj n hj] at h2
            omega
          refine ih _ hg2 hmore ?_
          dsimp only
          rw [pop_or (by omega) hb]
          omega
    · rename_i hk
      have h1 := (hR R).1 (Nat.le_refl _)
      have h2 := hg.few
      have h3 : (bitsOf n b.1).length = R := by omega
      rw [← h3]
      exact hB.2

theorem search_alone (hn : n ≤ 32) (h0 : 0 ≤ size) (hbud : 0 ≤ bud) (hm : 0 ≤ m) (hk : 0 ≤ k) (hpr : ∀ x, pr x = P0 - sumF a x n) (hR : ∀ p : Nat, p ≤ R ↔ (p : Int) ≤ k ∧ size * (p : Int) ≤ bud) :
    pr (searchF (List.replicate n size) bud pr m k) = P0 - wF a n R := by
  have hlen : (List.replicate n size).length = n := List.length_replicate
  have hpos : 0 < 2 ^ n := Nat.two_pow_pos _
  have hfit : ∀ x, x < 2 ^ n → (fitsF (List.replicate n size) bud x 0 = true ↔ size * ((bitsOf n x).length : Int) ≤ bud) := fun x hx => by
    have := fits_rep h0 x n bud 0 hbud
    simpa using this
  have g := seedF_good (sz := List.replicate n size) (bud := bud) (pr := pr) (m := min m k) (by omega) (2 ^ n - 1) (by rw [hlen]; omega)
  have hl := seedF_least (sz := List.replicate n size) (bud := bud) (pr := pr) (m := min m k) (2 ^ n - 1)
  have e : searchF (List.replicate n size) bud pr m k = (growF (List.replicate n size) bud pr k n (seedF (List.replicate n size) bud pr (min m k) (2 ^ n - 1))).1 := by
    unfold searchF
    rw [hlen]
  rw [e, hpr]
  generalize seedF (List.replicate n size) bud pr (min m k) (2 ^ n - 1) = b at *
  have hb : b.1 < 2 ^ n := by have := g.lt; rwa [hlen] at this
  have g2 : Good (List.replicate n size) bud pr k b := { g with few := by have := g.few; omega }
  have hB : Best a n b.1 := by
    refine ⟨hb, ?_⟩
    have h1 := sum_le a b.1 n _ (Nat.le_refl _)
    obtain ⟨y, y1, y2, y3⟩ := sum_ex a n (bitsOf n b.1).length
    have h2 := hl y (by omega) (by rw [pop_n hn y1]; have := g.few; rw [pop_n hn hb] at this; omega) (by
      rw [hfit y y1]
      have := (hfit b.1 hb).1 g.fit
      have h3 : size * ((bitsOf n y).length : Int) ≤ size * ((bitsOf n b.1).length : Int) := Int.mul_le_mul_of_nonneg_left (by omega) h0
      omega)
    rw [g.pr, hpr, hpr] at h2
    omega
  rw [grow_alone hn h0 hbud hpr hR n b g2 hB (by omega)]
end
end Go.Proofs.YthihhibadpbncaaDoor
