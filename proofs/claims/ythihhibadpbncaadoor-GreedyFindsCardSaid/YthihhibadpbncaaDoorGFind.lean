/- The search's seed is the reference's: the one least set by price, number of things, order. Plain Lean. -/
import Derived.Test.YthihhibadpbncaaDoorGAlone
namespace Go.Proofs.YthihhibadpbncaaDoor

/-- a has the least thing in which the two differ. -/
def Ahead (x y : Nat) : Prop := ∃ i, x.testBit i = true ∧ y.testBit i = false ∧ ∀ j, j < i → x.testBit j = y.testBit j
theorem Ahead.asymm {x y : Nat} (h : Ahead x y) (k : Ahead y x) : False := by
  obtain ⟨i, h1, h2, h3⟩ := h
  obtain ⟨j, k1, k2, k3⟩ := k
  rcases Nat.lt_trichotomy i j with hl | he | hl
  · have := k3 i hl; rw [h1, h2] at this; cases this
  · subst he; rw [h1] at k2; cases k2
  · have := h3 j hl; rw [k1, k2] at this; cases this
theorem Ahead.trans {x y z : Nat} (h : Ahead x y) (k : Ahead y z) : Ahead x z := by
  obtain ⟨i, h1, h2, h3⟩ := h
  obtain ⟨j, k1, k2, k3⟩ := k
  rcases Nat.lt_trichotomy i j with hl | he | hl
  · exact ⟨i, h1, by rw [← k3 i hl]; exact h2, fun l hl' => by rw [h3 l hl', k3 l (by omega)]⟩
  · subst he; rw [h2] at k1; cases k1
  · exact ⟨j, by rw [h3 j hl]; exact k1, k2, fun l hl' => by rw [h3 l (by omega), k3 l hl']⟩
theorem ctz_spec {z : Nat} (hz : z < 4294967296) (h0 : z ≠ 0) : z.testBit (Lib.ctz 32 z) = true ∧ ∀ j, j < Lib.ctz 32 z → z.testBit j = false := by
  obtain ⟨m, hm, hk⟩ := Lib.ctzFrom_spec 32 z (by omega) hz
  have e : Lib.ctz 32 z = Lib.ctzFrom 32 z := by simp [Lib.ctz, h0]
  rw [e]
  generalize Lib.ctzFrom 32 z = c at *
  subst hm
  refine ⟨?_, fun j hj => ?_⟩
  · rw [Nat.testBit_two_pow_mul]
    simp [Nat.testBit_zero]
  · rw [Nat.testBit_two_pow_mul]
    simp
    omega
theorem xor0 {x y : Nat} (h : x ^^^ y = 0) : x = y := Nat.eq_of_testBit_eq fun j => by
  have := congrArg (Nat.testBit · j) h
  simpa [Nat.testBit_xor] using this
theorem ahead_iff {x y : Nat} (hx : x < 4294967296) (hy : y < 4294967296) : aheadF x y = true ↔ Ahead x y := by
  have hz : x ^^^ y < 4294967296 := Nat.xor_lt_two_pow (n := 32) hx hy
  by_cases h0 : x ^^^ y = 0
  · have hxy : x = y := xor0 h0
    have e : aheadF x y = false := by simp [aheadF, h0]
    rw [e]
    subst hxy
    exact ⟨fun h => (by cases h), fun h => (h.asymm h).elim⟩
  · obtain ⟨h1, h2⟩ := ctz_spec hz h0
    simp only [aheadF, if_neg h0]
    rw [Nat.testBit_xor] at h1
    constructor
    · intro h
      refine ⟨_, h, ?_, fun j hj => ?_⟩
      · rw [h] at h1
        simpa using h1
      · have := h2 j hj
        rw [Nat.testBit_xor] at this
        simpa using this
    · rintro ⟨i, k1, k2, k3⟩
      rcases Nat.lt_trichotomy i (Lib.ctz 32 (x ^^^ y)) with hl | he | hl
      · have := h2 i hl
        rw [Nat.testBit_xor, k1, k2] at this
        cases this
      · rw [← he]; exact k1
      · have := k3 _ hl
        rw [this] at h1
        simp at h1
theorem ahead_total {x y : Nat} (hx : x < 4294967296) (hy : y < 4294967296) (hne : x ≠ y) : Ahead x y ∨ Ahead y x := by
  have h0 : x ^^^ y ≠ 0 := fun h => hne (xor0 h)
  have hz : x ^^^ y < 4294967296 := Nat.xor_lt_two_pow (n := 32) hx hy
  obtain ⟨h1, h2⟩ := ctz_spec hz h0
  rw [Nat.testBit_xor] at h1
  have h3 : ∀ j, j < Lib.ctz 32 (x ^^^ y) → x.testBit j = y.testBit j := fun j hj => by
    have := h2 j hj
    rw [Nat.testBit_xor] at this
    simpa using this
  cases hb : x.testBit (Lib.ctz 32 (x ^^^ y)) with
  | true => exact .inl ⟨_, hb, by rw [hb] at h1; simpa using h1, h3⟩
  | false => exact .inr ⟨_, by rw [hb] at h1; simpa using h1, hb, fun j hj => (h3 j hj).symm⟩

/-- Earlier in the order in which the document goes through the sets. -/
def Ord (x y : Nat) : Prop := pop x < pop y ∨ (pop x = pop y ∧ Ahead x y)
/-- Better: by price, then by that order. -/
def Bef (pr : Nat → Int) (x y : Nat) : Prop := pr x < pr y ∨ (pr x = pr y ∧ Ord x y)
theorem Bef.asymm {pr : Nat → Int} {x y : Nat} (h : Bef pr x y) (k : Bef pr y x) : False := by
  rcases h with h | ⟨h, h'⟩ <;> rcases k with k | ⟨k, k'⟩ <;> try omega
  rcases h' with h' | ⟨h', h''⟩ <;> rcases k' with k' | ⟨k', k''⟩ <;> try omega
  exact h''.asymm k''
theorem Bef.trans {pr : Nat → Int} {x y z : Nat} (h : Bef pr x y) (k : Bef pr y z) : Bef pr x z := by
  rcases h with h | ⟨h, h'⟩ <;> rcases k with k | ⟨k, k'⟩
  · exact .inl (by omega)
  · exact .inl (by omega)
  · exact .inl (by omega)
  · refine .inr ⟨by omega, ?_⟩
    rcases h' with h' | ⟨h', h''⟩ <;> rcases k' with k' | ⟨k', k''⟩
    · exact .inl (by omega)
    · exact .inl (by omega)
    · exact .inl (by omega)
    · exact .inr ⟨by omega, h''.trans k''⟩
theorem bef_total {pr : Nat → Int} {x y : Nat} (hx : x < 4294967296) (hy : y < 4294967296) (hne : x ≠ y) : Bef pr x y ∨ Bef pr y x := by
  rcases Int.lt_trichotomy (pr x) (pr y) with h | h | h
  · exact .inl (.inl h)
  · rcases Nat.lt_trichotomy (pop x) (pop y) with k | k | k
    · exact .inl (.inr ⟨h, .inl k⟩)
    · rcases ahead_total hx hy hne with l | l
      · exact .inl (.inr ⟨h, .inr ⟨k, l⟩⟩)
      · exact .inr (.inr ⟨h.symm, .inr ⟨k.symm, l⟩⟩)
    · exact .inr (.inr ⟨h.symm, .inl k⟩)
  · exact .inr (.inl h)
/-- The best of a set of sets. -/
def IsMin (pr : Nat → Int) (C : Nat → Prop) (b : Nat) : Prop := C b ∧ ∀ s, C s → s = b ∨ Bef pr b s
theorem IsMin.unique {pr : Nat → Int} {C : Nat → Prop} {a b : Nat} (h : IsMin pr C a) (k : IsMin pr C b) : a = b := by
  rcases h.2 b k.1 with h1 | h1
  · exact h1.symm
  · rcases k.2 a h.1 with h2 | h2
    · exact h2
    · exact (h1.asymm h2).elim

theorem better_iff {pr : Nat → Int} {s b : Nat} (hs : s < 4294967296) (hb : b < 4294967296) : better pr s (b, pr b) = true ↔ Bef pr s b := by
  simp only [better, Bool.or_eq_true, decide_eq_true_eq, Bool.and_eq_true, ahead_iff hs hb, Bef, Ord]

/-- What the seed may be. -/
def Cand (sz : List Int) (bud : Int) (m : Int) (k : Nat) (s : Nat) : Prop := s ≤ k ∧ (pop s : Int) ≤ m ∧ fitsF sz bud s 0 = true
theorem seedF_min {sz : List Int} {bud : Int} {pr : Nat → Int} {m : Int} (hm : 0 ≤ m) : ∀ k, k < 4294967296 → IsMin pr (Cand sz bud m k) (seedF sz bud pr m k).1
  | 0, _ => ⟨⟨Nat.le_refl _, by show (pop 0 : Int) ≤ m; rw [pop_zero]; omega, fitsF_zero _ _ _⟩, fun s hs => .inl (by have := hs.1; show s = 0; omega)⟩
  | k + 1, h => by
    have ih := seedF_min (sz := sz) (bud := bud) (pr := pr) hm k (by omega)
    have hpr := seedF_pr sz bud pr m k
    have hle := seedF_lt sz bud pr m k
    simp only [seedF, seedStep]
    generalize seedF sz bud pr m k = b at *
    obtain ⟨b, p⟩ := b
    dsimp only at hpr hle ih ⊢
    subst hpr
    have keep : ¬ (Cand sz bud m (k + 1) (k + 1) ∧ Bef pr (k + 1) b) → IsMin pr (Cand sz bud m (k + 1)) b := fun hn =>
      ⟨⟨by omega, ih.1.2⟩, fun s hs => by
        by_cases hsk : s = k + 1
        · subst hsk
          rcases bef_total (pr := pr) (x := b) (y := k + 1) (by omega) (by omega) (by omega) with h1 | h1
          · exact .inr h1
          · exact absurd ⟨hs, h1⟩ hn
        · exact ih.2 s ⟨by have := hs.1; omega, hs.2⟩⟩
    split
    · rename_i h1
      exact keep fun hh => by have := hh.1.2.1; omega
    · rename_i h1
      split
      · rename_i h2
        exact keep fun hh => by have := hh.1.2.2; rw [h2] at this; cases this
      · rename_i h2
        split
        · rename_i h3
          have hb := (better_iff (by omega) (by omega)).1 h3
          refine ⟨⟨Nat.le_refl _, by dsimp only; omega, by simpa using h2⟩, fun s hs => ?_⟩
          by_cases hsk : s = k + 1
          · exact .inl hsk
          · rcases ih.2 s ⟨by have := hs.1; omega, hs.2⟩ with h4 | h4
            · subst h4; exact .inr hb
            · exact .inr (hb.trans h4)
        · rename_i h3
          exact keep fun hh => h3 ((better_iff (by omega) (by omega)).2 hh.2)

/- the reference's way -/
/-- Through the sets of so many things more, that agree with one below a place, in the order of the document. -/
def seedR (n : Nat) (fit : Nat → Bool) (pr : Nat → Int) : Nat → Nat → Nat → Nat → Nat
  | 0, _, t, best => if fit t = true ∧ pr t < pr best then t else best
  | _ + 1, 0, _, best => best
  | many + 1, c + 1, t, best => seedR n fit pr (many + 1) c t (seedR n fit pr many c (t ||| 2 ^ (n - (c + 1))) best)
def Ext (n M i t s : Nat) : Prop := s < 2 ^ n ∧ pop s = M ∧ ∀ j, j < i → s.testBit j = t.testBit j
/-- Best of what came up so far. -/
def Sofar (pr : Nat → Int) (fit : Nat → Bool) (P : Nat → Prop) (b : Nat) : Prop := P b ∧ fit b = true ∧ ∀ s, P s → fit s = true → s = b ∨ Bef pr b s

theorem eq_below {n x y : Nat} (hx : x < 2 ^ n) (hy : y < 2 ^ n) (h : ∀ j, j < n → x.testBit j = y.testBit j) : x = y := by
  apply Nat.eq_of_testBit_eq
  intro j
  by_cases hj : j < n
  · exact h j hj
  · rw [Nat.testBit_lt_two_pow (Nat.lt_of_lt_of_le hx (Nat.pow_le_pow_right (by omega) (by omega))), Nat.testBit_lt_two_pow (Nat.lt_of_lt_of_le hy (Nat.pow_le_pow_right (by omega) (by omega)))]
theorem bits_split {n i x : Nat} (h : i ≤ n) : (bitsOf n x).length = (bitsOf i x).length + (bitsOf (n - i) (x >>> i)).length := by
  have := bitsOf_split i (n - i) x
  rwa [show i + (n - i) = n by omega] at this

theorem bits_none {k y : Nat} (h : (bitsOf k y).length = 0) : ∀ j, j < k → y.testBit j = false := fun j hj => by
  have := List.eq_nil_of_length_eq_zero h
  rw [bitsOf, List.filter_eq_nil_iff] at this
  simpa using this j (List.mem_range.2 hj)
theorem ext_self {n i t s : Nat} (hn : n ≤ 32) (hi : i ≤ n) (ht : t < 2 ^ i) (h1 : s < 2 ^ n) (h2 : pop s = pop t) (h3 : ∀ j, j < i → s.testBit j = t.testBit j) : s = t := by
  have htn : t < 2 ^ n := Nat.lt_of_lt_of_le ht (Nat.pow_le_pow_right (by omega) hi)
  have e1 := bits_split (x := s) hi
  have e2 := bits_lo (n := i) h3
  have e3 := pop_n hn h1
  have e4 := pop_n (by omega) ht
  have e5 := bits_none (k := n - i) (y := s >>> i) (by omega)
  refine eq_below h1 htn fun j hj => ?_
  by_cases hji : j < i
  · exact h3 j hji
  · have := e5 (j - i) (by omega)
    rw [Nat.testBit_shiftRight, show i + (j - i) = j by omega] at this
    rw [this, Nat.testBit_lt_two_pow (Nat.lt_of_lt_of_le ht (Nat.pow_le_pow_right (by omega) (by omega)))]
theorem Sofar.congr {pr : Nat → Int} {fit : Nat → Bool} {P Q : Nat → Prop} {b : Nat} (h : Sofar pr fit P b) (k : ∀ s, P s ↔ Q s) : Sofar pr fit Q b :=
  ⟨(k b).1 h.1, h.2.1, fun s hs hf => h.2.2 s ((k s).2 hs) hf⟩

theorem seedR_spec {n : Nat} (hn : n ≤ 32) {fit : Nat → Bool} {pr : Nat → Int} : ∀ (many c t best : Nat) (P : Nat → Prop), c ≤ n → t < 2 ^ (n - c) →
    Sofar pr fit P best → (∀ s, P s → s < 2 ^ n) → (∀ s u, P s → Ext n (pop t + many) (n - c) t u → Ord s u) →
    Sofar pr fit (fun s => P s ∨ Ext n (pop t + many) (n - c) t s) (seedR n fit pr many c t best)
  | 0, c, t, best, P, hc, ht, hS, hP, hO => by
    have htn : t < 2 ^ n := Nat.lt_of_lt_of_le ht (Nat.pow_le_pow_right (by omega) (by omega))
    have hext : ∀ s, Ext n (pop t + 0) (n - c) t s → s = t := fun s ⟨h1, h2, h3⟩ => ext_self hn (by omega) ht h1 h2 h3
    have hself : Ext n (pop t + 0) (n - c) t t := ⟨htn, rfl, fun _ _ => rfl⟩
    simp only [seedR]
    split
    · rename_i h
      refine ⟨.inr hself, h.1, fun s hs hf => ?_⟩
      rcases hs with hs | hs
      · rcases hS.2.2 s hs hf with e | e
        · subst e; exact .inr (.inl h.2)
        · rcases e with e | e
          · exact .inr (.inl (by omega))
          · exact .inr (.inl (by omega))
      · exact .inl (hext s hs)
    · rename_i h
      refine ⟨.inl hS.1, hS.2.1, fun s hs hf => ?_⟩
      rcases hs with hs | hs
      · exact hS.2.2 s hs hf
      · have he := hext s hs
        subst he
        have hle : pr best ≤ pr s := by
          rcases Int.lt_or_le (pr s) (pr best) with h1 | h1
          · exact absurd ⟨hf, h1⟩ h
          · exact h1
        right
        rcases Int.lt_or_eq_of_le hle with h1 | h1
        · exact .inl h1
        · exact .inr ⟨h1, hO best s hS.1 hs⟩
  | many + 1, 0, t, best, P, hc, ht, hS, hP, hO => by
    have hemp : ∀ s, ¬ Ext n (pop t + (many + 1)) (n - 0) t s := fun s ⟨h1, h2, h3⟩ => by
      have := eq_below h1 (by simpa using ht) (by simpa using h3)
      subst this
      omega
    simp only [seedR]
    exact ⟨.inl hS.1, hS.2.1, fun s hs hf => hs.elim (fun h => hS.2.2 s h hf) (fun h => (hemp s h).elim)⟩
  | many + 1, c + 1, t, best, P, hc, ht, hS, hP, hO => by
    have hi : n - c = n - (c + 1) + 1 := by omega
    have hin : n - (c + 1) < n := by omega
    generalize hig : n - (c + 1) = i at *
    have htb : t.testBit i = false := Nat.testBit_lt_two_pow ht
    have ht' : t ||| 2 ^ i < 2 ^ (n - c) := by
      rw [hi]
      exact or_bit_lt (Nat.lt_of_lt_of_le ht (Nat.pow_le_pow_right (by omega) (by omega))) (by omega)
    have hpt := pop_or (b := t) (i := i) (by omega) htb
    have hlo : ∀ j, j < i → (t ||| 2 ^ i).testBit j = t.testBit j := fun j hj => by simp [Nat.testBit_or, Nat.testBit_two_pow, show ¬ i = j by omega]
    have hti : (t ||| 2 ^ i).testBit i = true := by simp [Nat.testBit_or, Nat.testBit_two_pow]
    have sub1 : ∀ u, Ext n (pop (t ||| 2 ^ i) + many) (n - c) (t ||| 2 ^ i) u → Ext n (pop t + (many + 1)) i t u := fun u ⟨h1, h2, h3⟩ => ⟨h1, by omega, fun j hj => by rw [h3 j (by omega), hlo j hj]⟩
    have sub2 : ∀ u, Ext n (pop t + (many + 1)) (n - c) t u → Ext n (pop t + (many + 1)) i t u := fun u ⟨h1, h2, h3⟩ => ⟨h1, h2, fun j hj => h3 j (by omega)⟩
    have ih1 := seedR_spec hn many c (t ||| 2 ^ i) best P (by omega) ht' hS hP (fun s u hs hu => hO s u hs (sub1 u hu))
    have ih2 := seedR_spec hn (many + 1) c t (seedR n fit pr many c (t ||| 2 ^ i) best) _ (by omega) (Nat.lt_of_lt_of_le ht (Nat.pow_le_pow_right (by omega) (by omega))) ih1 (fun s hs => hs.elim (hP s) (fun h => h.1)) (fun s u hs hu => hs.elim (fun h => hO s u h (sub2 u hu)) (fun h => .inr ⟨by have := h.2.1; have := hu.2.1; omega, i, by rw [h.2.2 i (by omega)]; exact hti, by rw [hu.2.2 i (by omega)]; exact htb, fun j hj => by rw [h.2.2 j (by omega), hu.2.2 j (by omega), hlo j hj]⟩))
    simp only [seedR]
    rw [hig]
    refine ih2.congr fun s => ⟨fun h => ?_, fun h => ?_⟩
    · rcases h with (h | h) | h
      · exact .inl h
      · exact .inr (sub1 s h)
      · exact .inr (sub2 s h)
    · rcases h with h | ⟨h1, h2, h3⟩
      · exact .inl (.inl h)
      · cases hb : s.testBit i with
        | true =>
          refine .inl (.inr ⟨h1, by omega, fun j hj => ?_⟩)
          by_cases hji : j = i
          · subst hji; rw [hb, hti]
          · rw [h3 j (by omega), hlo j (by omega)]
        | false =>
          refine .inr ⟨h1, h2, fun j hj => ?_⟩
          by_cases hji : j = i
          · subst hji; rw [hb, htb]
          · exact h3 j (by omega)
termination_by many c => (many, c)

/-- The reference's seed: of one thing, of two, .. -/
def seedsR (n : Nat) (fit : Nat → Bool) (pr : Nat → Int) : Nat → Nat
  | 0 => 0
  | M + 1 => seedR n fit pr (M + 1) n 0 (seedsR n fit pr M)
theorem pop_eq_zero {n s : Nat} (hn : n ≤ 32) (h1 : s < 2 ^ n) (h2 : pop s = 0) : s = 0 :=
  ext_self (i := 0) (t := 0) hn (Nat.zero_le _) (by simp) h1 (by rw [h2, pop_zero]) (fun j hj => by omega)
theorem seedsR_spec {n : Nat} (hn : n ≤ 32) {fit : Nat → Bool} {pr : Nat → Int} (h0 : fit 0 = true) : ∀ M, Sofar pr fit (fun s => s < 2 ^ n ∧ pop s ≤ M) (seedsR n fit pr M)
  | 0 => ⟨⟨Nat.two_pow_pos _, by rw [seedsR, pop_zero]; exact Nat.le_refl _⟩, h0, fun s hs _ => .inl (pop_eq_zero hn hs.1 (by have := hs.2; omega))⟩
  | M + 1 => by
    have ih := seedsR_spec hn (pr := pr) h0 M
    have h := seedR_spec hn (M + 1) n 0 (seedsR n fit pr M) _ (Nat.le_refl _) (by simp) ih (fun s hs => hs.1) (fun s u hs hu => .inl (by have := hs.2; have := hu.2.1; rw [pop_zero] at this; omega))
    refine Sofar.congr h fun s => ?_
    rw [pop_zero, Nat.sub_self, Nat.zero_add]
    constructor
    · rintro (⟨h1, h2⟩ | ⟨h1, h2, _⟩)
      · exact ⟨h1, by omega⟩
      · exact ⟨h1, by omega⟩
    · rintro ⟨h1, h2⟩
      by_cases hp : pop s ≤ M
      · exact .inl ⟨h1, hp⟩
      · exact .inr ⟨h1, by omega, fun j hj => by omega⟩
/-- The two seeds are one. -/
theorem seeds_eq {sz : List Int} {bud : Int} {pr : Nat → Int} {m : Int} {M : Nat} (hn : sz.length ≤ 16) (hm : m = (M : Int)) : seedsR sz.length (fun s => fitsF sz bud s 0) pr M = (seedF sz bud pr m (2 ^ sz.length - 1)).1 := by
  subst hm
  have hpow : 2 ^ sz.length ≤ 65536 := by
    have := Nat.pow_le_pow_right (n := 2) (by omega) hn
    simpa using this
  have hpos : 0 < 2 ^ sz.length := Nat.two_pow_pos _
  have h1 := seedsR_spec (n := sz.length) (by omega) (fit := fun s => fitsF sz bud s 0) (pr := pr) (fitsF_zero _ _ _) M
  have h2 := seedF_min (sz := sz) (bud := bud) (pr := pr) (m := (M : Int)) (by omega) (2 ^ sz.length - 1) (by omega)
  refine IsMin.unique (pr := pr) (C := Cand sz bud (M : Int) (2 ^ sz.length - 1)) ⟨⟨by have := h1.1.1; omega, by have := h1.1.2; omega, h1.2.1⟩, fun s hs => h1.2.2 s ⟨by have := hs.1; omega, by have := hs.2.1; omega⟩ hs.2.2⟩ h2
end Go.Proofs.YthihhibadpbncaaDoor
