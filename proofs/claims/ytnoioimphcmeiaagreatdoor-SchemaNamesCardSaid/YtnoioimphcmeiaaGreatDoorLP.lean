/- The words of a text, as a function on bytes. Plain Lean. -/
namespace Go.Proofs.YtnoioimphcmeiaaGreatDoor

def letN (c : Nat) : Bool := decide (c = 95 ∨ (97 ≤ c ∧ c ≤ 122) ∨ (65 ≤ c ∧ c ≤ 90))
def digN (c : Nat) : Bool := decide (48 ≤ c ∧ c ≤ 57)
def blN (c : Nat) : Bool := decide (c = 32 ∨ c = 9 ∨ c = 10 ∨ c = 13)
def ldN (c : Nat) : Bool := letN c || digN c

/-- How many bytes at the beginning are of a kind. -/
def spanB (p : Nat → Bool) : List UInt8 → Nat
  | [] => 0
  | c :: r => if p c.toNat = true then spanB p r + 1 else 0
theorem spanB_le (p : Nat → Bool) : ∀ l, spanB p l ≤ l.length
  | [] => Nat.le_refl _
  | c :: r => by
    have := spanB_le p r
    simp only [spanB, List.length_cons]
    split <;> omega
theorem spanB_in (p : Nat → Bool) : ∀ (l : List UInt8) (i : Nat), i < spanB p l → ∃ c, l[i]? = some c ∧ p c.toNat = true
  | [], i, h => by simp [spanB] at h
  | c :: r, i, h => by
    simp only [spanB] at h
    split at h
    · rename_i hc
      cases i with
      | zero => exact ⟨c, rfl, hc⟩
      | succ i =>
        obtain ⟨d, h1, h2⟩ := spanB_in p r i (by omega)
        exact ⟨d, by simpa using h1, h2⟩
    · omega
theorem spanB_at (p : Nat → Bool) : ∀ (l : List UInt8) (c : UInt8), l[spanB p l]? = some c → p c.toNat = false
  | [], c, h => by simp at h
  | d :: r, c, h => by
    simp only [spanB] at h
    split at h
    · exact spanB_at p r c (by simpa using h)
    · rename_i hd
      have : d = c := by simpa using h
      subst this
      simpa using hd
theorem spanB_eq (p : Nat → Bool) : ∀ (l : List UInt8) (i : Nat), i ≤ l.length → (∀ j, j < i → ∀ c, l[j]? = some c → p c.toNat = true) → (∀ c, l[i]? = some c → p c.toNat = false) → spanB p l = i
  | [], i, hi, _, _ => by simp at hi; simp [spanB, hi]
  | d :: r, i, hi, h1, h2 => by
    cases i with
    | zero => simp [spanB, h2 d rfl]
    | succ i =>
      have := spanB_eq p r i (by simpa using hi) (fun j hj c hc => h1 (j + 1) (by omega) c (by simpa using hc)) (fun c hc => h2 c (by simpa using hc))
      simp [spanB, h1 0 (by omega) d rfl, this]
theorem spanB_all (p : Nat → Bool) : ∀ (l : List UInt8), ∀ c ∈ l.take (spanB p l), p c.toNat = true
  | [], c, h => by simp at h
  | d :: r, c, h => by
    simp only [spanB] at h
    split at h
    · rename_i hd
      rw [List.take_succ_cons] at h
      rcases List.mem_cons.1 h with rfl | h
      · exact hd
      · exact spanB_all p r c h
    · simp at h

/-- A byte in capitals. -/
def upC (c : UInt8) : UInt8 := if 97 ≤ c.toNat ∧ c.toNat ≤ 122 then c - 32 else c
/-- A letter of A to Z. -/
def capN (c : Nat) : Bool := decide (65 ≤ c ∧ c ≤ 90)
theorem upC_toNat (c : UInt8) : (upC c).toNat = if 97 ≤ c.toNat ∧ c.toNat ≤ 122 then c.toNat - 32 else c.toNat := by
  unfold upC
  split
  · rw [UInt8.toNat_sub_of_le]
    · rfl
    · rw [UInt8.le_iff_toNat_le]
      show 32 ≤ c.toNat
      omega
  · rfl

def wordsL : List (List UInt8) := [[83, 69, 76, 69, 67, 84], [70, 82, 79, 77], [87, 72, 69, 82, 69], [71, 82, 79, 85, 80], [66, 89], [79, 82, 68, 69, 82], [65, 83, 67], [68, 69, 83, 67], [76, 73, 77, 73, 84], [65, 83], [74, 79, 73, 78], [79, 78], [65, 78, 68], [79, 82], [78, 79, 84], [73, 83], [78, 85, 76, 76], [84, 82, 85, 69], [70, 65, 76, 83, 69], [67, 79, 85, 78, 84], [83, 85, 77], [77, 73, 78], [77, 65, 88], [73, 78, 83, 69, 82, 84], [73, 78, 84, 79], [86, 65, 76, 85, 69, 83], [85, 80, 68, 65, 84, 69], [83, 69, 84], [68, 69, 76, 69, 84, 69], [67, 82, 69, 65, 84, 69], [84, 65, 66, 76, 69], [68, 82, 79, 80], [73, 78, 84], [82, 69, 65, 76], [84, 69, 88, 84]]
/-- The keywords, a blank about each. -/
def wordsT : List UInt8 := wordsL.foldl (fun a x => a ++ x ++ [32]) [32]

def kwF (w : List UInt8) : Option (List UInt8) := if w.map upC ∈ wordsL then some (w.map upC) else none

/-- A blank, a word without blanks, a blank: it stands in the words' text just if it is one of them. -/
theorem infix_word {u : List UInt8} (hu : ∀ c ∈ u, c ≠ 32) : ∀ (W : List (List UInt8)) (hW : ∀ x ∈ W, x ≠ [] ∧ ∀ c ∈ x, c ≠ 32) (hne : u ≠ []), ([32] ++ u ++ [32]) <:+: (W.foldl (fun a x => a ++ x ++ [32]) [32]) ↔ u ∈ W := by
  have key : ∀ (W : List (List UInt8)) (a : List UInt8), W.foldl (fun a x => a ++ x ++ [32]) a = a ++ W.flatMap (fun x => x ++ [32]) := by
    intro W
    induction W with
    | nil => intro a; simp
    | cons x r ih => intro a; rw [List.foldl_cons, ih]; simp
  have split_word : ∀ (v x s t : List UInt8), (∀ c ∈ v, c ≠ 32) → (∀ c ∈ x, c ≠ 32) → v ++ [32] ++ s = x ++ [32] ++ t → v = x ∧ s = t := by
    intro v
    induction v with
    | nil =>
      intro x s t _ hx he
      cases x with
      | nil => exact ⟨rfl, by simpa using he⟩
      | cons c x => exact absurd (by simpa using (List.cons.inj (by simpa using he)).1 : (32 : UInt8) = c).symm (hx c (by simp))
    | cons d v ih =>
      intro x s t hv hx he
      cases x with
      | nil => exact absurd (by simpa using (List.cons.inj (by simpa using he)).1 : d = 32) (hv d (by simp))
      | cons c x =>
        have he' := List.cons.inj (by simpa using he : d :: (v ++ 32 :: s) = c :: (x ++ 32 :: t))
        obtain ⟨h1, h2⟩ := ih x s t (fun c hc => hv c (by simp [hc])) (fun c hc => hx c (by simp [hc])) (by simpa using he'.2)
        exact ⟨by rw [he'.1, h1], h2⟩
  have main : ∀ (W : List (List UInt8)) (hW : ∀ x ∈ W, x ≠ [] ∧ ∀ c ∈ x, c ≠ 32) (hne : u ≠ []), ([32] ++ u ++ [32]) <:+: ([32] ++ W.flatMap (fun x => x ++ [32])) ↔ u ∈ W := by
    intro W
    induction W with
    | nil =>
      intro _ hne
      constructor
      · rintro ⟨s, t, he⟩
        have := congrArg List.length he
        simp at this
        have h0 : u.length = 0 := by omega
        exact absurd (List.eq_nil_of_length_eq_zero h0) hne
      · intro h; cases h
    | cons x r ih =>
      intro hW hne
      have ih' := ih (fun y hy => hW y (by simp [hy])) hne
      have hx := hW x (by simp)
      constructor
      · rintro ⟨s, t, he⟩
        cases s with
        | nil =>
          have he' : u ++ [32] ++ t = x ++ [32] ++ r.flatMap (fun x => x ++ [32]) := by simpa using he
          exact List.mem_cons.2 (.inl (split_word u x _ _ hu hx.2 he').1)
        | cons c s =>
          have he' : s ++ ([32] ++ u ++ [32]) ++ t = x ++ ([32] ++ r.flatMap (fun x => x ++ [32])) := by
            have := (List.cons.inj (by simpa using he : c :: (s ++ (32 :: (u ++ 32 :: t))) = 32 :: (x ++ 32 :: r.flatMap (fun x => x ++ [32])))).2
            simpa using this
          -- s begins with x
          have hle : x.length ≤ s.length := by
            rcases Nat.lt_or_ge s.length x.length with hlt | hge
            · exfalso
              have h1 := congrArg (·[s.length]?) he'
              simp only [List.append_assoc] at h1
              rw [List.getElem?_append_right (Nat.le_refl _), Nat.sub_self] at h1
              rw [List.getElem?_append_left hlt] at h1
              have h2 : x[s.length]? = some 32 := by rw [← h1]; rfl
              exact hx.2 32 (List.mem_of_getElem? h2) rfl
            · exact hge
          have h3 : s.take x.length = x := by
            have h1 := congrArg (List.take x.length) he'
            rw [List.take_left, List.append_assoc, List.take_append_of_le_length hle] at h1
            exact h1
          have h4 : s.drop x.length ++ ([32] ++ u ++ [32]) ++ t = [32] ++ r.flatMap (fun x => x ++ [32]) := by
            have h1 := congrArg (List.drop x.length) he'
            rw [List.drop_left, List.append_assoc, List.drop_append_of_le_length hle] at h1
            rw [← h1, List.append_assoc]
          exact List.mem_cons.2 (.inr (ih'.1 ⟨_, t, h4⟩))
      · intro h
        rcases List.mem_cons.1 h with rfl | h
        · exact ⟨[], r.flatMap (fun x => x ++ [32]), by simp⟩
        · obtain ⟨s, t, he⟩ := ih'.2 h
          exact ⟨[32] ++ x ++ s, t, by rw [List.flatMap_cons]; rw [show [32] ++ x ++ s ++ ([32] ++ u ++ [32]) ++ t = [32] ++ x ++ (s ++ ([32] ++ u ++ [32]) ++ t) by simp, he]; simp⟩
  intro W hW hne
  rw [key]
  exact main W hW hne

/- words -/
structure Tk where
  kind : Nat
  s : List UInt8
  at_ : Nat
  deriving DecidableEq
/-- A text behind its quote: what it says, how many bytes; none: it is cut. -/
def textF : List UInt8 → Option (List UInt8 × Nat)
  | [] => none
  | [c] => if c = 39 then some ([], 1) else none
  | c :: d :: r =>
    if c = 39 then
      if d = 39 then (textF r).map fun x => (39 :: x.1, x.2 + 2) else some ([], 1)
    else (textF (d :: r)).map fun x => (c :: x.1, x.2 + 1)
termination_by l => l.length

def bigT : List UInt8 := [57, 50, 50, 51, 51, 55, 50, 48, 51, 54, 56, 53, 52, 55, 55, 53, 56, 48, 55]
/-- a is behind b in the order of bytes. -/
def gtB : List UInt8 → List UInt8 → Bool
  | [], _ => false
  | _ :: _, [] => true
  | a :: x, b :: y => if a = b then gtB x y else decide (b.toNat < a.toNat)

inductive Nx where
  | ok (kind : Nat) (s : List UInt8) (n : Nat)
  | er (e : Nat)
  deriving DecidableEq

/-- How many digits the number at the beginning has, the ones behind a point counted: whole, more. -/
def moreF (l : List UInt8) : Nat := if l[spanB digN l]? = some 46 then spanB digN (l.drop (spanB digN l + 1)) else 0
def numF (big : List UInt8 → Bool) (l : List UInt8) : Nx :=
  if 1 < spanB digN l ∧ l[0]? = some 48 then .er 7
  else if 0 < moreF l then
    if big (l.take (spanB digN l + 1 + moreF l)) = true then .er 4 else .ok 4 (l.take (spanB digN l + 1 + moreF l)) (spanB digN l + 1 + moreF l)
  else if 19 < spanB digN l ∨ (spanB digN l = 19 ∧ gtB (l.take 19) bigT = true) then .er 4
  else .ok 3 (l.take (spanB digN l)) (spanB digN l)
def signL : List UInt8 := [40, 41, 44, 46, 61, 60, 62, 43, 45, 42, 59]
def twoL : List (List UInt8) := [[60, 62], [60, 61], [62, 61]]

def nextF (big : List UInt8 → Bool) (l : List UInt8) : Nx :=
  match l with
  | [] => .ok 0 [] 0
  | c :: r =>
    if letN c.toNat = true then
      match kwF (l.take (spanB ldN l)) with
      | some k => .ok 2 k (spanB ldN l)
      | none => if 12 < spanB ldN l then .er 4 else .ok 1 (l.take (spanB ldN l)) (spanB ldN l)
    else if digN c.toNat = true then numF big l
    else if c = 39 then
      match textF r with
      | some (s, n) => .ok 5 s (n + 1)
      | none => .er 10
    else if l.take 2 ∈ twoL then .ok 6 (l.take 2) 2
    else if c ∈ signL then .ok 6 [c] 1
    else .er 100

/-- The words from a place on; the error behind them and its place. -/
def lexF (big : List UInt8 → Bool) : Nat → List UInt8 → Nat → List Tk × Option (Nat × Nat)
  | 0, _, at_ => ([], some (at_, 0))
  | fuel + 1, l, at_ =>
    match nextF big (l.drop (spanB blN l)) with
    | .er e => ([], some (at_ + spanB blN l, e))
    | .ok kind s n =>
      if kind = 0 then ([⟨kind, s, at_ + spanB blN l⟩], none)
      else (⟨kind, s, at_ + spanB blN l⟩ :: (lexF big fuel (l.drop (spanB blN l + n)) (at_ + spanB blN l + n)).1, (lexF big fuel (l.drop (spanB blN l + n)) (at_ + spanB blN l + n)).2)

theorem textF_le : ∀ (l : List UInt8) (s : List UInt8) (n : Nat), textF l = some (s, n) → 1 ≤ n ∧ n ≤ l.length ∧ s.length < n
  | [], s, n, h => by simp [textF] at h
  | [c], s, n, h => by
    simp only [textF] at h
    split at h
    · simp only [Option.some.injEq, Prod.mk.injEq] at h
      obtain ⟨rfl, rfl⟩ := h
      simp
    · cases h
  | c :: d :: r, s, n, h => by
    simp only [textF] at h
    split at h
    · split at h
      · obtain ⟨⟨s', n'⟩, h1, h2⟩ := Option.map_eq_some_iff.1 h
        have := textF_le r s' n' h1
        simp only [Prod.mk.injEq] at h2
        obtain ⟨rfl, rfl⟩ := h2
        simp only [List.length_cons]
        omega
      · simp only [Option.some.injEq, Prod.mk.injEq] at h
        obtain ⟨rfl, rfl⟩ := h
        simp
    · obtain ⟨⟨s', n'⟩, h1, h2⟩ := Option.map_eq_some_iff.1 h
      have := textF_le (d :: r) s' n' h1
      simp only [Prod.mk.injEq] at h2
      obtain ⟨rfl, rfl⟩ := h2
      simp only [List.length_cons] at *
      omega
termination_by l => l.length

theorem moreF_le (l : List UInt8) (h : 0 < moreF l) : spanB digN l + 1 + moreF l ≤ l.length := by
  unfold moreF at *
  split at h
  · rename_i hc
    rw [if_pos hc]
    have h1 := spanB_le digN (l.drop (spanB digN l + 1))
    have h2 := (List.getElem?_eq_some_iff.1 hc).1
    rw [List.length_drop] at h1
    omega
  · omega

theorem nextF_ok {big : List UInt8 → Bool} {l s : List UInt8} {k n : Nat} (h : nextF big l = .ok k s n) : (k = 0 ∧ l = [] ∧ s = [] ∧ n = 0) ∨ (0 < k ∧ k < 7 ∧ 0 < n ∧ n ≤ l.length ∧ s.length ≤ n) := by
  cases l with
  | nil =>
    simp only [nextF, Nx.ok.injEq] at h
    obtain ⟨rfl, rfl, rfl⟩ := h
    exact .inl ⟨rfl, rfl, rfl, rfl⟩
  | cons c r =>
    right
    have hld := spanB_le ldN (c :: r)
    have hdg := spanB_le digN (c :: r)
    simp only [nextF] at h
    split at h
    · rename_i hl
      have hpos : 0 < spanB ldN (c :: r) := by simp [spanB, ldN, hl]
      split at h
      · rename_i k' hk
        simp only [Nx.ok.injEq] at h
        obtain ⟨rfl, rfl, rfl⟩ := h
        unfold kwF at hk
        split at hk
        · cases hk
          refine ⟨by omega, by omega, hpos, hld, ?_⟩
          simp
          omega
        · cases hk
      · split at h
        · cases h
        · simp only [Nx.ok.injEq] at h
          obtain ⟨rfl, rfl, rfl⟩ := h
          exact ⟨by omega, by omega, hpos, hld, by simp; omega⟩
    · split at h
      · rename_i hd
        have hpos : 0 < spanB digN (c :: r) := by simp [spanB, hd]
        unfold numF at h
        split at h
        · cases h
        · split at h
          · rename_i hm
            have := moreF_le _ hm
            split at h
            · cases h
            · simp only [Nx.ok.injEq] at h
              obtain ⟨rfl, rfl, rfl⟩ := h
              exact ⟨by omega, by omega, by omega, this, by simp; omega⟩
          · split at h
            · cases h
            · simp only [Nx.ok.injEq] at h
              obtain ⟨rfl, rfl, rfl⟩ := h
              exact ⟨by omega, by omega, hpos, hdg, by simp; omega⟩
      · split at h
        · split at h
          · rename_i s' n' ht
            simp only [Nx.ok.injEq] at h
            obtain ⟨rfl, rfl, rfl⟩ := h
            have := textF_le r s' n' ht
            exact ⟨by omega, by omega, by omega, by simp only [List.length_cons]; omega, by omega⟩
          · cases h
        · split at h
          · rename_i ht
            simp only [Nx.ok.injEq] at h
            obtain ⟨rfl, rfl, rfl⟩ := h
            have hlen : 2 ≤ (c :: r).length := by
              have h2 : ((c :: r).take 2).length = 2 := by
                simp only [twoL, List.mem_cons, List.not_mem_nil, or_false] at ht
                rcases ht with ht | ht | ht <;> rw [ht] <;> rfl
              rw [List.length_take] at h2
              omega
            exact ⟨by omega, by omega, by omega, hlen, by simp; omega⟩
          · split at h
            · simp only [Nx.ok.injEq] at h
              obtain ⟨rfl, rfl, rfl⟩ := h
              exact ⟨by omega, by omega, by omega, by simp, by simp⟩
            · cases h
end Go.Proofs.YtnoioimphcmeiaaGreatDoor
