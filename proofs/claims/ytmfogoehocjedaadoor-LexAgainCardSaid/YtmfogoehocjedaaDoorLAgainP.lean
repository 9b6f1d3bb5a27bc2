/- A word read again, and read with a blank and more behind it. Plain Lean. -/
import Derived.Test.YtmfogoehocjedaaDoorLPlaceP
namespace Go.Proofs.YtmfogoehocjedaaDoor
set_option maxRecDepth 20000

theorem spanB_app (p : Nat → Bool) (c : UInt8) (rest : List UInt8) (hc : p c.toNat = false) : ∀ l : List UInt8, spanB p (l ++ c :: rest) = spanB p l
  | [] => by simp [spanB, hc]
  | d :: l => by
    have ih := spanB_app p c rest hc l
    simp only [List.cons_append, spanB, ih]
theorem spanB_take (p : Nat → Bool) : ∀ (l : List UInt8) (n : Nat), spanB p (l.take n) = min (spanB p l) n
  | [], n => by simp [spanB]
  | d :: l, 0 => by simp [spanB]
  | d :: l, n + 1 => by
    have ih := spanB_take p l n
    simp only [List.take_succ_cons, spanB, ih]
    split <;> omega
theorem take_app {l r : List UInt8} {n : Nat} (h : n ≤ l.length) : (l ++ r).take n = l.take n := List.take_append_of_le_length h
theorem bl_ld {c : Nat} (h : blN c = true) : ldN c = false := by
  unfold blN at h
  have h1 := of_decide_eq_true h
  have h2 : letN c = false := decide_eq_false (by omega)
  have h3 : digN c = false := decide_eq_false (by omega)
  unfold ldN
  rw [h2, h3]; rfl
theorem bl_dig {c : Nat} (h : blN c = true) : digN c = false := by
  unfold blN at h
  have h1 := of_decide_eq_true h
  exact decide_eq_false (by omega)
theorem bl_ne {c : UInt8} (h : blN c.toNat = true) (d : UInt8) (hd : d.toNat ≠ 32 ∧ d.toNat ≠ 9 ∧ d.toNat ≠ 10 ∧ d.toNat ≠ 13) : c ≠ d := fun he => by
  subst he
  unfold blN at h
  have h1 := of_decide_eq_true h
  omega
theorem textF_app (c : UInt8) (rest : List UInt8) (hc : c ≠ 39) : ∀ (r s : List UInt8) (n : Nat), textF r = some (s, n) → textF (r ++ c :: rest) = some (s, n)
  | [], s, n, h => by simp [textF] at h
  | [x], s, n, h => by
    simp only [textF] at h
    split at h
    · rename_i hx
      rw [← h]
      show textF (x :: c :: rest) = _
      simp only [textF, if_pos hx, if_neg hc]
    · cases h
  | x :: d :: r, s, n, h => by
    simp only [textF] at h
    show textF (x :: d :: (r ++ c :: rest)) = _
    simp only [textF]
    split at h
    · rename_i hx
      rw [if_pos hx]
      split at h
      · rename_i hd
        rw [if_pos hd]
        obtain ⟨⟨s', n'⟩, h1, h2⟩ := Option.map_eq_some_iff.1 h
        rw [textF_app c rest hc r s' n' h1]
        exact congrArg some h2
      · rename_i hd
        rw [if_neg hd]
        exact h
    · rename_i hx
      rw [if_neg hx]
      obtain ⟨⟨s', n'⟩, h1, h2⟩ := Option.map_eq_some_iff.1 h
      have := textF_app c rest hc (d :: r) s' n' h1
      rw [List.cons_append] at this
      rw [this]
      exact congrArg some h2
termination_by l => l.length
theorem moreF_app {c : UInt8} {rest l : List UInt8} (hc : blN c.toNat = true) : moreF (l ++ c :: rest) = moreF l := by
  have hn := spanB_le digN l
  unfold moreF
  rw [spanB_app digN c rest (bl_dig hc)]
  by_cases h : spanB digN l < l.length
  · rw [List.getElem?_append_left h, List.drop_append_of_le_length h, spanB_app digN c rest (bl_dig hc)]
  · have e : spanB digN l = l.length := by omega
    rw [e, List.getElem?_append_right (Nat.le_refl _), Nat.sub_self, List.getElem?_cons_zero, List.getElem?_eq_none (Nat.le_refl _), if_neg (fun h => bl_ne hc 46 (by decide) (Option.some.inj h)), if_neg (by simp)]
theorem numF_app {big : List UInt8 → Bool} {c : UInt8} {rest l : List UInt8} (hc : blN c.toNat = true) (h0 : 0 < spanB digN l) : numF big (l ++ c :: rest) = numF big l := by
  have hn := spanB_le digN l
  have hm := moreF_le l
  unfold numF
  rw [moreF_app hc, spanB_app digN c rest (bl_dig hc), List.getElem?_append_left (by omega)]
  by_cases hmo : 0 < moreF l
  · rw [if_pos hmo, if_pos hmo, take_app (hm hmo)]
  · rw [if_neg hmo, if_neg hmo, take_app hn]
    by_cases h19 : 19 ≤ l.length
    · rw [take_app h19]
    · have e : ∀ β : Prop, ((19 < spanB digN l ∨ (spanB digN l = 19 ∧ β)) ↔ False) := fun β => ⟨fun h => by rcases h with h | h <;> omega, fun h => h.elim⟩
      simp only [e]
/-- A blank and more behind a text turn nothing of its first word. -/
theorem nextF_app {big : List UInt8 → Bool} {c : UInt8} {rest l : List UInt8} (hc : blN c.toNat = true) (hl : l ≠ []) (h10 : nextF big l ≠ .er 10) : nextF big (l ++ c :: rest) = nextF big l := by
  cases l with
  | nil => exact absurd rfl hl
  | cons x r =>
    have hld := spanB_le ldN (x :: r)
    have e1 := spanB_app ldN c rest (bl_ld hc) (x :: r)
    rw [List.cons_append] at e1 ⊢
    simp only [nextF]
    simp only [nextF] at h10
    by_cases hlet : letN x.toNat = true
    · rw [if_pos hlet, if_pos hlet, e1]
      have e2 : (x :: (r ++ c :: rest)).take (spanB ldN (x :: r)) = (x :: r).take (spanB ldN (x :: r)) := take_app (l := x :: r) (r := c :: rest) hld
      rw [e2]
    · rw [if_neg hlet, if_neg hlet]
      rw [if_neg hlet] at h10
      by_cases hdig : digN x.toNat = true
      · rw [if_pos hdig, if_pos hdig]
        exact numF_app (l := x :: r) hc (by simp [spanB, hdig])
      · rw [if_neg hdig, if_neg hdig]
        rw [if_neg hdig] at h10
        by_cases h39 : x = 39
        · rw [if_pos h39, if_pos h39]
          rw [if_pos h39] at h10
          cases ht : textF r with
          | none => rw [ht] at h10; exact absurd rfl h10
          | some y =>
            obtain ⟨s, n⟩ := y
            rw [textF_app c rest (bl_ne hc 39 (by decide)) r s n ht]
        · rw [if_neg h39, if_neg h39]
          cases r with
          | nil =>
            have e3 : ¬ (x :: ([] ++ c :: rest)).take 2 ∈ twoL := by
              have h1 := bl_ne hc 62 (by decide)
              have h2 := bl_ne hc 61 (by decide)
              simp [twoL, h1, h2]
            have e4 : ¬ [x].take 2 ∈ twoL := by simp [twoL]
            rw [if_neg e3, if_neg e4]
          | cons y r =>
            have e3 : (x :: (y :: r ++ c :: rest)).take 2 = (x :: y :: r).take 2 := rfl
            rw [e3]
theorem textF_take : ∀ (r s : List UInt8) (n : Nat), textF r = some (s, n) → textF (r.take n) = some (s, n)
  | [], s, n, h => by simp [textF] at h
  | [c], s, n, h => by
    have hle := textF_le [c] s n h
    have : n = 1 := by simp at hle; omega
    subst this
    exact h
  | c :: d :: r, s, n, h => by
    simp only [textF] at h
    split at h
    · rename_i hc
      split at h
      · rename_i hd
        obtain ⟨⟨s', n'⟩, h1, h2⟩ := Option.map_eq_some_iff.1 h
        have ih := textF_take r s' n' h1
        simp only [Prod.mk.injEq] at h2
        obtain ⟨rfl, rfl⟩ := h2
        rw [show n' + 2 = n' + 1 + 1 from rfl, List.take_succ_cons, List.take_succ_cons]
        simp only [textF, if_pos hc, if_pos hd, ih]
        rfl
      · simp only [Option.some.injEq, Prod.mk.injEq] at h
        obtain ⟨rfl, rfl⟩ := h
        show textF [c] = _
        simp only [textF, if_pos hc]
    · rename_i hc
      obtain ⟨⟨s', n'⟩, h1, h2⟩ := Option.map_eq_some_iff.1 h
      have ih := textF_take (d :: r) s' n' h1
      simp only [Prod.mk.injEq] at h2
      obtain ⟨rfl, rfl⟩ := h2
      rw [List.take_succ_cons, textF_step hc, ih]
      rfl
termination_by l => l.length
theorem numF_take {big : List UInt8 → Bool} {l s : List UInt8} {k n : Nat} (h0 : 0 < spanB digN l) (h : numF big l = .ok k s n) : numF big (l.take n) = .ok k s n := by
  have hn1 := spanB_le digN l
  have hml := moreF_le l
  unfold numF at h
  split at h
  · cases h
  · rename_i h7
    split at h
    · rename_i hm
      split at h
      · cases h
      · rename_i hb
        simp only [Nx.ok.injEq] at h
        obtain ⟨rfl, rfl, rfl⟩ := h
        have hml' := hml hm
        have e1 : spanB digN (l.take (spanB digN l + 1 + moreF l)) = spanB digN l := by rw [spanB_take]; omega
        have e2 : moreF (l.take (spanB digN l + 1 + moreF l)) = moreF l := by
          have h46 : l[spanB digN l]? = some 46 := by
            unfold moreF at hm
            split at hm
            · assumption
            · omega
          have hmv : moreF l = spanB digN (l.drop (spanB digN l + 1)) := by unfold moreF; rw [if_pos h46]
          have h46' : (l.take (spanB digN l + 1 + moreF l))[spanB digN l]? = some 46 := by rw [List.getElem?_take_of_lt (by omega)]; exact h46
          unfold moreF at h46' ⊢
          rw [show (if l[spanB digN l]? = some 46 then spanB digN (l.drop (spanB digN l + 1)) else 0) = moreF l from rfl] at h46' ⊢
          rw [e1, if_pos h46', List.drop_take, spanB_take]
          omega
        unfold numF
        rw [e2, e1, List.getElem?_take_of_lt (by omega), if_neg h7, if_pos hm, List.take_take, Nat.min_self, if_neg hb]
    · rename_i hm
      split at h
      · cases h
      · rename_i h19
        simp only [Nx.ok.injEq] at h
        obtain ⟨rfl, rfl, rfl⟩ := h
        have e1 : spanB digN (l.take (spanB digN l)) = spanB digN l := by rw [spanB_take, Nat.min_self]
        have e2 : moreF (l.take (spanB digN l)) = 0 := by
          unfold moreF
          rw [e1, List.getElem?_eq_none (by rw [List.length_take]; omega), if_neg (by simp)]
        have e3 : (19 < spanB digN l ∨ (spanB digN l = 19 ∧ gtB ((l.take (spanB digN l)).take 19) bigT = true)) ↔ (19 < spanB digN l ∨ (spanB digN l = 19 ∧ gtB (l.take 19) bigT = true)) := by
          constructor
          · rintro (h | ⟨h, h2⟩)
            · exact .inl h
            · rw [List.take_take, h, Nat.min_self] at h2; exact .inr ⟨h, h2⟩
          · rintro (h | ⟨h, h2⟩)
            · exact .inl h
            · refine .inr ⟨h, ?_⟩
              rw [List.take_take, h, Nat.min_self]; exact h2
        unfold numF
        rw [e2, e1, List.getElem?_take_of_lt (by omega), if_neg h7, if_neg (by omega), if_neg (fun h => h19 (e3.1 h)), List.take_take, Nat.min_self]
theorem cap_let {c : UInt8} (h : capN c.toNat = true) : letN c.toNat = true ∧ upC c = c := by
  unfold capN at h
  have h1 := of_decide_eq_true h
  exact ⟨decide_eq_true (by omega), upC_same (by omega)⟩
theorem spanB_whole {p : Nat → Bool} : ∀ l : List UInt8, (∀ c ∈ l, p c.toNat = true) → spanB p l = l.length
  | [], _ => rfl
  | c :: r, h => by
    have ih := spanB_whole (p := p) r (fun x hx => h x (List.mem_cons_of_mem _ hx))
    simp only [spanB, h c (List.mem_cons_self ..), if_pos, ih, List.length_cons]
/-- A word, written, is read as itself. -/
theorem nextF_self {big : List UInt8 → Bool} {l s : List UInt8} {k n : Nat} (h : nextF big l = .ok k s n) (hk : k ≠ 0) : nextF big (wrF k s) = .ok k s n := by
  have hw := nextF_wr h
  cases l with
  | nil =>
    simp only [nextF, Nx.ok.injEq] at h
    exact absurd h.1.symm hk
  | cons c r =>
    have hok := (nextF_ok h).resolve_left (fun h => hk h.1)
    obtain ⟨_, _, hn0, hnl, _⟩ := hok
    obtain ⟨m, rfl⟩ : ∃ m, n = m + 1 := ⟨n - 1, by omega⟩
    have hT : k ≠ 2 → wrF k s = c :: r.take m := fun h => by rw [hw.2 h, List.take_succ_cons]
    simp only [nextF] at h
    by_cases hlet : letN c.toNat = true
    · rw [if_pos hlet] at h
      have hld := spanB_le ldN (c :: r)
      cases hkw : kwF ((c :: r).take (spanB ldN (c :: r))) with
      | some u =>
        rw [hkw] at h
        simp only [Nx.ok.injEq] at h
        obtain ⟨rfl, rfl, h3⟩ := h
        have hmem : u ∈ wordsL := by
          unfold kwF at hkw
          split at hkw
          · rename_i hm; cases hkw; exact hm
          · cases hkw
        obtain ⟨hne, hcap⟩ := words_caps u hmem
        have hul : u.length = m + 1 := by
          have := hw.1
          unfold wrF at this
          rwa [if_neg (by omega)] at this
        have hmap : u.map upC = u := by
          have : ∀ x ∈ u, upC x = x := fun x hx => (cap_let (hcap x hx)).2
          exact (List.map_congr_left this).trans (List.map_id u)
        have hkwu : kwF u = some u := by unfold kwF; rw [hmap, if_pos hmem]
        have hspu : spanB ldN u = m + 1 := by
          rw [spanB_whole u (fun x hx => by unfold ldN; rw [(cap_let (hcap x hx)).1]; rfl), hul]
        unfold wrF
        rw [if_neg (by omega)]
        cases u with
        | nil => exact absurd rfl hne
        | cons y u' =>
          have hly := (cap_let (hcap y (List.mem_cons_self ..))).1
          simp only [nextF]
          rw [if_pos hly, hspu, ← hul, List.take_length, hkwu]
      | none =>
        rw [hkw] at h
        dsimp only at h
        split at h
        · cases h
        · rename_i h12
          simp only [Nx.ok.injEq] at h
          obtain ⟨rfl, rfl, h3⟩ := h
          rw [h3] at h12 hkw hT ⊢
          rw [hT (by omega)]
          have e1 : spanB ldN (c :: r.take m) = m + 1 := by
            have := spanB_take ldN (c :: r) (m + 1)
            rw [List.take_succ_cons] at this
            rw [this, h3, Nat.min_self]
          have e2 : (c :: r.take m).take (m + 1) = (c :: r).take (m + 1) := by rw [List.take_succ_cons, List.take_succ_cons, List.take_take, Nat.min_self]
          simp only [nextF]
          rw [if_pos hlet, e1, e2, hkw]
          simp only [if_neg h12]
    · rw [if_neg hlet] at h
      by_cases hdig : digN c.toNat = true
      · rw [if_pos hdig] at h
        have h2 := numF_take (l := c :: r) (by simp [spanB, hdig]) h
        have hk2 : k ≠ 2 := by
          intro he
          subst he
          unfold numF at h
          split at h
          · cases h
          · split at h
            · split at h
              · cases h
              · simp only [Nx.ok.injEq] at h; omega
            · split at h
              · cases h
              · simp only [Nx.ok.injEq] at h; omega
        rw [hT hk2]
        rw [List.take_succ_cons] at h2
        simp only [nextF]
        rw [if_neg hlet, if_pos hdig]
        exact h2
      · rw [if_neg hdig] at h
        by_cases h39 : c = 39
        · rw [if_pos h39] at h
          cases ht : textF r with
          | none => rw [ht] at h; cases h
          | some y =>
            obtain ⟨s', n'⟩ := y
            rw [ht] at h
            simp only [Nx.ok.injEq] at h
            obtain ⟨rfl, rfl, h3⟩ := h
            obtain rfl : n' = m := by omega
            rw [hT (by omega)]
            simp only [nextF]
            rw [if_neg hlet, if_neg hdig, if_pos h39, textF_take r s' n' ht]
        · rw [if_neg h39] at h
          split at h
          · rename_i htw
            simp only [Nx.ok.injEq] at h
            obtain ⟨rfl, rfl, h3⟩ := h
            obtain rfl : m = 1 := by omega
            rw [hT (by omega)]
            simp only [nextF]
            have e : (c :: r.take 1).take 2 = (c :: r).take 2 := by rw [List.take_succ_cons, List.take_succ_cons, List.take_take]; rfl
            rw [if_neg hlet, if_neg hdig, if_neg h39, e, if_pos htw]
          · split at h
            · rename_i htw hsg
              simp only [Nx.ok.injEq] at h
              obtain ⟨rfl, rfl, h3⟩ := h
              obtain rfl : m = 0 := by omega
              rw [hT (by omega), List.take_zero]
              simp only [nextF]
              have e : ¬ [c].take 2 ∈ twoL := by simp [twoL]
              rw [if_neg hlet, if_neg hdig, if_neg h39, if_neg e, if_pos hsg]
            · cases h
/-- Words as a text's are: the end last. -/
def Good' (big : List UInt8 → Bool) : List Tk → Prop
  | [] => False
  | t :: r => (r = [] ∧ t.kind = 0 ∧ t.s = []) ∨ (t.kind ≠ 0 ∧ (∃ l n, nextF big l = .ok t.kind t.s n) ∧ Good' big r)
theorem lexF_good {big : List UInt8 → Bool} : ∀ (f : Nat) (l : List UInt8) (a : Nat) (ts : List Tk), lexF big f l a = (ts, none) → Good' big ts
  | 0, _, _, _, h => by cases h
  | f + 1, l, a, ts, h => by
    cases hn : nextF big (l.drop (spanB blN l)) with
    | er e => rw [lexF_er hn] at h; cases h
    | ok k s n =>
      by_cases hk : k = 0
      · subst hk
        rw [lexF_end hn] at h
        cases h
        obtain ⟨-, -, hs, -⟩ := (nextF_ok hn).resolve_right (fun h => by omega)
        exact .inl ⟨rfl, rfl, hs⟩
      · rw [lexF_ok hn hk] at h
        cases hx : lexF big f (l.drop (spanB blN l + n)) (a + spanB blN l + n) with
        | mk r o =>
          rw [hx] at h
          cases h
          exact .inr ⟨hk, ⟨_, _, hn⟩, lexF_good f _ _ _ hx⟩
/-- The words written, a blank behind each. -/
def outT (b : List UInt8) (ts : List Tk) : List UInt8 := ts.flatMap fun t => wrF t.kind t.s ++ b
def sameT (a b : List Tk) : Prop := a.map (fun t => (t.kind, t.s)) = b.map (fun t => (t.kind, t.s))
theorem spanB_blank {B R : List UInt8} (hB : ∀ c ∈ B, blN c.toNat = true) (hR : ∀ c, R[0]? = some c → blN c.toNat = false) : spanB blN (B ++ R) = B.length := by
  refine spanB_eq blN _ _ (by rw [List.length_append]; omega) (fun j hj c hc => ?_) (fun c hc => ?_)
  · rw [List.getElem?_append_left hj] at hc
    exact hB c (List.mem_of_getElem? hc)
  · rw [List.getElem?_append_right (Nat.le_refl _), Nat.sub_self] at hc
    exact hR c hc
theorem nextF_first {big : List UInt8 → Bool} {l s : List UInt8} {k n : Nat} (h : nextF big l = .ok k s n) (hk : k ≠ 0) : l ≠ [] ∧ ∀ c, l[0]? = some c → blN c.toNat = false := by
  cases l with
  | nil =>
    simp only [nextF, Nx.ok.injEq] at h
    exact absurd h.1.symm hk
  | cons x r =>
    refine ⟨List.cons_ne_nil _ _, fun c hc => ?_⟩
    have : x = c := by simpa using hc
    subst this
    cases hb : blN x.toNat with
    | false => rfl
    | true =>
      exfalso
      have h1 := bl_ld hb
      unfold ldN at h1
      have h2 : letN x.toNat = false := by cases hh : letN x.toNat with | false => rfl | true => rw [hh] at h1; cases h1
      have h3 := bl_dig hb
      have n39 := bl_ne hb 39 (by decide)
      have n60 := bl_ne hb 60 (by decide)
      have n62 := bl_ne hb 62 (by decide)
      simp only [nextF] at h
      rw [if_neg (by rw [h2]; decide), if_neg (by rw [h3]; decide), if_neg n39] at h
      split at h
      · rename_i ht
        cases r with
        | nil => simp [twoL] at ht
        | cons y r => simp [twoL, n60, n62] at ht
      · split at h
        · rename_i hs
          unfold blN at hb
          have hb' := of_decide_eq_true hb
          have : ∀ c ∈ signL, ¬ (c.toNat = 32 ∨ c.toNat = 9 ∨ c.toNat = 10 ∨ c.toNat = 13) := by decide
          exact this x hs hb'
        · cases h
/-- The words, written with blanks between, are these words again. -/
theorem lex_again {big : List UInt8 → Bool} {b : List UInt8} (hb : ∀ c ∈ b, blN c.toNat = true) (hbn : b ≠ []) : ∀ (ts : List Tk), Good' big ts → ∀ (f : Nat) (B : List UInt8) (a : Nat), (∀ c ∈ B, blN c.toNat = true) → ts.length ≤ f →
    ∃ ts', lexF big f (B ++ outT b ts) a = (ts', none) ∧ sameT ts' ts
  | [], h, _, _, _, _, _ => h.elim
  | t :: r, h, f, B, a, hB, hf => by
    obtain ⟨f, rfl⟩ : ∃ g, f = g + 1 := ⟨f - 1, by rw [List.length_cons] at hf; omega⟩
    rcases h with ⟨rfl, hk, hs⟩ | ⟨hk, ⟨l, n, hn⟩, hr⟩
    · have e : outT b [t] = b := by
        simp [outT, wrF, hk, hs]
      have hall : ∀ c ∈ B ++ b, blN c.toNat = true := fun c hc => by
        rcases List.mem_append.1 hc with h | h
        · exact hB c h
        · exact hb c h
      have hsp := spanB_whole (B ++ b) hall
      refine ⟨[⟨0, [], a + spanB blN (B ++ b)⟩], ?_, by simp [sameT, hk, hs]⟩
      rw [e]
      exact lexF_end (n := 0) (by rw [hsp, List.drop_length]; rfl)
    · have hself := nextF_self hn hk
      have hw := (nextF_wr hself).1
      obtain ⟨hne, hfirst⟩ := nextF_first hself hk
      obtain ⟨x, b', rfl⟩ : ∃ x b', b = x :: b' := by
        cases b with
        | nil => exact absurd rfl hbn
        | cons x b' => exact ⟨x, b', rfl⟩
      have happ := nextF_app (rest := b' ++ outT (x :: b') r) (hb x (List.mem_cons_self ..)) hne (by rw [hself]; intro h; cases h)
      rw [hself] at happ
      have e : outT (x :: b') (t :: r) = wrF t.kind t.s ++ x :: (b' ++ outT (x :: b') r) := by
        unfold outT
        rw [List.flatMap_cons]
        simp
      have hsp : spanB blN (B ++ outT (x :: b') (t :: r)) = B.length := by
        rw [e]
        refine spanB_blank hB fun c hc => ?_
        rw [List.getElem?_append_left (List.length_pos_iff.2 hne)] at hc
        exact hfirst c hc
      obtain ⟨ts', h1, h2⟩ := lex_again hb hbn r hr f (x :: b') (a + spanB blN (B ++ outT (x :: b') (t :: r)) + n) hb (by rw [List.length_cons] at hf; omega)
      have hdrop : (B ++ outT (x :: b') (t :: r)).drop (spanB blN (B ++ outT (x :: b') (t :: r)) + n) = (x :: b') ++ outT (x :: b') r := by
        rw [hsp, e, ← List.drop_drop, List.drop_left, ← hw, List.drop_left]
        rfl
      refine ⟨⟨t.kind, t.s, a + spanB blN (B ++ outT (x :: b') (t :: r))⟩ :: ts', ?_, ?_⟩
      · rw [lexF_ok (k := t.kind) (s := t.s) (n := n) (by rw [hsp, List.drop_left, e]; exact happ) hk, hdrop, h1]
      · unfold sameT at h2 ⊢
        rw [List.map_cons, List.map_cons, h2]
/-- How long the words' text is. -/
theorem outT_len {big : List UInt8 → Bool} {b : List UInt8} {l : List UInt8} : ∀ (ts : List Tk) (f e : Nat), e ≤ l.length → lexF big f (l.drop e) e = (ts, none) → (outT b ts).length + e ≤ l.length + ts.length * b.length
  | [], f, e, he, h => by
    have := lexF_ne (big := big) (f := f) (a := e) (l := l.drop e) (by rw [h])
    rw [h] at this
    exact absurd rfl this
  | t :: r, f, e, he, h => by
    obtain ⟨t', r', n, hts, hat, hpn, hwl, _, _, hnext⟩ := lexF_next he h
    cases hts
    have e1 : outT b (t :: r) = wrF t.kind t.s ++ b ++ outT b r := by unfold outT; rw [List.flatMap_cons]
    rw [e1, List.length_append, List.length_append, hwl, List.length_cons, Nat.add_mul, Nat.one_mul]
    rcases hnext with ⟨rfl, h2⟩ | ⟨f', _, _, h3⟩
    · show n + b.length + 0 + e ≤ _
      omega
    · have ih := outT_len (b := b) r f' (t.at_ + n) hpn h3
      omega
end Go.Proofs.YtmfogoehocjedaaDoor
