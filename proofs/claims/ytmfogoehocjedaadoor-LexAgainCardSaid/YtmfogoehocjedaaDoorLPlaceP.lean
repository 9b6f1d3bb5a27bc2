/- Where the words of a text stand. Plain Lean. -/
import Derived.Test.YtmfogoehocjedaaDoorLWrite
namespace Go.Proofs.YtmfogoehocjedaaDoor
set_option maxRecDepth 20000

theorem textF_esc : ∀ (r s : List UInt8) (n : Nat), textF r = some (s, n) → esc s ++ [39] = r.take n
  | [], s, n, h => by simp [textF] at h
  | [c], s, n, h => by
    simp only [textF] at h
    split at h
    · rename_i hc
      simp only [Option.some.injEq, Prod.mk.injEq] at h
      obtain ⟨rfl, rfl⟩ := h
      rw [hc]; rfl
    · cases h
  | c :: d :: r, s, n, h => by
    simp only [textF] at h
    split at h
    · rename_i hc
      split at h
      · rename_i hd
        obtain ⟨⟨s', n'⟩, h1, h2⟩ := Option.map_eq_some_iff.1 h
        have ih := textF_esc r s' n' h1
        simp only [Prod.mk.injEq] at h2
        obtain ⟨rfl, rfl⟩ := h2
        rw [hc, hd]
        show 39 :: 39 :: (esc s' ++ [39]) = _
        rw [ih]
        rfl
      · simp only [Option.some.injEq, Prod.mk.injEq] at h
        obtain ⟨rfl, rfl⟩ := h
        rw [hc]; rfl
    · rename_i hc
      obtain ⟨⟨s', n'⟩, h1, h2⟩ := Option.map_eq_some_iff.1 h
      have ih := textF_esc (d :: r) s' n' h1
      simp only [Prod.mk.injEq] at h2
      obtain ⟨rfl, rfl⟩ := h2
      have e : esc (c :: s') = c :: esc s' := by simp [esc, hc]
      rw [e, List.cons_append, ih]
      rfl
termination_by l => l.length
/-- A word that is no keyword stands in the text as it is written. -/
theorem nextF_wr {big : List UInt8 → Bool} {l s : List UInt8} {k n : Nat} (h : nextF big l = .ok k s n) : (wrF k s).length = n ∧ (k ≠ 2 → wrF k s = l.take n) := by
  have hall : n ≤ l.length → k ≠ 5 → s = l.take n → (wrF k s).length = n ∧ (k ≠ 2 → wrF k s = l.take n) := fun hn hk hs => by
    unfold wrF
    rw [if_neg hk, hs, List.length_take]
    exact ⟨by omega, fun _ => rfl⟩
  cases l with
  | nil =>
    simp only [nextF, Nx.ok.injEq] at h
    obtain ⟨rfl, rfl, rfl⟩ := h
    exact hall (Nat.le_refl _) (by omega) rfl
  | cons c r =>
    have hok := nextF_ok h
    simp only [nextF] at h
    split at h
    · have hld := spanB_le ldN (c :: r)
      split at h
      · rename_i k' hk
        simp only [Nx.ok.injEq] at h
        obtain ⟨rfl, rfl, rfl⟩ := h
        unfold kwF at hk
        split at hk
        · cases hk
          refine ⟨?_, fun h => absurd rfl h⟩
          unfold wrF
          rw [if_neg (by omega), List.length_map, List.length_take]
          omega
        · cases hk
      · split at h
        · cases h
        · simp only [Nx.ok.injEq] at h
          obtain ⟨rfl, rfl, rfl⟩ := h
          exact hall hld (by omega) rfl
    · split at h
      · have hn := hok
        unfold numF at h
        split at h
        · cases h
        · split at h
          · split at h
            · cases h
            · simp only [Nx.ok.injEq] at h
              obtain ⟨rfl, rfl, rfl⟩ := h
              exact hall (by omega) (by omega) rfl
          · split at h
            · cases h
            · simp only [Nx.ok.injEq] at h
              obtain ⟨rfl, rfl, rfl⟩ := h
              exact hall (by omega) (by omega) rfl
      · split at h
        · rename_i hc
          split at h
          · rename_i s' n' ht
            simp only [Nx.ok.injEq] at h
            obtain ⟨rfl, rfl, rfl⟩ := h
            have he := textF_esc r s' n' ht
            have hle := textF_le r s' n' ht
            have e : wrF 5 s' = (c :: r).take (n' + 1) := by
              unfold wrF
              rw [if_pos rfl, hc]
              show 39 :: (esc s' ++ [39]) = _
              rw [he]
              rfl
            rw [e, List.length_take, List.length_cons]
            exact ⟨by omega, fun _ => rfl⟩
          · cases h
        · split at h
          · simp only [Nx.ok.injEq] at h
            obtain ⟨rfl, rfl, rfl⟩ := h
            exact hall (by omega) (by omega) rfl
          · split at h
            · simp only [Nx.ok.injEq] at h
              obtain ⟨rfl, rfl, rfl⟩ := h
              exact hall (by omega) (by omega) rfl
            · cases h
theorem lexF_ne {big : List UInt8 → Bool} {f a : Nat} {l : List UInt8} (h : (lexF big f l a).2 = none) : (lexF big f l a).1 ≠ [] := by
  cases f with
  | zero => cases h
  | succ f =>
    cases hn : nextF big (l.drop (spanB blN l)) with
    | er e => rw [lexF_er hn] at h; cases h
    | ok k s n =>
      by_cases hk : k = 0
      · subst hk; rw [lexF_end hn]; exact List.cons_ne_nil _ _
      · rw [lexF_ok hn hk]; exact List.cons_ne_nil _ _
/-- One word on. -/
theorem lexF_next {big : List UInt8 → Bool} {f e : Nat} {l : List UInt8} {ts : List Tk} (he : e ≤ l.length) (h : lexF big f (l.drop e) e = (ts, none)) :
    ∃ t r n, ts = t :: r ∧ t.at_ = e + spanB blN (l.drop e) ∧ t.at_ + n ≤ l.length ∧ (wrF t.kind t.s).length = n ∧ (t.kind ≠ 2 → wrF t.kind t.s = (l.drop t.at_).take n) ∧ (t.kind = 0 ↔ r = []) ∧
      ((r = [] ∧ t.at_ + n = l.length) ∨ ∃ f', f = f' + 1 ∧ r ≠ [] ∧ lexF big f' (l.drop (t.at_ + n)) (t.at_ + n) = (r, none)) := by
  have hsp := spanB_le blN (l.drop e)
  rw [List.length_drop] at hsp
  cases f with
  | zero => cases h
  | succ f =>
    cases hn : nextF big ((l.drop e).drop (spanB blN (l.drop e))) with
    | er x => rw [lexF_er hn] at h; cases h
    | ok k s n =>
      have hw := nextF_wr hn
      have hok := nextF_ok hn
      rw [List.drop_drop] at hw hok hn
      rw [List.length_drop] at hok
      by_cases hk : k = 0
      · subst hk
        rw [lexF_end (by rw [List.drop_drop]; exact hn)] at h
        cases h
        obtain ⟨-, hl, hs, hn0⟩ := hok.resolve_right (fun h => by omega)
        subst hs hn0
        have hl2 := congrArg List.length hl
        rw [List.length_drop, List.length_nil] at hl2
        exact ⟨_, _, 0, rfl, rfl, by dsimp only; omega, hw.1, hw.2, ⟨fun _ => rfl, fun _ => rfl⟩, .inl ⟨rfl, by dsimp only; omega⟩⟩
      · obtain ⟨hk1, hk2, hn1, hn2, hn3⟩ := hok.resolve_left (fun h => hk h.1)
        rw [lexF_ok (by rw [List.drop_drop]; exact hn) hk, List.drop_drop, ← Nat.add_assoc] at h
        cases hx : lexF big f (l.drop (e + spanB blN (l.drop e) + n)) (e + spanB blN (l.drop e) + n) with
        | mk r o =>
          rw [hx] at h
          cases h
          have hne : r ≠ [] := by
            have := lexF_ne (big := big) (f := f) (a := e + spanB blN (l.drop e) + n) (l := l.drop (e + spanB blN (l.drop e) + n)) (by rw [hx])
            rw [hx] at this
            exact this
          exact ⟨_, _, n, rfl, rfl, by dsimp only; omega, hw.1, hw.2, ⟨fun h => absurd h hk, fun h => absurd h hne⟩, .inr ⟨f, rfl, hne, hx⟩⟩
end Go.Proofs.YtmfogoehocjedaaDoor
