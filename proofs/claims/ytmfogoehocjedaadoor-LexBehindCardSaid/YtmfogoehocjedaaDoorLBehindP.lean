/- What stands behind a blank turns nothing of the words ahead of it. Plain Lean. -/
import Derived.Test.YtmfogoehocjedaaDoorLAgainP
namespace Go.Proofs.YtmfogoehocjedaaDoor
set_option maxRecDepth 20000

theorem spanB_lt_app (p : Nat → Bool) (r : List UInt8) : ∀ l : List UInt8, spanB p l < l.length → spanB p (l ++ r) = spanB p l
  | [], h => absurd h (by simp [spanB])
  | c :: l, h => by
    have ih := spanB_lt_app p r l
    simp only [List.cons_append, spanB, List.length_cons] at h ⊢
    split
    · rename_i hc
      rw [if_pos hc] at h
      rw [ih (by omega)]
    · rfl
theorem spanB_all_app (p : Nat → Bool) (r : List UInt8) : ∀ l : List UInt8, spanB p l = l.length → spanB p (l ++ r) = l.length + spanB p r
  | [], _ => by simp
  | c :: l, h => by
    have ih := spanB_all_app p r l
    simp only [List.cons_append, spanB, List.length_cons] at h ⊢
    split
    · rename_i hc
      rw [if_pos hc] at h
      rw [ih (by omega)]
      omega
    · rename_i hc
      rw [if_neg hc] at h
      omega
theorem lexF_er_ge {big : List UInt8 → Bool} : ∀ (f : Nat) (l : List UInt8) (a x e : Nat), l.length < f → (lexF big f l a).2 = some (x, e) → a + spanB blN l ≤ x
  | 0, l, a, x, e, hl, _ => by omega
  | f + 1, l, a, x, e, hl, h => by
    have hsp := spanB_le blN l
    cases hn : nextF big (l.drop (spanB blN l)) with
    | er y => rw [lexF_er hn] at h; cases h; exact Nat.le_refl _
    | ok k s n =>
      by_cases hk : k = 0
      · subst hk; rw [lexF_end hn] at h; cases h
      · rw [lexF_ok hn hk] at h
        obtain ⟨hk1, hk2, hn1, hn2, hn3⟩ := (nextF_ok hn).resolve_left (fun h => hk h.1)
        rw [List.length_drop] at hn2
        have := lexF_er_ge f _ _ _ _ (by rw [List.length_drop]; omega) h
        omega
theorem lexF_behind {big : List UInt8 → Bool} {c : UInt8} {rest : List UInt8} (hc : blN c.toNat = true) : ∀ (f : Nat) (l : List UInt8) (a F : Nat), l.length < f → (l ++ c :: rest).length < F →
    (∀ ts, lexF big f l a = (ts, none) → (∀ m, lexF big F (l ++ c :: rest) a = (m, none) → ts.length ≤ m.length ∧ ∀ i, i + 1 < ts.length → m[i]? = ts[i]?) ∧ (∀ x e, (lexF big F (l ++ c :: rest) a).2 = some (x, e) → a + l.length < x)) ∧
    (∀ x e, (lexF big f l a).2 = some (x, e) → e ≠ 10 → (lexF big F (l ++ c :: rest) a).2 = some (x, e))
  | 0, l, a, F, hl, _ => by omega
  | f + 1, l, a, 0, _, hF => by omega
  | f + 1, l, a, F + 1, hl, hF => by
    have hsp := spanB_le blN l
    by_cases hall : spanB blN l = l.length
    · have hn : nextF big (l.drop (spanB blN l)) = .ok 0 [] 0 := by rw [hall, List.drop_length]; rfl
      have hs2 := spanB_all_app blN (c :: rest) l hall
      have h1 : 1 ≤ spanB blN (c :: rest) := by simp [spanB, hc]
      refine ⟨fun ts h => ?_, fun x e h => ?_⟩
      · rw [lexF_end hn] at h
        cases h
        refine ⟨fun m hm => ⟨?_, fun i hi => ?_⟩, fun x e hx => ?_⟩
        · have := lexF_ne (big := big) (f := F + 1) (a := a) (l := l ++ c :: rest) (by rw [hm])
          rw [hm] at this
          exact List.length_pos_iff.2 this
        · simp at hi
        · have := lexF_er_ge (F + 1) _ _ _ _ hF hx
          omega
      · rw [lexF_end hn] at h
        cases h
    · have hlt : spanB blN l < l.length := by omega
      have hs2 := spanB_lt_app blN (c :: rest) l hlt
      have hd2 : (l ++ c :: rest).drop (spanB blN l) = l.drop (spanB blN l) ++ c :: rest := List.drop_append_of_le_length hsp
      have hne : l.drop (spanB blN l) ≠ [] := fun h => by
        have := congrArg List.length h
        rw [List.length_drop, List.length_nil] at this
        omega
      cases hn : nextF big (l.drop (spanB blN l)) with
      | er y =>
        refine ⟨fun ts h => ?_, fun x e h he => ?_⟩
        · rw [lexF_er hn] at h; cases h
        · rw [lexF_er hn] at h
          cases h
          have happ := nextF_app (rest := rest) hc hne (by rw [hn]; intro h; cases h; exact he rfl)
          rw [hn] at happ
          rw [lexF_er (by rw [hs2, hd2]; exact happ), hs2]
      | ok k s n =>
        obtain ⟨hk1, hk2, hn1, hn2, hn3⟩ := (nextF_ok hn).resolve_left (fun h => hne h.2.1)
        have hk : k ≠ 0 := by omega
        rw [List.length_drop] at hn2
        have happ := nextF_app (rest := rest) hc hne (by rw [hn]; intro h; cases h)
        rw [hn] at happ
        have hd3 : (l ++ c :: rest).drop (spanB blN l + n) = l.drop (spanB blN l + n) ++ c :: rest := List.drop_append_of_le_length (by omega)
        have e2 := lexF_ok (big := big) (fuel := F) (a := a) (l := l ++ c :: rest) (by rw [hs2, hd2]; exact happ) hk
        rw [hs2, hd3] at e2
        obtain ⟨iA, iB⟩ := lexF_behind (rest := rest) hc f (l.drop (spanB blN l + n)) (a + spanB blN l + n) F (by rw [List.length_drop]; omega) (by simp only [List.length_append, List.length_drop, List.length_cons] at hF ⊢; omega)
        rw [e2]
        refine ⟨fun ts h => ?_, fun x e h he => ?_⟩
        · rw [lexF_ok hn hk] at h
          cases hx : lexF big f (l.drop (spanB blN l + n)) (a + spanB blN l + n) with
          | mk r o =>
            rw [hx] at h
            cases h
            obtain ⟨i1, i2⟩ := iA r hx
            refine ⟨fun m hm => ?_, fun x e hx => ?_⟩
            · cases hy : lexF big F (l.drop (spanB blN l + n) ++ c :: rest) (a + spanB blN l + n) with
              | mk m' o' =>
                rw [hy] at hm
                cases hm
                obtain ⟨j1, j2⟩ := i1 m' hy
                refine ⟨by simp only [List.length_cons] at *; omega, fun i hi => ?_⟩
                cases i with
                | zero => rfl
                | succ i =>
                  exact j2 i (by simp only [List.length_cons] at hi; omega)
            · have := i2 x e hx
              rw [List.length_drop] at this
              omega
        · rw [lexF_ok hn hk] at h
          exact iB x e h he
end Go.Proofs.YtmfogoehocjedaaDoor
