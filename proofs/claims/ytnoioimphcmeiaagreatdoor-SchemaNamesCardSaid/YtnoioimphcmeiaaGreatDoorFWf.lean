/- The decimal record stays well formed. -/
import Derived.Test.YtnoioimphcmeiaaGreatDoorFRight
namespace Go.Proofs.YtnoioimphcmeiaaGreatDoor
open Go.RowKit
set_option maxRecDepth 20000
set_option maxHeartbeats 1000000

structure Wf (D : Dc) : Prop where
  n1 : 1 ≤ D.nd
  n8 : D.nd ≤ 800
  dig : Dig D D.nd
  hd : 1 ≤ dg D 0
  len : D.ds.length = 800
def isD (o : Option UInt8) : Prop := ∃ c, o = some c ∧ 48 ≤ c.toNat ∧ c.toNat ≤ 57
theorem isD_put {ds : List UInt8} {w q : Nat} (hw : w < ds.length) (hq : q ≤ 9) : isD ((ds.set w (UInt8.ofNat (q + 48)))[w]?) :=
  ⟨UInt8.ofNat (q + 48), List.getElem?_set_self hw, by rw [u8ofNat hq]; omega, by rw [u8ofNat hq]; omega⟩
theorem dg_of {D : Dc} {j q : Nat} (hq : q ≤ 9) (h : D.ds[j]? = some (UInt8.ofNat (q + 48))) : dg D j = q := by
  unfold dg
  rw [h, Option.getD_some, u8ofNat hq, Nat.add_sub_cancel]
theorem dg_at {D : Dc} {j : Nat} (h : 1 ≤ dg D j) : ∃ c, D.ds[j]? = some c ∧ 49 ≤ c.toNat := by
  unfold dg at h
  cases hc : D.ds[j]? with
  | none => rw [hc] at h; exact absurd h (by decide)
  | some c => rw [hc, Option.getD_some] at h; exact ⟨c, rfl, by omega⟩

/- trim -/
theorem trimN_pos {ds : List UInt8} {c : UInt8} (h0 : ds[0]? = some c) (hc : c ≠ 48) : ∀ n, 1 ≤ n → 1 ≤ trimN ds n
  | 0, h => absurd h (by omega)
  | 1, _ => by
    unfold trimN
    rw [h0, if_neg (fun h => hc (Option.some.inj h))]
    exact Nat.le_refl 1
  | n + 2, _ => by
    unfold trimN
    split
    · exact trimN_pos h0 hc (n + 1) (by omega)
    · omega
theorem trF_wf {D : Dc} (h : Wf D) : Wf (trF D) ∧ (trF D).dp = D.dp ∧ dg (trF D) 0 = dg D 0 := by
  obtain ⟨c, hc, h49⟩ := dg_at h.hd
  have hp := trimN_pos hc (fun e => by rw [e] at h49; exact absurd h49 (by decide)) D.nd h.n1
  have hle := trimN_le D.ds D.nd
  have e : trF D = { D with nd := trimN D.ds D.nd } := by
    unfold trF
    rw [if_neg (by omega)]
  rw [e]
  exact ⟨⟨hp, Nat.le_trans hle h.n8, fun j hj => h.dig j (Nat.lt_of_lt_of_le hj hle), h.hd, h.len⟩, rfl, rfl⟩

/- rightShift -/
theorem rs2_facts {k : Nat} : ∀ f r w n (D : Dc), Dig D w → n < 10 * 2 ^ k → (∀ j, r ≤ j → j < r + f → isD D.ds[j]?) → w < r → (0 < f → r + f ≤ 800) → D.ds.length = 800 →
    (rs2 k f r w n D).1 = w + f ∧ (rs2 k f r w n D).2.1 < 10 * 2 ^ k ∧ Dig (rs2 k f r w n D).2.2 (w + f) ∧ (∀ j, j < w → (rs2 k f r w n D).2.2.ds[j]? = D.ds[j]?) ∧ (rs2 k f r w n D).2.2.ds.length = 800 ∧ (rs2 k f r w n D).2.2.dp = D.dp ∧
    (0 < f → (rs2 k f r w n D).2.2.ds[w]? = some (UInt8.ofNat (n / 2 ^ k + 48))) ∧ (f = 0 → (rs2 k f r w n D).2.1 = n) := by
  intro f
  induction f with
  | zero => intro r w n D h1 h2 h3 h4 h5 h6; exact ⟨rfl, h2, h1, fun _ _ => rfl, h6, rfl, fun h => absurd h (by omega), fun _ => rfl⟩
  | succ f ih =>
    intro r w n D h1 h2 h3 h4 h5 h6
    have hq : n / 2 ^ k ≤ 9 := by
      have := (Nat.div_lt_iff_lt_mul (Nat.two_pow_pos k)).2 h2
      omega
    have hw : w < D.ds.length := by have := h5 (by omega); omega
    obtain ⟨c, hc, hc1, hc2⟩ := h3 r (Nat.le_refl _) (by omega)
    have hdg : dg D r ≤ 9 := by unfold dg; rw [hc, Option.getD_some]; omega
    have hmod : n % 2 ^ k < 2 ^ k := Nat.mod_lt _ (Nat.two_pow_pos k)
    have hne : ∀ j, j ≠ w → (setD D w (n / 2 ^ k)).ds[j]? = D.ds[j]? := fun j hj => List.getElem?_set_ne (Ne.symm hj)
    obtain ⟨a1, a2, a3, a4, a5, a6, a7, a8⟩ := ih (r + 1) (w + 1) (n % 2 ^ k * 10 + dg D r) (setD D w (n / 2 ^ k)) (fun j hj => by
        by_cases hjw : j = w
        · subst hjw; exact isD_put hw hq
        · rw [hne j hjw]; exact h1 j (by omega)) (by omega) (fun j hj1 hj2 => by rw [hne j (by omega)]; exact h3 j (by omega) (by omega)) (by omega) (fun h => by have := h5 (by omega); omega) (by show (D.ds.set _ _).length = 800; rw [List.length_set]; exact h6)
    have e : rs2 k (f + 1) r w n D = rs2 k f (r + 1) (w + 1) (n % 2 ^ k * 10 + dg D r) (setD D w (n / 2 ^ k)) := rfl
    rw [e]
    refine ⟨by rw [a1]; omega, a2, by rw [show w + (f + 1) = w + 1 + f by omega]; exact a3, fun j hj => by rw [a4 j (by omega), hne j (by omega)], a5, a6, fun _ => ?_, fun h => absurd h (by omega)⟩
    rw [a4 w (by omega)]
    exact List.getElem?_set_self hw
theorem rs3_facts {k : Nat} : ∀ f w n (D : Dc), Dig D w → n < 10 * 2 ^ k → w ≤ 800 → D.ds.length = 800 →
    w ≤ (rs3 k f w n D).1 ∧ (rs3 k f w n D).1 ≤ 800 ∧ Dig (rs3 k f w n D).2 (rs3 k f w n D).1 ∧ (∀ j, j < w → (rs3 k f w n D).2.ds[j]? = D.ds[j]?) ∧ (rs3 k f w n D).2.ds.length = 800 ∧ (rs3 k f w n D).2.dp = D.dp ∧
    (0 < f → n ≠ 0 → w < 800 → w + 1 ≤ (rs3 k f w n D).1 ∧ (rs3 k f w n D).2.ds[w]? = some (UInt8.ofNat (n / 2 ^ k + 48))) := by
  intro f
  induction f with
  | zero => intro w n D h1 h2 h3 h4; exact ⟨Nat.le_refl _, h3, h1, fun _ _ => rfl, h4, rfl, fun h => absurd h (by omega)⟩
  | succ f ih =>
    intro w n D h1 h2 h3 h4
    have hq : n / 2 ^ k ≤ 9 := by
      have := (Nat.div_lt_iff_lt_mul (Nat.two_pow_pos k)).2 h2
      omega
    have hmod : n % 2 ^ k < 2 ^ k := Nat.mod_lt _ (Nat.two_pow_pos k)
    have e : rs3 k (f + 1) w n D = if n = 0 then (w, D) else if w < 800 then rs3 k f (w + 1) (n % 2 ^ k * 10) (setD D w (n / 2 ^ k)) else rs3 k f w (n % 2 ^ k * 10) (if 0 < n / 2 ^ k then { D with tr := true } else D) := rfl
    rw [e]
    by_cases h0 : n = 0
    · rw [if_pos h0]
      exact ⟨Nat.le_refl _, h3, h1, fun _ _ => rfl, h4, rfl, fun _ h => absurd h0 h⟩
    · rw [if_neg h0]
      by_cases hw : w < 800
      · rw [if_pos hw]
        have hw' : w < D.ds.length := by omega
        have hne : ∀ j, j ≠ w → (setD D w (n / 2 ^ k)).ds[j]? = D.ds[j]? := fun j hj => List.getElem?_set_ne (Ne.symm hj)
        obtain ⟨a1, a2, a3, a4, a5, a6, _⟩ := ih (w + 1) (n % 2 ^ k * 10) (setD D w (n / 2 ^ k)) (fun j hj => by
          by_cases hjw : j = w
          · subst hjw; exact isD_put hw' hq
          · rw [hne j hjw]; exact h1 j (by omega)) (by omega) (by omega) (by show (D.ds.set _ _).length = 800; rw [List.length_set]; exact h4)
        exact ⟨by omega, a2, a3, fun j hj => by rw [a4 j (by omega), hne j (by omega)], a5, a6, fun _ _ _ => ⟨a1, by rw [a4 w (by omega)]; exact List.getElem?_set_self hw'⟩⟩
      · rw [if_neg hw]
        have hD : ∀ D' : Dc, D' = (if 0 < n / 2 ^ k then { D with tr := true } else D) → D'.ds = D.ds ∧ D'.dp = D.dp := fun D' h => by
          subst h
          split <;> exact ⟨rfl, rfl⟩
        generalize hg : (if 0 < n / 2 ^ k then { D with tr := true } else D) = D'
        obtain ⟨e1, e2⟩ := hD D' hg.symm
        obtain ⟨a1, a2, a3, a4, a5, a6, _⟩ := ih w (n % 2 ^ k * 10) D' (fun j hj => by rw [e1]; exact h1 j hj) (by omega) h3 (by rw [e1]; exact h4)
        exact ⟨a1, a2, a3, fun j hj => by rw [a4 j hj, e1], a5, by rw [a6, e2], fun _ _ h => absurd h hw⟩
/-- rightShift: the place of the point falls; where it does not, the first digit does. -/
theorem rsF_wf {k : Nat} {D : Dc} (hk : 1 ≤ k) (hk60 : k ≤ 60) (h : Wf D) : Wf (rsF k D) ∧ D.dp - 860 ≤ (rsF k D).dp ∧ (rsF k D).dp ≤ D.dp ∧ ((rsF k D).dp = D.dp → dg (rsF k D) 0 = dg D 0 / 2 ^ k ∧ 2 ^ k ≤ dg D 0) := by
  obtain ⟨a1, a2, a3, a4, a5⟩ := rs1_all hk h.dig h.n1 h.hd
  have h8 := h.n8
  unfold rsF
  dsimp only
  generalize rs1 k D D.nd 0 0 = p at *
  obtain ⟨r, n⟩ := p
  dsimp only at *
  have hq9 : n / 2 ^ k ≤ 9 := by
    have := (Nat.div_lt_iff_lt_mul (Nat.two_pow_pos k)).2 a2
    omega
  have hq1 : 1 ≤ n / 2 ^ k := Nat.div_pos a1 (Nat.two_pow_pos k)
  have hn0 : n ≠ 0 := by have := Nat.two_pow_pos k; omega
  obtain ⟨b1, b2, b3, b4, b5, b6, b7, b8⟩ := rs2_facts (k := k) (D.nd - r) r 0 n { D with dp := D.dp - ((r : Int) - 1) } (fun j hj => absurd hj (by omega)) a2 (fun j hj1 hj2 => h.dig j (by omega)) (by omega) (fun h => by omega) h.len
  generalize rs2 k (D.nd - r) r 0 n { D with dp := D.dp - ((r : Int) - 1) } = q at *
  obtain ⟨w, n2, D2⟩ := q
  dsimp only at *
  obtain ⟨c1, c2, c3, c4, c5, c6, c7⟩ := rs3_facts (k := k) (k + 1) w n2 D2 (by rw [b1]; exact b3) b2 (by omega) b5
  generalize rs3 k (k + 1) w n2 D2 = q at *
  obtain ⟨w3, D3⟩ := q
  dsimp only at *
  have hkey : 1 ≤ w3 ∧ D3.ds[0]? = some (UInt8.ofNat (n / 2 ^ k + 48)) := by
    by_cases hf : 0 < D.nd - r
    · refine ⟨by omega, ?_⟩
      rw [c4 0 (by omega)]
      exact b7 hf
    · obtain rfl : w = 0 := by omega
      have hn2 : n2 = n := b8 (by omega)
      subst hn2
      exact c7 (by omega) hn0 (by omega)
  have hdg0 : dg { D3 with nd := w3 } 0 = n / 2 ^ k := dg_of hq9 hkey.2
  have hwf : Wf { D3 with nd := w3 } := ⟨hkey.1, c2, c3, by rw [hdg0]; exact hq1, c5⟩
  obtain ⟨t1, t2, t3⟩ := trF_wf hwf
  have hdp : (trF { D3 with nd := w3 }).dp = D.dp - ((r : Int) - 1) := by rw [t2]; show D3.dp = _; rw [c6, b6]
  refine ⟨t1, by rw [hdp]; omega, by rw [hdp]; omega, fun h => ?_⟩
  have hr1 : r = 1 := by rw [hdp] at h; omega
  have hn := a5 hr1
  subst hn
  exact ⟨by rw [t3, hdg0], a1⟩

/- the value of digits -/
def vl : List UInt8 → Nat
  | [] => 0
  | c :: l => (c.toNat - 48) * 10 ^ l.length + vl l
def allD (l : List UInt8) : Prop := ∀ c ∈ l, 48 ≤ c.toNat ∧ c.toNat ≤ 57
theorem vl_lt : ∀ (l : List UInt8), allD l → vl l < 10 ^ l.length
  | [], _ => by decide
  | c :: l, h => by
    have ih := vl_lt l (fun x hx => h x (List.mem_cons_of_mem _ hx))
    have hc := h c (List.mem_cons_self ..)
    have h2 : (c.toNat - 48) * 10 ^ l.length ≤ 9 * 10 ^ l.length := Nat.mul_le_mul_right _ (by omega)
    show (c.toNat - 48) * 10 ^ l.length + vl l < 10 ^ (l.length + 1)
    rw [Nat.pow_succ]
    omega
theorem vl_snoc (c : UInt8) : ∀ l : List UInt8, vl (l ++ [c]) = vl l * 10 + (c.toNat - 48)
  | [] => by simp [vl]
  | x :: l => by
    show (x.toNat - 48) * 10 ^ (l ++ [c]).length + vl (l ++ [c]) = ((x.toNat - 48) * 10 ^ l.length + vl l) * 10 + (c.toNat - 48)
    rw [vl_snoc c l, List.length_append, List.length_singleton, Nat.pow_succ, Nat.add_mul, Nat.mul_assoc]
    omega
theorem pltF_lt : ∀ (l s : List UInt8), allD l → allD s → (s ≠ [] → s.getLast? ≠ some 48) → pltF l s = true → vl l * 10 ^ s.length < vl s * 10 ^ l.length
  | _, [], _, _, _, h => by simp [pltF] at h
  | [], y :: s, _, hs, hl, _ => by
    have key : ∀ t : List UInt8, t ≠ [] → allD t → t.getLast? ≠ some 48 → 0 < vl t := by
      intro t ht hd hn
      obtain ⟨u, c, rfl⟩ : ∃ u c, t = u ++ [c] := ⟨t.dropLast, t.getLast ht, (List.dropLast_concat_getLast ht).symm⟩
      rw [vl_snoc]
      have hc := hd c (by simp)
      have : c.toNat ≠ 48 := fun he => hn (by rw [List.getLast?_concat]; congr 1; exact UInt8.toNat_inj.1 he)
      omega
    have := key (y :: s) (by simp) hs (hl (by simp))
    simp [vl] at this ⊢
    omega
  | x :: l, y :: s, hl, hs, hn, h => by
    have hx := hl x (List.mem_cons_self ..)
    have hy := hs y (List.mem_cons_self ..)
    have hl' : allD l := fun z hz => hl z (List.mem_cons_of_mem _ hz)
    have hs' : allD s := fun z hz => hs z (List.mem_cons_of_mem _ hz)
    have v1 := vl_lt l hl'
    have ps : 0 < 10 ^ s.length := Nat.pow_pos (by omega)
    have pl : 0 < 10 ^ l.length := Nat.pow_pos (by omega)
    unfold pltF at h
    show ((x.toNat - 48) * 10 ^ l.length + vl l) * 10 ^ (s.length + 1) < ((y.toNat - 48) * 10 ^ s.length + vl s) * 10 ^ (l.length + 1)
    rw [Nat.pow_succ, Nat.pow_succ]
    by_cases hxy : x = y
    · subst hxy
      rw [if_pos rfl] at h
      have ih := pltF_lt l s hl' hs' (fun hne => by
        have := hn (by simp)
        rwa [List.getLast?_cons, List.getLast?_eq_some_getLast hne, Option.getD_some, ← List.getLast?_eq_some_getLast hne] at this) h
      have e1 : ((x.toNat - 48) * 10 ^ l.length + vl l) * (10 ^ s.length * 10) = (x.toNat - 48) * 10 ^ l.length * 10 ^ s.length * 10 + vl l * 10 ^ s.length * 10 := by rw [Nat.add_mul, ← Nat.mul_assoc, ← Nat.mul_assoc]
      have e2 : ((x.toNat - 48) * 10 ^ s.length + vl s) * (10 ^ l.length * 10) = (x.toNat - 48) * 10 ^ l.length * 10 ^ s.length * 10 + vl s * 10 ^ l.length * 10 := by
        rw [Nat.add_mul, ← Nat.mul_assoc, ← Nat.mul_assoc, Nat.mul_right_comm (x.toNat - 48)]
      rw [e1, e2]
      omega
    · rw [if_neg hxy] at h
      have hlt : x.toNat < y.toNat := by simpa using h
      have h1 : (x.toNat - 48) * 10 ^ l.length + vl l < (y.toNat - 48) * 10 ^ l.length := by
        have : (x.toNat - 48 + 1) * 10 ^ l.length ≤ (y.toNat - 48) * 10 ^ l.length := Nat.mul_le_mul_right _ (by omega)
        rw [Nat.add_mul, Nat.one_mul] at this
        omega
      calc ((x.toNat - 48) * 10 ^ l.length + vl l) * (10 ^ s.length * 10) < (y.toNat - 48) * 10 ^ l.length * (10 ^ s.length * 10) := Nat.mul_lt_mul_of_pos_right h1 (by omega)
        _ = (y.toNat - 48) * 10 ^ s.length * (10 ^ l.length * 10) := by
          rw [Nat.mul_assoc, Nat.mul_assoc]
          congr 1
          rw [← Nat.mul_assoc, ← Nat.mul_assoc, Nat.mul_comm (10 ^ l.length)]
        _ ≤ _ := Nat.mul_le_mul_right _ (by omega)
theorem pltF_ge : ∀ (l s : List UInt8), allD l → allD s → pltF l s = false → vl s * 10 ^ l.length ≤ vl l * 10 ^ s.length
  | l, [], _, _, _ => by simp [vl]
  | [], y :: s, _, _, h => by simp [pltF] at h
  | x :: l, y :: s, hl, hs, h => by
    have hx := hl x (List.mem_cons_self ..)
    have hy := hs y (List.mem_cons_self ..)
    have hl' : allD l := fun z hz => hl z (List.mem_cons_of_mem _ hz)
    have hs' : allD s := fun z hz => hs z (List.mem_cons_of_mem _ hz)
    have v1 := vl_lt s hs'
    have ps : 0 < 10 ^ s.length := Nat.pow_pos (by omega)
    have pl : 0 < 10 ^ l.length := Nat.pow_pos (by omega)
    unfold pltF at h
    show ((y.toNat - 48) * 10 ^ s.length + vl s) * 10 ^ (l.length + 1) ≤ ((x.toNat - 48) * 10 ^ l.length + vl l) * 10 ^ (s.length + 1)
    rw [Nat.pow_succ, Nat.pow_succ]
    by_cases hxy : x = y
    · subst hxy
      rw [if_pos rfl] at h
      have ih := pltF_ge l s hl' hs' h
      have e1 : ((x.toNat - 48) * 10 ^ l.length + vl l) * (10 ^ s.length * 10) = (x.toNat - 48) * 10 ^ l.length * 10 ^ s.length * 10 + vl l * 10 ^ s.length * 10 := by rw [Nat.add_mul, ← Nat.mul_assoc, ← Nat.mul_assoc]
      have e2 : ((x.toNat - 48) * 10 ^ s.length + vl s) * (10 ^ l.length * 10) = (x.toNat - 48) * 10 ^ l.length * 10 ^ s.length * 10 + vl s * 10 ^ l.length * 10 := by
        rw [Nat.add_mul, ← Nat.mul_assoc, ← Nat.mul_assoc, Nat.mul_right_comm (x.toNat - 48)]
      rw [e1, e2]
      omega
    · rw [if_neg hxy] at h
      have hlt : ¬ x.toNat < y.toNat := by simpa using h
      have hne : x.toNat ≠ y.toNat := fun e => hxy (UInt8.toNat_inj.1 e)
      have h1 : (y.toNat - 48) * 10 ^ s.length + vl s ≤ (x.toNat - 48) * 10 ^ s.length := by
        have : (y.toNat - 48 + 1) * 10 ^ s.length ≤ (x.toNat - 48) * 10 ^ s.length := Nat.mul_le_mul_right _ (by omega)
        rw [Nat.add_mul, Nat.one_mul] at this
        omega
      calc ((y.toNat - 48) * 10 ^ s.length + vl s) * (10 ^ l.length * 10) ≤ (x.toNat - 48) * 10 ^ s.length * (10 ^ l.length * 10) := Nat.mul_le_mul_right _ h1
        _ = (x.toNat - 48) * 10 ^ l.length * (10 ^ s.length * 10) := by
          rw [Nat.mul_assoc, Nat.mul_assoc]
          congr 1
          rw [← Nat.mul_assoc, ← Nat.mul_assoc, Nat.mul_comm (10 ^ l.length)]
        _ ≤ _ := Nat.mul_le_mul_right _ (by omega)

/- the table -/
def chOk (k : Nat) : Bool := k == 0 || (vl (chS k) == 5 ^ k && chN k + (chS k).length == k + 1 && decide (1 ≤ chN k) && decide (10 ^ (chN k - 1) ≤ 2 ^ k) && decide (2 ^ k < 10 ^ chN k) && (chS k).all (fun c => decide (48 ≤ c.toNat) && decide (c.toNat ≤ 57)) && (chS k).getLast? != some 48)
theorem ch_ok : ∀ k, k < 61 → chOk k = true := by decide +kernel
/-- By how many digits a shift to the left grows. -/
theorem dlF_facts {k : Nat} {D : Dc} (hk : 1 ≤ k) (hk60 : k ≤ 60) (h : Wf D) : (if pltF (D.ds.take D.nd) (chS k) = true then 1 else 0) ≤ chN k ∧ 10 ^ (D.nd + dlF k D) ≤ vl (D.ds.take D.nd) * 2 ^ k * 10 ∧ vl (D.ds.take D.nd) * 2 ^ k < 10 ^ (D.nd + dlF k D) := by
  have hok := ch_ok k (by omega)
  unfold chOk at hok
  simp only [Bool.or_eq_true, Bool.and_eq_true, beq_iff_eq, decide_eq_true_eq, List.all_eq_true, bne_iff_ne] at hok
  rcases hok with h0 | ⟨⟨⟨⟨⟨⟨t1, t2⟩, t3⟩, t4⟩, t5⟩, t6⟩, t7⟩
  · omega
  have hln : (D.ds.take D.nd).length = D.nd := by rw [List.length_take, h.len]; have := h.n8; omega
  have hall : allD (D.ds.take D.nd) := fun c hc => by
    obtain ⟨i, hi, he⟩ := List.mem_iff_getElem.1 hc
    rw [List.length_take] at hi
    obtain ⟨c', h1, h2, h3⟩ := h.dig i (by omega)
    rw [List.getElem_take] at he
    have : D.ds[i]? = some c := by rw [← he]; exact List.getElem?_eq_getElem _
    rw [this] at h1
    cases h1
    exact ⟨h2, h3⟩
  have hlt := vl_lt _ hall
  rw [hln] at hlt
  have hge : 10 ^ D.nd ≤ vl (D.ds.take D.nd) * 10 := by
    obtain ⟨c, hc, h49⟩ := dg_at h.hd
    obtain ⟨m, hm⟩ : ∃ m, D.nd = m + 1 := ⟨D.nd - 1, by have := h.n1; omega⟩
    obtain ⟨l, hl⟩ : ∃ l, D.ds = c :: l := by
      cases hds : D.ds with
      | nil => rw [hds] at hc; simp at hc
      | cons x l => rw [hds] at hc; simp at hc; subst hc; exact ⟨l, rfl⟩
    have e : D.ds.take D.nd = c :: l.take m := by rw [hl, hm, List.take_succ_cons]
    have hlm : (l.take m).length = m := by
      have := hln
      rw [e, hm, List.length_cons] at this
      omega
    rw [e, hm]
    show 10 ^ (m + 1) ≤ ((c.toNat - 48) * 10 ^ (l.take m).length + vl (l.take m)) * 10
    rw [hlm, Nat.pow_succ]
    have : 1 * 10 ^ m ≤ (c.toNat - 48) * 10 ^ m := Nat.mul_le_mul_right _ (by omega)
    omega
  have h25 : 5 ^ k * 2 ^ k = 10 ^ k := by rw [← Nat.mul_pow]
  have pf : 0 < 10 ^ (chS k).length := Nat.pow_pos (by omega)
  unfold dlF
  generalize hP : vl (D.ds.take D.nd) = P at *
  cases hp : pltF (D.ds.take D.nd) (chS k) with
  | true =>
    have h2 := pltF_lt _ _ hall t6 (fun _ => t7) hp
    rw [hP, t1, hln] at h2
    rw [if_pos rfl]
    refine ⟨t3, ?_, ?_⟩
    · calc 10 ^ (D.nd + (chN k - 1)) = 10 ^ D.nd * 10 ^ (chN k - 1) := Nat.pow_add ..
        _ ≤ P * 10 * 2 ^ k := Nat.mul_le_mul hge t4
        _ = P * 2 ^ k * 10 := Nat.mul_right_comm ..
    · refine Nat.lt_of_mul_lt_mul_right (a := 10 ^ (chS k).length) ?_
      calc P * 2 ^ k * 10 ^ (chS k).length = P * 10 ^ (chS k).length * 2 ^ k := Nat.mul_right_comm ..
        _ < 5 ^ k * 10 ^ D.nd * 2 ^ k := Nat.mul_lt_mul_of_pos_right h2 (Nat.two_pow_pos k)
        _ = 10 ^ k * 10 ^ D.nd := by rw [Nat.mul_right_comm, h25]
        _ = 10 ^ (D.nd + (chN k - 1)) * 10 ^ (chS k).length := by
          rw [← Nat.pow_add, ← Nat.pow_add]
          congr 1
          omega
  | false =>
    have h2 := pltF_ge _ _ hall t6 hp
    rw [hP, t1, hln] at h2
    rw [if_neg (by decide)]
    refine ⟨Nat.zero_le _, ?_, ?_⟩
    · refine Nat.le_of_mul_le_mul_right (c := 10 ^ (chS k).length) ?_ pf
      calc 10 ^ (D.nd + (chN k - 0)) * 10 ^ (chS k).length = 10 ^ k * 10 ^ D.nd * 10 := by
            rw [← Nat.pow_add, ← Nat.pow_add, ← Nat.pow_succ]
            congr 1
            omega
        _ = 5 ^ k * 10 ^ D.nd * 2 ^ k * 10 := by rw [← h25, Nat.mul_right_comm (5 ^ k) (2 ^ k) (10 ^ D.nd)]
        _ ≤ P * 10 ^ (chS k).length * 2 ^ k * 10 := Nat.mul_le_mul_right _ (Nat.mul_le_mul_right _ h2)
        _ = P * 2 ^ k * 10 * 10 ^ (chS k).length := by
          rw [Nat.mul_right_comm P, Nat.mul_right_comm (P * 2 ^ k)]
    · rw [Nat.pow_add]
      exact Nat.mul_lt_mul_of_lt_of_lt hlt t5

/- leftShift -/
theorem putD_facts {D : Dc} {w q : Nat} (hq : q ≤ 9) (hl : D.ds.length = 800) : (putD D w q).ds.length = 800 ∧ (w < 800 → (putD D w q).ds[w]? = some (UInt8.ofNat (q + 48)) ∧ isD ((putD D w q).ds[w]?)) := by
  unfold putD
  split
  · have hw : w < D.ds.length := by omega
    exact ⟨by dsimp only; rw [List.length_set]; exact hl, fun _ => ⟨List.getElem?_set_self hw, isD_put hw hq⟩⟩
  · refine ⟨?_, fun h => by omega⟩
    split <;> exact hl
/-- The value of the first digits of the record. -/
def pv (D : Dc) : Nat → Nat
  | 0 => 0
  | r + 1 => pv D r * 10 + dg D r
theorem pv_congr {D E : Dc} : ∀ r, (∀ j, j < r → E.ds[j]? = D.ds[j]?) → pv E r = pv D r
  | 0, _ => rfl
  | r + 1, h => by
    show pv E r * 10 + dg E r = pv D r * 10 + dg D r
    have hd : dg E r = dg D r := by unfold dg; rw [h r (by omega)]
    rw [pv_congr r (fun j hj => h j (by omega)), hd]
theorem pv_vl {D : Dc} : ∀ r, r ≤ D.ds.length → pv D r = vl (D.ds.take r)
  | 0, _ => rfl
  | r + 1, h => by
    have hc : D.ds[r]? = some D.ds[r] := List.getElem?_eq_getElem h
    have e : D.ds.take (r + 1) = D.ds.take r ++ [D.ds[r]] := by rw [List.take_add_one, hc]; rfl
    rw [e, vl_snoc, ← pv_vl r (by omega)]
    show pv D r * 10 + dg D r = _
    unfold dg
    rw [hc, Option.getD_some]
theorem ls1_facts {k δ : Nat} : ∀ r (D : Dc) n, D.ds.length = 800 → (ls1 k δ r D n).2 = (pv D r * 2 ^ k + n) / 10 ^ r ∧ (ls1 k δ r D n).1.ds.length = 800 ∧ (ls1 k δ r D n).1.dp = D.dp ∧ (∀ j, r + δ ≤ j → (ls1 k δ r D n).1.ds[j]? = D.ds[j]?) ∧
    (∀ j, δ ≤ j → j < r + δ → j < 800 → isD (ls1 k δ r D n).1.ds[j]?) ∧
    (0 < r → δ = 0 → ∃ x, dg D 0 * 2 ^ k ≤ x ∧ (ls1 k δ r D n).2 = x / 10 ∧ (ls1 k δ r D n).1.ds[0]? = some (UInt8.ofNat (x % 10 + 48))) := by
  intro r
  induction r with
  | zero =>
    intro D n hl
    refine ⟨by show n = _; simp [pv], hl, rfl, fun _ _ => rfl, fun j h1 h2 => by omega, fun h => absurd h (by omega)⟩
  | succ r ih =>
    intro D n hl
    have hq : (n + dg D r * 2 ^ k) % 10 ≤ 9 := by omega
    obtain ⟨p1, p2⟩ := putD_facts (D := D) (w := r + δ) hq hl
    have pn := putD_nd D (r + δ) ((n + dg D r * 2 ^ k) % 10)
    obtain ⟨a1, a2, a3, a4, a5, a6⟩ := ih (putD D (r + δ) ((n + dg D r * 2 ^ k) % 10)) ((n + dg D r * 2 ^ k) / 10) p1
    have e : ls1 k δ (r + 1) D n = ls1 k δ r (putD D (r + δ) ((n + dg D r * 2 ^ k) % 10)) ((n + dg D r * 2 ^ k) / 10) := rfl
    have hpv : pv (putD D (r + δ) ((n + dg D r * 2 ^ k) % 10)) r = pv D r := pv_congr r fun j hj => putD_at _ _ _ _ (by omega)
    rw [e]
    refine ⟨?_, a2, by rw [a3, pn.2], fun j hj => by rw [a4 j (by omega), putD_at _ _ _ _ (by omega)], fun j h1 h2 h3 => ?_, fun _ h0 => ?_⟩
    · rw [a1, hpv]
      show _ = ((pv D r * 10 + dg D r) * 2 ^ k + n) / 10 ^ (r + 1)
      rw [Nat.pow_succ, Nat.mul_comm (10 ^ r) 10, ← Nat.div_div_eq_div_mul]
      congr 1
      have : (pv D r * 10 + dg D r) * 2 ^ k + n = (n + dg D r * 2 ^ k) + 10 * (pv D r * 2 ^ k) := by
        rw [Nat.add_mul, Nat.mul_right_comm]
        omega
      rw [this, Nat.add_mul_div_left _ _ (by omega)]
      omega
    · by_cases hj : j = r + δ
      · rw [a4 j (by omega), hj]
        exact (p2 (by omega)).2
      · exact a5 j h1 (by omega) h3
    · subst h0
      by_cases hr : r = 0
      · subst hr
        refine ⟨n + dg D 0 * 2 ^ k, by omega, rfl, ?_⟩
        show (putD D (0 + 0) ((n + dg D 0 * 2 ^ k) % 10)).ds[0]? = _
        exact (p2 (by omega)).1
      · obtain ⟨x, x1, x2, x3⟩ := a6 (by omega) rfl
        have : dg (putD D (r + 0) ((n + dg D r * 2 ^ k) % 10)) 0 = dg D 0 := by unfold dg; rw [putD_at _ _ _ _ (by omega)]
        rw [this] at x1
        exact ⟨x, x1, x2, x3⟩
theorem ls2_facts : ∀ w (D : Dc) n, D.ds.length = 800 → w ≤ 800 → n < 10 ^ w → 10 ^ w ≤ n * 10 → (ls2 w D n).ds.length = 800 ∧ (ls2 w D n).dp = D.dp ∧ (∀ j, w ≤ j → (ls2 w D n).ds[j]? = D.ds[j]?) ∧ (∀ j, j < w → isD (ls2 w D n).ds[j]?) ∧ (0 < w → 1 ≤ dg (ls2 w D n) 0) := by
  intro w
  induction w with
  | zero => intro D n hl _ _ _; exact ⟨hl, rfl, fun _ _ => rfl, fun j h => by omega, fun h => absurd h (by omega)⟩
  | succ w ih =>
    intro D n hl hw h1 h2
    have hp : 0 < 10 ^ w := Nat.pow_pos (by omega)
    rw [Nat.pow_succ] at h1 h2
    have hn : n ≠ 0 := by omega
    have hq : n % 10 ≤ 9 := by omega
    obtain ⟨p1, p2⟩ := putD_facts (D := D) (w := w) hq hl
    have pn := putD_nd D w (n % 10)
    have e : ls2 (w + 1) D n = ls2 w (putD D w (n % 10)) (n / 10) := by
      show (if n = 0 then D else _) = _
      rw [if_neg hn]
    rw [e]
    by_cases hw0 : w = 0
    · subst hw0
      have hn9 : n < 10 := by simpa using h1
      have e0 : ls2 0 (putD D 0 (n % 10)) (n / 10) = putD D 0 (n % 10) := rfl
      rw [e0]
      refine ⟨p1, pn.2, fun j hj => putD_at _ _ _ _ (by omega), fun j hj => ?_, fun _ => ?_⟩
      · obtain rfl : j = 0 := by omega
        exact (p2 (by omega)).2
      · rw [dg_of hq (p2 (by omega)).1]
        omega
    · obtain ⟨m, rfl⟩ : ∃ m, w = m + 1 := ⟨w - 1, by omega⟩
      rw [Nat.pow_succ] at h1 h2
      obtain ⟨a1, a2, a3, a4, a5⟩ := ih (putD D (m + 1) (n % 10)) (n / 10) p1 (by omega) (by rw [Nat.pow_succ]; omega) (by rw [Nat.pow_succ]; omega)
      refine ⟨a1, by rw [a2, pn.2], fun j hj => by rw [a3 j (by omega), putD_at _ _ _ _ (by omega)], fun j hj => ?_, fun _ => a5 (by omega)⟩
      by_cases hj2 : j = m + 1
      · rw [a3 j (by omega), hj2]
        exact (p2 (by omega)).2
      · exact a4 j (by omega)
/-- leftShift: the place of the point rises; where it does not, the first digit does. -/
theorem lsF_wf {k : Nat} {D : Dc} (hk : 1 ≤ k) (hk60 : k ≤ 60) (h : Wf D) : (ls1 k (dlF k D) D.nd D 0).2 < 10 ^ dlF k D ∧ Wf (lsF k D) ∧ D.dp ≤ (lsF k D).dp ∧ (lsF k D).dp ≤ D.dp + 19 ∧ ((lsF k D).dp = D.dp → 2 * dg D 0 ≤ dg (lsF k D) 0) := by
  obtain ⟨f1, f2, f3⟩ := dlF_facts hk hk60 h
  have hd19 : dlF k D ≤ 19 := by
    have := (ch_le (k := k) (by omega)).1
    unfold dlF
    omega
  have h1 := h.n1
  have h8 := h.n8
  rw [← pv_vl D.nd (by rw [h.len]; exact h8)] at f2 f3
  unfold lsF
  generalize dlF k D = δ at *
  obtain ⟨a1, a2, a3, a4, a5, a6⟩ := ls1_facts (k := k) (δ := δ) D.nd D 0 h.len
  have hp : 0 < 10 ^ D.nd := Nat.pow_pos (by omega)
  rw [Nat.add_zero] at a1
  rw [Nat.pow_add] at f2 f3
  have hcar : (ls1 k δ D.nd D 0).2 < 10 ^ δ := by
    rw [a1, Nat.div_lt_iff_lt_mul hp, Nat.mul_comm (10 ^ δ)]
    exact f3
  have hcar2 : 0 < δ → 10 ^ δ ≤ (ls1 k δ D.nd D 0).2 * 10 := fun hδ => by
    obtain ⟨e, rfl⟩ : ∃ e, δ = e + 1 := ⟨δ - 1, by omega⟩
    rw [Nat.pow_succ] at f2 ⊢
    have : 10 ^ e ≤ (ls1 k (e + 1) D.nd D 0).2 := by
      rw [a1, Nat.le_div_iff_mul_le hp, Nat.mul_comm (10 ^ e)]
      rw [← Nat.mul_assoc] at f2
      omega
    omega
  have key : (ls2 δ (ls1 k δ D.nd D 0).1 (ls1 k δ D.nd D 0).2).ds.length = 800 ∧ (ls2 δ (ls1 k δ D.nd D 0).1 (ls1 k δ D.nd D 0).2).dp = D.dp ∧ (∀ j, j < D.nd + δ → j < 800 → isD (ls2 δ (ls1 k δ D.nd D 0).1 (ls1 k δ D.nd D 0).2).ds[j]?) ∧
      1 ≤ dg (ls2 δ (ls1 k δ D.nd D 0).1 (ls1 k δ D.nd D 0).2) 0 ∧ (δ = 0 → 2 * dg D 0 ≤ dg (ls2 δ (ls1 k δ D.nd D 0).1 (ls1 k δ D.nd D 0).2) 0) := by
    by_cases hδ : 0 < δ
    · obtain ⟨b1, b2, b3, b4, b5⟩ := ls2_facts δ (ls1 k δ D.nd D 0).1 (ls1 k δ D.nd D 0).2 a2 (by omega) hcar (hcar2 hδ)
      refine ⟨b1, by rw [b2, a3], fun j h1 h2 => ?_, b5 hδ, fun h => by omega⟩
      by_cases hj : j < δ
      · exact b4 j hj
      · rw [b3 j (by omega)]
        exact a5 j (by omega) h1 h2
    · obtain rfl : δ = 0 := by omega
      obtain ⟨x, x1, x2, x3⟩ := a6 (by omega) rfl
      have hx : x < 10 := by
        rw [x2] at hcar
        simp at hcar
        omega
      rw [Nat.mod_eq_of_lt hx] at x3
      have hdx : dg (ls1 k 0 D.nd D 0).1 0 = x := dg_of (by omega) x3
      have e : ls2 0 (ls1 k 0 D.nd D 0).1 (ls1 k 0 D.nd D 0).2 = (ls1 k 0 D.nd D 0).1 := rfl
      rw [e, hdx]
      have h2k : 2 ≤ 2 ^ k := by
        have : 2 ^ 1 ≤ 2 ^ k := Nat.pow_le_pow_right (by omega) hk
        omega
      have h2x : dg D 0 * 2 ≤ dg D 0 * 2 ^ k := Nat.mul_le_mul_left _ h2k
      have hh := h.hd
      exact ⟨a2, a3, fun j h1 h2 => a5 j (by omega) (by omega) h2, by omega, fun _ => by omega⟩
  generalize ls2 δ (ls1 k δ D.nd D 0).1 (ls1 k δ D.nd D 0).2 = E at *
  obtain ⟨c1, c2, c3, c4, c5⟩ := key
  have hwf : Wf { E with nd := min (D.nd + δ) 800, dp := D.dp + (δ : Int) } := ⟨by show 1 ≤ min _ _; omega, by show min _ _ ≤ 800; omega, fun j hj => c3 j (by have : j < min (D.nd + δ) 800 := hj; omega) (by have : j < min (D.nd + δ) 800 := hj; omega), c4, c1⟩
  obtain ⟨t1, t2, t3⟩ := trF_wf hwf
  refine ⟨hcar, t1, by rw [t2]; dsimp only; omega, by rw [t2]; dsimp only; omega, fun h => ?_⟩
  rw [t2] at h
  dsimp only at h
  rw [t3]
  exact c5 (by omega)
end Go.Proofs.YtnoioimphcmeiaaGreatDoor
