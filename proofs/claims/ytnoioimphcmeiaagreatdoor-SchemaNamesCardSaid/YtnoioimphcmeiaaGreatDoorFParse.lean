import Derived.Test.YtnoioimphcmeiaaGreatDoorFBits
namespace Go.Proofs.YtnoioimphcmeiaaGreatDoor
open Go.RowKit
set_option maxRecDepth 20000
set_option maxHeartbeats 1000000

theorem ti_dec : tinfo Tryz.prog 217 = some (some (.agg (dcV st0).toArray), 804, 824) := by kernel_rfl
def infB : Nat := 9218868437227405312
/-- What ParseFloat gives for digits, a point, digits. -/
def a64F (l : List UInt8) : Nat × Bool :=
  if (rdF l).m = 0 then (0, false) else
  if 310 < rdE (rdF l) then (infB, true) else
  if rdE (rdF l) < -345 then (0, false) else
  if (rdF l).tr = true then
    if (Ieee.double.order (pf64 (rdF l).m (rdE (rdF l))).1 (pf64 ((rdF l).m + 1) (rdE (rdF l))).1 == some .eq) = true then pf64 (rdF l).m (rdE (rdF l)) else fbF (stF l)
  else if (exF (rdF l).m (rdE (rdF l))).2 = true then ((exF (rdF l).m (rdE (rdF l))).1, false) else pf64 (rdF l).m (rdE (rdF l))
theorem outF_good {m : Nat} {e : Int} (he : e ≤ 1023) : Good (outF m e) := by
  unfold outF Good
  omega
theorem ovf_good : Good ovf.1 := by unfold Good ovf; decide
theorem fb5_good (D : Dc) (e : Int) : Good (fb5 D e).1 := by
  unfold fb5
  split
  · exact ovf_good
  · split
    · split
      · exact ovf_good
      · exact outF_good (by omega)
    · refine outF_good ?_
      split <;> omega
theorem fbF_good (D : Dc) : Good (fbF D).1 := by
  unfold fbF
  split
  · exact ovf_good
  · split
    · exact outF_good (by omega)
    · unfold fb4
      split <;> exact fb5_good _ _
theorem a64_good {l : List UInt8} {n : Nat} (h : RT l n) : Good (a64F l).1 := by
  have hr := h.ri l.length (Nat.le_refl _)
  rw [List.take_length] at hr
  have hm := m_lt hr
  unfold a64F
  split
  · exact good0
  · split
    · exact Nat.le_refl _
    · split
      · exact good0
      · split
        · split
          · exact pf64_good _ _ (by assumption) (by omega) (by omega) (by omega)
          · exact fbF_good _
        · split
          · exact exF_good _ _
          · exact pf64_good _ _ (by assumption) (by omega) (by omega) (by omega)

section
variable {w : World}
set_option maxHeartbeats 2000000 in
theorem atof64_ret (hv : Vr w) {l : List UInt8} {n : Nat} (hr : RT l n) (hl : l.length ≤ 100000) : Ret Tryz.prog 152 [.string (str l)] w fun v w' => v = .tuple #[.float .f64 (a64F l).1, .int .i64 (l.length : Int), errV (a64F l).2] ∧ Mv No w w' := by
  have hsz := str_size l
  have hnl := hr.lt
  have hn0 := hr.pos
  obtain ⟨c0, hc0⟩ : ∃ c, l[0]? = some c := ⟨l[0], List.getElem?_eq_getElem (by omega)⟩
  have hd0 := hr.dig 0 c0 hc0 (by omega)
  have hri := hr.ri l.length (Nat.le_refl _)
  rw [List.take_length] at hri
  have hm19 := m_lt hri
  have hhi := rdE_hi hri
  have hbd := rdE_bd hri
  have hwf := hr.wf
  have hgood1 := fun h => pf64_good (rdF l).m (rdE (rdF l)) h
  have hgood2 := pf64_good ((rdF l).m + 1) (rdE (rdF l)) (by omega) (by omega)
  unfold a64F
  refine F_enter Tryz.func152 Tryz.ntmps152 rfl rfl ?_
  refine C_seq ?_
  refine C_region ?_
  refine L (S (P_assign rfl) ?_)
  refine L (S (P_assign rfl) ?_)
  refine L (S (P_assign rfl) ?_)
  refine L_nil ?_
  refine then_n ?_
  refine C_seq ?_
  refine C_seq ?_
  refine C_region ?_
  refine L (S (P_move rfl) ?_)
  refine L (S_call cb_157 rfl (special_ret hc0 (decide_eq_true (by omega))) ?_)
  rintro _ _ ⟨rfl, rfl⟩
  refine L (S (P_move rfl) ?_)
  refine L (S (P_extract rfl rfl) ?_)
  refine L (S (P_extract rfl rfl) ?_)
  refine L (S (P_extract rfl rfl) ?_)
  refine L (S (P_assign rfl) ?_)
  refine L (S (P_assign rfl) ?_)
  refine L (S (P_assign rfl) ?_)
  refine L_nil ?_
  refine then_n ?_
  refine C_seq ?_
  refine C_region ?_
  refine L (S (P_move rfl) ?_)
  refine L_nil ?_
  refine then_n ?_
  refine C_false rfl ?_
  refine C_skip ?_
  refine then_n ?_
  refine C_seq ?_
  refine C_region ?_
  refine L (S (P_move rfl) ?_)
  refine L (S_call cb_158 rfl (readFloat_ret hr hl) ?_)
  rintro _ _ ⟨rfl, rfl⟩
  refine L (S (P_move rfl) ?_)
  refine L (S (P_extract rfl rfl) ?_)
  refine L (S (P_extract rfl rfl) ?_)
  refine L (S (P_extract rfl rfl) ?_)
  refine L (S (P_extract rfl rfl) ?_)
  refine L (S (P_extract rfl rfl) ?_)
  refine L (S (P_extract rfl rfl) ?_)
  refine L (S (P_extract rfl rfl) ?_)
  refine L (S (P_assign rfl) ?_)
  refine L (S (P_assign rfl) ?_)
  refine L (S (P_assign rfl) ?_)
  refine L (S (P_assign rfl) ?_)
  refine L (S (P_assign rfl) ?_)
  refine L (S (P_assign rfl) ?_)
  refine L (S (P_assign rfl) ?_)
  refine L_nil ?_
  refine then_n ?_
  refine C_seq ?_
  refine C_seq ?_
  refine C_region ?_
  refine L (S (P_move rfl) ?_)
  refine L (S (P_not rfl rfl) ?_)
  refine L_nil ?_
  refine then_n ?_
  refine C_false rfl ?_
  refine C_skip ?_
  refine then_n ?_
  refine C_seq ?_
  refine C_seq ?_
  refine C_region ?_
  refine L (S (P_move rfl) ?_)
  refine L_nil ?_
  refine then_n ?_
  refine C_false rfl ?_
  refine C_skip ?_
  refine then_n ?_
  refine C_seq ?_
  refine C_seq ?_
  refine C_region ?_
  refine L (S_load sc_4 rfl hv.opt ?_)
  refine L_nil ?_
  refine then_n ?_
  refine C_true rfl ?_
  refine C_seq ?_
  refine C_region ?_
  refine L (S (P_move rfl) ?_)
  refine L (S_call cb_166 rfl (bool2u_ret false) ?_)
  rintro _ _ ⟨rfl, rfl⟩
  refine L (S (P_shl rfl rfl (by decide) (shlU64 (a := 0) (s := 63) rfl (by omega) (c := 0) (by decide) (by decide))) ?_)
  refine L (S (P_assign rfl) ?_)
  refine L_nil ?_
  refine then_n ?_
  refine C_seq ?_
  refine C_seq ?_
  by_cases h0 : (rdF l).m = 0
  · rw [if_pos h0]
    refine C_region ?_
    refine L (S (P_move rfl) ?_)
    refine L (S (P_eq rfl rfl (decide_eq_true (by omega))) ?_)
    refine L_nil ?_
    refine then_n ?_
    refine C_true rfl ?_
    refine C_seq ?_
    refine C_region ?_
    refine L (S (P_move rfl) ?_)
    refine L (S (P_or rfl rfl (orU64 (a := 0) (b := 0) (by omega) (by omega) rfl)) ?_)
    refine L (S (P_fromBits (m := 0) rfl) ?_)
    refine L (S (P_move rfl) ?_)
    refine L (S (P_assign rfl) ?_)
    refine L (S (P_assign rfl) ?_)
    refine L (S (P_assign rfl) ?_)
    refine L_nil ?_
    refine then_n ?_
    refine C_ret ?_
    refine then_r ?_
    refine then_r ?_
    refine F_ret3 Tryz.results152 rfl rfl rfl ?_
    exact ⟨rfl, Mv.refl w⟩
  rw [if_neg h0]
  by_cases h310 : 310 < rdE (rdF l)
  · rw [if_pos h310]
    refine C_region ?_
    refine L (S (P_move rfl) ?_)
    refine L (S (P_eq rfl rfl (decide_eq_false (by omega))) ?_)
    refine L_nil ?_
    refine then_n ?_
    refine C_false rfl ?_
    refine C_skip ?_
    refine then_n ?_
    refine C_seq ?_
    refine C_seq ?_
    refine C_region ?_
    refine L (S (P_move rfl) ?_)
    refine L (S (P_gt rfl rfl (decide_eq_true (by omega))) ?_)
    refine L_nil ?_
    refine then_n ?_
    refine C_true rfl ?_
    refine C_seq ?_
    refine C_region ?_
    refine L (S (P_move rfl) ?_)
    refine L (S (P_or rfl rfl (orU64 (a := 0) (b := 9218868437227405312) (by omega) (by omega) rfl)) ?_)
    refine L (S (P_fromBits (m := 9218868437227405312) rfl) ?_)
    refine L (S (P_move rfl) ?_)
    refine L (S (P_mkI Tryz.underlying185 (by intro ms h; cases h) rfl) ?_)
    refine L (S (P_assign rfl) ?_)
    refine L (S (P_assign rfl) ?_)
    refine L (S (P_assign rfl) ?_)
    refine L_nil ?_
    refine then_n ?_
    refine C_ret ?_
    refine then_r ?_
    refine then_r ?_
    refine F_ret3 Tryz.results152 rfl rfl rfl ?_
    exact ⟨rfl, Mv.refl w⟩
  rw [if_neg h310]
  by_cases h345 : rdE (rdF l) < -345
  · rw [if_pos h345]
    refine C_region ?_
    refine L (S (P_move rfl) ?_)
    refine L (S (P_eq rfl rfl (decide_eq_false (by omega))) ?_)
    refine L_nil ?_
    refine then_n ?_
    refine C_false rfl ?_
    refine C_skip ?_
    refine then_n ?_
    refine C_seq ?_
    refine C_seq ?_
    refine C_region ?_
    refine L (S (P_move rfl) ?_)
    refine L (S (P_gt rfl rfl (decide_eq_false (by omega))) ?_)
    refine L_nil ?_
    refine then_n ?_
    refine C_false rfl ?_
    refine C_skip ?_
    refine then_n ?_
    refine C_seq ?_
    refine C_seq ?_
    refine C_region ?_
    refine L (S (P_move rfl) ?_)
    refine L (S (P_lt rfl rfl (decide_eq_true (by omega))) ?_)
    refine L_nil ?_
    refine then_n ?_
    refine C_true rfl ?_
    refine C_seq ?_
    refine C_region ?_
    refine L (S (P_move rfl) ?_)
    refine L (S (P_or rfl rfl (orU64 (a := 0) (b := 0) (by omega) (by omega) rfl)) ?_)
    refine L (S (P_fromBits (m := 0) rfl) ?_)
    refine L (S (P_move rfl) ?_)
    refine L (S (P_assign rfl) ?_)
    refine L (S (P_assign rfl) ?_)
    refine L (S (P_assign rfl) ?_)
    refine L_nil ?_
    refine then_n ?_
    refine C_ret ?_
    refine then_r ?_
    refine then_r ?_
    refine F_ret3 Tryz.results152 rfl rfl rfl ?_
    exact ⟨rfl, Mv.refl w⟩
  rw [if_neg h345]
  have hg1 := hgood1 h0 (by omega) (by omega) (by omega)
  have hg2 := hgood2 (by omega) (by omega)
  have hp1 := fun w' (h : Mv No w w') => parse64_ret (hv.no h) (rdF l).m (rdE (rdF l)) h0 (by omega) (by omega) (by omega)
  have hp2 := fun w' (h : Mv No w w') => parse64_ret (hv.no h) ((rdF l).m + 1) (rdE (rdF l)) (by omega) (by omega) (by omega) (by omega)
  have hex := exact_ret hv (rdF l).m (rdE (rdF l)) (by omega) (by omega) (by omega) hhi
  clear hgood1 hgood2 hbd hri hhi hd0 hc0
  generalize hE : rdE (rdF l) = e at *
  generalize pf64 (rdF l).m e = p1 at *
  generalize pf64 ((rdF l).m + 1) e = p2 at *
  generalize exF (rdF l).m e = p3 at *
  obtain ⟨fa, ea⟩ := p1
  obtain ⟨fb, eb⟩ := p2
  obtain ⟨fc, ec⟩ := p3
  dsimp only at *
  cases htr : (rdF l).tr with
  | false =>
    rw [if_neg (by decide)]
    cases ec with
    | true =>
      rw [if_pos rfl]
      refine C_region ?_
      refine L (S (P_move rfl) ?_)
      refine L (S (P_eq rfl rfl (decide_eq_false (by omega))) ?_)
      refine L_nil ?_
      refine then_n ?_
      refine C_false rfl ?_
      refine C_skip ?_
      refine then_n ?_
      refine C_seq ?_
      refine C_seq ?_
      refine C_region ?_
      refine L (S (P_move rfl) ?_)
      refine L (S (P_gt rfl rfl (decide_eq_false (by omega))) ?_)
      refine L_nil ?_
      refine then_n ?_
      refine C_false rfl ?_
      refine C_skip ?_
      refine then_n ?_
      refine C_seq ?_
      refine C_seq ?_
      refine C_region ?_
      refine L (S (P_move rfl) ?_)
      refine L (S (P_lt rfl rfl (decide_eq_false (by omega))) ?_)
      refine L_nil ?_
      refine then_n ?_
      refine C_false rfl ?_
      refine C_skip ?_
      refine then_n ?_
      refine C_seq ?_
      refine C_seq ?_
      refine C_region ?_
      refine L (S (P_move rfl) ?_)
      refine L (S (P_not rfl rfl) ?_)
      refine L_nil ?_
      refine then_n ?_
      refine C_true rfl ?_
      refine C_seq ?_
      refine C_region ?_
      refine L (S (P_move rfl) ?_)
      refine L (S (P_move rfl) ?_)
      refine L (S (P_move rfl) ?_)
      refine L (S_call cb_168 rfl (hex) ?_)
      rintro _ _ ⟨rfl, rfl⟩
      refine L (S (P_move rfl) ?_)
      refine L (S (P_extract rfl rfl) ?_)
      refine L (S (P_extract rfl rfl) ?_)
      refine L (S (P_assign rfl) ?_)
      refine L (S (P_assign rfl) ?_)
      refine L_nil ?_
      refine then_n ?_
      refine C_seq ?_
      refine C_region ?_
      refine L (S (P_move rfl) ?_)
      refine L_nil ?_
      refine then_n ?_
      refine C_true rfl ?_
      refine C_seq ?_
      refine C_region ?_
      refine L (S (P_move rfl) ?_)
      refine L (S (P_move rfl) ?_)
      refine L (S (P_assign rfl) ?_)
      refine L (S (P_assign rfl) ?_)
      refine L (S (P_assign rfl) ?_)
      refine L_nil ?_
      refine then_n ?_
      refine C_ret ?_
      refine then_r ?_
      refine then_r ?_
      refine F_ret3 Tryz.results152 rfl rfl rfl ?_
      exact ⟨rfl, Mv.refl w⟩
    | false =>
      rw [if_neg (by decide)]
      refine C_region ?_
      refine L (S (P_move rfl) ?_)
      refine L (S (P_eq rfl rfl (decide_eq_false (by omega))) ?_)
      refine L_nil ?_
      refine then_n ?_
      refine C_false rfl ?_
      refine C_skip ?_
      refine then_n ?_
      refine C_seq ?_
      refine C_seq ?_
      refine C_region ?_
      refine L (S (P_move rfl) ?_)
      refine L (S (P_gt rfl rfl (decide_eq_false (by omega))) ?_)
      refine L_nil ?_
      refine then_n ?_
      refine C_false rfl ?_
      refine C_skip ?_
      refine then_n ?_
      refine C_seq ?_
      refine C_seq ?_
      refine C_region ?_
      refine L (S (P_move rfl) ?_)
      refine L (S (P_lt rfl rfl (decide_eq_false (by omega))) ?_)
      refine L_nil ?_
      refine then_n ?_
      refine C_false rfl ?_
      refine C_skip ?_
      refine then_n ?_
      refine C_seq ?_
      refine C_seq ?_
      refine C_region ?_
      refine L (S (P_move rfl) ?_)
      refine L (S (P_not rfl rfl) ?_)
      refine L_nil ?_
      refine then_n ?_
      refine C_true rfl ?_
      refine C_seq ?_
      refine C_region ?_
      refine L (S (P_move rfl) ?_)
      refine L (S (P_move rfl) ?_)
      refine L (S (P_move rfl) ?_)
      refine L (S_call cb_168 rfl (hex) ?_)
      rintro _ _ ⟨rfl, rfl⟩
      refine L (S (P_move rfl) ?_)
      refine L (S (P_extract rfl rfl) ?_)
      refine L (S (P_extract rfl rfl) ?_)
      refine L (S (P_assign rfl) ?_)
      refine L (S (P_assign rfl) ?_)
      refine L_nil ?_
      refine then_n ?_
      refine C_seq ?_
      refine C_region ?_
      refine L (S (P_move rfl) ?_)
      refine L_nil ?_
      refine then_n ?_
      refine C_false rfl ?_
      refine C_skip ?_
      refine then_n ?_
      refine C_seq ?_
      refine C_region ?_
      refine L (S (P_move rfl) ?_)
      refine L (S (P_move rfl) ?_)
      refine L (S (P_move rfl) ?_)
      refine L (S_call cb_169 rfl ((hp1 _ (Mv.refl w))) ?_)
      rintro _ w2 ⟨rfl, hm2⟩
      refine L (S (P_move rfl) ?_)
      refine L (S (P_extract rfl rfl) ?_)
      refine L (S (P_extract rfl rfl) ?_)
      refine L (S (P_assign rfl) ?_)
      refine L (S (P_assign rfl) ?_)
      refine L_nil ?_
      refine then_n ?_
      refine C_seq ?_
      refine C_seq ?_
      refine C_region ?_
      refine L (S (P_move rfl) ?_)
      refine L (S (P_not rfl rfl) ?_)
      refine L_nil ?_
      refine then_n ?_
      refine C_true rfl ?_
      refine C_seq ?_
      refine C_region ?_
      refine L (S (P_move rfl) ?_)
      refine L (S (P_move rfl) ?_)
      refine L (S (P_move rfl) ?_)
      refine L (S (P_assign rfl) ?_)
      refine L (S (P_assign rfl) ?_)
      refine L (S (P_assign rfl) ?_)
      refine L_nil ?_
      refine then_n ?_
      refine C_ret ?_
      refine then_r ?_
      refine then_r ?_
      refine F_ret3 Tryz.results152 rfl rfl rfl ?_
      exact ⟨rfl, hm2⟩
  | true =>
    rw [if_pos rfl]
    cases ho : (Ieee.double.order fa fb == some .eq) with
    | true =>
      rw [if_pos rfl]
      refine C_region ?_
      refine L (S (P_move rfl) ?_)
      refine L (S (P_eq rfl rfl (decide_eq_false (by omega))) ?_)
      refine L_nil ?_
      refine then_n ?_
      refine C_false rfl ?_
      refine C_skip ?_
      refine then_n ?_
      refine C_seq ?_
      refine C_seq ?_
      refine C_region ?_
      refine L (S (P_move rfl) ?_)
      refine L (S (P_gt rfl rfl (decide_eq_false (by omega))) ?_)
      refine L_nil ?_
      refine then_n ?_
      refine C_false rfl ?_
      refine C_skip ?_
      refine then_n ?_
      refine C_seq ?_
      refine C_seq ?_
      refine C_region ?_
      refine L (S (P_move rfl) ?_)
      refine L (S (P_lt rfl rfl (decide_eq_false (by omega))) ?_)
      refine L_nil ?_
      refine then_n ?_
      refine C_false rfl ?_
      refine C_skip ?_
      refine then_n ?_
      refine C_seq ?_
      refine C_seq ?_
      refine C_region ?_
      refine L (S (P_move rfl) ?_)
      refine L (S (P_not rfl rfl) ?_)
      refine L_nil ?_
      refine then_n ?_
      refine C_false rfl ?_
      refine C_skip ?_
      refine then_n ?_
      refine C_seq ?_
      refine C_region ?_
      refine L (S (P_move rfl) ?_)
      refine L (S (P_move rfl) ?_)
      refine L (S (P_move rfl) ?_)
      refine L (S_call cb_169 rfl ((hp1 _ (Mv.refl w))) ?_)
      rintro _ w2 ⟨rfl, hm2⟩
      refine L (S (P_move rfl) ?_)
      refine L (S (P_extract rfl rfl) ?_)
      refine L (S (P_extract rfl rfl) ?_)
      refine L (S (P_assign rfl) ?_)
      refine L (S (P_assign rfl) ?_)
      refine L_nil ?_
      refine then_n ?_
      refine C_seq ?_
      refine C_seq ?_
      refine C_region ?_
      refine L (S (P_move rfl) ?_)
      refine L (S (P_not rfl rfl) ?_)
      refine L_nil ?_
      refine then_n ?_
      refine C_false rfl ?_
      refine C_skip ?_
      refine then_n ?_
      refine C_seq ?_
      refine C_region ?_
      refine L (S (P_move rfl) ?_)
      refine L (S (P_add rfl rfl (wU64 (c := (((rdF l).m + 1 : Nat) : Int)) (by omega))) ?_)
      refine L (S (P_move rfl) ?_)
      refine L (S (P_move rfl) ?_)
      refine L (S_call cb_169 rfl ((hp2 _ hm2)) ?_)
      rintro _ w3 ⟨rfl, hm3⟩
      refine L (S (P_move rfl) ?_)
      refine L (S (P_extract rfl rfl) ?_)
      refine L (S (P_extract rfl rfl) ?_)
      refine L (S (P_assign rfl) ?_)
      refine L (S (P_assign rfl) ?_)
      refine L_nil ?_
      refine then_n ?_
      refine C_seq ?_
      refine C_region ?_
      refine L (S (P_move rfl) ?_)
      refine L (S (P_move rfl) ?_)
      refine L (S (P_eqF rfl rfl ho) ?_)
      refine L_nil ?_
      refine then_n ?_
      refine C_true rfl ?_
      refine C_seq ?_
      refine C_region ?_
      refine L (S (P_move rfl) ?_)
      refine L (S (P_move rfl) ?_)
      refine L (S (P_move rfl) ?_)
      refine L (S (P_assign rfl) ?_)
      refine L (S (P_assign rfl) ?_)
      refine L (S (P_assign rfl) ?_)
      refine L_nil ?_
      refine then_n ?_
      refine C_ret ?_
      refine then_r ?_
      refine F_ret3 Tryz.results152 rfl rfl rfl ?_
      exact ⟨rfl, hm2.no hm3⟩
    | false =>
      rw [if_neg (by decide)]
      obtain ⟨hw1, hw2, hw3⟩ := hwf htr
      refine C_region ?_
      refine L (S (P_move rfl) ?_)
      refine L (S (P_eq rfl rfl (decide_eq_false (by omega))) ?_)
      refine L_nil ?_
      refine then_n ?_
      refine C_false rfl ?_
      refine C_skip ?_
      refine then_n ?_
      refine C_seq ?_
      refine C_seq ?_
      refine C_region ?_
      refine L (S (P_move rfl) ?_)
      refine L (S (P_gt rfl rfl (decide_eq_false (by omega))) ?_)
      refine L_nil ?_
      refine then_n ?_
      refine C_false rfl ?_
      refine C_skip ?_
      refine then_n ?_
      refine C_seq ?_
      refine C_seq ?_
      refine C_region ?_
      refine L (S (P_move rfl) ?_)
      refine L (S (P_lt rfl rfl (decide_eq_false (by omega))) ?_)
      refine L_nil ?_
      refine then_n ?_
      refine C_false rfl ?_
      refine C_skip ?_
      refine then_n ?_
      refine C_seq ?_
      refine C_seq ?_
      refine C_region ?_
      refine L (S (P_move rfl) ?_)
      refine L (S (P_not rfl rfl) ?_)
      refine L_nil ?_
      refine then_n ?_
      refine C_false rfl ?_
      refine C_skip ?_
      refine then_n ?_
      refine C_seq ?_
      refine C_region ?_
      refine L (S (P_move rfl) ?_)
      refine L (S (P_move rfl) ?_)
      refine L (S (P_move rfl) ?_)
      refine L (S_call cb_169 rfl ((hp1 _ (Mv.refl w))) ?_)
      rintro _ w2 ⟨rfl, hm2⟩
      refine L (S (P_move rfl) ?_)
      refine L (S (P_extract rfl rfl) ?_)
      refine L (S (P_extract rfl rfl) ?_)
      refine L (S (P_assign rfl) ?_)
      refine L (S (P_assign rfl) ?_)
      refine L_nil ?_
      refine then_n ?_
      refine C_seq ?_
      refine C_seq ?_
      refine C_region ?_
      refine L (S (P_move rfl) ?_)
      refine L (S (P_not rfl rfl) ?_)
      refine L_nil ?_
      refine then_n ?_
      refine C_false rfl ?_
      refine C_skip ?_
      refine then_n ?_
      refine C_seq ?_
      refine C_region ?_
      refine L (S (P_move rfl) ?_)
      refine L (S (P_add rfl rfl (wU64 (c := (((rdF l).m + 1 : Nat) : Int)) (by omega))) ?_)
      refine L (S (P_move rfl) ?_)
      refine L (S (P_move rfl) ?_)
      refine L (S_call cb_169 rfl ((hp2 _ hm2)) ?_)
      rintro _ w3 ⟨rfl, hm3⟩
      refine L (S (P_move rfl) ?_)
      refine L (S (P_extract rfl rfl) ?_)
      refine L (S (P_extract rfl rfl) ?_)
      refine L (S (P_assign rfl) ?_)
      refine L (S (P_assign rfl) ?_)
      refine L_nil ?_
      refine then_n ?_
      refine C_seq ?_
      refine C_region ?_
      refine L (S (P_move rfl) ?_)
      refine L (S (P_move rfl) ?_)
      refine L (S (P_eqF rfl rfl ho) ?_)
      refine L_nil ?_
      refine then_n ?_
      refine C_false rfl ?_
      refine C_skip ?_
      refine then_n ?_
      refine C_seq ?_
      refine C_region ?_
      refine L (S_alloc (z := .agg (dcV st0).toArray) (zs := dcV st0) ti_dec rfl ?_)
      rintro b4 w4 hb4 hm4 hn4
      refine L_nil ?_
      refine then_n ?_
      refine C_seq ?_
      refine C_seq ?_
      have hD4 : DB w4 b4 st0 := ⟨hb4, by decide +kernel⟩
      have hm04 := (hm2.no hm3).no hm4
      have hn04 : w.heap.size ≤ b4 := Nat.le_trans (hm2.no hm3).size hn4
      have hvb : VB w4 b4 := fun w' h => hv.no (hm04.new h hn04)
      have hcut : (str l).extract 0 l.length = str l := by rw [str_to, List.take_length]
      have hfl := fun w5 (h1 : DB w5 b4 (stF l)) (h2 : Mv (At b4) w4 w5) => floatBits_ret (hvb.mv h2) h1 hw1 (by omega)
      generalize fbF (stF l) = q at *
      obtain ⟨bits, β⟩ := q
      dsimp only at *
      cases β with
      | true =>
        refine C_region ?_
        refine L (S (P_move rfl) ?_)
        refine L (S (P_move rfl) ?_)
        refine L (S (P_sliceT Tryz.underlying9 rfl bnd_none (bnd_some (j := l.length) rfl rfl) (by omega) (by omega) hcut) ?_)
        refine L (S_call cb_164 rfl (set_ret hr hl hD4) ?_)
        rintro _ w5 ⟨rfl, hD5, hm5⟩
        refine L (S (P_not rfl rfl) ?_)
        refine L_nil ?_
        refine then_n ?_
        refine C_false rfl ?_
        refine C_skip ?_
        refine then_n ?_
        refine C_seq ?_
        refine C_region ?_
        refine L (S_call cb_165 rfl ((hfl _ hD5 hm5)) ?_)
        rintro _ w6 ⟨rfl, hm6⟩
        refine L (S (P_move rfl) ?_)
        refine L (S (P_extract rfl rfl) ?_)
        refine L (S (P_extract rfl rfl) ?_)
        refine L (S (P_assign rfl) ?_)
        refine L (S (P_assign rfl) ?_)
        refine L_nil ?_
        refine then_n ?_
        refine C_seq ?_
        refine C_region ?_
        refine L (S (P_move rfl) ?_)
        refine L (S (P_fromBits (m := bits) rfl) ?_)
        refine L (S (P_assign rfl) ?_)
        refine L_nil ?_
        refine then_n ?_
        refine C_seq ?_
        refine C_seq ?_
        refine C_region ?_
        refine L (S (P_move rfl) ?_)
        refine L_nil ?_
        refine then_n ?_
        refine C_true rfl ?_
        refine C_region ?_
        refine L (S (P_mkI Tryz.underlying185 (by intro ms h; cases h) rfl) ?_)
        refine L (S (P_assign rfl) ?_)
        refine L_nil ?_
        refine then_n ?_
        refine C_seq ?_
        refine C_region ?_
        refine L (S (P_move rfl) ?_)
        refine L (S (P_move rfl) ?_)
        refine L (S (P_move rfl) ?_)
        refine L (S (P_assign rfl) ?_)
        refine L (S (P_assign rfl) ?_)
        refine L (S (P_assign rfl) ?_)
        refine L_nil ?_
        refine then_n ?_
        refine C_ret ?_
        refine F_ret3 Tryz.results152 rfl rfl rfl ?_
        exact ⟨rfl, hm04.new (hm5.trans hm6 fun _ _ h => h) hn04⟩
      | false =>
        refine C_region ?_
        refine L (S (P_move rfl) ?_)
        refine L (S (P_move rfl) ?_)
        refine L (S (P_sliceT Tryz.underlying9 rfl bnd_none (bnd_some (j := l.length) rfl rfl) (by omega) (by omega) hcut) ?_)
        refine L (S_call cb_164 rfl (set_ret hr hl hD4) ?_)
        rintro _ w5 ⟨rfl, hD5, hm5⟩
        refine L (S (P_not rfl rfl) ?_)
        refine L_nil ?_
        refine then_n ?_
        refine C_false rfl ?_
        refine C_skip ?_
        refine then_n ?_
        refine C_seq ?_
        refine C_region ?_
        refine L (S_call cb_165 rfl ((hfl _ hD5 hm5)) ?_)
        rintro _ w6 ⟨rfl, hm6⟩
        refine L (S (P_move rfl) ?_)
        refine L (S (P_extract rfl rfl) ?_)
        refine L (S (P_extract rfl rfl) ?_)
        refine L (S (P_assign rfl) ?_)
        refine L (S (P_assign rfl) ?_)
        refine L_nil ?_
        refine then_n ?_
        refine C_seq ?_
        refine C_region ?_
        refine L (S (P_move rfl) ?_)
        refine L (S (P_fromBits (m := bits) rfl) ?_)
        refine L (S (P_assign rfl) ?_)
        refine L_nil ?_
        refine then_n ?_
        refine C_seq ?_
        refine C_seq ?_
        refine C_region ?_
        refine L (S (P_move rfl) ?_)
        refine L_nil ?_
        refine then_n ?_
        refine C_false rfl ?_
        refine C_skip ?_
        refine then_n ?_
        refine C_seq ?_
        refine C_region ?_
        refine L (S (P_move rfl) ?_)
        refine L (S (P_move rfl) ?_)
        refine L (S (P_move rfl) ?_)
        refine L (S (P_assign rfl) ?_)
        refine L (S (P_assign rfl) ?_)
        refine L (S (P_assign rfl) ?_)
        refine L_nil ?_
        refine then_n ?_
        refine C_ret ?_
        refine F_ret3 Tryz.results152 rfl rfl rfl ?_
        exact ⟨rfl, hm04.new (hm5.trans hm6 fun _ _ h => h) hn04⟩
end
end Go.Proofs.YtnoioimphcmeiaaGreatDoor
