import Derived.Test.YtnoioimphcmeiaaGreatDoorFFast
namespace Go.Proofs.YtnoioimphcmeiaaGreatDoor
open Go.RowKit
set_option maxRecDepth 20000
set_option maxHeartbeats 1000000

theorem pt_some {i : Nat} (h : i < 696) : ∃ x, Go.Pinned.pow10Rows[i]? = some x ∧ 9223372036854775808 ≤ x.1 ∧ x.1 ≤ 18446742974197923840 ∧ x.2 < 18446744073709551616 := by
  have hl : i < Go.Pinned.pow10Rows.length := by rw [pt_len]; exact h
  exact ⟨_, List.getElem?_eq_getElem hl, pt_facts _ (List.getElem_mem hl)⟩
/-- The binary exponent. -/
def peF (b : Nat) (p : Int) : Int := min 1074 (53 - (b : Int) - lpF p)
/-- The shift. -/
def psF (b : Nat) (p : Int) : Int := 61 - (b : Int) - peF b p - lpF p
def pmF (u : Nat) : Nat := if 36028797018963966 ≤ u then rnF (u / 2 ||| u &&& 1) else rnF (u / 1 ||| u &&& 1)
/-- The float of d by ten to the p, and whether it is too great. -/
def pf64 (d : Nat) (p : Int) : Nat × Bool :=
  match Go.Pinned.pow10Rows[(p + 348).toNat]? with
  | none => (0, false)
  | some (hi, lo) =>
    if 64 ≤ psF (Lib.bitLen d) p then (0, false)
    else
      pkF (pmF (usF (d * 2 ^ (64 - Lib.bitLen d)) hi lo (psF (Lib.bitLen d) p).toNat)) (-(peF (Lib.bitLen d) p - (if 36028797018963966 ≤ usF (d * 2 ^ (64 - Lib.bitLen d)) hi lo (psF (Lib.bitLen d) p).toNat then 1 else 0)))
theorem pmF_lt {u : Nat} (h : u ≤ 72057589742960641) : pmF u < 9007199254740992 := by
  have h1 : ∀ v, v ||| u &&& 1 ≤ v + 1 := fun v => by
    have := or_one v
    rcases Nat.mod_two_eq_zero_or_one u with e | e <;> rw [Nat.and_one_is_mod, e]
    · rw [Nat.or_zero]; omega
    · exact this
  have h0 : u / 1 ||| u &&& 1 = u := by
    rw [Nat.div_one]
    apply Nat.eq_of_testBit_eq
    intro i
    rw [Nat.testBit_or, Nat.testBit_and]
    cases u.testBit i <;> simp
  unfold pmF
  split
  · have := h1 (u / 2)
    unfold rnF
    omega
  · rw [h0]
    unfold rnF
    omega
theorem lpF_bd {p : Int} (h1 : -400 ≤ p) (h2 : p ≤ 400) : -1400 ≤ lpF p ∧ lpF p ≤ 1400 := by unfold lpF; omega
theorem good0 : Good 0 := by unfold Good; omega
theorem pf64_good (d : Nat) (p : Int) (h0 : d ≠ 0) (h : d < 18446744073709551616) (h1 : -348 ≤ p) (h2 : p ≤ 340) : Good (pf64 d p).1 := by
  unfold pf64
  obtain ⟨b, e, e1, e2, e3, e4⟩ := bitLen_ok h0 h
  split
  · exact good0
  · rename_i hi lo hx
    split
    · exact good0
    · rename_i hs
      have hf := pt_facts _ (List.mem_of_getElem? hx)
      rw [e] at hs ⊢
      have hbd := lpF_bd (p := p) (by omega) (by omega)
      have hs8 : 8 ≤ (psF b p).toNat := by unfold psF peF at *; omega
      refine pkF_good (pmF_lt (usF_le e4 hf.2.1 hs8)) ?_
      have : peF b p ≤ 1074 := by unfold peF; omega
      split <;> omega

section
variable {w : World}
set_option maxHeartbeats 1000000 in
theorem parse64_ret (hv : Vr w) (d : Nat) (p : Int) (h0 : d ≠ 0) (h : d < 18446744073709551616) (h1 : -348 ≤ p) (h2 : p ≤ 340) : Ret Tryz.prog 169 [.int .u64 (d : Int), .int .i64 p, .int .u64 0] w fun v w' => v = .tuple #[.float .f64 (pf64 d p).1, errV (pf64 d p).2] ∧ Mv No w w' := by
  have hbd := lpF_bd (p := p) (by omega) (by omega)
  obtain ⟨b, eb, e1, e2, e3, e4⟩ := bitLen_ok h0 h
  obtain ⟨x, hx, x1, x2, x3⟩ := pt_some (i := (p + 348).toNat) (by omega)
  have hL := len64_ret (w := w) d h
  rw [eb] at hL
  unfold pf64
  rw [hx, eb]
  dsimp only
  have hpe1 : peF b p ≤ 1074 := by unfold peF; omega
  have hpe2 : -1500 ≤ peF b p := by unfold peF; omega
  have hps8 : 8 ≤ psF b p := by unfold psF peF at *; omega
  have hpsd : psF b p = 61 - (b : Int) - peF b p - lpF p := rfl
  have hpm : peF b p = min 1074 (53 - (b : Int) - lpF p) := rfl
  refine F_enter Tryz.func169 Tryz.ntmps169 rfl rfl ?_
  refine C_seq ?_
  refine C_region ?_
  refine L (S (P_assign rfl) ?_)
  refine L (S (P_assign rfl) ?_)
  refine L_nil ?_
  refine then_n ?_
  refine C_seq ?_
  refine C_region ?_
  refine L (S (P_move rfl) ?_)
  refine L (S_call cb_176 rfl (hL) ?_)
  rintro _ _ ⟨rfl, rfl⟩
  refine L (S (P_assign rfl) ?_)
  refine L_nil ?_
  refine then_n ?_
  refine C_seq ?_
  refine C_region ?_
  refine L (S (P_move rfl) ?_)
  refine L (S_call cb_177 rfl (log2Pow10_ret p (by omega) (by omega)) ?_)
  rintro _ _ ⟨rfl, rfl⟩
  refine L (S (P_assign rfl) ?_)
  refine L_nil ?_
  refine then_n ?_
  refine C_seq ?_
  refine C_region ?_
  refine L (S (P_move rfl) ?_)
  refine L (S (P_sub rfl rfl (wI64 (c := 53 - (b : Int)) (by omega))) ?_)
  refine L (S (P_move rfl) ?_)
  refine L (S (P_sub rfl rfl (wI64 (c := 53 - (b : Int) - lpF p) (by omega))) ?_)
  refine L (S (P_min rfl rfl rfl) ?_)
  refine L (S (P_assign rfl) ?_)
  refine L_nil ?_
  refine then_n ?_
  refine C_seq ?_
  refine C_region ?_
  refine L (S_alloc (zs := [(.int .u64 0), (.int .u64 0), (.int .i64 0)]) ti_234 rfl ?_)
  rintro b2 w1 hb2 hm1 hn1
  refine L_nil ?_
  refine then_n ?_
  refine C_seq ?_
  have hv1 := hv.no hm1
  have hbg : ¬ b2 = 9 := fun he => by
    have hlt : 9 < w.heap.size := cell_lt (hv.pt 0 (ptV[0]'(by unfold ptV; decide +kernel)) (List.getElem?_eq_getElem _))
    omega
  refine C_region ?_
  refine L (S (P_move rfl) ?_)
  refine L (S (P_move rfl) ?_)
  refine L (S (P_sub rfl rfl (wI64 (c := 64 - (b : Int)) (by omega))) ?_)
  refine L (S (P_sub rfl rfl (wI64 (c := peF b p - (64 - (b : Int))) (by omega))) ?_)
  refine L (S (P_move rfl) ?_)
  refine L (S (P_move rfl) ?_)
  refine L (S_call cb_178 rfl (prescale_ret hv1 hb2 hbg _ _ _ (p + 348).toNat (by omega) hx (by omega) (by omega)) ?_)
  rintro _ w2 ⟨hb3, hm2⟩
  refine L_nil ?_
  refine then_n ?_
  refine C_seq ?_
  refine C_seq ?_
  have hm02 : Mv No w w2 := hm1.new hm2 hn1
  have hs : -(peF b p - (64 - (b : Int)) + lpF p + 3) = psF b p := by omega
  rw [hs] at hb3
  by_cases h64 : 64 ≤ psF b p
  · rw [if_pos h64]
    refine C_region ?_
    refine L (S (P_fieldAddr fo_234_2 rfl) ?_)
    refine L (S_load sc_3 rfl (hb3.row 2 _ rfl) ?_)
    refine L (S (P_ge rfl rfl (decide_eq_true h64)) ?_)
    refine L_nil ?_
    refine then_n ?_
    refine C_true rfl ?_
    refine C_seq ?_
    refine C_region ?_
    refine L (S (P_move rfl) ?_)
    refine L (S (P_or rfl rfl (orU64 (a := 0) (b := 0) (by omega) (by omega) rfl)) ?_)
    refine L (S (P_fromBits (m := 0) rfl) ?_)
    refine L (S (P_assign rfl) ?_)
    refine L (S (P_assign rfl) ?_)
    refine L_nil ?_
    refine then_n ?_
    refine C_ret ?_
    refine then_r ?_
    refine F_ret2 Tryz.results169 rfl rfl ?_
    exact ⟨rfl, hm02⟩
  · rw [if_neg h64]
    obtain ⟨s, hsn⟩ : ∃ s : Nat, psF b p = (s : Int) := ⟨(psF b p).toNat, by omega⟩
    have hst : (psF b p).toNat = s := by omega
    rw [hst]
    have hpos : 0 < d * 2 ^ (64 - b) * x.1 / 18446744073709551616 := by
      apply Nat.div_pos _ (by omega)
      calc 18446744073709551616 ≤ 9223372036854775808 * 9223372036854775808 := by decide
        _ ≤ d * 2 ^ (64 - b) * x.1 := Nat.mul_le_mul e3 x1
    have hu := usF_le (lo := x.2) (s := s) e4 x2 (by omega)
    have hus := uscale_ret (w := w2) (b := b2) (s := s) (by rw [hsn] at hb3; exact hb3.row) e4 (by omega) x3 (by omega) hpos
    have hmb := pmF_lt hu
    unfold pmF at hmb ⊢
    generalize usF (d * 2 ^ (64 - b)) x.1 x.2 s = u at *
    have hu1 : u &&& 1 ≤ 1 := by rw [Nat.and_one_is_mod]; omega
    have hor : ∀ v, v < 18446744073709551616 → v ||| u &&& 1 < 18446744073709551616 := fun v hv => Nat.or_lt_two_pow (n := 64) hv (by omega)
    have horb : ∀ v, v ≤ 72057589742960641 → v ||| u &&& 1 < 4611686018427387904 := fun v hv => Nat.or_lt_two_pow (n := 62) (by omega) (by omega)
    refine C_region ?_
    refine L (S (P_fieldAddr fo_234_2 rfl) ?_)
    refine L (S_load sc_3 rfl (hb3.row 2 _ rfl) ?_)
    refine L (S (P_ge rfl rfl (decide_eq_false h64)) ?_)
    refine L_nil ?_
    refine then_n ?_
    refine C_false rfl ?_
    refine C_skip ?_
    refine then_n ?_
    refine C_seq ?_
    refine C_region ?_
    refine L (S (P_move rfl) ?_)
    refine L (S (P_move rfl) ?_)
    refine L (S (P_sub rfl rfl (wI64 (c := ((64 - b : Nat) : Int)) (by omega))) ?_)
    refine L (S (P_shl rfl rfl (by omega) (shlU64 (s := 64 - b) rfl (by omega) rfl e4)) ?_)
    refine L (S_call cb_179 rfl (hus) ?_)
    rintro _ w3 ⟨rfl, hm3⟩
    refine L (S (P_assign rfl) ?_)
    refine L_nil ?_
    refine then_n ?_
    refine C_seq ?_
    have hm03 := hm02.no hm3
    by_cases hun : 36028797018963966 ≤ u
    · rw [if_pos hun] at hmb ⊢
      rw [if_pos hun]
      refine C_region ?_
      refine L (S (P_move rfl) ?_)
      refine L (S_call cb_181 rfl (unmin_ret) ?_)
      rintro _ _ ⟨rfl, rfl⟩
      refine L (S (P_ge rfl rfl (decide_eq_true (by omega))) ?_)
      refine L (S_call cb_180 rfl (bool2i_ret true) ?_)
      rintro _ _ ⟨rfl, rfl⟩
      refine L (S (P_assign rfl) ?_)
      refine L_nil ?_
      refine then_n ?_
      refine C_seq ?_
      refine C_region ?_
      refine L (S (P_move rfl) ?_)
      refine L (S (P_move rfl) ?_)
      refine L (S (P_shr rfl rfl (by decide) (shrU64 (s := 1) rfl (by omega) rfl)) ?_)
      refine L (S (P_move rfl) ?_)
      refine L (S (P_and rfl rfl (andU64 (b := 1) (by omega) (by omega) rfl)) ?_)
      refine L (S (P_or rfl rfl (orU64 (by omega) (by omega) rfl)) ?_)
      refine L (S (P_assign rfl) ?_)
      refine L_nil ?_
      refine then_n ?_
      refine C_seq ?_
      refine C_region ?_
      refine L (S (P_move rfl) ?_)
      refine L (S (P_move rfl) ?_)
      refine L (S (P_sub rfl rfl (wI64 (c := peF b p - 1) (by simp; omega))) ?_)
      refine L (S (P_assign rfl) ?_)
      refine L_nil ?_
      refine then_n ?_
      refine C_seq ?_
      refine C_region ?_
      refine L (S (P_move rfl) ?_)
      refine L (S (P_move rfl) ?_)
      refine L (S_call cb_183 rfl (round_ret _ (horb _ (by omega))) ?_)
      rintro _ _ ⟨rfl, rfl⟩
      refine L (S (P_or rfl rfl (orU64 (a := 0) (by omega) (Nat.lt_of_lt_of_le hmb (by decide)) (c := ((rnF (u / 2 ^ 1 ||| u &&& 1) : Nat) : Int)) (by rw [Nat.zero_or]))) ?_)
      refine L (S (P_move rfl) ?_)
      refine L (S (P_neg rfl (wI64 (c := -(peF b p - 1)) (by omega))) ?_)
      refine L (S_call cb_186 rfl (pack64_ret _ _ hmb (by omega) (by omega)) ?_)
      rintro _ _ ⟨rfl, rfl⟩
      refine L (S (P_extract rfl rfl) ?_)
      refine L (S (P_extract rfl rfl) ?_)
      refine L (S (P_assign rfl) ?_)
      refine L (S (P_assign rfl) ?_)
      refine L_nil ?_
      refine then_n ?_
      refine C_ret ?_
      refine F_ret2 Tryz.results169 rfl rfl ?_
      exact ⟨rfl, hm03⟩
    · rw [if_neg hun] at hmb ⊢
      rw [if_neg hun]
      refine C_region ?_
      refine L (S (P_move rfl) ?_)
      refine L (S_call cb_181 rfl (unmin_ret) ?_)
      rintro _ _ ⟨rfl, rfl⟩
      refine L (S (P_ge rfl rfl (decide_eq_false (by omega))) ?_)
      refine L (S_call cb_180 rfl (bool2i_ret false) ?_)
      rintro _ _ ⟨rfl, rfl⟩
      refine L (S (P_assign rfl) ?_)
      refine L_nil ?_
      refine then_n ?_
      refine C_seq ?_
      refine C_region ?_
      refine L (S (P_move rfl) ?_)
      refine L (S (P_move rfl) ?_)
      refine L (S (P_shr rfl rfl (by decide) (shrU64 (s := 0) rfl (by omega) rfl)) ?_)
      refine L (S (P_move rfl) ?_)
      refine L (S (P_and rfl rfl (andU64 (b := 1) (by omega) (by omega) rfl)) ?_)
      refine L (S (P_or rfl rfl (orU64 (by omega) (by omega) rfl)) ?_)
      refine L (S (P_assign rfl) ?_)
      refine L_nil ?_
      refine then_n ?_
      refine C_seq ?_
      refine C_region ?_
      refine L (S (P_move rfl) ?_)
      refine L (S (P_move rfl) ?_)
      refine L (S (P_sub rfl rfl (wI64 (c := peF b p - 0) (by simp; omega))) ?_)
      refine L (S (P_assign rfl) ?_)
      refine L_nil ?_
      refine then_n ?_
      refine C_seq ?_
      refine C_region ?_
      refine L (S (P_move rfl) ?_)
      refine L (S (P_move rfl) ?_)
      refine L (S_call cb_183 rfl (round_ret _ (horb _ (by omega))) ?_)
      rintro _ _ ⟨rfl, rfl⟩
      refine L (S (P_or rfl rfl (orU64 (a := 0) (by omega) (Nat.lt_of_lt_of_le hmb (by decide)) (c := ((rnF (u / 2 ^ 0 ||| u &&& 1) : Nat) : Int)) (by rw [Nat.zero_or]))) ?_)
      refine L (S (P_move rfl) ?_)
      refine L (S (P_neg rfl (wI64 (c := -(peF b p - 0)) (by omega))) ?_)
      refine L (S_call cb_186 rfl (pack64_ret _ _ hmb (by omega) (by omega)) ?_)
      rintro _ _ ⟨rfl, rfl⟩
      refine L (S (P_extract rfl rfl) ?_)
      refine L (S (P_extract rfl rfl) ?_)
      refine L (S (P_assign rfl) ?_)
      refine L (S (P_assign rfl) ?_)
      refine L_nil ?_
      refine then_n ?_
      refine C_ret ?_
      refine F_ret2 Tryz.results169 rfl rfl ?_
      exact ⟨rfl, hm03⟩

/-- The float of m by ten to the e where it is exact. -/
def exF (m : Nat) (e : Int) : Nat × Bool :=
  if 4503599627370496 ≤ m then (0, false) else if e = 0 then (FloatKind.f64.nearest (m : Int), true) else
  if -22 ≤ e ∧ e < 0 then ((Ieee.double.div (FloatKind.f64.nearest (m : Int)) (pow10L[(-e).toNat]?.getD 0)).getD 0, true) else (FloatKind.f64.nearest (m : Int), false)
theorem p10_some {i : Nat} (h : i < 23) : ∃ x, pow10L[i]? = some x ∧ Pos x := by
  have hl : i < pow10L.length := h
  exact ⟨_, List.getElem?_eq_getElem hl, pos_of_B (pow10_pos _ (List.getElem_mem hl))⟩
theorem exF_good (m : Nat) (e : Int) : Good (exF m e).1 := by
  unfold exF
  split
  · exact good0
  · split
    · exact nearest_good m
    · split
      · rename_i h
        obtain ⟨x, hx, hp⟩ := p10_some (i := (-e).toNat) (by omega)
        obtain ⟨r, hr, hg⟩ := div_good (nearest_good m) hp
        rw [hx, Option.getD_some, hr]
        exact hg
      · exact nearest_good m
theorem exact_ret (hv : Vr w) (m : Nat) (e : Int) (h : m < 18446744073709551616) (h1 : -400 ≤ e) (h2 : e ≤ 400) (he : e ≤ 0 ∨ 4503599627370496 ≤ m) : Ret Tryz.prog 168 [.int .u64 (m : Int), .int .i64 e, .bool false] w fun v w' => v = .tuple #[.float .f64 (exF m e).1, .bool (exF m e).2] ∧ w = w' := by
  have hinfo := hv.info 0 _ rfl
  obtain ⟨b, o, c, g1, g2⟩ := hv.p10
  unfold exF
  refine F_enter Tryz.func168 Tryz.ntmps168 rfl rfl ?_
  by_cases hm : 4503599627370496 ≤ m
  · rw [if_pos hm]
    refine C_seq ?_
    refine C_region ?_
    refine L (S (P_assign rfl) ?_)
    refine L (S (P_assign rfl) ?_)
    refine L_nil ?_
    refine then_n ?_
    refine C_seq ?_
    refine C_seq ?_
    refine C_region ?_
    refine L (S (P_move rfl) ?_)
    refine L (S (P_fieldAddr fo_208_0 rfl) ?_)
    refine L (S_load sc_74 rfl hinfo ?_)
    refine L (S (P_shr rfl rfl (by decide) (shrU64 (s := 52) rfl (by omega) rfl)) ?_)
    refine L (S (P_ne rfl rfl (decide_eq_true (by simp; omega))) ?_)
    refine L_nil ?_
    refine then_n ?_
    refine C_true rfl ?_
    refine C_ret ?_
    refine then_r ?_
    refine F_ret2 Tryz.results168 rfl rfl ?_
    exact ⟨rfl, rfl⟩
  · rw [if_neg hm]
    by_cases he0 : e = 0
    · subst he0
      rw [if_pos rfl]
      refine C_seq ?_
      refine C_region ?_
      refine L (S (P_assign rfl) ?_)
      refine L (S (P_assign rfl) ?_)
      refine L_nil ?_
      refine then_n ?_
      refine C_seq ?_
      refine C_seq ?_
      refine C_region ?_
      refine L (S (P_move rfl) ?_)
      refine L (S (P_fieldAddr fo_208_0 rfl) ?_)
      refine L (S_load sc_74 rfl hinfo ?_)
      refine L (S (P_shr rfl rfl (by decide) (shrU64 (s := 52) rfl (by omega) rfl)) ?_)
      refine L (S (P_ne rfl rfl (decide_eq_false (by simp; omega))) ?_)
      refine L_nil ?_
      refine then_n ?_
      refine C_false rfl ?_
      refine C_skip ?_
      refine then_n ?_
      refine C_seq ?_
      refine C_region ?_
      refine L (S (P_move rfl) ?_)
      refine L (S (P_convIF (k := .f64) (t' := .int .u64) (by kernel_rfl) (by kernel_rfl) rfl) ?_)
      refine L (S (P_assign rfl) ?_)
      refine L_nil ?_
      refine then_n ?_
      refine C_seq ?_
      refine C_seq ?_
      refine C_region ?_
      refine L (S (P_move rfl) ?_)
      refine L_nil ?_
      refine then_n ?_
      refine C_false rfl ?_
      refine C_skip ?_
      refine then_n ?_
      refine C_seq ?_
      refine C_block ?_
      refine C_seq ?_
      refine C_region ?_
      refine L (S (P_move rfl) ?_)
      refine L (S (P_eq rfl rfl (decide_eq_true rfl)) ?_)
      refine L (S (P_assign rfl) ?_)
      refine L_nil ?_
      refine then_n ?_
      refine C_true rfl ?_
      refine C_seq ?_
      refine C_region ?_
      refine L (S (P_move rfl) ?_)
      refine L (S (P_assign rfl) ?_)
      refine L (S (P_assign rfl) ?_)
      refine L_nil ?_
      refine then_n ?_
      refine C_ret ?_
      refine blk_r ?_
      refine then_r ?_
      refine F_ret2 Tryz.results168 rfl rfl ?_
      exact ⟨rfl, rfl⟩
    · rw [if_neg he0]
      by_cases h22 : -22 ≤ e
      · obtain ⟨x, hx, hp⟩ := p10_some (i := (-e).toNat) (by omega)
        obtain ⟨r, hr, hg⟩ := div_good (nearest_good m) hp
        rw [if_pos ⟨h22, by omega⟩, hx, Option.getD_some, hr, Option.getD_some]
        refine C_seq ?_
        refine C_region ?_
        refine L (S (P_assign rfl) ?_)
        refine L (S (P_assign rfl) ?_)
        refine L_nil ?_
        refine then_n ?_
        refine C_seq ?_
        refine C_seq ?_
        refine C_region ?_
        refine L (S (P_move rfl) ?_)
        refine L (S (P_fieldAddr fo_208_0 rfl) ?_)
        refine L (S_load sc_74 rfl hinfo ?_)
        refine L (S (P_shr rfl rfl (by decide) (shrU64 (s := 52) rfl (by omega) rfl)) ?_)
        refine L (S (P_ne rfl rfl (decide_eq_false (by simp; omega))) ?_)
        refine L_nil ?_
        refine then_n ?_
        refine C_false rfl ?_
        refine C_skip ?_
        refine then_n ?_
        refine C_seq ?_
        refine C_region ?_
        refine L (S (P_move rfl) ?_)
        refine L (S (P_convIF (k := .f64) (t' := .int .u64) (by kernel_rfl) (by kernel_rfl) rfl) ?_)
        refine L (S (P_assign rfl) ?_)
        refine L_nil ?_
        refine then_n ?_
        refine C_seq ?_
        refine C_seq ?_
        refine C_region ?_
        refine L (S (P_move rfl) ?_)
        refine L_nil ?_
        refine then_n ?_
        refine C_false rfl ?_
        refine C_skip ?_
        refine then_n ?_
        refine C_seq ?_
        refine C_block ?_
        refine C_seq ?_
        refine C_region ?_
        refine L (S (P_move rfl) ?_)
        refine L (S (P_eq rfl rfl (decide_eq_false he0)) ?_)
        refine L (S (P_assign rfl) ?_)
        refine L_nil ?_
        refine then_n ?_
        refine C_false rfl ?_
        refine C_seq ?_
        refine C_region ?_
        refine L (S (P_move rfl) ?_)
        refine L (S (P_gt rfl rfl (decide_eq_false (by omega))) ?_)
        refine L (S (P_move rfl) ?_)
        refine L_no (j := 2) (dj := 25) (b := true) (b' := false) (d := 26) rfl ?_
        refine L_no (j := 2) (dj := 25) (b := true) (b' := false) (d := 27) rfl ?_
        refine L (S (P_pickF rfl rfl) ?_)
        refine L (S (P_assign rfl) ?_)
        refine L_nil ?_
        refine then_n ?_
        refine C_false rfl ?_
        refine C_seq ?_
        refine C_region ?_
        refine L (S (P_move rfl) ?_)
        refine L (S (P_lt rfl rfl (decide_eq_true (by omega))) ?_)
        refine L (S (P_move rfl) ?_)
        refine L_yes (j := 2) (dj := 53) (b := true) (S (P_move rfl) ?_) rfl
        refine L_yes (j := 2) (dj := 53) (b := true) (S (P_ge rfl rfl (decide_eq_true h22)) ?_) rfl
        refine L (S (P_pickT rfl rfl) ?_)
        refine L (S (P_assign rfl) ?_)
        refine L_nil ?_
        refine then_n ?_
        refine C_true rfl ?_
        refine C_seq ?_
        refine C_region ?_
        refine L (S (P_move rfl) ?_)
        refine L (S_load sc_244 rfl g1 ?_)
        refine L (S (P_move rfl) ?_)
        refine L (S (P_neg rfl (wI64 (c := (((-e).toNat : Nat) : Int)) (by omega))) ?_)
        refine L (S (P_indexAddr Tryz.underlying244 (csz_of ti_166) rfl rfl (j := (-e).toNat) rfl (by omega) rfl) ?_)
        refine L (S_load sc_166 rfl (g2 _ _ (by rw [Nat.mul_one, List.getElem?_map, hx]; rfl)) ?_)
        refine L (S (P_quoF rfl rfl hr) ?_)
        refine L (S (P_assign rfl) ?_)
        refine L (S (P_assign rfl) ?_)
        refine L_nil ?_
        refine then_n ?_
        refine C_ret ?_
        refine blk_r ?_
        refine then_r ?_
        refine F_ret2 Tryz.results168 rfl rfl ?_
        exact ⟨rfl, rfl⟩
      · rw [if_neg (by omega)]
        refine C_seq ?_
        refine C_region ?_
        refine L (S (P_assign rfl) ?_)
        refine L (S (P_assign rfl) ?_)
        refine L_nil ?_
        refine then_n ?_
        refine C_seq ?_
        refine C_seq ?_
        refine C_region ?_
        refine L (S (P_move rfl) ?_)
        refine L (S (P_fieldAddr fo_208_0 rfl) ?_)
        refine L (S_load sc_74 rfl hinfo ?_)
        refine L (S (P_shr rfl rfl (by decide) (shrU64 (s := 52) rfl (by omega) rfl)) ?_)
        refine L (S (P_ne rfl rfl (decide_eq_false (by simp; omega))) ?_)
        refine L_nil ?_
        refine then_n ?_
        refine C_false rfl ?_
        refine C_skip ?_
        refine then_n ?_
        refine C_seq ?_
        refine C_region ?_
        refine L (S (P_move rfl) ?_)
        refine L (S (P_convIF (k := .f64) (t' := .int .u64) (by kernel_rfl) (by kernel_rfl) rfl) ?_)
        refine L (S (P_assign rfl) ?_)
        refine L_nil ?_
        refine then_n ?_
        refine C_seq ?_
        refine C_seq ?_
        refine C_region ?_
        refine L (S (P_move rfl) ?_)
        refine L_nil ?_
        refine then_n ?_
        refine C_false rfl ?_
        refine C_skip ?_
        refine then_n ?_
        refine C_seq ?_
        refine C_block ?_
        refine C_seq ?_
        refine C_region ?_
        refine L (S (P_move rfl) ?_)
        refine L (S (P_eq rfl rfl (decide_eq_false he0)) ?_)
        refine L (S (P_assign rfl) ?_)
        refine L_nil ?_
        refine then_n ?_
        refine C_false rfl ?_
        refine C_seq ?_
        refine C_region ?_
        refine L (S (P_move rfl) ?_)
        refine L (S (P_gt rfl rfl (decide_eq_false (by omega))) ?_)
        refine L (S (P_move rfl) ?_)
        refine L_no (j := 2) (dj := 25) (b := true) (b' := false) (d := 26) rfl ?_
        refine L_no (j := 2) (dj := 25) (b := true) (b' := false) (d := 27) rfl ?_
        refine L (S (P_pickF rfl rfl) ?_)
        refine L (S (P_assign rfl) ?_)
        refine L_nil ?_
        refine then_n ?_
        refine C_false rfl ?_
        refine C_seq ?_
        refine C_region ?_
        refine L (S (P_move rfl) ?_)
        refine L (S (P_lt rfl rfl (decide_eq_true (by omega))) ?_)
        refine L (S (P_move rfl) ?_)
        refine L_yes (j := 2) (dj := 53) (b := true) (S (P_move rfl) ?_) rfl
        refine L_yes (j := 2) (dj := 53) (b := true) (S (P_ge rfl rfl (decide_eq_false h22)) ?_) rfl
        refine L (S (P_pickT rfl rfl) ?_)
        refine L (S (P_assign rfl) ?_)
        refine L_nil ?_
        refine then_n ?_
        refine C_false rfl ?_
        refine C_skip ?_
        refine blk_n ?_
        refine then_n ?_
        refine C_ret ?_
        refine F_ret2 Tryz.results168 rfl rfl ?_
        exact ⟨rfl, rfl⟩
theorem special_ret {l : List UInt8} {c : UInt8} (hc : l[0]? = some c) (hd : digN c.toNat = true) : Ret Tryz.prog 157 [.string (str l)] w fun v w' => v = .tuple #[.float .f64 0, .int .i64 0, .bool false] ∧ w = w' := by
  have hd' : 48 ≤ c.toNat ∧ c.toNat ≤ 57 := by unfold digN at hd; simpa using hd
  have hpos : 0 < l.length := (List.getElem?_eq_some_iff.1 hc).1
  have hsz := str_size l
  refine F_enter Tryz.func157 Tryz.ntmps157 rfl rfl ?_
  refine C_seq ?_
  refine C_region ?_
  refine L (S (P_assign rfl) ?_)
  refine L (S (P_assign rfl) ?_)
  refine L (S (P_assign rfl) ?_)
  refine L_nil ?_
  refine then_n ?_
  refine C_seq ?_
  refine C_seq ?_
  refine C_region ?_
  refine L (S (P_move rfl) ?_)
  refine L (S (P_lenT Tryz.underlying9 rfl) ?_)
  refine L (S (P_eq rfl rfl (decide_eq_false (by omega))) ?_)
  refine L_nil ?_
  refine then_n ?_
  refine C_false rfl ?_
  refine C_skip ?_
  refine then_n ?_
  refine C_seq ?_
  refine C_region ?_
  refine L (S (P_assign rfl) ?_)
  refine L_nil ?_
  refine then_n ?_
  refine C_seq ?_
  refine C_region ?_
  refine L (S (P_assign rfl) ?_)
  refine L_nil ?_
  refine then_n ?_
  refine C_seq ?_
  refine C_seq ?_
  refine C_region ?_
  refine L (S (P_move rfl) ?_)
  refine L (S (P_indexT Tryz.underlying9 rfl rfl (j := 0) rfl (str_idx hc)) ?_)
  refine L_nil ?_
  refine then_n ?_
  refine C_block ?_
  refine C_seq ?_
  refine C_block ?_
  refine C_seq ?_
  refine C_block ?_
  refine C_seq ?_
  refine C_block ?_
  refine C_seq ?_
  refine C_seq ?_
  refine C_seq ?_
  refine C_seq ?_
  refine C_region ?_
  refine L (S (P_eq rfl rfl (decide_eq_false (by omega))) ?_)
  refine L (S (P_assign rfl) ?_)
  refine L_nil ?_
  refine then_n ?_
  refine C_false rfl ?_
  refine C_region ?_
  refine L (S (P_eq rfl rfl (decide_eq_false (by omega))) ?_)
  refine L (S (P_assign rfl) ?_)
  refine L_nil ?_
  refine then_n ?_
  refine C_false rfl ?_
  refine C_skip ?_
  refine then_n ?_
  refine C_seq ?_
  refine C_seq ?_
  refine C_seq ?_
  refine C_region ?_
  refine L (S (P_eq rfl rfl (decide_eq_false (by omega))) ?_)
  refine L (S (P_assign rfl) ?_)
  refine L_nil ?_
  refine then_n ?_
  refine C_false rfl ?_
  refine C_region ?_
  refine L (S (P_eq rfl rfl (decide_eq_false (by omega))) ?_)
  refine L (S (P_assign rfl) ?_)
  refine L_nil ?_
  refine then_n ?_
  refine C_false rfl ?_
  refine C_skip ?_
  refine then_n ?_
  refine C_seq ?_
  refine C_seq ?_
  refine C_region ?_
  refine L (S (P_eq rfl rfl (decide_eq_false (by omega))) ?_)
  refine L (S (P_assign rfl) ?_)
  refine L_nil ?_
  refine then_n ?_
  refine C_false rfl ?_
  refine C_region ?_
  refine L (S (P_eq rfl rfl (decide_eq_false (by omega))) ?_)
  refine L (S (P_assign rfl) ?_)
  refine L_nil ?_
  refine then_n ?_
  refine C_false rfl ?_
  refine C_skip ?_
  refine then_n ?_
  refine C_exit ?_
  refine blk_o rfl ?_
  refine then_x ?_
  refine blk_o rfl ?_
  refine then_x ?_
  refine blk_o rfl ?_
  refine then_x ?_
  refine blk_x ?_
  refine then_n ?_
  refine C_seq ?_
  refine C_region ?_
  refine L (S (P_assign rfl) ?_)
  refine L (S (P_assign rfl) ?_)
  refine L (S (P_assign rfl) ?_)
  refine L_nil ?_
  refine then_n ?_
  refine C_ret ?_
  refine F_ret3 Tryz.results157 rfl rfl rfl ?_
  exact ⟨rfl, rfl⟩
theorem lower_ret (c : UInt8) : Ret Tryz.prog 174 [bv c] w fun v w' => v = bv (c ||| 32) ∧ w = w' := by
  have h : ∀ c : UInt8, bitsOp .or .u8 (c.toNat : Int) 32 = ((c ||| 32).toNat : Int) := by
    intro c
    have : ∀ n : Fin 256, bitsOp .or .u8 ((n.val : Nat) : Int) 32 = (((UInt8.ofNat n.val) ||| 32).toNat : Int) := by decide +kernel
    have h2 := this ⟨c.toNat, c.toNat_lt⟩
    simpa using h2
  refine F_enter Tryz.func174 Tryz.ntmps174 rfl rfl ?_
  refine C_seq ?_
  refine C_region ?_
  refine L (S (P_assign rfl) ?_)
  refine L_nil ?_
  refine then_n ?_
  refine C_seq ?_
  refine C_region ?_
  refine L (S (P_move rfl) ?_)
  refine L (S (P_or rfl rfl (h c)) ?_)
  refine L (S (P_assign rfl) ?_)
  refine L_nil ?_
  refine then_n ?_
  refine C_ret ?_
  refine F_ret1 Tryz.results174 rfl ?_
  exact ⟨rfl, rfl⟩
end
end Go.Proofs.YtnoioimphcmeiaaGreatDoor
