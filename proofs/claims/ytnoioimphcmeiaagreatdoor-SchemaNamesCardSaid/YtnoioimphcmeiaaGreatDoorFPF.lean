import Derived.Test.YtnoioimphcmeiaaGreatDoorFParse
namespace Go.Proofs.YtnoioimphcmeiaaGreatDoor
open Go.RowKit
set_option maxRecDepth 20000
set_option maxHeartbeats 1000000

theorem pf64_err (d : Nat) (p : Int) (h : (pf64 d p).2 = true) : (pf64 d p).1 = infB := by
  unfold pf64 at h ⊢
  split
  · rename_i hx; rw [hx] at h; cases h
  · rename_i hi lo hx
    rw [hx] at h
    dsimp only at h
    by_cases h64 : 64 ≤ psF (Lib.bitLen d) p
    · rw [if_pos h64] at h; cases h
    · rw [if_neg h64] at h ⊢
      revert h
      generalize pmF (usF (d * 2 ^ (64 - Lib.bitLen d)) hi lo (psF (Lib.bitLen d) p).toNat) = m
      generalize (-(peF (Lib.bitLen d) p - (if 36028797018963966 ≤ usF (d * 2 ^ (64 - Lib.bitLen d)) hi lo (psF (Lib.bitLen d) p).toNat then 1 else 0))) = e
      unfold pkF
      intro h
      split at h
      · cases h
      · rename_i h1
        rw [if_neg h1]
        split at h
        · rename_i h2
          rw [if_pos h2]
          rfl
        · cases h
theorem fb5_err (D : Dc) (e : Int) (h : (fb5 D e).2 = true) : (fb5 D e).1 = infB := by
  unfold fb5 at h ⊢
  split
  · rfl
  · rename_i h1
    rw [if_neg h1] at h
    split
    · rename_i h2
      rw [if_pos h2] at h
      split
      · rfl
      · rename_i h3
        rw [if_neg h3] at h
        cases h
    · rename_i h2
      rw [if_neg h2] at h
      cases h
theorem fbF_err (D : Dc) (h : (fbF D).2 = true) : (fbF D).1 = infB := by
  unfold fbF at h ⊢
  split
  · rfl
  · rename_i h1
    rw [if_neg h1] at h
    split
    · rename_i h2
      rw [if_pos h2] at h
      cases h
    · rename_i h2
      rw [if_neg h2] at h
      unfold fb4 at h ⊢
      split
      · rename_i h3
        rw [if_pos h3] at h
        exact fb5_err _ _ h
      · rename_i h3
        rw [if_neg h3] at h
        exact fb5_err _ _ h
theorem a64_err (l : List UInt8) (h : (a64F l).2 = true) : (a64F l).1 = infB := by
  unfold a64F at h ⊢
  by_cases h0 : (rdF l).m = 0
  · rw [if_pos h0] at h; cases h
  rw [if_neg h0] at h ⊢
  by_cases h1 : 310 < rdE (rdF l)
  · rw [if_pos h1]
  rw [if_neg h1] at h ⊢
  by_cases h2 : rdE (rdF l) < -345
  · rw [if_pos h2] at h; cases h
  rw [if_neg h2] at h ⊢
  by_cases h3 : (rdF l).tr = true
  · rw [if_pos h3] at h ⊢
    by_cases h4 : (Ieee.double.order (pf64 (rdF l).m (rdE (rdF l))).1 (pf64 ((rdF l).m + 1) (rdE (rdF l))).1 == some .eq) = true
    · rw [if_pos h4] at h ⊢
      exact pf64_err _ _ h
    · rw [if_neg h4] at h ⊢
      exact fbF_err _ h
  · rw [if_neg h3] at h ⊢
    by_cases h4 : (exF (rdF l).m (rdE (rdF l))).2 = true
    · rw [if_pos h4] at h; cases h
    · rw [if_neg h4] at h ⊢
      exact pf64_err _ _ h
/-- Is the number 1e15 or more? -/
def bigF (l : List UInt8) : Bool := Ieee.double.order (a64F l).1 4831355200913801216 == some .gt || Ieee.double.order (a64F l).1 4831355200913801216 == some .eq
theorem good15 : Good 4831355200913801216 := by unfold Good; omega
theorem inf15 : (Ieee.double.order infB 4831355200913801216 == some .gt || Ieee.double.order infB 4831355200913801216 == some .eq) = true := by decide +kernel
theorem big_not {l : List UInt8} {n : Nat} (h : RT l n) : (Ieee.double.order (a64F l).1 4831355200913801216 == some .lt) = !(bigF l) := by
  unfold bigF
  obtain ⟨o, ho⟩ := order_good (a64_good h) good15
  rw [ho]
  cases o <;> rfl

section
variable {w : World}
theorem pfPrefix_ret (hv : Vr w) {l : List UInt8} {n : Nat} (hr : RT l n) (hl : l.length ≤ 100000) : Ret Tryz.prog 141 [.string (str l), .int .i64 64] w fun v w' => v = .tuple #[.float .f64 (a64F l).1, .int .i64 (l.length : Int), errV (a64F l).2] ∧ Mv No w w' := by
  refine F_enter Tryz.func141 Tryz.ntmps141 rfl rfl ?_
  refine C_seq ?_
  refine C_region ?_
  refine L (S (P_assign rfl) ?_)
  refine L (S (P_assign rfl) ?_)
  refine L (S (P_assign rfl) ?_)
  refine L_nil ?_
  refine then_n ?_
  refine C_seq ?_
  refine C_seq ?_
  refine C_region ?_
  refine L (S (P_move rfl) ?_)
  refine L (S (P_eq rfl rfl (decide_eq_false (by omega))) ?_)
  refine L_nil ?_
  refine then_n ?_
  refine C_false rfl ?_
  refine C_skip ?_
  refine then_n ?_
  refine C_seq ?_
  refine C_region ?_
  refine L (S (P_move rfl) ?_)
  refine L (S_call cb_152 rfl (atof64_ret hv hr hl) ?_)
  rintro _ w2 ⟨rfl, hm2⟩
  refine L (S (P_extract rfl rfl) ?_)
  refine L (S (P_extract rfl rfl) ?_)
  refine L (S (P_extract rfl rfl) ?_)
  refine L (S (P_assign rfl) ?_)
  refine L (S (P_assign rfl) ?_)
  refine L (S (P_assign rfl) ?_)
  refine L_nil ?_
  refine then_n ?_
  refine C_ret ?_
  refine F_ret3 Tryz.results141 rfl rfl rfl ?_
  exact ⟨rfl, hm2⟩
theorem ipf_ret (hv : Vr w) {l : List UInt8} {n : Nat} (hr : RT l n) (hl : l.length ≤ 100000) : Ret Tryz.prog 134 [.string (str l), .int .i64 64] w fun v w' => v = .tuple #[.float .f64 (a64F l).1, errV (a64F l).2] ∧ Mv No w w' := by
  have hsz := str_size l
  refine F_enter Tryz.func134 Tryz.ntmps134 rfl rfl ?_
  refine C_seq ?_
  refine C_region ?_
  refine L (S (P_assign rfl) ?_)
  refine L (S (P_assign rfl) ?_)
  refine L_nil ?_
  refine then_n ?_
  refine C_seq ?_
  refine C_region ?_
  refine L (S (P_move rfl) ?_)
  refine L (S (P_move rfl) ?_)
  refine L (S_call cb_141 rfl (pfPrefix_ret hv hr hl) ?_)
  rintro _ w2 ⟨rfl, hm2⟩
  refine L (S (P_move rfl) ?_)
  refine L (S (P_extract rfl rfl) ?_)
  refine L (S (P_extract rfl rfl) ?_)
  refine L (S (P_extract rfl rfl) ?_)
  refine L (S (P_assign rfl) ?_)
  refine L (S (P_assign rfl) ?_)
  refine L (S (P_assign rfl) ?_)
  refine L_nil ?_
  refine then_n ?_
  refine C_seq ?_
  refine C_seq ?_
  refine C_region ?_
  refine L (S (P_move rfl) ?_)
  refine L (S (P_move rfl) ?_)
  refine L (S (P_lenT Tryz.underlying9 rfl) ?_)
  refine L (S (P_ne rfl rfl (decide_eq_false (by omega))) ?_)
  refine L_nil ?_
  refine then_n ?_
  refine C_false rfl ?_
  refine C_skip ?_
  refine then_n ?_
  refine C_seq ?_
  refine C_region ?_
  refine L (S (P_move rfl) ?_)
  refine L (S (P_move rfl) ?_)
  refine L (S (P_assign rfl) ?_)
  refine L (S (P_assign rfl) ?_)
  refine L_nil ?_
  refine then_n ?_
  refine C_ret ?_
  refine F_ret2 Tryz.results134 rfl rfl ?_
  exact ⟨rfl, hm2⟩
theorem toErr_ret (hv : Vr w) (fn : ByteArray) {l : List UInt8} (hl : l.length ≤ 100000) (base bits : Int) : Ret Tryz.prog 135 [.string fn, .string (str l), .int .i64 base, .int .i64 bits, .iface 185 (.int .i64 1)] w fun v w' => (∃ t u, v = .iface t u) ∧ Mv No w w' := by
  obtain ⟨t, u, he⟩ := hv.er
  exact (Tryz.strconv_toError_range fn (str l) base bits (.iface t u) w (by rw [str_size]; omega) he (.inr ⟨t, u, rfl⟩)).mono fun e w' ⟨N, h1, h2, h3, h4⟩ => ⟨_, h1, ⟨_, _, rfl⟩, Mv.ofBelow h4⟩
theorem pf_ret (hv : Vr w) {l : List UInt8} {n : Nat} (hr : RT l n) (hl : l.length ≤ 100000) : Ret Tryz.prog 121 [.string (str l), .int .i64 64] w fun v w' => ∃ e, v = .tuple #[.float .f64 (a64F l).1, e] ∧ Mv No w w' ∧ (((a64F l).2 = false ∧ e = .nilIface) ∨ ((a64F l).2 = true ∧ ∃ t u, e = .iface t u)) := by
  have hI := ipf_ret hv hr hl
  generalize a64F l = q at *
  obtain ⟨fb, β⟩ := q
  dsimp only at *
  cases β with
  | true =>
    refine F_enter Tryz.func121 Tryz.ntmps121 rfl rfl ?_
    refine C_seq ?_
    refine C_region ?_
    refine L (S (P_assign rfl) ?_)
    refine L (S (P_assign rfl) ?_)
    refine L_nil ?_
    refine then_n ?_
    refine C_seq ?_
    refine C_region ?_
    refine L (S (P_move rfl) ?_)
    refine L (S (P_move rfl) ?_)
    refine L (S_call cb_134 rfl (hI) ?_)
    rintro _ w2 ⟨rfl, hm2⟩
    refine L (S (P_move rfl) ?_)
    refine L (S (P_extract rfl rfl) ?_)
    refine L (S (P_extract rfl rfl) ?_)
    refine L (S (P_assign rfl) ?_)
    refine L (S (P_assign rfl) ?_)
    refine L_nil ?_
    refine then_n ?_
    refine C_seq ?_
    refine C_seq ?_
    refine C_region ?_
    refine L (S (P_move rfl) ?_)
    refine L (S (P_neI Tryz.underlying168 rfl (.inr ⟨_, _, rfl, rfl⟩)) ?_)
    refine L_nil ?_
    refine then_n ?_
    refine C_true rfl ?_
    refine C_seq ?_
    refine C_region ?_
    refine L (S (P_move rfl) ?_)
    refine L (S (P_move rfl) ?_)
    refine L (S (P_move rfl) ?_)
    refine L (S (P_move rfl) ?_)
    refine L (S_call cb_135 rfl (toErr_ret (hv.no hm2) _ hl _ _) ?_)
    rintro _ w3 ⟨⟨t, u, rfl⟩, hm3⟩
    refine L (S (P_assign rfl) ?_)
    refine L (S (P_assign rfl) ?_)
    refine L_nil ?_
    refine then_n ?_
    refine C_ret ?_
    refine then_r ?_
    refine F_ret2 Tryz.results121 rfl rfl ?_
    exact ⟨_, rfl, hm2.no hm3, .inr ⟨rfl, _, _, rfl⟩⟩
  | false =>
    refine F_enter Tryz.func121 Tryz.ntmps121 rfl rfl ?_
    refine C_seq ?_
    refine C_region ?_
    refine L (S (P_assign rfl) ?_)
    refine L (S (P_assign rfl) ?_)
    refine L_nil ?_
    refine then_n ?_
    refine C_seq ?_
    refine C_region ?_
    refine L (S (P_move rfl) ?_)
    refine L (S (P_move rfl) ?_)
    refine L (S_call cb_134 rfl (hI) ?_)
    rintro _ w2 ⟨rfl, hm2⟩
    refine L (S (P_move rfl) ?_)
    refine L (S (P_extract rfl rfl) ?_)
    refine L (S (P_extract rfl rfl) ?_)
    refine L (S (P_assign rfl) ?_)
    refine L (S (P_assign rfl) ?_)
    refine L_nil ?_
    refine then_n ?_
    refine C_seq ?_
    refine C_seq ?_
    refine C_region ?_
    refine L (S (P_move rfl) ?_)
    refine L (S (P_neI Tryz.underlying168 rfl (.inl ⟨rfl, rfl⟩)) ?_)
    refine L_nil ?_
    refine then_n ?_
    refine C_false rfl ?_
    refine C_skip ?_
    refine then_n ?_
    refine C_seq ?_
    refine C_region ?_
    refine L (S (P_move rfl) ?_)
    refine L (S (P_assign rfl) ?_)
    refine L (S (P_assign rfl) ?_)
    refine L_nil ?_
    refine then_n ?_
    refine C_ret ?_
    refine F_ret2 Tryz.results121 rfl rfl ?_
    exact ⟨_, rfl, hm2, .inl ⟨rfl, rfl⟩⟩
end
/-- ParseFloat on digits, a point, digits. -/
theorem pf_all : PF bigF Vr (fun l => l.length ≤ 100000) where
  mono := fun w w' h hm => h.no hm
  mx := fun w h => h.mx
  call := fun w l hv hreal hl => by
    obtain ⟨n, hr⟩ := hreal.rt
    refine (pf_ret hv hr hl).mono fun v w' ⟨e, hv', hm, hc⟩ => ⟨(a64F l).1, e, hv', hm, ?_, big_not hr⟩
    rcases hc with ⟨_, rfl⟩ | ⟨h2, hi⟩
    · exact .inl ⟨rfl, rfl⟩
    · exact .inr ⟨hi, by unfold bigF; rw [a64_err l h2]; exact inf15⟩
end Go.Proofs.YtnoioimphcmeiaaGreatDoor
