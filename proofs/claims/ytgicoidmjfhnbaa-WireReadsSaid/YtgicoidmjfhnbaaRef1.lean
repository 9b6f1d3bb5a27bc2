import Derived.Test.YtgicoidmjfhnbaaWireM
namespace Go.Proofs.Ytgicoidmjfhnbaa
open Go.RowKit

theorem refnum_ret : ∀ (n : Nat) (_ : n < 18446744073709551616) (w : World),
    Ret Try.prog 13 [.int .u64 n] w fun v w' => v = .string (str (numB n)) ∧ Mv No w w' := by
  intro n
  induction n using Nat.strongRecOn with
  | _ n ih =>
    intro hn w
    by_cases h : n < 128
    · rw [numB_lt h]
      refine F_enter Try.func13 Try.ntmps13 rfl rfl ?_
      refine C_seq ?_
      refine C_region ?_
      refine L (S (P_assign rfl) ?_)
      refine L_nil ?_
      refine then_n ?_
      refine C_seq ?_
      refine C_seq ?_
      refine C_region ?_
      refine L (S (P_move rfl) ?_)
      refine L (S (P_lt rfl rfl (decide_eq_true (by omega))) ?_)
      refine L_nil ?_
      refine then_n ?_
      refine C_true rfl ?_
      refine C_seq ?_
      refine C_region ?_
      refine L (S (P_move rfl) ?_)
      refine L (S (P_conv Try.underlying22 Try.underlying5 rfl (wU8 (c := (n : Int)) (by omega))) ?_)
      refine L (S_buildSlice1 Try.underlying23 ti_5 rfl rfl rfl ?_)
      rintro b1 w1 hb1 hm1 hn1
      refine L (S_bytesStr Try.underlying23 Try.underlying5 Try.underlying9 rfl (l := [UInt8.ofNat n]) (by rw [bv_ofNat (by omega)] at hb1; exact .inr ⟨b1, 0, rfl, hb1.row⟩) rfl ?_)
      refine L (S (P_assign rfl) ?_)
      refine L_nil ?_
      refine then_n ?_
      refine C_ret ?_
      refine then_r ?_
      refine F_ret1 Try.results13 rfl ?_
      exact ⟨rfl, hm1⟩
    · rw [numB_ge h]
      have hlen := numB_len (n / 128) (by omega)
      have IH := fun w => ih (n / 128) (by omega) (by omega) w
      have hbv := bv_ofNat (x := n % 128 + 128) (by omega)
      refine F_enter Try.func13 Try.ntmps13 rfl rfl ?_
      refine C_seq ?_
      refine C_region ?_
      refine L (S (P_assign rfl) ?_)
      refine L_nil ?_
      refine then_n ?_
      refine C_seq ?_
      refine C_seq ?_
      refine C_region ?_
      refine L (S (P_move rfl) ?_)
      refine L (S (P_lt rfl rfl (decide_eq_false (by omega))) ?_)
      refine L_nil ?_
      refine then_n ?_
      refine C_false rfl ?_
      refine C_skip ?_
      refine then_n ?_
      refine C_seq ?_
      refine C_draw 11 mixed rfl ?_
      refine A_pure (i := 0) rfl (P_move rfl) ?_ (by decide +kernel) (by decide +kernel) (by decide +kernel) (fun _ _ _ _ h => h) rfl rfl rfl
      refine A_pure (i := 1) rfl (P_rem rfl rfl (c := ((n % 128 : Nat) : Int)) (by decide) (remN (m := n) (k := 128) rfl rfl rfl)) ?_ (by decide +kernel) (by decide +kernel) (by decide +kernel) (fun _ _ _ _ h => h) rfl rfl rfl
      refine A_pure (i := 2) rfl (P_conv Try.underlying22 Try.underlying5 rfl (wU8 (c := ((n % 128 : Nat) : Int)) (by omega))) ?_ (by decide +kernel) (by decide +kernel) (by decide +kernel) (fun _ _ _ _ h => h) rfl rfl rfl
      refine A_pure (i := 3) rfl (P_add rfl rfl (wU8 (c := ((n % 128 + 128 : Nat) : Int)) (by omega))) ?_ (by decide +kernel) (by decide +kernel) (by decide +kernel) (fun _ _ _ _ h => h) rfl rfl rfl
      refine A_pure (i := 6) rfl (P_move rfl) ?_ (by decide +kernel) (by decide +kernel) (by decide +kernel) (fun _ _ _ _ h => h) rfl rfl rfl
      refine A_pure (i := 7) rfl (P_quo rfl rfl (c := ((n / 128 : Nat) : Int)) (by decide) (quoU64 (m := n) (k := 128) rfl rfl rfl hn)) ?_ (by decide +kernel) (by decide +kernel) (by decide +kernel) (fun _ _ _ _ h => h) rfl rfl rfl
      refine A_two (i := 4) (i2 := 8) (A_op rfl (S_buildSlice1 Try.underlying23 ti_5 rfl rfl rfl ?_)) (A_op rfl (S_call cb_13 rfl (IH _) ?_)) (by decide +kernel)
      · rintro b1 w1 hb1 hm1 hn1
        refine A_two (i := 5) (i2 := 8) (A_op rfl (S_bytesStr Try.underlying23 Try.underlying5 Try.underlying9 rfl (l := [UInt8.ofNat (n % 128 + 128)]) (by rw [hbv] at hb1; first | exact .inr ⟨b1, 0, rfl, hb1.row⟩ | exact .inr ⟨b1, 0, rfl, (hb1.no hm2).row⟩) rfl ?_)) (A_op rfl (S_call cb_13 rfl (IH _) ?_)) (by decide +kernel)
        · refine A_one (i := 8) (A_op rfl (S_call cb_13 rfl (IH _) ?_)) (by decide +kernel)
          rintro _ w2 ⟨rfl, hm2⟩
          refine A_pure (i := 9) rfl (P_addT rfl rfl (by simp only [str_size, List.length_singleton]; omega)) ?_ (by decide +kernel) (by decide +kernel) (by decide +kernel) (fun _ _ _ _ h => h) rfl rfl rfl
          refine A_pure (i := 10) rfl (P_assign rfl) ?_ (by decide +kernel) (by decide +kernel) (by decide +kernel) (fun _ _ _ _ h => h) rfl rfl rfl
          refine A_done (by decide +kernel) ?_
          refine then_n ?_
          refine C_ret ?_
          refine F_ret1 Try.results13 rfl ?_
          refine ⟨by rw [str_append]; rfl, ?_⟩
          first | exact (Mv.refl w).drew.no (hm1.no hm2) | exact (Mv.refl w).drew.no (hm2.no hm1)
        · rintro _ w2 ⟨rfl, hm2⟩
          refine A_one (i := 5) (A_op rfl (S_bytesStr Try.underlying23 Try.underlying5 Try.underlying9 rfl (l := [UInt8.ofNat (n % 128 + 128)]) (by rw [hbv] at hb1; first | exact .inr ⟨b1, 0, rfl, hb1.row⟩ | exact .inr ⟨b1, 0, rfl, (hb1.no hm2).row⟩) rfl ?_)) (by decide +kernel)
          refine A_pure (i := 9) rfl (P_addT rfl rfl (by simp only [str_size, List.length_singleton]; omega)) ?_ (by decide +kernel) (by decide +kernel) (by decide +kernel) (fun _ _ _ _ h => h) rfl rfl rfl
          refine A_pure (i := 10) rfl (P_assign rfl) ?_ (by decide +kernel) (by decide +kernel) (by decide +kernel) (fun _ _ _ _ h => h) rfl rfl rfl
          refine A_done (by decide +kernel) ?_
          refine then_n ?_
          refine C_ret ?_
          refine F_ret1 Try.results13 rfl ?_
          refine ⟨by rw [str_append]; rfl, ?_⟩
          first | exact (Mv.refl w).drew.no (hm1.no hm2) | exact (Mv.refl w).drew.no (hm2.no hm1)
      · rintro _ w2 ⟨rfl, hm2⟩
        refine A_one (i := 4) (A_op rfl (S_buildSlice1 Try.underlying23 ti_5 rfl rfl rfl ?_)) (by decide +kernel)
        rintro b1 w1 hb1 hm1 hn1
        refine A_one (i := 5) (A_op rfl (S_bytesStr Try.underlying23 Try.underlying5 Try.underlying9 rfl (l := [UInt8.ofNat (n % 128 + 128)]) (by rw [hbv] at hb1; first | exact .inr ⟨b1, 0, rfl, hb1.row⟩ | exact .inr ⟨b1, 0, rfl, (hb1.no hm2).row⟩) rfl ?_)) (by decide +kernel)
        refine A_pure (i := 9) rfl (P_addT rfl rfl (by simp only [str_size, List.length_singleton]; omega)) ?_ (by decide +kernel) (by decide +kernel) (by decide +kernel) (fun _ _ _ _ h => h) rfl rfl rfl
        refine A_pure (i := 10) rfl (P_assign rfl) ?_ (by decide +kernel) (by decide +kernel) (by decide +kernel) (fun _ _ _ _ h => h) rfl rfl rfl
        refine A_done (by decide +kernel) ?_
        refine then_n ?_
        refine C_ret ?_
        refine F_ret1 Try.results13 rfl ?_
        refine ⟨by rw [str_append]; rfl, ?_⟩
        first | exact (Mv.refl w).drew.no (hm1.no hm2) | exact (Mv.refl w).drew.no (hm2.no hm1)

end Go.Proofs.Ytgicoidmjfhnbaa
