import Derived.Test.YtgicoidmjfhnbaaLaws2
import Derived.Test.YtgicoidmjfhnbaaRowPairs
namespace Go.Proofs.Ytgicoidmjfhnbaa
open Go.RowKit

theorem u64wrap (a : Int) : ∃ m : Nat, IntKind.u64.wrap a = (m : Int) ∧ m < 18446744073709551616 := by
  refine ⟨(IntKind.u64.wrap a).toNat, ?_, ?_⟩ <;>
  · simp only [IntKind.wrap, IntKind.bits, IntKind.signed]
    simp
    omega
theorem rNum_le (bs : List UInt8) (err : Int) : (rNum bs err).2.1.length ≤ bs.length := by
  obtain ⟨k, _, h⟩ := rNum_drop bs err
  rw [h]; simp
theorem rCount_le (bs : List UInt8) (err most : Int) : (rCount bs err most).2.1.length ≤ bs.length := by
  obtain ⟨k, _, h⟩ := rCount_drop bs err most
  rw [h]; simp
theorem rText_le (bs : List UInt8) (err most : Int) : (rText bs err most).2.1.length ≤ bs.length := by
  have := rCount_le bs err most
  by_cases h0 : err ≠ 0
  · simp [rText, h0]
  · by_cases h1 : (rCount bs err most).2.2 ≠ 0
    · simp only [rText, if_neg h0, if_pos h1]; exact this
    · by_cases h2 : ((rCount bs err most).2.1.length : Int) < (rCount bs err most).1
      · simp only [rText, if_neg h0, if_neg h1, if_pos h2]; exact Nat.le_refl _
      · simp only [rText, if_neg h0, if_neg h1, if_neg h2, List.length_drop]; omega
theorem rBool_le (bs : List UInt8) (err : Int) : (rBool bs err).2.1.length ≤ bs.length := by
  unfold rBool
  repeat' split
  all_goals simp
theorem rInt_le (bs : List UInt8) (err : Int) : (rInt bs err).2.1.length ≤ bs.length := rNum_le bs err

theorem step_ret {w : World} {lo g : Nat} (bs : List UInt8) (err kind most : Int) (hR : IsR w lo g bs err) (hl : bs.length < 140737488355328) (hm0 : -9223372036854775808 ≤ most) (hm9 : most < 9223372036854775808) :
    Ret Try.prog 21 [.pointer (some ⟨g, 0, none⟩), rdV bs err, .agg #[.int .i64 kind, .int .i64 most]] w fun v w' => ∃ bs' err', v = .tuple #[rdV bs' err', .bool true] ∧ IsR w' lo g bs' err' ∧ bs'.length ≤ bs.length ∧ Mv (At g) w w' := by
  obtain ⟨m, hk, hm⟩ := u64wrap kind
  have hrem : ∃ r : Nat, m % 7 = r ∧ r < 7 := ⟨_, rfl, Nat.mod_lt _ (by omega)⟩
  obtain ⟨r, hr, hr7⟩ := hrem
  have hg := hR.lt
  refine F_enter Try.func21 Try.ntmps21 rfl rfl ?_
  refine C_seq ?_
  refine C_region ?_
  refine L (S_box rfl ?_)
  rintro b4 w1 hb4 hm1 hn1
  refine L (S_box rfl ?_)
  rintro b5 w2 hb5 hm2 hn2
  refine L (S_alloc (zs := [(.string (ByteArray.mk #[])), (.int .i64 0)]) ti_42 rfl ?_)
  rintro b6 w3 hb6 hm3 hn3
  refine L (S (P_assign rfl) ?_)
  refine L_nil ?_
  refine then_n ?_
  refine C_seq ?_
  refine C_seq ?_
  have h4 : Blk w3 b4 (rdC bs err) 42 := (hb4.no hm2).no hm3
  have h5 : Blk w3 b5 [.int .i64 kind, .int .i64 most] 44 := hb5.no hm3
  have h6 : Blk w3 b6 [.string ByteArray.empty, .int .i64 0] 42 := hb6
  have hm03 : Mv No w w3 := (hm1.no hm2).no hm3
  have hR3 := hR.no hm03
  have hw4 : w.heap.size ≤ b4 := hn1
  have hw5 : w.heap.size ≤ b5 := Nat.le_trans hm1.size hn2
  have hw6 : w.heap.size ≤ b6 := Nat.le_trans (hm1.no hm2).size hn3
  have h64 : b6 ≠ b4 := by have := hb4.lt; have := hm2.size; omega
  clear hb4 hb5 hb6 hn1 hn2 hn3
  refine C_region ?_
  refine L (S (P_fieldAddr fo_44_0 rfl) ?_)
  refine L (S_load sc_3 rfl (h5.cell (i := 0) rfl) ?_)
  refine L (S (P_conv Try.underlying3 Try.underlying59 rfl hk) ?_)
  refine L (S (P_rem rfl rfl (c := (r : Int)) (by decide) (by have := remN (m := m) (k := 7) rfl rfl rfl; rwa [hr] at this)) ?_)
  refine L_nil ?_
  refine then_n ?_
  refine C_block ?_
  refine C_seq ?_
  by_cases hc0 : r = 0
  · subst hc0
    refine C_region ?_
    refine L (S (P_eq rfl rfl (decide_eq_true (by omega))) ?_)
    refine L (S (P_assign rfl) ?_)
    refine L_nil ?_
    refine then_n ?_
    refine C_true rfl ?_
    refine C_seq ?_
    refine C_region ?_
    refine L (S_loadS st_42 rfl h4.row rfl ?_)
    refine L (S_call cb_30 rfl (reftake_ret bs err hl) ?_)
    rintro _ w4 ⟨rfl, hm4⟩
    refine L (S (P_move rfl) ?_)
    refine L (S (P_extract rfl rfl) ?_)
    refine L (S (P_extract rfl rfl) ?_)
    refine L (S_alloc (zs := [(.string (ByteArray.mk #[])), (.int .i64 0)]) ti_42 rfl ?_)
    rintro b8 w5 hb8 hm5 hn5
    refine L (S_storeS ti_42 rfl rfl (rdC_one _ _) rfl hb8 (by simp [rdC]) ?_)
    rintro w6 hb8' hm6
    refine L (S (P_assign rfl) ?_)
    refine L_nil ?_
    refine then_n ?_
    refine C_seq ?_
    have h8 : Blk w6 b8 (rdC (rNum bs err).2.1 (rNum bs err).2.2) 42 := hb8'
    have hm36 : Mv No w3 w6 := (hm4.no hm5).new hm6 (Nat.le_trans hm4.size hn5)
    have hne8 : b8 ≠ g := by have := hm03.size; have := hm4.size; omega
    have hne6 : b6 ≠ g := by omega
    have hne5 : b5 ≠ g := by omega
    have h86 : b8 ≠ b6 := by have := h6.lt; have := hm4.size; omega
    have h6' := h6.no hm36
    have h5' := h5.no hm36
    have h8d := h8.no (Mv.refl w6).drew
    have h6d := h6'.no (Mv.refl w6).drew
    have h5d := h5'.no (Mv.refl w6).drew
    have hR6 := hR3.no hm36
    have hm06 : Mv No w w6 := hm03.no hm36
    clear hb8 hb8'
    refine C_draw 7 mixed rfl ?_
    refine A_pure (i := 1) rfl (P_move rfl) ?_ (by decide +kernel) (by decide +kernel) (by decide +kernel) (fun _ _ _ _ h => h) rfl rfl rfl
    refine A_pure (i := 3) rfl (P_move rfl) ?_ (by decide +kernel) (by decide +kernel) (by decide +kernel) (fun _ _ _ _ h => h) rfl rfl rfl
    refine A_two (i := 0) (i2 := 2) (A_op rfl (S_loadS st_42 rfl (by first | exact h8d.row | exact (h8d.ne hm7 hne8).row) rfl ?_)) (A_op rfl (S_call cb_14 rfl (rnum_ret hR6.drew) ?_)) (by decide +kernel)
    · refine A_one (i := 2) (A_op rfl (S_call cb_14 rfl (rnum_ret hR6.drew) ?_)) (by decide +kernel)
      rintro _ w7 ⟨rfl, hR7, hm7⟩
      refine A_pure (i := 4) rfl (P_eq rfl rfl (decide_eq_true rfl)) ?_ (by decide +kernel) (by decide +kernel) (by decide +kernel) (fun _ _ _ _ h => h) rfl rfl rfl
      refine A_one (i := 5) (A_op rfl (S_storeS ti_42 rfl rfl (rdC_one _ _) rfl (h6d.ne hm7 hne6) (by simp [rdC]) ?_)) (by decide +kernel)
      rintro w8 hb9 hm8
      refine A_pure (i := 6) rfl (P_assign rfl) ?_ (by decide +kernel) (by decide +kernel) (by decide +kernel) (fun _ _ _ _ h => h) rfl rfl rfl
      refine A_done (by decide +kernel) ?_
      refine then_n ?_
      refine C_ret ?_
      refine blk_r ?_
      refine then_r ?_
      refine F_ret (rs := [.cell 6 42, .tmp 7]) [rdV (rNum bs err).2.1 (rNum bs err).2.2, .bool true] Try.results21 ?_ ?_
      · exact ⟨⟨_, rfl, finR hb9⟩, rfl, trivial⟩
      · exact ⟨_, _, rfl, hR7.mv hm8 (fun k _ hk he => by have : k = b6 := he; omega), rNum_le _ _, (hm06.drew.ofNo.trans hm7 fun _ _ h => h).new hm8 hw6⟩
    · rintro _ w7 ⟨rfl, hR7, hm7⟩
      refine A_pure (i := 4) rfl (P_eq rfl rfl (decide_eq_true rfl)) ?_ (by decide +kernel) (by decide +kernel) (by decide +kernel) (fun _ _ _ _ h => h) rfl rfl rfl
      refine A_one (i := 0) (A_op rfl (S_loadS st_42 rfl (by first | exact h8d.row | exact (h8d.ne hm7 hne8).row) rfl ?_)) (by decide +kernel)
      refine A_one (i := 5) (A_op rfl (S_storeS ti_42 rfl rfl (rdC_one _ _) rfl (h6d.ne hm7 hne6) (by simp [rdC]) ?_)) (by decide +kernel)
      rintro w8 hb9 hm8
      refine A_pure (i := 6) rfl (P_assign rfl) ?_ (by decide +kernel) (by decide +kernel) (by decide +kernel) (fun _ _ _ _ h => h) rfl rfl rfl
      refine A_done (by decide +kernel) ?_
      refine then_n ?_
      refine C_ret ?_
      refine blk_r ?_
      refine then_r ?_
      refine F_ret (rs := [.cell 6 42, .tmp 7]) [rdV (rNum bs err).2.1 (rNum bs err).2.2, .bool true] Try.results21 ?_ ?_
      · exact ⟨⟨_, rfl, finR hb9⟩, rfl, trivial⟩
      · exact ⟨_, _, rfl, hR7.mv hm8 (fun k _ hk he => by have : k = b6 := he; omega), rNum_le _ _, (hm06.drew.ofNo.trans hm7 fun _ _ h => h).new hm8 hw6⟩
  · refine C_region ?_
    refine L (S (P_eq rfl rfl (decide_eq_false (by omega))) ?_)
    refine L (S (P_assign rfl) ?_)
    refine L_nil ?_
    refine then_n ?_
    refine C_false rfl ?_
    refine C_seq ?_
    by_cases hc1 : r = 1
    · subst hc1
      refine C_region ?_
      refine L (S (P_eq rfl rfl (decide_eq_true (by omega))) ?_)
      refine L (S (P_assign rfl) ?_)
      refine L_nil ?_
      refine then_n ?_
      refine C_true rfl ?_
      refine C_seq ?_
      refine C_region ?_
      refine L (S_loadS st_42 rfl h4.row rfl ?_)
      refine L (S_call cb_31 rfl (reftakeint_ret bs err hl) ?_)
      rintro _ w4 ⟨rfl, hm4⟩
      refine L (S (P_move rfl) ?_)
      refine L (S (P_extract rfl rfl) ?_)
      refine L (S (P_extract rfl rfl) ?_)
      refine L (S_alloc (zs := [(.string (ByteArray.mk #[])), (.int .i64 0)]) ti_42 rfl ?_)
      rintro b8 w5 hb8 hm5 hn5
      refine L (S_storeS ti_42 rfl rfl (rdC_one _ _) rfl hb8 (by simp [rdC]) ?_)
      rintro w6 hb8' hm6
      refine L (S (P_assign rfl) ?_)
      refine L_nil ?_
      refine then_n ?_
      refine C_seq ?_
      have h8 : Blk w6 b8 (rdC (rInt bs err).2.1 (rInt bs err).2.2) 42 := hb8'
      have hm36 : Mv No w3 w6 := (hm4.no hm5).new hm6 (Nat.le_trans hm4.size hn5)
      have hne8 : b8 ≠ g := by have := hm03.size; have := hm4.size; omega
      have hne6 : b6 ≠ g := by omega
      have hne5 : b5 ≠ g := by omega
      have h86 : b8 ≠ b6 := by have := h6.lt; have := hm4.size; omega
      have h6' := h6.no hm36
      have h5' := h5.no hm36
      have h8d := h8.no (Mv.refl w6).drew
      have h6d := h6'.no (Mv.refl w6).drew
      have h5d := h5'.no (Mv.refl w6).drew
      have hR6 := hR3.no hm36
      have hm06 : Mv No w w6 := hm03.no hm36
      clear hb8 hb8'
      refine C_draw 7 mixed rfl ?_
      refine A_pure (i := 1) rfl (P_move rfl) ?_ (by decide +kernel) (by decide +kernel) (by decide +kernel) (fun _ _ _ _ h => h) rfl rfl rfl
      refine A_pure (i := 3) rfl (P_move rfl) ?_ (by decide +kernel) (by decide +kernel) (by decide +kernel) (fun _ _ _ _ h => h) rfl rfl rfl
      refine A_two (i := 0) (i2 := 2) (A_op rfl (S_loadS st_42 rfl (by first | exact h8d.row | exact (h8d.ne hm7 hne8).row) rfl ?_)) (A_op rfl (S_call cb_23 rfl (rint_ret hR6.drew) ?_)) (by decide +kernel)
      · refine A_one (i := 2) (A_op rfl (S_call cb_23 rfl (rint_ret hR6.drew) ?_)) (by decide +kernel)
        rintro _ w7 ⟨rfl, hR7, hm7⟩
        refine A_pure (i := 4) rfl (P_eq rfl rfl (decide_eq_true rfl)) ?_ (by decide +kernel) (by decide +kernel) (by decide +kernel) (fun _ _ _ _ h => h) rfl rfl rfl
        refine A_one (i := 5) (A_op rfl (S_storeS ti_42 rfl rfl (rdC_one _ _) rfl (h6d.ne hm7 hne6) (by simp [rdC]) ?_)) (by decide +kernel)
        rintro w8 hb9 hm8
        refine A_pure (i := 6) rfl (P_assign rfl) ?_ (by decide +kernel) (by decide +kernel) (by decide +kernel) (fun _ _ _ _ h => h) rfl rfl rfl
        refine A_done (by decide +kernel) ?_
        refine then_n ?_
        refine C_ret ?_
        refine blk_r ?_
        refine then_r ?_
        refine F_ret (rs := [.cell 6 42, .tmp 7]) [rdV (rInt bs err).2.1 (rInt bs err).2.2, .bool true] Try.results21 ?_ ?_
        · exact ⟨⟨_, rfl, finR hb9⟩, rfl, trivial⟩
        · exact ⟨_, _, rfl, hR7.mv hm8 (fun k _ hk he => by have : k = b6 := he; omega), rInt_le _ _, (hm06.drew.ofNo.trans hm7 fun _ _ h => h).new hm8 hw6⟩
      · rintro _ w7 ⟨rfl, hR7, hm7⟩
        refine A_pure (i := 4) rfl (P_eq rfl rfl (decide_eq_true rfl)) ?_ (by decide +kernel) (by decide +kernel) (by decide +kernel) (fun _ _ _ _ h => h) rfl rfl rfl
        refine A_one (i := 0) (A_op rfl (S_loadS st_42 rfl (by first | exact h8d.row | exact (h8d.ne hm7 hne8).row) rfl ?_)) (by decide +kernel)
        refine A_one (i := 5) (A_op rfl (S_storeS ti_42 rfl rfl (rdC_one _ _) rfl (h6d.ne hm7 hne6) (by simp [rdC]) ?_)) (by decide +kernel)
        rintro w8 hb9 hm8
        refine A_pure (i := 6) rfl (P_assign rfl) ?_ (by decide +kernel) (by decide +kernel) (by decide +kernel) (fun _ _ _ _ h => h) rfl rfl rfl
        refine A_done (by decide +kernel) ?_
        refine then_n ?_
        refine C_ret ?_
        refine blk_r ?_
        refine then_r ?_
        refine F_ret (rs := [.cell 6 42, .tmp 7]) [rdV (rInt bs err).2.1 (rInt bs err).2.2, .bool true] Try.results21 ?_ ?_
        · exact ⟨⟨_, rfl, finR hb9⟩, rfl, trivial⟩
        · exact ⟨_, _, rfl, hR7.mv hm8 (fun k _ hk he => by have : k = b6 := he; omega), rInt_le _ _, (hm06.drew.ofNo.trans hm7 fun _ _ h => h).new hm8 hw6⟩
    · refine C_region ?_
      refine L (S (P_eq rfl rfl (decide_eq_false (by omega))) ?_)
      refine L (S (P_assign rfl) ?_)
      refine L_nil ?_
      refine then_n ?_
      refine C_false rfl ?_
      refine C_seq ?_
      by_cases hc2 : r = 2
      · subst hc2
        refine C_region ?_
        refine L (S (P_eq rfl rfl (decide_eq_true (by omega))) ?_)
        refine L (S (P_assign rfl) ?_)
        refine L_nil ?_
        refine then_n ?_
        refine C_true rfl ?_
        refine C_seq ?_
        refine C_region ?_
        refine L (S_loadS st_42 rfl h4.row rfl ?_)
        refine L (S (P_fieldAddr fo_44_1 rfl) ?_)
        refine L (S_load sc_3 rfl (h5.cell (i := 1) rfl) ?_)
        refine L (S_call cb_32 rfl (refcount_ret bs err most hm0 hm9 hl) ?_)
        rintro _ w4 ⟨rfl, hm4⟩
        refine L (S (P_move rfl) ?_)
        refine L (S (P_extract rfl rfl) ?_)
        refine L (S (P_extract rfl rfl) ?_)
        refine L (S_alloc (zs := [(.string (ByteArray.mk #[])), (.int .i64 0)]) ti_42 rfl ?_)
        rintro b8 w5 hb8 hm5 hn5
        refine L (S_storeS ti_42 rfl rfl (rdC_one _ _) rfl hb8 (by simp [rdC]) ?_)
        rintro w6 hb8' hm6
        refine L (S (P_assign rfl) ?_)
        refine L_nil ?_
        refine then_n ?_
        refine C_seq ?_
        have h8 : Blk w6 b8 (rdC (rCount bs err most).2.1 (rCount bs err most).2.2) 42 := hb8'
        have hm36 : Mv No w3 w6 := (hm4.no hm5).new hm6 (Nat.le_trans hm4.size hn5)
        have hne8 : b8 ≠ g := by have := hm03.size; have := hm4.size; omega
        have hne6 : b6 ≠ g := by omega
        have hne5 : b5 ≠ g := by omega
        have h86 : b8 ≠ b6 := by have := h6.lt; have := hm4.size; omega
        have h6' := h6.no hm36
        have h5' := h5.no hm36
        have h8d := h8.no (Mv.refl w6).drew
        have h6d := h6'.no (Mv.refl w6).drew
        have h5d := h5'.no (Mv.refl w6).drew
        have hR6 := hR3.no hm36
        have hm06 : Mv No w w6 := hm03.no hm36
        clear hb8 hb8'
        refine C_draw 9 mixed rfl ?_
        refine A_pure (i := 1) rfl (P_move rfl) ?_ (by decide +kernel) (by decide +kernel) (by decide +kernel) (fun _ _ _ _ h => h) rfl rfl rfl
        refine A_pure (i := 2) rfl (P_fieldAddr fo_44_1 rfl) ?_ (by decide +kernel) (by decide +kernel) (by decide +kernel) (fun _ _ _ _ h => h) rfl rfl rfl
        refine A_pure (i := 5) rfl (P_move rfl) ?_ (by decide +kernel) (by decide +kernel) (by decide +kernel) (fun _ _ _ _ h => h) rfl rfl rfl
        refine A_two (i := 0) (i2 := 3) (A_op rfl (S_loadS st_42 rfl (by first | exact h8d.row | exact (h8d.ne hm7 hne8).row) rfl ?_)) (A_op rfl (S_load sc_3 rfl (by first | exact h5d.cell (i := 1) rfl | exact (h5d.ne hm7 hne5).cell (i := 1) rfl) ?_)) (by decide +kernel)
        · refine A_one (i := 3) (A_op rfl (S_load sc_3 rfl (by first | exact h5d.cell (i := 1) rfl | exact (h5d.ne hm7 hne5).cell (i := 1) rfl) ?_)) (by decide +kernel)
          refine A_one (i := 4) (A_op rfl (S_call cb_24 rfl (rcount_ret most hm0 hm9 hR6.drew) ?_)) (by decide +kernel)
          rintro _ w7 ⟨rfl, hR7, hm7⟩
          refine A_pure (i := 6) rfl (P_eq rfl rfl (decide_eq_true rfl)) ?_ (by decide +kernel) (by decide +kernel) (by decide +kernel) (fun _ _ _ _ h => h) rfl rfl rfl
          refine A_one (i := 7) (A_op rfl (S_storeS ti_42 rfl rfl (rdC_one _ _) rfl (h6d.ne hm7 hne6) (by simp [rdC]) ?_)) (by decide +kernel)
          rintro w8 hb9 hm8
          refine A_pure (i := 8) rfl (P_assign rfl) ?_ (by decide +kernel) (by decide +kernel) (by decide +kernel) (fun _ _ _ _ h => h) rfl rfl rfl
          refine A_done (by decide +kernel) ?_
          refine then_n ?_
          refine C_ret ?_
          refine blk_r ?_
          refine then_r ?_
          refine F_ret (rs := [.cell 6 42, .tmp 7]) [rdV (rCount bs err most).2.1 (rCount bs err most).2.2, .bool true] Try.results21 ?_ ?_
          · exact ⟨⟨_, rfl, finR hb9⟩, rfl, trivial⟩
          · exact ⟨_, _, rfl, hR7.mv hm8 (fun k _ hk he => by have : k = b6 := he; omega), rCount_le _ _ _, (hm06.drew.ofNo.trans hm7 fun _ _ h => h).new hm8 hw6⟩
        · refine A_two (i := 0) (i2 := 4) (A_op rfl (S_loadS st_42 rfl (by first | exact h8d.row | exact (h8d.ne hm7 hne8).row) rfl ?_)) (A_op rfl (S_call cb_24 rfl (rcount_ret most hm0 hm9 hR6.drew) ?_)) (by decide +kernel)
          · refine A_one (i := 4) (A_op rfl (S_call cb_24 rfl (rcount_ret most hm0 hm9 hR6.drew) ?_)) (by decide +kernel)
            rintro _ w7 ⟨rfl, hR7, hm7⟩
            refine A_pure (i := 6) rfl (P_eq rfl rfl (decide_eq_true rfl)) ?_ (by decide +kernel) (by decide +kernel) (by decide +kernel) (fun _ _ _ _ h => h) rfl rfl rfl
            refine A_one (i := 7) (A_op rfl (S_storeS ti_42 rfl rfl (rdC_one _ _) rfl (h6d.ne hm7 hne6) (by simp [rdC]) ?_)) (by decide +kernel)
            rintro w8 hb9 hm8
            refine A_pure (i := 8) rfl (P_assign rfl) ?_ (by decide +kernel) (by decide +kernel) (by decide +kernel) (fun _ _ _ _ h => h) rfl rfl rfl
            refine A_done (by decide +kernel) ?_
            refine then_n ?_
            refine C_ret ?_
            refine blk_r ?_
            refine then_r ?_
            refine F_ret (rs := [.cell 6 42, .tmp 7]) [rdV (rCount bs err most).2.1 (rCount bs err most).2.2, .bool true] Try.results21 ?_ ?_
            · exact ⟨⟨_, rfl, finR hb9⟩, rfl, trivial⟩
            · exact ⟨_, _, rfl, hR7.mv hm8 (fun k _ hk he => by have : k = b6 := he; omega), rCount_le _ _ _, (hm06.drew.ofNo.trans hm7 fun _ _ h => h).new hm8 hw6⟩
          · rintro _ w7 ⟨rfl, hR7, hm7⟩
            refine A_pure (i := 6) rfl (P_eq rfl rfl (decide_eq_true rfl)) ?_ (by decide +kernel) (by decide +kernel) (by decide +kernel) (fun _ _ _ _ h => h) rfl rfl rfl
            refine A_one (i := 0) (A_op rfl (S_loadS st_42 rfl (by first | exact h8d.row | exact (h8d.ne hm7 hne8).row) rfl ?_)) (by decide +kernel)
            refine A_one (i := 7) (A_op rfl (S_storeS ti_42 rfl rfl (rdC_one _ _) rfl (h6d.ne hm7 hne6) (by simp [rdC]) ?_)) (by decide +kernel)
            rintro w8 hb9 hm8
            refine A_pure (i := 8) rfl (P_assign rfl) ?_ (by decide +kernel) (by decide +kernel) (by decide +kernel) (fun _ _ _ _ h => h) rfl rfl rfl
            refine A_done (by decide +kernel) ?_
            refine then_n ?_
            refine C_ret ?_
            refine blk_r ?_
            refine then_r ?_
            refine F_ret (rs := [.cell 6 42, .tmp 7]) [rdV (rCount bs err most).2.1 (rCount bs err most).2.2, .bool true] Try.results21 ?_ ?_
            · exact ⟨⟨_, rfl, finR hb9⟩, rfl, trivial⟩
            · exact ⟨_, _, rfl, hR7.mv hm8 (fun k _ hk he => by have : k = b6 := he; omega), rCount_le _ _ _, (hm06.drew.ofNo.trans hm7 fun _ _ h => h).new hm8 hw6⟩
      · refine C_region ?_
        refine L (S (P_eq rfl rfl (decide_eq_false (by omega))) ?_)
        refine L (S (P_assign rfl) ?_)
        refine L_nil ?_
        refine then_n ?_
        refine C_false rfl ?_
        refine C_seq ?_
        by_cases hc3 : r = 3
        · subst hc3
          refine C_region ?_
          refine L (S (P_eq rfl rfl (decide_eq_true (by omega))) ?_)
          refine L (S (P_assign rfl) ?_)
          refine L_nil ?_
          refine then_n ?_
          refine C_true rfl ?_
          refine C_seq ?_
          refine C_region ?_
          refine L (S_loadS st_42 rfl h4.row rfl ?_)
          refine L (S (P_fieldAddr fo_44_1 rfl) ?_)
          refine L (S_load sc_3 rfl (h5.cell (i := 1) rfl) ?_)
          refine L (S_call cb_33 rfl (reftaketext_ret bs err most hm0 hm9 hl) ?_)
          rintro _ w4 ⟨rfl, hm4⟩
          refine L (S (P_move rfl) ?_)
          refine L (S (P_extract rfl rfl) ?_)
          refine L (S (P_extract rfl rfl) ?_)
          refine L (S_alloc (zs := [(.string (ByteArray.mk #[])), (.int .i64 0)]) ti_42 rfl ?_)
          rintro b8 w5 hb8 hm5 hn5
          refine L (S_storeS ti_42 rfl rfl (rdC_one _ _) rfl hb8 (by simp [rdC]) ?_)
          rintro w6 hb8' hm6
          refine L (S (P_assign rfl) ?_)
          refine L_nil ?_
          refine then_n ?_
          refine C_seq ?_
          have h8 : Blk w6 b8 (rdC (rText bs err most).2.1 (rText bs err most).2.2) 42 := hb8'
          have hm36 : Mv No w3 w6 := (hm4.no hm5).new hm6 (Nat.le_trans hm4.size hn5)
          have hne8 : b8 ≠ g := by have := hm03.size; have := hm4.size; omega
          have hne6 : b6 ≠ g := by omega
          have hne5 : b5 ≠ g := by omega
          have h86 : b8 ≠ b6 := by have := h6.lt; have := hm4.size; omega
          have h6' := h6.no hm36
          have h5' := h5.no hm36
          have h8d := h8.no (Mv.refl w6).drew
          have h6d := h6'.no (Mv.refl w6).drew
          have h5d := h5'.no (Mv.refl w6).drew
          have hR6 := hR3.no hm36
          have hm06 : Mv No w w6 := hm03.no hm36
          clear hb8 hb8'
          refine C_draw 9 mixed rfl ?_
          refine A_pure (i := 1) rfl (P_move rfl) ?_ (by decide +kernel) (by decide +kernel) (by decide +kernel) (fun _ _ _ _ h => h) rfl rfl rfl
          refine A_pure (i := 2) rfl (P_fieldAddr fo_44_1 rfl) ?_ (by decide +kernel) (by decide +kernel) (by decide +kernel) (fun _ _ _ _ h => h) rfl rfl rfl
          refine A_pure (i := 5) rfl (P_move rfl) ?_ (by decide +kernel) (by decide +kernel) (by decide +kernel) (fun _ _ _ _ h => h) rfl rfl rfl
          refine A_two (i := 0) (i2 := 3) (A_op rfl (S_loadS st_42 rfl (by first | exact h8d.row | exact (h8d.ne hm7 hne8).row) rfl ?_)) (A_op rfl (S_load sc_3 rfl (by first | exact h5d.cell (i := 1) rfl | exact (h5d.ne hm7 hne5).cell (i := 1) rfl) ?_)) (by decide +kernel)
          · refine A_one (i := 3) (A_op rfl (S_load sc_3 rfl (by first | exact h5d.cell (i := 1) rfl | exact (h5d.ne hm7 hne5).cell (i := 1) rfl) ?_)) (by decide +kernel)
            refine A_one (i := 4) (A_op rfl (S_call cb_18 rfl (rtext_ret most hm0 hm9 hR6.drew) ?_)) (by decide +kernel)
            rintro _ w7 ⟨rfl, hR7, hm7⟩
            refine A_pure (i := 6) rfl (P_eqT rfl rfl (decide_eq_true rfl)) ?_ (by decide +kernel) (by decide +kernel) (by decide +kernel) (fun _ _ _ _ h => h) rfl rfl rfl
            refine A_one (i := 7) (A_op rfl (S_storeS ti_42 rfl rfl (rdC_one _ _) rfl (h6d.ne hm7 hne6) (by simp [rdC]) ?_)) (by decide +kernel)
            rintro w8 hb9 hm8
            refine A_pure (i := 8) rfl (P_assign rfl) ?_ (by decide +kernel) (by decide +kernel) (by decide +kernel) (fun _ _ _ _ h => h) rfl rfl rfl
            refine A_done (by decide +kernel) ?_
            refine then_n ?_
            refine C_ret ?_
            refine blk_r ?_
            refine then_r ?_
            refine F_ret (rs := [.cell 6 42, .tmp 7]) [rdV (rText bs err most).2.1 (rText bs err most).2.2, .bool true] Try.results21 ?_ ?_
            · exact ⟨⟨_, rfl, finR hb9⟩, rfl, trivial⟩
            · exact ⟨_, _, rfl, hR7.mv hm8 (fun k _ hk he => by have : k = b6 := he; omega), rText_le _ _ _, (hm06.drew.ofNo.trans hm7 fun _ _ h => h).new hm8 hw6⟩
          · refine A_two (i := 0) (i2 := 4) (A_op rfl (S_loadS st_42 rfl (by first | exact h8d.row | exact (h8d.ne hm7 hne8).row) rfl ?_)) (A_op rfl (S_call cb_18 rfl (rtext_ret most hm0 hm9 hR6.drew) ?_)) (by decide +kernel)
            · refine A_one (i := 4) (A_op rfl (S_call cb_18 rfl (rtext_ret most hm0 hm9 hR6.drew) ?_)) (by decide +kernel)
              rintro _ w7 ⟨rfl, hR7, hm7⟩
              refine A_pure (i := 6) rfl (P_eqT rfl rfl (decide_eq_true rfl)) ?_ (by decide +kernel) (by decide +kernel) (by decide +kernel) (fun _ _ _ _ h => h) rfl rfl rfl
              refine A_one (i := 7) (A_op rfl (S_storeS ti_42 rfl rfl (rdC_one _ _) rfl (h6d.ne hm7 hne6) (by simp [rdC]) ?_)) (by decide +kernel)
              rintro w8 hb9 hm8
              refine A_pure (i := 8) rfl (P_assign rfl) ?_ (by decide +kernel) (by decide +kernel) (by decide +kernel) (fun _ _ _ _ h => h) rfl rfl rfl
              refine A_done (by decide +kernel) ?_
              refine then_n ?_
              refine C_ret ?_
              refine blk_r ?_
              refine then_r ?_
              refine F_ret (rs := [.cell 6 42, .tmp 7]) [rdV (rText bs err most).2.1 (rText bs err most).2.2, .bool true] Try.results21 ?_ ?_
              · exact ⟨⟨_, rfl, finR hb9⟩, rfl, trivial⟩
              · exact ⟨_, _, rfl, hR7.mv hm8 (fun k _ hk he => by have : k = b6 := he; omega), rText_le _ _ _, (hm06.drew.ofNo.trans hm7 fun _ _ h => h).new hm8 hw6⟩
            · rintro _ w7 ⟨rfl, hR7, hm7⟩
              refine A_pure (i := 6) rfl (P_eqT rfl rfl (decide_eq_true rfl)) ?_ (by decide +kernel) (by decide +kernel) (by decide +kernel) (fun _ _ _ _ h => h) rfl rfl rfl
              refine A_one (i := 0) (A_op rfl (S_loadS st_42 rfl (by first | exact h8d.row | exact (h8d.ne hm7 hne8).row) rfl ?_)) (by decide +kernel)
              refine A_one (i := 7) (A_op rfl (S_storeS ti_42 rfl rfl (rdC_one _ _) rfl (h6d.ne hm7 hne6) (by simp [rdC]) ?_)) (by decide +kernel)
              rintro w8 hb9 hm8
              refine A_pure (i := 8) rfl (P_assign rfl) ?_ (by decide +kernel) (by decide +kernel) (by decide +kernel) (fun _ _ _ _ h => h) rfl rfl rfl
              refine A_done (by decide +kernel) ?_
              refine then_n ?_
              refine C_ret ?_
              refine blk_r ?_
              refine then_r ?_
              refine F_ret (rs := [.cell 6 42, .tmp 7]) [rdV (rText bs err most).2.1 (rText bs err most).2.2, .bool true] Try.results21 ?_ ?_
              · exact ⟨⟨_, rfl, finR hb9⟩, rfl, trivial⟩
              · exact ⟨_, _, rfl, hR7.mv hm8 (fun k _ hk he => by have : k = b6 := he; omega), rText_le _ _ _, (hm06.drew.ofNo.trans hm7 fun _ _ h => h).new hm8 hw6⟩
        · refine C_region ?_
          refine L (S (P_eq rfl rfl (decide_eq_false (by omega))) ?_)
          refine L (S (P_assign rfl) ?_)
          refine L_nil ?_
          refine then_n ?_
          refine C_false rfl ?_
          refine C_seq ?_
          by_cases hc4 : r = 4
          · subst hc4
            refine C_region ?_
            refine L (S (P_eq rfl rfl (decide_eq_true (by omega))) ?_)
            refine L (S (P_assign rfl) ?_)
            refine L_nil ?_
            refine then_n ?_
            refine C_true rfl ?_
            refine C_seq ?_
            refine C_region ?_
            refine L (S_loadS st_42 rfl h4.row rfl ?_)
            refine L (S_call cb_34 rfl (reftakebool_ret bs err hl) ?_)
            rintro _ w4 ⟨rfl, hm4⟩
            refine L (S (P_move rfl) ?_)
            refine L (S (P_extract rfl rfl) ?_)
            refine L (S (P_extract rfl rfl) ?_)
            refine L (S_alloc (zs := [(.string (ByteArray.mk #[])), (.int .i64 0)]) ti_42 rfl ?_)
            rintro b8 w5 hb8 hm5 hn5
            refine L (S_storeS ti_42 rfl rfl (rdC_one _ _) rfl hb8 (by simp [rdC]) ?_)
            rintro w6 hb8' hm6
            refine L (S (P_assign rfl) ?_)
            refine L_nil ?_
            refine then_n ?_
            refine C_seq ?_
            have h8 : Blk w6 b8 (rdC (rBool bs err).2.1 (rBool bs err).2.2) 42 := hb8'
            have hm36 : Mv No w3 w6 := (hm4.no hm5).new hm6 (Nat.le_trans hm4.size hn5)
            have hne8 : b8 ≠ g := by have := hm03.size; have := hm4.size; omega
            have hne6 : b6 ≠ g := by omega
            have hne5 : b5 ≠ g := by omega
            have h86 : b8 ≠ b6 := by have := h6.lt; have := hm4.size; omega
            have h6' := h6.no hm36
            have h5' := h5.no hm36
            have h8d := h8.no (Mv.refl w6).drew
            have h6d := h6'.no (Mv.refl w6).drew
            have h5d := h5'.no (Mv.refl w6).drew
            have hR6 := hR3.no hm36
            have hm06 : Mv No w w6 := hm03.no hm36
            clear hb8 hb8'
            refine C_draw 7 mixed rfl ?_
            refine A_pure (i := 1) rfl (P_move rfl) ?_ (by decide +kernel) (by decide +kernel) (by decide +kernel) (fun _ _ _ _ h => h) rfl rfl rfl
            refine A_pure (i := 3) rfl (P_move rfl) ?_ (by decide +kernel) (by decide +kernel) (by decide +kernel) (fun _ _ _ _ h => h) rfl rfl rfl
            refine A_two (i := 0) (i2 := 2) (A_op rfl (S_loadS st_42 rfl (by first | exact h8d.row | exact (h8d.ne hm7 hne8).row) rfl ?_)) (A_op rfl (S_call cb_25 rfl (rbool_ret hR6.drew) ?_)) (by decide +kernel)
            · refine A_one (i := 2) (A_op rfl (S_call cb_25 rfl (rbool_ret hR6.drew) ?_)) (by decide +kernel)
              rintro _ w7 ⟨rfl, hR7, hm7⟩
              refine A_pure (i := 4) rfl (P_eqB (β := true) Try.underlying4 rfl rfl (by simp)) ?_ (by decide +kernel) (by decide +kernel) (by decide +kernel) (fun _ _ _ _ h => h) rfl rfl rfl
              refine A_one (i := 5) (A_op rfl (S_storeS ti_42 rfl rfl (rdC_one _ _) rfl (h6d.ne hm7 hne6) (by simp [rdC]) ?_)) (by decide +kernel)
              rintro w8 hb9 hm8
              refine A_pure (i := 6) rfl (P_assign rfl) ?_ (by decide +kernel) (by decide +kernel) (by decide +kernel) (fun _ _ _ _ h => h) rfl rfl rfl
              refine A_done (by decide +kernel) ?_
              refine then_n ?_
              refine C_ret ?_
              refine blk_r ?_
              refine then_r ?_
              refine F_ret (rs := [.cell 6 42, .tmp 7]) [rdV (rBool bs err).2.1 (rBool bs err).2.2, .bool true] Try.results21 ?_ ?_
              · exact ⟨⟨_, rfl, finR hb9⟩, rfl, trivial⟩
              · exact ⟨_, _, rfl, hR7.mv hm8 (fun k _ hk he => by have : k = b6 := he; omega), rBool_le _ _, (hm06.drew.ofNo.trans hm7 fun _ _ h => h).new hm8 hw6⟩
            · rintro _ w7 ⟨rfl, hR7, hm7⟩
              refine A_pure (i := 4) rfl (P_eqB (β := true) Try.underlying4 rfl rfl (by simp)) ?_ (by decide +kernel) (by decide +kernel) (by decide +kernel) (fun _ _ _ _ h => h) rfl rfl rfl
              refine A_one (i := 0) (A_op rfl (S_loadS st_42 rfl (by first | exact h8d.row | exact (h8d.ne hm7 hne8).row) rfl ?_)) (by decide +kernel)
              refine A_one (i := 5) (A_op rfl (S_storeS ti_42 rfl rfl (rdC_one _ _) rfl (h6d.ne hm7 hne6) (by simp [rdC]) ?_)) (by decide +kernel)
              rintro w8 hb9 hm8
              refine A_pure (i := 6) rfl (P_assign rfl) ?_ (by decide +kernel) (by decide +kernel) (by decide +kernel) (fun _ _ _ _ h => h) rfl rfl rfl
              refine A_done (by decide +kernel) ?_
              refine then_n ?_
              refine C_ret ?_
              refine blk_r ?_
              refine then_r ?_
              refine F_ret (rs := [.cell 6 42, .tmp 7]) [rdV (rBool bs err).2.1 (rBool bs err).2.2, .bool true] Try.results21 ?_ ?_
              · exact ⟨⟨_, rfl, finR hb9⟩, rfl, trivial⟩
              · exact ⟨_, _, rfl, hR7.mv hm8 (fun k _ hk he => by have : k = b6 := he; omega), rBool_le _ _, (hm06.drew.ofNo.trans hm7 fun _ _ h => h).new hm8 hw6⟩
          · refine C_region ?_
            refine L (S (P_eq rfl rfl (decide_eq_false (by omega))) ?_)
            refine L (S (P_assign rfl) ?_)
            refine L_nil ?_
            refine then_n ?_
            refine C_false rfl ?_
            refine C_seq ?_
            by_cases hc5 : r = 5
            · subst hc5
              refine C_region ?_
              refine L (S (P_eq rfl rfl (decide_eq_true (by omega))) ?_)
              refine L (S (P_assign rfl) ?_)
              refine L_nil ?_
              refine then_n ?_
              refine C_true rfl ?_
              refine C_seq ?_
              refine C_region ?_
              refine L (S_loadS st_42 rfl h4.row rfl ?_)
              refine L (S_call cb_35 rfl (refend_ret bs err) ?_)
              rintro _ w4 ⟨rfl, hm4⟩
              refine L (S_alloc (zs := [(.string (ByteArray.mk #[])), (.int .i64 0)]) ti_42 rfl ?_)
              rintro b8 w5 hb8 hm5 hn5
              refine L (S_storeS ti_42 rfl rfl (rdC_one _ _) rfl hb8 (by simp [rdC]) ?_)
              rintro w6 hb8' hm6
              refine L_nil ?_
              refine then_n ?_
              refine C_seq ?_
              have h8 : Blk w6 b8 (rdC bs (rEnd bs err)) 42 := hb8'
              have hm36 : Mv No w3 w6 := (hm4.no hm5).new hm6 (Nat.le_trans hm4.size hn5)
              have hne8 : b8 ≠ g := by have := hm03.size; have := hm4.size; omega
              have hne6 : b6 ≠ g := by omega
              have hne5 : b5 ≠ g := by omega
              have h86 : b8 ≠ b6 := by have := h6.lt; have := hm4.size; omega
              have h6' := h6.no hm36
              have h5' := h5.no hm36
              have h8d := h8.no (Mv.refl w6).drew
              have h6d := h6'.no (Mv.refl w6).drew
              have h5d := h5'.no (Mv.refl w6).drew
              have hR6 := hR3.no hm36
              have hm06 : Mv No w w6 := hm03.no hm36
              clear hb8 hb8'
              refine C_draw 8 mixed rfl ?_
              refine A_pure (i := 1) rfl (P_move rfl) ?_ (by decide +kernel) (by decide +kernel) (by decide +kernel) (fun _ _ _ _ h => h) rfl rfl rfl
              refine A_pure (i := 3) rfl (P_fieldAddr fo_42_1 rfl) ?_ (by decide +kernel) (by decide +kernel) (by decide +kernel) (fun _ _ _ _ h => h) rfl rfl rfl
              refine A_three (i := 0) (i2 := 2) (i3 := 4) (A_op rfl (S_loadS st_42 rfl (by first | exact h8d.row | exact (h8d.ne hm7 hne8).row) rfl ?_)) (A_op rfl (S_call cb_20 rfl (rend_ret hR6.drew) ?_)) (A_op rfl (S_load sc_3 rfl (by first | exact h8d.cell (i := 1) rfl | exact (h8d.ne hm7 hne8).cell (i := 1) rfl | exact ((h8d.ne hm7 hne8).ne hm8 h86).cell (i := 1) rfl) ?_)) (by decide +kernel)
              · refine A_two (i := 2) (i2 := 4) (A_op rfl (S_call cb_20 rfl (rend_ret hR6.drew) ?_)) (A_op rfl (S_load sc_3 rfl (by first | exact h8d.cell (i := 1) rfl | exact (h8d.ne hm7 hne8).cell (i := 1) rfl | exact ((h8d.ne hm7 hne8).ne hm8 h86).cell (i := 1) rfl) ?_)) (by decide +kernel)
                · rintro _ w7 ⟨rfl, hR7, hm7⟩
                  refine A_two (i := 4) (i2 := 6) (A_op rfl (S_load sc_3 rfl (by first | exact h8d.cell (i := 1) rfl | exact (h8d.ne hm7 hne8).cell (i := 1) rfl | exact ((h8d.ne hm7 hne8).ne hm8 h86).cell (i := 1) rfl) ?_)) (A_op rfl (S_storeS ti_42 rfl rfl (rdC_one _ _) rfl (h6d.ne hm7 hne6) (by simp [rdC]) ?_)) (by decide +kernel)
                  · refine A_pure (i := 5) rfl (P_eq rfl rfl (decide_eq_true rfl)) ?_ (by decide +kernel) (by decide +kernel) (by decide +kernel) (fun _ _ _ _ h => h) rfl rfl rfl
                    refine A_one (i := 6) (A_op rfl (S_storeS ti_42 rfl rfl (rdC_one _ _) rfl (h6d.ne hm7 hne6) (by simp [rdC]) ?_)) (by decide +kernel)
                    rintro w8 hb9 hm8
                    refine A_pure (i := 7) rfl (P_assign rfl) ?_ (by decide +kernel) (by decide +kernel) (by decide +kernel) (fun _ _ _ _ h => h) rfl rfl rfl
                    refine A_done (by decide +kernel) ?_
                    refine then_n ?_
                    refine C_ret ?_
                    refine blk_r ?_
                    refine then_r ?_
                    refine F_ret (rs := [.cell 6 42, .tmp 7]) [rdV bs (rEnd bs err), .bool true] Try.results21 ?_ ?_
                    · exact ⟨⟨_, rfl, finR hb9⟩, rfl, trivial⟩
                    · exact ⟨_, _, rfl, hR7.mv hm8 (fun k _ hk he => by have : k = b6 := he; omega), Nat.le_refl _, (hm06.drew.ofNo.trans hm7 fun _ _ h => h).new hm8 hw6⟩
                  · rintro w8 hb9 hm8
                    refine A_one (i := 4) (A_op rfl (S_load sc_3 rfl (by first | exact h8d.cell (i := 1) rfl | exact (h8d.ne hm7 hne8).cell (i := 1) rfl | exact ((h8d.ne hm7 hne8).ne hm8 h86).cell (i := 1) rfl) ?_)) (by decide +kernel)
                    refine A_pure (i := 5) rfl (P_eq rfl rfl (decide_eq_true rfl)) ?_ (by decide +kernel) (by decide +kernel) (by decide +kernel) (fun _ _ _ _ h => h) rfl rfl rfl
                    refine A_pure (i := 7) rfl (P_assign rfl) ?_ (by decide +kernel) (by decide +kernel) (by decide +kernel) (fun _ _ _ _ h => h) rfl rfl rfl
                    refine A_done (by decide +kernel) ?_
                    refine then_n ?_
                    refine C_ret ?_
                    refine blk_r ?_
                    refine then_r ?_
                    refine F_ret (rs := [.cell 6 42, .tmp 7]) [rdV bs (rEnd bs err), .bool true] Try.results21 ?_ ?_
                    · exact ⟨⟨_, rfl, finR hb9⟩, rfl, trivial⟩
                    · exact ⟨_, _, rfl, hR7.mv hm8 (fun k _ hk he => by have : k = b6 := he; omega), Nat.le_refl _, (hm06.drew.ofNo.trans hm7 fun _ _ h => h).new hm8 hw6⟩
                · refine A_one (i := 2) (A_op rfl (S_call cb_20 rfl (rend_ret hR6.drew) ?_)) (by decide +kernel)
                  rintro _ w7 ⟨rfl, hR7, hm7⟩
                  refine A_pure (i := 5) rfl (P_eq rfl rfl (decide_eq_true rfl)) ?_ (by decide +kernel) (by decide +kernel) (by decide +kernel) (fun _ _ _ _ h => h) rfl rfl rfl
                  refine A_one (i := 6) (A_op rfl (S_storeS ti_42 rfl rfl (rdC_one _ _) rfl (h6d.ne hm7 hne6) (by simp [rdC]) ?_)) (by decide +kernel)
                  rintro w8 hb9 hm8
                  refine A_pure (i := 7) rfl (P_assign rfl) ?_ (by decide +kernel) (by decide +kernel) (by decide +kernel) (fun _ _ _ _ h => h) rfl rfl rfl
                  refine A_done (by decide +kernel) ?_
                  refine then_n ?_
                  refine C_ret ?_
                  refine blk_r ?_
                  refine then_r ?_
                  refine F_ret (rs := [.cell 6 42, .tmp 7]) [rdV bs (rEnd bs err), .bool true] Try.results21 ?_ ?_
                  · exact ⟨⟨_, rfl, finR hb9⟩, rfl, trivial⟩
                  · exact ⟨_, _, rfl, hR7.mv hm8 (fun k _ hk he => by have : k = b6 := he; omega), Nat.le_refl _, (hm06.drew.ofNo.trans hm7 fun _ _ h => h).new hm8 hw6⟩
              · rintro _ w7 ⟨rfl, hR7, hm7⟩
                refine A_two (i := 0) (i2 := 4) (A_op rfl (S_loadS st_42 rfl (by first | exact h8d.row | exact (h8d.ne hm7 hne8).row) rfl ?_)) (A_op rfl (S_load sc_3 rfl (by first | exact h8d.cell (i := 1) rfl | exact (h8d.ne hm7 hne8).cell (i := 1) rfl | exact ((h8d.ne hm7 hne8).ne hm8 h86).cell (i := 1) rfl) ?_)) (by decide +kernel)
                · refine A_two (i := 4) (i2 := 6) (A_op rfl (S_load sc_3 rfl (by first | exact h8d.cell (i := 1) rfl | exact (h8d.ne hm7 hne8).cell (i := 1) rfl | exact ((h8d.ne hm7 hne8).ne hm8 h86).cell (i := 1) rfl) ?_)) (A_op rfl (S_storeS ti_42 rfl rfl (rdC_one _ _) rfl (h6d.ne hm7 hne6) (by simp [rdC]) ?_)) (by decide +kernel)
                  · refine A_pure (i := 5) rfl (P_eq rfl rfl (decide_eq_true rfl)) ?_ (by decide +kernel) (by decide +kernel) (by decide +kernel) (fun _ _ _ _ h => h) rfl rfl rfl
                    refine A_one (i := 6) (A_op rfl (S_storeS ti_42 rfl rfl (rdC_one _ _) rfl (h6d.ne hm7 hne6) (by simp [rdC]) ?_)) (by decide +kernel)
                    rintro w8 hb9 hm8
                    refine A_pure (i := 7) rfl (P_assign rfl) ?_ (by decide +kernel) (by decide +kernel) (by decide +kernel) (fun _ _ _ _ h => h) rfl rfl rfl
                    refine A_done (by decide +kernel) ?_
                    refine then_n ?_
                    refine C_ret ?_
                    refine blk_r ?_
                    refine then_r ?_
                    refine F_ret (rs := [.cell 6 42, .tmp 7]) [rdV bs (rEnd bs err), .bool true] Try.results21 ?_ ?_
                    · exact ⟨⟨_, rfl, finR hb9⟩, rfl, trivial⟩
                    · exact ⟨_, _, rfl, hR7.mv hm8 (fun k _ hk he => by have : k = b6 := he; omega), Nat.le_refl _, (hm06.drew.ofNo.trans hm7 fun _ _ h => h).new hm8 hw6⟩
                  · rintro w8 hb9 hm8
                    refine A_one (i := 4) (A_op rfl (S_load sc_3 rfl (by first | exact h8d.cell (i := 1) rfl | exact (h8d.ne hm7 hne8).cell (i := 1) rfl | exact ((h8d.ne hm7 hne8).ne hm8 h86).cell (i := 1) rfl) ?_)) (by decide +kernel)
                    refine A_pure (i := 5) rfl (P_eq rfl rfl (decide_eq_true rfl)) ?_ (by decide +kernel) (by decide +kernel) (by decide +kernel) (fun _ _ _ _ h => h) rfl rfl rfl
                    refine A_pure (i := 7) rfl (P_assign rfl) ?_ (by decide +kernel) (by decide +kernel) (by decide +kernel) (fun _ _ _ _ h => h) rfl rfl rfl
                    refine A_done (by decide +kernel) ?_
                    refine then_n ?_
                    refine C_ret ?_
                    refine blk_r ?_
                    refine then_r ?_
                    refine F_ret (rs := [.cell 6 42, .tmp 7]) [rdV bs (rEnd bs err), .bool true] Try.results21 ?_ ?_
                    · exact ⟨⟨_, rfl, finR hb9⟩, rfl, trivial⟩
                    · exact ⟨_, _, rfl, hR7.mv hm8 (fun k _ hk he => by have : k = b6 := he; omega), Nat.le_refl _, (hm06.drew.ofNo.trans hm7 fun _ _ h => h).new hm8 hw6⟩
                · refine A_pure (i := 5) rfl (P_eq rfl rfl (decide_eq_true rfl)) ?_ (by decide +kernel) (by decide +kernel) (by decide +kernel) (fun _ _ _ _ h => h) rfl rfl rfl
                  refine A_one (i := 0) (A_op rfl (S_loadS st_42 rfl (by first | exact h8d.row | exact (h8d.ne hm7 hne8).row) rfl ?_)) (by decide +kernel)
                  refine A_one (i := 6) (A_op rfl (S_storeS ti_42 rfl rfl (rdC_one _ _) rfl (h6d.ne hm7 hne6) (by simp [rdC]) ?_)) (by decide +kernel)
                  rintro w8 hb9 hm8
                  refine A_pure (i := 7) rfl (P_assign rfl) ?_ (by decide +kernel) (by decide +kernel) (by decide +kernel) (fun _ _ _ _ h => h) rfl rfl rfl
                  refine A_done (by decide +kernel) ?_
                  refine then_n ?_
                  refine C_ret ?_
                  refine blk_r ?_
                  refine then_r ?_
                  refine F_ret (rs := [.cell 6 42, .tmp 7]) [rdV bs (rEnd bs err), .bool true] Try.results21 ?_ ?_
                  · exact ⟨⟨_, rfl, finR hb9⟩, rfl, trivial⟩
                  · exact ⟨_, _, rfl, hR7.mv hm8 (fun k _ hk he => by have : k = b6 := he; omega), Nat.le_refl _, (hm06.drew.ofNo.trans hm7 fun _ _ h => h).new hm8 hw6⟩
              · refine A_two (i := 0) (i2 := 2) (A_op rfl (S_loadS st_42 rfl (by first | exact h8d.row | exact (h8d.ne hm7 hne8).row) rfl ?_)) (A_op rfl (S_call cb_20 rfl (rend_ret hR6.drew) ?_)) (by decide +kernel)
                · refine A_one (i := 2) (A_op rfl (S_call cb_20 rfl (rend_ret hR6.drew) ?_)) (by decide +kernel)
                  rintro _ w7 ⟨rfl, hR7, hm7⟩
                  refine A_pure (i := 5) rfl (P_eq rfl rfl (decide_eq_true rfl)) ?_ (by decide +kernel) (by decide +kernel) (by decide +kernel) (fun _ _ _ _ h => h) rfl rfl rfl
                  refine A_one (i := 6) (A_op rfl (S_storeS ti_42 rfl rfl (rdC_one _ _) rfl (h6d.ne hm7 hne6) (by simp [rdC]) ?_)) (by decide +kernel)
                  rintro w8 hb9 hm8
                  refine A_pure (i := 7) rfl (P_assign rfl) ?_ (by decide +kernel) (by decide +kernel) (by decide +kernel) (fun _ _ _ _ h => h) rfl rfl rfl
                  refine A_done (by decide +kernel) ?_
                  refine then_n ?_
                  refine C_ret ?_
                  refine blk_r ?_
                  refine then_r ?_
                  refine F_ret (rs := [.cell 6 42, .tmp 7]) [rdV bs (rEnd bs err), .bool true] Try.results21 ?_ ?_
                  · exact ⟨⟨_, rfl, finR hb9⟩, rfl, trivial⟩
                  · exact ⟨_, _, rfl, hR7.mv hm8 (fun k _ hk he => by have : k = b6 := he; omega), Nat.le_refl _, (hm06.drew.ofNo.trans hm7 fun _ _ h => h).new hm8 hw6⟩
                · rintro _ w7 ⟨rfl, hR7, hm7⟩
                  refine A_pure (i := 5) rfl (P_eq rfl rfl (decide_eq_true rfl)) ?_ (by decide +kernel) (by decide +kernel) (by decide +kernel) (fun _ _ _ _ h => h) rfl rfl rfl
                  refine A_one (i := 0) (A_op rfl (S_loadS st_42 rfl (by first | exact h8d.row | exact (h8d.ne hm7 hne8).row) rfl ?_)) (by decide +kernel)
                  refine A_one (i := 6) (A_op rfl (S_storeS ti_42 rfl rfl (rdC_one _ _) rfl (h6d.ne hm7 hne6) (by simp [rdC]) ?_)) (by decide +kernel)
                  rintro w8 hb9 hm8
                  refine A_pure (i := 7) rfl (P_assign rfl) ?_ (by decide +kernel) (by decide +kernel) (by decide +kernel) (fun _ _ _ _ h => h) rfl rfl rfl
                  refine A_done (by decide +kernel) ?_
                  refine then_n ?_
                  refine C_ret ?_
                  refine blk_r ?_
                  refine then_r ?_
                  refine F_ret (rs := [.cell 6 42, .tmp 7]) [rdV bs (rEnd bs err), .bool true] Try.results21 ?_ ?_
                  · exact ⟨⟨_, rfl, finR hb9⟩, rfl, trivial⟩
                  · exact ⟨_, _, rfl, hR7.mv hm8 (fun k _ hk he => by have : k = b6 := he; omega), Nat.le_refl _, (hm06.drew.ofNo.trans hm7 fun _ _ h => h).new hm8 hw6⟩
            · refine C_region ?_
              refine L (S (P_eq rfl rfl (decide_eq_false (by omega))) ?_)
              refine L (S (P_assign rfl) ?_)
              refine L_nil ?_
              refine then_n ?_
              refine C_false rfl ?_
              refine C_skip ?_
              refine blk_n ?_
              refine then_n ?_
              refine C_seq ?_
              refine C_seq ?_

              by_cases he : err = 0
              · subst he
                refine C_region ?_
                refine L (S (P_fieldAddr fo_42_1 rfl) ?_)
                refine L (S_load sc_3 rfl (h4.cell (i := 1) rfl) ?_)
                refine L (S (P_eq rfl rfl (decide_eq_true rfl)) ?_)
                refine L_nil ?_
                refine then_n ?_
                refine C_true rfl ?_
                refine C_region ?_
                refine L (S (P_fieldAddr fo_42_1 rfl) ?_)
                refine L (S_store ti_3 rfl rfl rfl h4 (by simp [rdC]) ?_)
                rintro w4 hb4 hm4
                refine L_nil ?_
                refine then_n ?_
                refine C_seq ?_
                refine C_region ?_
                refine L (S (P_move rfl) ?_)
                refine L (S_call cb_22 rfl (rFail_ret 8 (hR3.mv hm4 (fun k _ hk he => by have : k = b4 := he; omega))) ?_)
                rintro _ w5 ⟨hR5, hm5⟩
                refine L_nil ?_
                refine then_n ?_
                refine C_seq ?_
                refine C_region ?_
                refine L (S_loadS st_42 rfl (show Blk w5 b4 (rdC bs 8) 42 from hb4.ne hm5 (by omega)).row rfl ?_)
                refine L (S_storeS ti_42 rfl rfl (rdC_one bs 8) rfl ((h6.ne hm4 h64).ne hm5 (by omega)) (by simp [rdC]) ?_)
                rintro w6 hb9 hm6
                refine L (S (P_assign rfl) ?_)
                refine L_nil ?_
                refine then_n ?_
                refine C_ret ?_
                refine F_ret (rs := [.cell 6 42, .tmp 7]) [rdV bs 8, .bool true] Try.results21 ?_ ?_
                · exact ⟨⟨_, rfl, finR hb9⟩, rfl, trivial⟩
                · exact ⟨_, _, rfl, IsR.mv (show IsR w5 lo g bs 8 from hR5) hm6 (fun k _ hk he => by have : k = b6 := he; omega), Nat.le_refl _, ((hm03.new hm4 hw4).ofNo.trans hm5 fun _ _ h => h).new hm6 hw6⟩
              · refine C_region ?_
                refine L (S (P_fieldAddr fo_42_1 rfl) ?_)
                refine L (S_load sc_3 rfl (h4.cell (i := 1) rfl) ?_)
                refine L (S (P_eq rfl rfl (decide_eq_false he)) ?_)
                refine L_nil ?_
                refine then_n ?_
                refine C_false rfl ?_
                refine C_skip ?_
                refine then_n ?_
                refine C_seq ?_
                refine C_region ?_
                refine L (S (P_move rfl) ?_)
                refine L (S_call cb_22 rfl (rFail_ret 8 hR3) ?_)
                rintro _ w5 ⟨hR5, hm5⟩
                refine L_nil ?_
                refine then_n ?_
                refine C_seq ?_
                refine C_region ?_
                refine L (S_loadS st_42 rfl (h4.ne hm5 (by omega)).row rfl ?_)
                refine L (S_storeS ti_42 rfl rfl (rdC_one _ _) rfl (h6.ne hm5 (by omega)) (by simp [rdC]) ?_)
                rintro w6 hb9 hm6
                refine L (S (P_assign rfl) ?_)
                refine L_nil ?_
                refine then_n ?_
                refine C_ret ?_
                have hF : rFail err 8 = err := by unfold rFail; rw [if_neg he]
                rw [hF] at hR5
                refine F_ret (rs := [.cell 6 42, .tmp 7]) [rdV bs err, .bool true] Try.results21 ?_ ?_
                · exact ⟨⟨_, rfl, finR hb9⟩, rfl, trivial⟩
                · exact ⟨_, _, rfl, hR5.mv hm6 (fun k _ hk he => by have : k = b6 := he; omega), Nat.le_refl _, (hm03.ofNo.trans hm5 fun _ _ h => h).new hm6 hw6⟩


theorem IsR.low {w : World} {lo lo' g : Nat} {bs : List UInt8} {err : Int} (h : IsR w lo g bs err) (hl : lo' ≤ lo) : IsR w lo' g bs err := by
  obtain ⟨⟨A, cap, hb, hr, h1, h2, h3⟩, h4⟩ := h
  exact ⟨⟨A, cap, hb, hr, h1, h2, fun a ha => ⟨(h3 a ha).1, Nat.le_trans hl (h3 a ha).2⟩⟩, Nat.le_trans hl h4⟩

theorem wireReads_ret {w : World} {A A2 : Option Addr} {cap cap2 : Nat} (bs : List UInt8) (hr : SlR w A (bs.map bv)) (hl : bs.length ≤ 140737488351232) (l : List (Int × Int)) (hp : PairsR w A2 l) (hlm : l.length ≤ maxLen)
    (hrg : ∀ p ∈ l, (-9223372036854775808 ≤ p.1 ∧ p.1 < 9223372036854775808) ∧ (-9223372036854775808 ≤ p.2 ∧ p.2 < 9223372036854775808)) :
    Ret Try.prog 7 [.slice A bs.length cap, .slice A2 l.length cap2] w fun v w' => v = .bool true ∧ Mv No w w' := by
  unfold maxLen at hlm
  refine F_enter Try.func7 Try.ntmps7 rfl rfl ?_
  refine C_seq ?_
  refine C_region ?_
  refine L (S (P_assign rfl) ?_)
  refine L_nil ?_
  refine then_n ?_
  refine C_seq ?_
  refine C_seq ?_
  by_cases hbig : 2000 < bs.length
  · refine C_region ?_
    refine L (S_call cb_10 rfl (lives_ret) ?_)
    rintro _ w1 ⟨rfl, hm1⟩
    refine L (S (P_not rfl rfl) ?_)
    refine L (S (P_move rfl) ?_)
    refine L_yes (j := 2) (dj := 13) (b := false) (S (P_move rfl) ?_) rfl
    refine L_yes (j := 2) (dj := 13) (b := false) (S (P_lenS Try.underlying23 rfl) ?_) rfl
    refine L_yes (j := 2) (dj := 13) (b := false) (S (P_gt rfl rfl (decide_eq_true (by omega))) ?_) rfl
    refine L (S (P_pickF rfl rfl) ?_)
    refine L (S (P_move rfl) ?_)
    refine L_no (j := 7) (dj := 18) (b := false) (b' := true) (d := 19) rfl ?_
    refine L_no (j := 7) (dj := 18) (b := false) (b' := true) (d := 20) rfl ?_
    refine L_no (j := 7) (dj := 18) (b := false) (b' := true) (d := 21) rfl ?_
    refine L (S (P_pickT rfl rfl) ?_)
    refine L_nil ?_
    refine then_n ?_
    refine C_true rfl ?_
    refine C_seq ?_
    refine C_region ?_
    refine L (S_call cb_10 rfl (lives_ret) ?_)
    rintro _ w2 ⟨rfl, hm2⟩
    refine L (S (P_assign rfl) ?_)
    refine L_nil ?_
    refine then_n ?_
    refine C_ret ?_
    refine then_r ?_
    refine F_ret1 Try.results7 rfl ?_
    exact ⟨rfl, hm1.no hm2⟩
  · by_cases hbig2 : 200 < l.length
    · refine C_region ?_
      refine L (S_call cb_10 rfl (lives_ret) ?_)
      rintro _ w1 ⟨rfl, hm1⟩
      refine L (S (P_not rfl rfl) ?_)
      refine L (S (P_move rfl) ?_)
      refine L_yes (j := 2) (dj := 13) (b := false) (S (P_move rfl) ?_) rfl
      refine L_yes (j := 2) (dj := 13) (b := false) (S (P_lenS Try.underlying23 rfl) ?_) rfl
      refine L_yes (j := 2) (dj := 13) (b := false) (S (P_gt rfl rfl (decide_eq_false (by omega))) ?_) rfl
      refine L (S (P_pickF rfl rfl) ?_)
      refine L (S (P_move rfl) ?_)
      refine L_yes (j := 7) (dj := 18) (b := false) (S (P_move rfl) ?_) rfl
      refine L_yes (j := 7) (dj := 18) (b := false) (S (P_lenS Try.underlying40 rfl) ?_) rfl
      refine L_yes (j := 7) (dj := 18) (b := false) (S (P_gt rfl rfl (decide_eq_true (by omega))) ?_) rfl
      refine L (S (P_pickF rfl rfl) ?_)
      refine L_nil ?_
      refine then_n ?_
      refine C_true rfl ?_
      refine C_seq ?_
      refine C_region ?_
      refine L (S_call cb_10 rfl (lives_ret) ?_)
      rintro _ w2 ⟨rfl, hm2⟩
      refine L (S (P_assign rfl) ?_)
      refine L_nil ?_
      refine then_n ?_
      refine C_ret ?_
      refine then_r ?_
      refine F_ret1 Try.results7 rfl ?_
      exact ⟨rfl, hm1.no hm2⟩
    · refine C_region ?_
      refine L (S_call cb_10 rfl (lives_ret) ?_)
      rintro _ w1 ⟨rfl, hm1⟩
      refine L (S (P_not rfl rfl) ?_)
      refine L (S (P_move rfl) ?_)
      refine L_yes (j := 2) (dj := 13) (b := false) (S (P_move rfl) ?_) rfl
      refine L_yes (j := 2) (dj := 13) (b := false) (S (P_lenS Try.underlying23 rfl) ?_) rfl
      refine L_yes (j := 2) (dj := 13) (b := false) (S (P_gt rfl rfl (decide_eq_false (by omega))) ?_) rfl
      refine L (S (P_pickF rfl rfl) ?_)
      refine L (S (P_move rfl) ?_)
      refine L_yes (j := 7) (dj := 18) (b := false) (S (P_move rfl) ?_) rfl
      refine L_yes (j := 7) (dj := 18) (b := false) (S (P_lenS Try.underlying40 rfl) ?_) rfl
      refine L_yes (j := 7) (dj := 18) (b := false) (S (P_gt rfl rfl (decide_eq_false (by omega))) ?_) rfl
      refine L (S (P_pickF rfl rfl) ?_)
      refine L_nil ?_
      refine then_n ?_
      refine C_false rfl ?_
      refine C_skip ?_
      refine then_n ?_
      refine C_seq ?_
      have hm1d : Mv No w w1.drew := hm1.drew
      have hrd := hr.no hm1d
      refine C_cutg (γ := Nat × Nat × Nat) (fun q => [(1, .slice A2 l.length cap2), (5, .pointer (some ⟨q.2.1, 0, none⟩)), (6, .pointer (some ⟨q.2.2, 0, none⟩))]) (fun q wc => Mv No w wc ∧ IsR wc q.1 q.2.1 bs 0 ∧ Blk wc q.2.2 (rdC bs 0) 42 ∧ w.heap.size ≤ q.1 ∧ w.heap.size ≤ q.2.2 ∧ (q.2.2 < q.1 ∨ q.2.1 < q.2.2)) ?_ ?_
      · refine C_draw 8 mixed rfl ?_
        refine A_pure (i := 0) rfl (P_move rfl) ?_ (by decide +kernel) (by decide +kernel) (by decide +kernel) (fun _ _ _ _ h => h) rfl rfl rfl
        refine A_pure (i := 2) rfl (P_move rfl) ?_ (by decide +kernel) (by decide +kernel) (by decide +kernel) (fun _ _ _ _ h => h) rfl rfl rfl
        refine A_three (i := 1) (i2 := 3) (i3 := 5) (A_op rfl (S_call cb_12 rfl (read_ret bs (by first | exact hrd | exact hrd.no hm2) (by omega)) ?_)) (A_op rfl (S_bytesStr Try.underlying23 Try.underlying5 Try.underlying9 rfl (l := bs) (by first | exact hrd | exact hrd.no hm2 | exact hrd.no hm3 | exact (hrd.no hm2).no hm3 | exact (hrd.no hm3).no hm2) rfl ?_)) (A_op rfl (S_alloc (zs := [(.string (ByteArray.mk #[])), (.int .i64 0)]) ti_42 rfl ?_)) (by decide +kernel)
        · rintro _ w3 ⟨g, rfl, hR3, hm3⟩
          refine A_two (i := 3) (i2 := 5) (A_op rfl (S_bytesStr Try.underlying23 Try.underlying5 Try.underlying9 rfl (l := bs) (by first | exact hrd | exact hrd.no hm2 | exact hrd.no hm3 | exact (hrd.no hm2).no hm3 | exact (hrd.no hm3).no hm2) rfl ?_)) (A_op rfl (S_alloc (zs := [(.string (ByteArray.mk #[])), (.int .i64 0)]) ti_42 rfl ?_)) (by decide +kernel)
          · refine A_pure (i := 4) rfl (P_buildC (ix := [0]) (l := [.tmp 27]) bi_42_0 rfl (by simp [Value.oneCell']) rfl) ?_ (by decide +kernel) (by decide +kernel) (by decide +kernel) (fun _ _ _ _ h => h) rfl rfl rfl
            refine A_one (i := 5) (A_op rfl (S_alloc (zs := [(.string (ByteArray.mk #[])), (.int .i64 0)]) ti_42 rfl ?_)) (by decide +kernel)
            rintro b6 w2 hb6 hm2 hn2
            refine A_pure (i := 6) rfl (P_assign rfl) ?_ (by decide +kernel) (by decide +kernel) (by decide +kernel) (fun _ _ _ _ h => h) rfl rfl rfl
            refine A_one (i := 7) (A_op rfl (S_storeS ti_42 rfl rfl (rdC_one bs 0) rfl (by first | exact hb6 | exact hb6.no hm3) (by exact Nat.le_refl 2) ?_)) (by decide +kernel)
            rintro w4 hb4 hm4
            refine A_done (by decide +kernel) ?_
            refine then_n ?_
            have hx1 := hb6.lt
            have hx2 := hR3.lt
            have hx3 := hm2.size
            have hx4 := hm3.size
            have hx5 := hR3.lo
            have hx6 := hm1d.size
            have hR5 := IsR.mv (show IsR _ _ g bs 0 from (by first | exact hR3 | exact hR3.no hm2)) hm4 (fun k _ hk he => by have : k = b6 := he; omega)
            obtain ⟨lo, hR6, e1, e2, e3⟩ : ∃ lo, IsR w4 lo g bs 0 ∧ w.heap.size ≤ lo ∧ w.heap.size ≤ b6 ∧ (b6 < lo ∨ g < b6) := ⟨_, hR5, by omega, by omega, by omega⟩
            exact ⟨rfl, (lo, g, b6), .cons rfl (.cons rfl (.cons rfl (.nil _))), ⟨(by first | exact ((hm1d.no hm2).no hm3).new hm4 (by omega) | exact ((hm1d.no hm3).no hm2).new hm4 (by omega)), hR6, hb4, e1, e2, e3⟩⟩
          · rintro b6 w2 hb6 hm2 hn2
            refine A_pure (i := 6) rfl (P_assign rfl) ?_ (by decide +kernel) (by decide +kernel) (by decide +kernel) (fun _ _ _ _ h => h) rfl rfl rfl
            refine A_one (i := 3) (A_op rfl (S_bytesStr Try.underlying23 Try.underlying5 Try.underlying9 rfl (l := bs) (by first | exact hrd | exact hrd.no hm2 | exact hrd.no hm3 | exact (hrd.no hm2).no hm3 | exact (hrd.no hm3).no hm2) rfl ?_)) (by decide +kernel)
            refine A_pure (i := 4) rfl (P_buildC (ix := [0]) (l := [.tmp 27]) bi_42_0 rfl (by simp [Value.oneCell']) rfl) ?_ (by decide +kernel) (by decide +kernel) (by decide +kernel) (fun _ _ _ _ h => h) rfl rfl rfl
            refine A_one (i := 7) (A_op rfl (S_storeS ti_42 rfl rfl (rdC_one bs 0) rfl (by first | exact hb6 | exact hb6.no hm3) (by exact Nat.le_refl 2) ?_)) (by decide +kernel)
            rintro w4 hb4 hm4
            refine A_done (by decide +kernel) ?_
            refine then_n ?_
            have hx1 := hb6.lt
            have hx2 := hR3.lt
            have hx3 := hm2.size
            have hx4 := hm3.size
            have hx5 := hR3.lo
            have hx6 := hm1d.size
            have hR5 := IsR.mv (show IsR _ _ g bs 0 from (by first | exact hR3 | exact hR3.no hm2)) hm4 (fun k _ hk he => by have : k = b6 := he; omega)
            obtain ⟨lo, hR6, e1, e2, e3⟩ : ∃ lo, IsR w4 lo g bs 0 ∧ w.heap.size ≤ lo ∧ w.heap.size ≤ b6 ∧ (b6 < lo ∨ g < b6) := ⟨_, hR5, by omega, by omega, by omega⟩
            exact ⟨rfl, (lo, g, b6), .cons rfl (.cons rfl (.cons rfl (.nil _))), ⟨(by first | exact ((hm1d.no hm2).no hm3).new hm4 (by omega) | exact ((hm1d.no hm3).no hm2).new hm4 (by omega)), hR6, hb4, e1, e2, e3⟩⟩
        · refine A_pure (i := 4) rfl (P_buildC (ix := [0]) (l := [.tmp 27]) bi_42_0 rfl (by simp [Value.oneCell']) rfl) ?_ (by decide +kernel) (by decide +kernel) (by decide +kernel) (fun _ _ _ _ h => h) rfl rfl rfl
          refine A_two (i := 1) (i2 := 5) (A_op rfl (S_call cb_12 rfl (read_ret bs (by first | exact hrd | exact hrd.no hm2) (by omega)) ?_)) (A_op rfl (S_alloc (zs := [(.string (ByteArray.mk #[])), (.int .i64 0)]) ti_42 rfl ?_)) (by decide +kernel)
          · rintro _ w3 ⟨g, rfl, hR3, hm3⟩
            refine A_one (i := 5) (A_op rfl (S_alloc (zs := [(.string (ByteArray.mk #[])), (.int .i64 0)]) ti_42 rfl ?_)) (by decide +kernel)
            rintro b6 w2 hb6 hm2 hn2
            refine A_pure (i := 6) rfl (P_assign rfl) ?_ (by decide +kernel) (by decide +kernel) (by decide +kernel) (fun _ _ _ _ h => h) rfl rfl rfl
            refine A_one (i := 7) (A_op rfl (S_storeS ti_42 rfl rfl (rdC_one bs 0) rfl (by first | exact hb6 | exact hb6.no hm3) (by exact Nat.le_refl 2) ?_)) (by decide +kernel)
            rintro w4 hb4 hm4
            refine A_done (by decide +kernel) ?_
            refine then_n ?_
            have hx1 := hb6.lt
            have hx2 := hR3.lt
            have hx3 := hm2.size
            have hx4 := hm3.size
            have hx5 := hR3.lo
            have hx6 := hm1d.size
            have hR5 := IsR.mv (show IsR _ _ g bs 0 from (by first | exact hR3 | exact hR3.no hm2)) hm4 (fun k _ hk he => by have : k = b6 := he; omega)
            obtain ⟨lo, hR6, e1, e2, e3⟩ : ∃ lo, IsR w4 lo g bs 0 ∧ w.heap.size ≤ lo ∧ w.heap.size ≤ b6 ∧ (b6 < lo ∨ g < b6) := ⟨_, hR5, by omega, by omega, by omega⟩
            exact ⟨rfl, (lo, g, b6), .cons rfl (.cons rfl (.cons rfl (.nil _))), ⟨(by first | exact ((hm1d.no hm2).no hm3).new hm4 (by omega) | exact ((hm1d.no hm3).no hm2).new hm4 (by omega)), hR6, hb4, e1, e2, e3⟩⟩
          · rintro b6 w2 hb6 hm2 hn2
            refine A_one (i := 1) (A_op rfl (S_call cb_12 rfl (read_ret bs (by first | exact hrd | exact hrd.no hm2) (by omega)) ?_)) (by decide +kernel)
            rintro _ w3 ⟨g, rfl, hR3, hm3⟩
            refine A_pure (i := 6) rfl (P_assign rfl) ?_ (by decide +kernel) (by decide +kernel) (by decide +kernel) (fun _ _ _ _ h => h) rfl rfl rfl
            refine A_one (i := 7) (A_op rfl (S_storeS ti_42 rfl rfl (rdC_one bs 0) rfl (by first | exact hb6 | exact hb6.no hm3) (by exact Nat.le_refl 2) ?_)) (by decide +kernel)
            rintro w4 hb4 hm4
            refine A_done (by decide +kernel) ?_
            refine then_n ?_
            have hx1 := hb6.lt
            have hx2 := hR3.lt
            have hx3 := hm2.size
            have hx4 := hm3.size
            have hx5 := hR3.lo
            have hx6 := hm1d.size
            have hR5 := IsR.mv (show IsR _ _ g bs 0 from (by first | exact hR3 | exact hR3.no hm2)) hm4 (fun k _ hk he => by have : k = b6 := he; omega)
            obtain ⟨lo, hR6, e1, e2, e3⟩ : ∃ lo, IsR w4 lo g bs 0 ∧ w.heap.size ≤ lo ∧ w.heap.size ≤ b6 ∧ (b6 < lo ∨ g < b6) := ⟨_, hR5, by omega, by omega, by omega⟩
            exact ⟨rfl, (lo, g, b6), .cons rfl (.cons rfl (.cons rfl (.nil _))), ⟨(by first | exact ((hm1d.no hm2).no hm3).new hm4 (by omega) | exact ((hm1d.no hm3).no hm2).new hm4 (by omega)), hR6, hb4, e1, e2, e3⟩⟩
        · rintro b6 w2 hb6 hm2 hn2
          refine A_two (i := 1) (i2 := 3) (A_op rfl (S_call cb_12 rfl (read_ret bs (by first | exact hrd | exact hrd.no hm2) (by omega)) ?_)) (A_op rfl (S_bytesStr Try.underlying23 Try.underlying5 Try.underlying9 rfl (l := bs) (by first | exact hrd | exact hrd.no hm2 | exact hrd.no hm3 | exact (hrd.no hm2).no hm3 | exact (hrd.no hm3).no hm2) rfl ?_)) (by decide +kernel)
          · rintro _ w3 ⟨g, rfl, hR3, hm3⟩
            refine A_pure (i := 6) rfl (P_assign rfl) ?_ (by decide +kernel) (by decide +kernel) (by decide +kernel) (fun _ _ _ _ h => h) rfl rfl rfl
            refine A_one (i := 3) (A_op rfl (S_bytesStr Try.underlying23 Try.underlying5 Try.underlying9 rfl (l := bs) (by first | exact hrd | exact hrd.no hm2 | exact hrd.no hm3 | exact (hrd.no hm2).no hm3 | exact (hrd.no hm3).no hm2) rfl ?_)) (by decide +kernel)
            refine A_pure (i := 4) rfl (P_buildC (ix := [0]) (l := [.tmp 27]) bi_42_0 rfl (by simp [Value.oneCell']) rfl) ?_ (by decide +kernel) (by decide +kernel) (by decide +kernel) (fun _ _ _ _ h => h) rfl rfl rfl
            refine A_one (i := 7) (A_op rfl (S_storeS ti_42 rfl rfl (rdC_one bs 0) rfl (by first | exact hb6 | exact hb6.no hm3) (by exact Nat.le_refl 2) ?_)) (by decide +kernel)
            rintro w4 hb4 hm4
            refine A_done (by decide +kernel) ?_
            refine then_n ?_
            have hx1 := hb6.lt
            have hx2 := hR3.lt
            have hx3 := hm2.size
            have hx4 := hm3.size
            have hx5 := hR3.lo
            have hx6 := hm1d.size
            have hR5 := IsR.mv (show IsR _ _ g bs 0 from (by first | exact hR3 | exact hR3.no hm2)) hm4 (fun k _ hk he => by have : k = b6 := he; omega)
            obtain ⟨lo, hR6, e1, e2, e3⟩ : ∃ lo, IsR w4 lo g bs 0 ∧ w.heap.size ≤ lo ∧ w.heap.size ≤ b6 ∧ (b6 < lo ∨ g < b6) := ⟨_, hR5, by omega, by omega, by omega⟩
            exact ⟨rfl, (lo, g, b6), .cons rfl (.cons rfl (.cons rfl (.nil _))), ⟨(by first | exact ((hm1d.no hm2).no hm3).new hm4 (by omega) | exact ((hm1d.no hm3).no hm2).new hm4 (by omega)), hR6, hb4, e1, e2, e3⟩⟩
          · refine A_pure (i := 4) rfl (P_buildC (ix := [0]) (l := [.tmp 27]) bi_42_0 rfl (by simp [Value.oneCell']) rfl) ?_ (by decide +kernel) (by decide +kernel) (by decide +kernel) (fun _ _ _ _ h => h) rfl rfl rfl
            refine A_one (i := 1) (A_op rfl (S_call cb_12 rfl (read_ret bs (by first | exact hrd | exact hrd.no hm2) (by omega)) ?_)) (by decide +kernel)
            rintro _ w3 ⟨g, rfl, hR3, hm3⟩
            refine A_pure (i := 6) rfl (P_assign rfl) ?_ (by decide +kernel) (by decide +kernel) (by decide +kernel) (fun _ _ _ _ h => h) rfl rfl rfl
            refine A_one (i := 7) (A_op rfl (S_storeS ti_42 rfl rfl (rdC_one bs 0) rfl (by first | exact hb6 | exact hb6.no hm3) (by exact Nat.le_refl 2) ?_)) (by decide +kernel)
            rintro w4 hb4 hm4
            refine A_done (by decide +kernel) ?_
            refine then_n ?_
            have hx1 := hb6.lt
            have hx2 := hR3.lt
            have hx3 := hm2.size
            have hx4 := hm3.size
            have hx5 := hR3.lo
            have hx6 := hm1d.size
            have hR5 := IsR.mv (show IsR _ _ g bs 0 from (by first | exact hR3 | exact hR3.no hm2)) hm4 (fun k _ hk he => by have : k = b6 := he; omega)
            obtain ⟨lo, hR6, e1, e2, e3⟩ : ∃ lo, IsR w4 lo g bs 0 ∧ w.heap.size ≤ lo ∧ w.heap.size ≤ b6 ∧ (b6 < lo ∨ g < b6) := ⟨_, hR5, by omega, by omega, by omega⟩
            exact ⟨rfl, (lo, g, b6), .cons rfl (.cons rfl (.cons rfl (.nil _))), ⟨(by first | exact ((hm1d.no hm2).no hm3).new hm4 (by omega) | exact ((hm1d.no hm3).no hm2).new hm4 (by omega)), hR6, hb4, e1, e2, e3⟩⟩
      rintro ⟨lo, g, b6⟩ w4 ⟨hm4, hR4, hb4, hlo, hlb, hsep⟩ f' hf'
      dsimp only at hf' hR4 hb4 hlo hlb hsep
      refine C_forget hf' ?_
      refine C_seq ?_
      refine C_seq ?_
      refine C_region ?_
      refine L (S (P_move rfl) ?_)
      refine L (S (P_lenS Try.underlying40 rfl) ?_)
      refine L (S (P_move rfl) ?_)
      refine L_nil ?_
      refine then_n ?_
      refine C_block ?_
      refine C_loop (γ := Nat × List UInt8 × Int) (fun q => [(5, .pointer (some ⟨g, 0, none⟩)), (6, .pointer (some ⟨b6, 0, none⟩)), (29, .slice A2 l.length cap2), (30, .int .i64 (l.length : Int)), (31, .int .i64 (q.1 : Int))]) (fun q wr => q.1 ≤ l.length ∧ q.2.1.length ≤ bs.length ∧ IsR wr lo g q.2.1 q.2.2 ∧ Blk wr b6 (rdC q.2.1 q.2.2) 42 ∧ Mv No w wr) (fun q => l.length - q.1) (0, bs, 0) (.cons rfl (.cons rfl (.cons rfl (.cons rfl (.cons rfl (.nil _)))))) ⟨by omega, Nat.le_refl _, hR4, hb4, hm4⟩ ?_
      rintro ⟨i, bs1, e1⟩ wr ⟨hi, hl1, hR1, hb1, hmr⟩
      dsimp only at hi hl1 hR1 hb1 hmr
      have hglo := hR1.lo
      dsimp only
      refine C_seq ?_
      refine C_region ?_
      refine L (S (P_lt rfl rfl rfl) ?_)
      refine L_nil ?_
      refine then_n ?_
      refine C_seq ?_
      refine C_ifp rfl rfl (fun hlt => ?_) (fun hge => ?_)
      · have hil : i < l.length := by omega
        obtain ⟨p, hpi⟩ : ∃ p, l[i]? = some p := ⟨l[i], List.getElem?_eq_getElem hil⟩
        obtain ⟨b, off, hA2, hrow⟩ := hp.no hmr i p hpi
        obtain ⟨_, hq0, hq9⟩ := hrg p (List.mem_of_getElem? hpi)
        subst hA2
        refine C_skip ?_
        refine then_n ?_
        refine C_seq ?_
        refine C_block ?_
        refine C_seq ?_
        refine C_region ?_
        refine L (S (P_indexAddr Try.underlying40 (csz_of ti_44) rfl rfl (j := i) rfl hil (p := off + i * 2) rfl) ?_)
        refine L (S_loadS st_44 rfl hrow rfl ?_)
        refine L (S_alloc (zs := [(.int .i64 0), (.int .i64 0)]) ti_44 rfl ?_)
        rintro b8 w6 hb8 hm6 hn6
        refine L (S_storeS ti_44 rfl rfl (by simp [Value.oneCell']) rfl hb8 (by simp) ?_)
        rintro w7 hb7 hm7
        refine L_nil ?_
        refine then_n ?_
        refine C_seq ?_
        refine C_region ?_
        refine L (S (P_move rfl) ?_)
        refine L (S_loadS st_42 rfl (by first | exact ((hb1.no hm6).ne hm7 (by have := hb1.lt; omega)).row) rfl ?_)
        refine L (S_loadS st_44 rfl (show Blk w7 b8 [.int .i64 p.1, .int .i64 p.2] 44 from hb7).row rfl ?_)
        refine L (S_call cb_21 rfl (step_ret bs1 e1 p.1 p.2 ((hR1.no hm6).mv hm7 (fun k _ hk he => by have : k = b8 := he; have := hR1.lt; omega)) (by omega) hq0 hq9) ?_)
        rintro _ w8 ⟨bs2, e2, rfl, hR8, hl2, hm8⟩
        refine L (S (P_move rfl) ?_)
        refine L (S (P_extract rfl rfl) ?_)
        refine L (S (P_extract rfl rfl) ?_)
        refine L (S_alloc (zs := [(.string (ByteArray.mk #[])), (.int .i64 0)]) ti_42 rfl ?_)
        rintro b9 w9 hb9 hm9 hn9
        refine L (S_storeS ti_42 rfl rfl (rdC_one bs2 e2) rfl hb9 (by simp [rdC]) ?_)
        rintro w10 hb10 hm10
        refine L (S (P_assign rfl) ?_)
        refine L_nil ?_
        refine then_n ?_
        refine C_seq ?_
        have k1 := hb1.lt
        have k2 := hR1.lt
        have k3 := hm6.size
        have k4 := hm7.size
        have k5 := hm8.size
        have k6 := hm9.size
        have k7 := hmr.size
        have h6a : Blk w10 b6 (rdC bs1 e1) 42 := (((((hb1.no hm6).ne hm7 (by omega)).ne hm8 (by omega)).no hm9).ne hm10 (by omega))
        have h9a : Blk w10 b9 (rdC bs2 e2) 42 := hb10
        have hR10 : IsR w10 lo g bs2 e2 := (hR8.no hm9).mv hm10 (fun k _ hk he => by have : k = b9 := he; omega)
        have hm010 : Mv No w w10 := ((((hmr.no hm6).new hm7 (by omega)).new hm8 (by omega)).no hm9).new hm10 (by omega)
        clear hb9 hb10 hb7 hb8
        have hsz := str_size bs2
        refine C_region ?_
        refine L (S_loadS st_42 rfl h9a.row rfl ?_)
        refine L (S_storeS ti_42 rfl rfl (rdC_one bs2 e2) rfl h6a (by simp [rdC]) ?_)
        rintro w11 hb11 hm11
        refine L_nil ?_
        refine then_n ?_
        refine C_seq ?_
        have h6b : Blk w11.drew b6 (rdC bs2 e2) 42 := Blk.no (show Blk w11 b6 (rdC bs2 e2) 42 from hb11) (Mv.refl w11).drew
        have hR11 : IsR w11.drew lo g bs2 e2 := (hR10.mv hm11 (fun k _ hk he => by have : k = b6 := he; omega)).drew
        have hm011 : Mv No w w11.drew := (hm010.new hm11 hlb).drew
        refine C_draw 17 mixed rfl ?_
        refine A_pure (i := 0) rfl (P_move rfl) ?_ (by decide +kernel) (by decide +kernel) (by decide +kernel) (fun _ _ _ _ h => h) rfl rfl rfl
        refine A_pure (i := 1) rfl (P_not rfl rfl) ?_ (by decide +kernel) (by decide +kernel) (by decide +kernel) (fun _ _ _ _ h => h) rfl rfl rfl
        refine A_pure (i := 2) rfl (P_move rfl) ?_ (by decide +kernel) (by decide +kernel) (by decide +kernel) (fun _ _ _ _ h => h) rfl rfl rfl
        refine A_pureY (i := 3) (j := 2) (dj := 45) (b := false) rfl (P_move rfl) rfl ?_ (by decide +kernel) (by decide +kernel) (by decide +kernel) (fun _ _ _ _ h => h) rfl rfl rfl rfl
        refine A_pureY (i := 5) (j := 2) (dj := 45) (b := false) rfl (P_fieldAddr fo_42_1 rfl) rfl ?_ (by decide +kernel) (by decide +kernel) (by decide +kernel) (fun _ _ _ _ h => h) rfl rfl rfl rfl
        refine A_two (i := 4) (i2 := 6) (A_yes (j := 2) (dj := 45) (b := false) rfl rfl (S_call cb_16 rfl (rerr_ret hR11) ?_)) (A_yes (j := 2) (dj := 45) (b := false) rfl rfl (S_load sc_3 rfl (h6b.cell (i := 1) rfl) ?_)) (by decide +kernel)
        · rintro _ _ ⟨rfl, rfl⟩
          refine A_one (i := 6) (A_yes (j := 2) (dj := 45) (b := false) rfl rfl (S_load sc_3 rfl (h6b.cell (i := 1) rfl) ?_)) (by decide +kernel)
          refine A_pureY (i := 7) (j := 2) (dj := 45) (b := false) rfl (P_ne rfl rfl (decide_eq_false (by simp))) rfl ?_ (by decide +kernel) (by decide +kernel) (by decide +kernel) (fun _ _ _ _ h => h) rfl rfl rfl rfl
          refine A_pure (i := 8) rfl (P_pickF rfl rfl) ?_ (by decide +kernel) (by decide +kernel) (by decide +kernel) (fun _ _ _ _ h => h) rfl rfl rfl
          refine A_pure (i := 9) rfl (P_move rfl) ?_ (by decide +kernel) (by decide +kernel) (by decide +kernel) (fun _ _ _ _ h => h) rfl rfl rfl
          refine A_pureY (i := 10) (j := 9) (dj := 52) (b := false) rfl (P_move rfl) rfl ?_ (by decide +kernel) (by decide +kernel) (by decide +kernel) (fun _ _ _ _ h => h) rfl rfl rfl rfl
          refine A_pureY (i := 12) (j := 9) (dj := 52) (b := false) rfl (P_fieldAddr fo_42_0 rfl) rfl ?_ (by decide +kernel) (by decide +kernel) (by decide +kernel) (fun _ _ _ _ h => h) rfl rfl rfl rfl
          refine A_two (i := 11) (i2 := 13) (A_yes (j := 9) (dj := 52) (b := false) rfl rfl (S_call cb_15 rfl (rleft_ret hR11) ?_)) (A_yes (j := 9) (dj := 52) (b := false) rfl rfl (S_load sc_9 rfl (h6b.cell (i := 0) rfl) ?_)) (by decide +kernel)
          · rintro _ _ ⟨rfl, rfl⟩
            refine A_one (i := 13) (A_yes (j := 9) (dj := 52) (b := false) rfl rfl (S_load sc_9 rfl (h6b.cell (i := 0) rfl) ?_)) (by decide +kernel)
            refine A_pureY (i := 14) (j := 9) (dj := 52) (b := false) rfl (P_lenT Try.underlying9 rfl) rfl ?_ (by decide +kernel) (by decide +kernel) (by decide +kernel) (fun _ _ _ _ h => h) rfl rfl rfl rfl
            refine A_pureY (i := 15) (j := 9) (dj := 52) (b := false) rfl (P_ne rfl rfl (decide_eq_false (by rw [hsz]; simp))) rfl ?_ (by decide +kernel) (by decide +kernel) (by decide +kernel) (fun _ _ _ _ h => h) rfl rfl rfl rfl
            refine A_pure (i := 16) rfl (P_pickF rfl rfl) ?_ (by decide +kernel) (by decide +kernel) (by decide +kernel) (fun _ _ _ _ h => h) rfl rfl rfl
            refine A_done (by decide +kernel) ?_
            refine then_n ?_
            refine C_false rfl ?_
            refine C_skip ?_
            refine blk_n ?_
            refine then_n ?_
            refine C_region ?_
            refine L (S (P_add rfl rfl (wI64 (c := ((i + 1 : Nat) : Int)) (by omega))) ?_)
            refine L (S (P_move rfl) ?_)
            refine L_nil ?_
            refine then_n ?_
            exact ⟨rfl, (i + 1, bs2, e2), .cons rfl (.cons rfl (.cons rfl (.cons rfl (.cons rfl (.nil _))))), ⟨by dsimp only; omega, by dsimp only; omega, hR11, h6b, hm011⟩, by dsimp only; omega⟩
          · refine A_pureY (i := 14) (j := 9) (dj := 52) (b := false) rfl (P_lenT Try.underlying9 rfl) rfl ?_ (by decide +kernel) (by decide +kernel) (by decide +kernel) (fun _ _ _ _ h => h) rfl rfl rfl rfl
            refine A_one (i := 11) (A_yes (j := 9) (dj := 52) (b := false) rfl rfl (S_call cb_15 rfl (rleft_ret hR11) ?_)) (by decide +kernel)
            rintro _ _ ⟨rfl, rfl⟩
            refine A_pureY (i := 15) (j := 9) (dj := 52) (b := false) rfl (P_ne rfl rfl (decide_eq_false (by rw [hsz]; simp))) rfl ?_ (by decide +kernel) (by decide +kernel) (by decide +kernel) (fun _ _ _ _ h => h) rfl rfl rfl rfl
            refine A_pure (i := 16) rfl (P_pickF rfl rfl) ?_ (by decide +kernel) (by decide +kernel) (by decide +kernel) (fun _ _ _ _ h => h) rfl rfl rfl
            refine A_done (by decide +kernel) ?_
            refine then_n ?_
            refine C_false rfl ?_
            refine C_skip ?_
            refine blk_n ?_
            refine then_n ?_
            refine C_region ?_
            refine L (S (P_add rfl rfl (wI64 (c := ((i + 1 : Nat) : Int)) (by omega))) ?_)
            refine L (S (P_move rfl) ?_)
            refine L_nil ?_
            refine then_n ?_
            exact ⟨rfl, (i + 1, bs2, e2), .cons rfl (.cons rfl (.cons rfl (.cons rfl (.cons rfl (.nil _))))), ⟨by dsimp only; omega, by dsimp only; omega, hR11, h6b, hm011⟩, by dsimp only; omega⟩
        · refine A_one (i := 4) (A_yes (j := 2) (dj := 45) (b := false) rfl rfl (S_call cb_16 rfl (rerr_ret hR11) ?_)) (by decide +kernel)
          rintro _ _ ⟨rfl, rfl⟩
          refine A_pureY (i := 7) (j := 2) (dj := 45) (b := false) rfl (P_ne rfl rfl (decide_eq_false (by simp))) rfl ?_ (by decide +kernel) (by decide +kernel) (by decide +kernel) (fun _ _ _ _ h => h) rfl rfl rfl rfl
          refine A_pure (i := 8) rfl (P_pickF rfl rfl) ?_ (by decide +kernel) (by decide +kernel) (by decide +kernel) (fun _ _ _ _ h => h) rfl rfl rfl
          refine A_pure (i := 9) rfl (P_move rfl) ?_ (by decide +kernel) (by decide +kernel) (by decide +kernel) (fun _ _ _ _ h => h) rfl rfl rfl
          refine A_pureY (i := 10) (j := 9) (dj := 52) (b := false) rfl (P_move rfl) rfl ?_ (by decide +kernel) (by decide +kernel) (by decide +kernel) (fun _ _ _ _ h => h) rfl rfl rfl rfl
          refine A_pureY (i := 12) (j := 9) (dj := 52) (b := false) rfl (P_fieldAddr fo_42_0 rfl) rfl ?_ (by decide +kernel) (by decide +kernel) (by decide +kernel) (fun _ _ _ _ h => h) rfl rfl rfl rfl
          refine A_two (i := 11) (i2 := 13) (A_yes (j := 9) (dj := 52) (b := false) rfl rfl (S_call cb_15 rfl (rleft_ret hR11) ?_)) (A_yes (j := 9) (dj := 52) (b := false) rfl rfl (S_load sc_9 rfl (h6b.cell (i := 0) rfl) ?_)) (by decide +kernel)
          · rintro _ _ ⟨rfl, rfl⟩
            refine A_one (i := 13) (A_yes (j := 9) (dj := 52) (b := false) rfl rfl (S_load sc_9 rfl (h6b.cell (i := 0) rfl) ?_)) (by decide +kernel)
            refine A_pureY (i := 14) (j := 9) (dj := 52) (b := false) rfl (P_lenT Try.underlying9 rfl) rfl ?_ (by decide +kernel) (by decide +kernel) (by decide +kernel) (fun _ _ _ _ h => h) rfl rfl rfl rfl
            refine A_pureY (i := 15) (j := 9) (dj := 52) (b := false) rfl (P_ne rfl rfl (decide_eq_false (by rw [hsz]; simp))) rfl ?_ (by decide +kernel) (by decide +kernel) (by decide +kernel) (fun _ _ _ _ h => h) rfl rfl rfl rfl
            refine A_pure (i := 16) rfl (P_pickF rfl rfl) ?_ (by decide +kernel) (by decide +kernel) (by decide +kernel) (fun _ _ _ _ h => h) rfl rfl rfl
            refine A_done (by decide +kernel) ?_
            refine then_n ?_
            refine C_false rfl ?_
            refine C_skip ?_
            refine blk_n ?_
            refine then_n ?_
            refine C_region ?_
            refine L (S (P_add rfl rfl (wI64 (c := ((i + 1 : Nat) : Int)) (by omega))) ?_)
            refine L (S (P_move rfl) ?_)
            refine L_nil ?_
            refine then_n ?_
            exact ⟨rfl, (i + 1, bs2, e2), .cons rfl (.cons rfl (.cons rfl (.cons rfl (.cons rfl (.nil _))))), ⟨by dsimp only; omega, by dsimp only; omega, hR11, h6b, hm011⟩, by dsimp only; omega⟩
          · refine A_pureY (i := 14) (j := 9) (dj := 52) (b := false) rfl (P_lenT Try.underlying9 rfl) rfl ?_ (by decide +kernel) (by decide +kernel) (by decide +kernel) (fun _ _ _ _ h => h) rfl rfl rfl rfl
            refine A_one (i := 11) (A_yes (j := 9) (dj := 52) (b := false) rfl rfl (S_call cb_15 rfl (rleft_ret hR11) ?_)) (by decide +kernel)
            rintro _ _ ⟨rfl, rfl⟩
            refine A_pureY (i := 15) (j := 9) (dj := 52) (b := false) rfl (P_ne rfl rfl (decide_eq_false (by rw [hsz]; simp))) rfl ?_ (by decide +kernel) (by decide +kernel) (by decide +kernel) (fun _ _ _ _ h => h) rfl rfl rfl rfl
            refine A_pure (i := 16) rfl (P_pickF rfl rfl) ?_ (by decide +kernel) (by decide +kernel) (by decide +kernel) (fun _ _ _ _ h => h) rfl rfl rfl
            refine A_done (by decide +kernel) ?_
            refine then_n ?_
            refine C_false rfl ?_
            refine C_skip ?_
            refine blk_n ?_
            refine then_n ?_
            refine C_region ?_
            refine L (S (P_add rfl rfl (wI64 (c := ((i + 1 : Nat) : Int)) (by omega))) ?_)
            refine L (S (P_move rfl) ?_)
            refine L_nil ?_
            refine then_n ?_
            exact ⟨rfl, (i + 1, bs2, e2), .cons rfl (.cons rfl (.cons rfl (.cons rfl (.cons rfl (.nil _))))), ⟨by dsimp only; omega, by dsimp only; omega, hR11, h6b, hm011⟩, by dsimp only; omega⟩
      · refine C_exit ?_
        refine then_x ?_
        refine then_x ?_
        refine blk_x ?_
        refine then_n ?_
        refine C_seq ?_
        refine C_region ?_
        refine L (S (P_assign rfl) ?_)
        refine L_nil ?_
        refine then_n ?_
        refine C_ret ?_
        refine F_ret1 Try.results7 rfl ?_
        exact ⟨rfl, hmr⟩
end Go.Proofs.Ytgicoidmjfhnbaa
