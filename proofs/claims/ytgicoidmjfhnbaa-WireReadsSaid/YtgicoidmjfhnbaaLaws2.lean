import Derived.Test.YtgicoidmjfhnbaaLaws1
namespace Go.Proofs.Ytgicoidmjfhnbaa
open Go.RowKit

theorem wireNone_ret {w : World} (most : Int) : Ret Try.prog 8 [.int .i64 most] w fun v w' => v = .bool true ∧ Mv No w w' := by
  refine F_enter Try.func8 Try.ntmps8 rfl rfl ?_
  refine C_seq ?_
  refine C_region ?_
  refine L (S (P_assign rfl) ?_)
  refine L_nil ?_
  refine then_n ?_
  refine C_seq ?_
  refine C_seq ?_
  refine C_region ?_
  refine L (S_call cb_10 rfl (lives_ret) ?_)
  rintro _ w1 ⟨rfl, hm1⟩
  refine L (S (P_not rfl rfl) ?_)
  refine L_nil ?_
  refine then_n ?_
  refine C_false rfl ?_
  refine C_skip ?_
  refine then_n ?_
  refine C_seq ?_
  refine C_region ?_
  refine L (S (P_assign rfl) ?_)
  refine L_nil ?_
  refine then_n ?_
  refine C_seq ?_
  refine C_region ?_
  refine L (S (P_move rfl) ?_)
  refine L (S_call cb_22 rfl (rFail_nil 10) ?_)
  rintro _ _ rfl
  refine L_nil ?_
  refine then_n ?_
  refine C_seq ?_
  refine C_region ?_
  refine L (S (P_move rfl) ?_)
  refine L (S_call cb_14 rfl (rnum_nil) ?_)
  rintro _ _ ⟨rfl, rfl⟩
  refine L (S (P_eq rfl rfl (decide_eq_true (by decide))) ?_)
  refine L (S (P_move rfl) ?_)
  refine L_yes (j := 3) (dj := 11) (b := true) (S (P_move rfl) ?_) rfl
  refine L_yes (j := 3) (dj := 11) (b := true) (S_call cb_23 rfl (rint_nil) ?_) rfl
  rintro _ _ ⟨rfl, rfl⟩
  refine L_yes (j := 3) (dj := 11) (b := true) (S (P_eq rfl rfl (decide_eq_true (by decide))) ?_) rfl
  refine L (S (P_pickT rfl rfl) ?_)
  refine L (S (P_move rfl) ?_)
  refine L_yes (j := 8) (dj := 16) (b := true) (S (P_move rfl) ?_) rfl
  refine L_yes (j := 8) (dj := 16) (b := true) (S (P_move rfl) ?_) rfl
  refine L_yes (j := 8) (dj := 16) (b := true) (S_call cb_24 rfl (rcount_nil most) ?_) rfl
  rintro _ _ ⟨rfl, rfl⟩
  refine L_yes (j := 8) (dj := 16) (b := true) (S (P_eq rfl rfl (decide_eq_true (by decide))) ?_) rfl
  refine L (S (P_pickT rfl rfl) ?_)
  refine L (S (P_move rfl) ?_)
  refine L_yes (j := 14) (dj := 22) (b := true) (S (P_move rfl) ?_) rfl
  refine L_yes (j := 14) (dj := 22) (b := true) (S (P_move rfl) ?_) rfl
  refine L_yes (j := 14) (dj := 22) (b := true) (S_call cb_18 rfl (rtext_nil most) ?_) rfl
  rintro _ _ ⟨rfl, rfl⟩
  refine L_yes (j := 14) (dj := 22) (b := true) (S (P_eqT rfl rfl (decide_eq_true rfl)) ?_) rfl
  refine L (S (P_pickT rfl rfl) ?_)
  refine L (S (P_move rfl) ?_)
  refine L_yes (j := 20) (dj := 28) (b := true) (S (P_move rfl) ?_) rfl
  refine L_yes (j := 20) (dj := 28) (b := true) (S_call cb_25 rfl (rbool_nil) ?_) rfl
  rintro _ _ ⟨rfl, rfl⟩
  refine L_yes (j := 20) (dj := 28) (b := true) (S (P_not rfl rfl) ?_) rfl
  refine L (S (P_pickT rfl rfl) ?_)
  refine L (S (P_move rfl) ?_)
  refine L_yes (j := 25) (dj := 33) (b := true) (S (P_move rfl) ?_) rfl
  refine L_yes (j := 25) (dj := 33) (b := true) (S_call cb_15 rfl (rleft_nil) ?_) rfl
  rintro _ _ ⟨rfl, rfl⟩
  refine L_yes (j := 25) (dj := 33) (b := true) (S (P_eq rfl rfl (decide_eq_true (by decide))) ?_) rfl
  refine L (S (P_pickT rfl rfl) ?_)
  refine L (S (P_move rfl) ?_)
  refine L_yes (j := 30) (dj := 38) (b := true) (S (P_move rfl) ?_) rfl
  refine L_yes (j := 30) (dj := 38) (b := true) (S_call cb_16 rfl (rerr_nil) ?_) rfl
  rintro _ _ ⟨rfl, rfl⟩
  refine L_yes (j := 30) (dj := 38) (b := true) (S (P_eq rfl rfl (decide_eq_true (by decide))) ?_) rfl
  refine L (S (P_pickT rfl rfl) ?_)
  refine L (S (P_move rfl) ?_)
  refine L_yes (j := 35) (dj := 43) (b := true) (S (P_move rfl) ?_) rfl
  refine L_yes (j := 35) (dj := 43) (b := true) (S_call cb_20 rfl (rend_nil) ?_) rfl
  rintro _ _ ⟨rfl, rfl⟩
  refine L_yes (j := 35) (dj := 43) (b := true) (S (P_eq rfl rfl (decide_eq_true (by decide))) ?_) rfl
  refine L (S (P_pickT rfl rfl) ?_)
  refine L (S (P_assign rfl) ?_)
  refine L_nil ?_
  refine then_n ?_
  refine C_ret ?_
  refine F_ret1 Try.results8 rfl ?_
  exact ⟨rfl, hm1⟩

theorem wireNums_ret {w : World} (n : Nat) (hn : n < 18446744073709551616) {A : Option Addr} {cap : Nat} (bs : List UInt8) (hr : SlR w A (bs.map bv)) (hl : bs.length ≤ 140737488351232) :
    Ret Try.prog 3 [.int .u64 n, .slice A bs.length cap] w fun v w' => v = .bool true ∧ Mv No w w' := by
  have hnl := numB_len n hn
  refine F_enter Try.func3 Try.ntmps3 rfl rfl ?_
  refine C_seq ?_
  refine C_region ?_
  refine L (S (P_assign rfl) ?_)
  refine L_nil ?_
  refine then_n ?_
  refine C_seq ?_
  refine C_seq ?_
  by_cases hbig : 1000 < bs.length
  · refine C_region ?_
    refine L (S_call cb_10 rfl (lives_ret) ?_)
    rintro _ w1 ⟨rfl, hm1⟩
    refine L (S (P_not rfl rfl) ?_)
    refine L (S (P_move rfl) ?_)
    refine L_yes (j := 2) (dj := 9) (b := false) (S (P_move rfl) ?_) rfl
    refine L_yes (j := 2) (dj := 9) (b := false) (S (P_lenS Try.underlying23 rfl) ?_) rfl
    refine L_yes (j := 2) (dj := 9) (b := false) (S (P_gt rfl rfl (decide_eq_true (by omega))) ?_) rfl
    refine L (S (P_pickF rfl rfl) ?_)
    refine L_nil ?_
    refine then_n ?_
    refine C_true rfl ?_
    refine C_seq ?_
    refine C_region ?_
    refine L (S_call cb_10 rfl (lives_ret) ?_)
    rintro _ w2 ⟨rfl, hm2⟩
    refine L (S (P_assign rfl) ?_)
    refine L_nil ?_
    refine then_n ?_
    refine C_ret ?_
    refine then_r ?_
    refine F_ret1 Try.results3 rfl ?_
    exact ⟨rfl, hm1.no hm2⟩
  · refine C_region ?_
    refine L (S_call cb_10 rfl (lives_ret) ?_)
    rintro _ w1 ⟨rfl, hm1⟩
    refine L (S (P_not rfl rfl) ?_)
    refine L (S (P_move rfl) ?_)
    refine L_yes (j := 2) (dj := 9) (b := false) (S (P_move rfl) ?_) rfl
    refine L_yes (j := 2) (dj := 9) (b := false) (S (P_lenS Try.underlying23 rfl) ?_) rfl
    refine L_yes (j := 2) (dj := 9) (b := false) (S (P_gt rfl rfl (decide_eq_false (by omega))) ?_) rfl
    refine L (S (P_pickF rfl rfl) ?_)
    refine L_nil ?_
    refine then_n ?_
    refine C_false rfl ?_
    refine C_skip ?_
    refine then_n ?_
    refine C_seq ?_
    refine C_region ?_
    refine L (S (P_move rfl) ?_)
    refine L (S_call cb_11 rfl (num_ret n hn _) ?_)
    rintro v2 w2 ⟨ho2, hm2⟩
    refine L (S (P_assign rfl) ?_)
    refine L_nil ?_
    refine then_n ?_
    refine C_seq ?_
    refine C_region ?_
    obtain ⟨A2, cap2, rfl, hs2, hc1, hc2, hc3⟩ := own_reads ho2
    have hm02 : Mv No w w2 := hm1.no hm2
    refine L (S_buildSlice0 Try.underlying23 ti_5 ?_)
    rintro b3 w3 ho3 hm3 hn3
    refine L (S (P_move rfl) ?_)
    refine L (S_append Try.underlying23 ti_5 rfl (by decide) rfl ho3 rfl (hs2.no hm3) (by simp) (bv_one _) hm3.size (by unfold maxLen; omega) (by omega) ?_)
    rintro v4 w4 ho4 hm4 hf4
    refine L (S (P_move rfl) ?_)
    have hm04 : Mv No w w4 := (hm02.no hm3).own hm4 ho3 hm02.size
    have hs4 : SlR w4 A2 ((numB n).map bv) := hs2.no ((Mv.refl w2 |>.no hm3).own hm4 ho3 (Nat.le_refl _))
    refine L (S_append Try.underlying23 ti_5 rfl (by decide) rfl ho4 rfl (hr.no hm04) (by simp) (bv_one _) (by have := hm3.size; have := hm4.size; omega) (by unfold maxLen; omega) (by omega) ?_)
    rintro v5 w5 ho5 hm5 hf5
    have hm05 : Mv No w w5 := hm04.own hm5 ho4 hm02.size
    have hs5 : SlR w5 A2 ((numB n).map bv) := hs2.no (((Mv.refl w2 |>.no hm3).own hm4 ho3 (Nat.le_refl _)).own hm5 ho4 (Nat.le_refl _))
    have ho5' : w5.ownsRow w2.heap.size 5 1 v5 (numB n ++ bs).length ((numB n ++ bs).map bv) := by simpa using ho5
    obtain ⟨A5, cap5, rfl, hs5', hd1, hd2, hd3⟩ := own_reads ho5'
    have hel : 0 + (numB n).length + bs.length = (numB n ++ bs).length := by simp
    rw [hel] at *
    refine L (S_call cb_12 rfl (read_ret (numB n ++ bs) hs5' (by simp; omega)) ?_)
    rintro _ w6 ⟨g, rfl, hR, hm6⟩
    refine L (S (P_assign rfl) ?_)
    refine L_nil ?_
    refine then_n ?_
    refine C_seq ?_
    have hm06 : Mv No w w6 := hm05.no hm6
    have hs6 := (hs5.no hm6).no (Mv.refl w6).drew
    have hR6 := hR.drew
    have hg : w.heap.size ≤ g := Nat.le_trans hm05.size hR.lo
    have hN : ∀ {w' : World}, IsR w' w5.heap.size g (numB n ++ bs) 0 → Ret Try.prog 14 [.pointer (some ⟨g, 0, none⟩)] w' fun v w'' => v = .int .u64 n ∧ IsR w'' w5.heap.size g bs 0 ∧ Mv (At g) w' w'' := fun h => by
      have := rnum_ret h
      rw [rNum_numB n hn bs] at this
      exact this
    refine C_draw 24 mixed rfl ?_
    refine A_pure (i := 0) rfl (P_move rfl) ?_ (by decide +kernel) (by decide +kernel) (by decide +kernel) (fun _ _ _ _ h => h) rfl rfl rfl
    refine A_pure (i := 2) rfl (P_move rfl) ?_ (by decide +kernel) (by decide +kernel) (by decide +kernel) (fun _ _ _ _ h => h) rfl rfl rfl
    refine A_two (i := 1) (i2 := 3) (A_op rfl (S_bytesStr Try.underlying23 Try.underlying5 Try.underlying9 rfl (l := numB n) (by first | exact hs6 | exact hs6.no hm7) rfl ?_)) (A_op rfl (S_call cb_13 rfl (refnum_ret n hn _) ?_)) (by decide +kernel)
    · refine A_one (i := 3) (A_op rfl (S_call cb_13 rfl (refnum_ret n hn _) ?_)) (by decide +kernel)
      rintro _ w7 ⟨rfl, hm7⟩
      refine A_pure (i := 4) rfl (P_eqT rfl rfl (decide_eq_true rfl)) ?_ (by decide +kernel) (by decide +kernel) (by decide +kernel) (fun _ _ _ _ h => h) rfl rfl rfl
      refine A_pure (i := 5) rfl (P_move rfl) ?_ (by decide +kernel) (by decide +kernel) (by decide +kernel) (fun _ _ _ _ h => h) rfl rfl rfl
      refine A_pureY (i := 6) (j := 5) (dj := 28) (b := true) rfl (P_move rfl) rfl ?_ (by decide +kernel) (by decide +kernel) (by decide +kernel) (fun _ _ _ _ h => h) rfl rfl rfl rfl
      refine A_pureY (i := 8) (j := 5) (dj := 28) (b := true) rfl (P_move rfl) rfl ?_ (by decide +kernel) (by decide +kernel) (by decide +kernel) (fun _ _ _ _ h => h) rfl rfl rfl rfl
      refine A_one (i := 7) (A_yes (j := 5) (dj := 28) (b := true) rfl rfl (S_call cb_14 rfl (hN (hR6.no hm7)) ?_)) (by decide +kernel)
      rintro _ w8 ⟨rfl, hR8, hm8⟩
      refine A_pureY (i := 9) (j := 5) (dj := 28) (b := true) rfl (P_eq rfl rfl (decide_eq_true rfl)) rfl ?_ (by decide +kernel) (by decide +kernel) (by decide +kernel) (fun _ _ _ _ h => h) rfl rfl rfl rfl
      refine A_pure (i := 10) rfl (P_pickT rfl rfl) ?_ (by decide +kernel) (by decide +kernel) (by decide +kernel) (fun _ _ _ _ h => h) rfl rfl rfl
      refine A_pure (i := 11) rfl (P_move rfl) ?_ (by decide +kernel) (by decide +kernel) (by decide +kernel) (fun _ _ _ _ h => h) rfl rfl rfl
      refine A_pureY (i := 12) (j := 11) (dj := 34) (b := true) rfl (P_move rfl) rfl ?_ (by decide +kernel) (by decide +kernel) (by decide +kernel) (fun _ _ _ _ h => h) rfl rfl rfl rfl
      refine A_pureY (i := 14) (j := 11) (dj := 34) (b := true) rfl (P_move rfl) rfl ?_ (by decide +kernel) (by decide +kernel) (by decide +kernel) (fun _ _ _ _ h => h) rfl rfl rfl rfl
      refine A_pureY (i := 15) (j := 11) (dj := 34) (b := true) rfl (P_lenS Try.underlying23 rfl) rfl ?_ (by decide +kernel) (by decide +kernel) (by decide +kernel) (fun _ _ _ _ h => h) rfl rfl rfl rfl
      refine A_one (i := 13) (A_yes (j := 11) (dj := 34) (b := true) rfl rfl (S_call cb_15 rfl (rleft_ret hR8) ?_)) (by decide +kernel)
      rintro _ _ ⟨rfl, rfl⟩
      refine A_pureY (i := 16) (j := 11) (dj := 34) (b := true) rfl (P_eq rfl rfl (decide_eq_true rfl)) rfl ?_ (by decide +kernel) (by decide +kernel) (by decide +kernel) (fun _ _ _ _ h => h) rfl rfl rfl rfl
      refine A_pure (i := 17) rfl (P_pickT rfl rfl) ?_ (by decide +kernel) (by decide +kernel) (by decide +kernel) (fun _ _ _ _ h => h) rfl rfl rfl
      refine A_pure (i := 18) rfl (P_move rfl) ?_ (by decide +kernel) (by decide +kernel) (by decide +kernel) (fun _ _ _ _ h => h) rfl rfl rfl
      refine A_pureY (i := 19) (j := 18) (dj := 41) (b := true) rfl (P_move rfl) rfl ?_ (by decide +kernel) (by decide +kernel) (by decide +kernel) (fun _ _ _ _ h => h) rfl rfl rfl rfl
      refine A_one (i := 20) (A_yes (j := 18) (dj := 41) (b := true) rfl rfl (S_call cb_16 rfl (rerr_ret hR8) ?_)) (by decide +kernel)
      rintro _ _ ⟨rfl, rfl⟩
      refine A_pureY (i := 21) (j := 18) (dj := 41) (b := true) rfl (P_eq rfl rfl (decide_eq_true (by decide))) rfl ?_ (by decide +kernel) (by decide +kernel) (by decide +kernel) (fun _ _ _ _ h => h) rfl rfl rfl rfl
      refine A_pure (i := 22) rfl (P_pickT rfl rfl) ?_ (by decide +kernel) (by decide +kernel) (by decide +kernel) (fun _ _ _ _ h => h) rfl rfl rfl
      refine A_pure (i := 23) rfl (P_assign rfl) ?_ (by decide +kernel) (by decide +kernel) (by decide +kernel) (fun _ _ _ _ h => h) rfl rfl rfl
      refine A_done (by decide +kernel) ?_
      refine then_n ?_
      refine C_ret ?_
      refine F_ret1 Try.results3 rfl ?_
      exact ⟨rfl, (hm06.drew.no hm7).new hm8 hg⟩
    · rintro _ w7 ⟨rfl, hm7⟩
      refine A_one (i := 1) (A_op rfl (S_bytesStr Try.underlying23 Try.underlying5 Try.underlying9 rfl (l := numB n) (by first | exact hs6 | exact hs6.no hm7) rfl ?_)) (by decide +kernel)
      refine A_pure (i := 4) rfl (P_eqT rfl rfl (decide_eq_true rfl)) ?_ (by decide +kernel) (by decide +kernel) (by decide +kernel) (fun _ _ _ _ h => h) rfl rfl rfl
      refine A_pure (i := 5) rfl (P_move rfl) ?_ (by decide +kernel) (by decide +kernel) (by decide +kernel) (fun _ _ _ _ h => h) rfl rfl rfl
      refine A_pureY (i := 6) (j := 5) (dj := 28) (b := true) rfl (P_move rfl) rfl ?_ (by decide +kernel) (by decide +kernel) (by decide +kernel) (fun _ _ _ _ h => h) rfl rfl rfl rfl
      refine A_pureY (i := 8) (j := 5) (dj := 28) (b := true) rfl (P_move rfl) rfl ?_ (by decide +kernel) (by decide +kernel) (by decide +kernel) (fun _ _ _ _ h => h) rfl rfl rfl rfl
      refine A_one (i := 7) (A_yes (j := 5) (dj := 28) (b := true) rfl rfl (S_call cb_14 rfl (hN (hR6.no hm7)) ?_)) (by decide +kernel)
      rintro _ w8 ⟨rfl, hR8, hm8⟩
      refine A_pureY (i := 9) (j := 5) (dj := 28) (b := true) rfl (P_eq rfl rfl (decide_eq_true rfl)) rfl ?_ (by decide +kernel) (by decide +kernel) (by decide +kernel) (fun _ _ _ _ h => h) rfl rfl rfl rfl
      refine A_pure (i := 10) rfl (P_pickT rfl rfl) ?_ (by decide +kernel) (by decide +kernel) (by decide +kernel) (fun _ _ _ _ h => h) rfl rfl rfl
      refine A_pure (i := 11) rfl (P_move rfl) ?_ (by decide +kernel) (by decide +kernel) (by decide +kernel) (fun _ _ _ _ h => h) rfl rfl rfl
      refine A_pureY (i := 12) (j := 11) (dj := 34) (b := true) rfl (P_move rfl) rfl ?_ (by decide +kernel) (by decide +kernel) (by decide +kernel) (fun _ _ _ _ h => h) rfl rfl rfl rfl
      refine A_pureY (i := 14) (j := 11) (dj := 34) (b := true) rfl (P_move rfl) rfl ?_ (by decide +kernel) (by decide +kernel) (by decide +kernel) (fun _ _ _ _ h => h) rfl rfl rfl rfl
      refine A_pureY (i := 15) (j := 11) (dj := 34) (b := true) rfl (P_lenS Try.underlying23 rfl) rfl ?_ (by decide +kernel) (by decide +kernel) (by decide +kernel) (fun _ _ _ _ h => h) rfl rfl rfl rfl
      refine A_one (i := 13) (A_yes (j := 11) (dj := 34) (b := true) rfl rfl (S_call cb_15 rfl (rleft_ret hR8) ?_)) (by decide +kernel)
      rintro _ _ ⟨rfl, rfl⟩
      refine A_pureY (i := 16) (j := 11) (dj := 34) (b := true) rfl (P_eq rfl rfl (decide_eq_true rfl)) rfl ?_ (by decide +kernel) (by decide +kernel) (by decide +kernel) (fun _ _ _ _ h => h) rfl rfl rfl rfl
      refine A_pure (i := 17) rfl (P_pickT rfl rfl) ?_ (by decide +kernel) (by decide +kernel) (by decide +kernel) (fun _ _ _ _ h => h) rfl rfl rfl
      refine A_pure (i := 18) rfl (P_move rfl) ?_ (by decide +kernel) (by decide +kernel) (by decide +kernel) (fun _ _ _ _ h => h) rfl rfl rfl
      refine A_pureY (i := 19) (j := 18) (dj := 41) (b := true) rfl (P_move rfl) rfl ?_ (by decide +kernel) (by decide +kernel) (by decide +kernel) (fun _ _ _ _ h => h) rfl rfl rfl rfl
      refine A_one (i := 20) (A_yes (j := 18) (dj := 41) (b := true) rfl rfl (S_call cb_16 rfl (rerr_ret hR8) ?_)) (by decide +kernel)
      rintro _ _ ⟨rfl, rfl⟩
      refine A_pureY (i := 21) (j := 18) (dj := 41) (b := true) rfl (P_eq rfl rfl (decide_eq_true (by decide))) rfl ?_ (by decide +kernel) (by decide +kernel) (by decide +kernel) (fun _ _ _ _ h => h) rfl rfl rfl rfl
      refine A_pure (i := 22) rfl (P_pickT rfl rfl) ?_ (by decide +kernel) (by decide +kernel) (by decide +kernel) (fun _ _ _ _ h => h) rfl rfl rfl
      refine A_pure (i := 23) rfl (P_assign rfl) ?_ (by decide +kernel) (by decide +kernel) (by decide +kernel) (fun _ _ _ _ h => h) rfl rfl rfl
      refine A_done (by decide +kernel) ?_
      refine then_n ?_
      refine C_ret ?_
      refine F_ret1 Try.results3 rfl ?_
      exact ⟨rfl, (hm06.drew.no hm7).new hm8 hg⟩

end Go.Proofs.Ytgicoidmjfhnbaa
