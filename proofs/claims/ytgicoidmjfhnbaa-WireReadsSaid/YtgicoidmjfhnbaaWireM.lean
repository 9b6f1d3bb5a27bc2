import Derived.Test.YtgicoidmjfhnbaaWireN
namespace Go.Proofs.Ytgicoidmjfhnbaa
open Go.RowKit

theorem rint_ret {w : World} {lo g : Nat} {bs : List UInt8} {err : Int} (h : IsR w lo g bs err) :
    Ret Try.prog 23 [.pointer (some ⟨g, 0, none⟩)] w fun v w' => v = .int .i64 (rInt bs err).1 ∧ IsR w' lo g (rInt bs err).2.1 (rInt bs err).2.2 ∧ Mv (At g) w w' := by
  have hlt := rNum_lt bs err
  have hR : (rInt bs err).1 = unzig (rNum bs err).1 := rfl
  have hR2 : (rInt bs err).2 = (rNum bs err).2 := rfl
  rw [hR, hR2]
  have hN := rnum_ret h
  generalize (rNum bs err) = x at *
  obtain ⟨n, rest⟩ := x
  dsimp only at *
  by_cases hodd : n % 2 = 1
  · have hz : unzig n = -((n / 2 : Nat) : Int) - 1 := by simp only [unzig, if_pos hodd]
    rw [hz]
    refine F_enter Try.func23 Try.ntmps23 rfl rfl ?_
    refine C_seq ?_
    refine C_region ?_
    refine L (S (P_assign rfl) ?_)
    refine L_nil ?_
    refine then_n ?_
    refine C_seq ?_
    refine C_region ?_
    refine L (S (P_move rfl) ?_)
    refine L (S_call cb_14 rfl (hN) ?_)
    rintro _ w1 ⟨rfl, hr1, hm1⟩
    refine L (S (P_assign rfl) ?_)
    refine L_nil ?_
    refine then_n ?_
    refine C_seq ?_
    refine C_seq ?_
    refine C_region ?_
    refine L (S (P_move rfl) ?_)
    refine L (S (P_rem rfl rfl (c := ((n % 2 : Nat) : Int)) (by decide) (remN (m := n) (k := 2) rfl rfl rfl)) ?_)
    refine L (S (P_eq rfl rfl (decide_eq_true (by omega))) ?_)
    refine L_nil ?_
    refine then_n ?_
    refine C_true rfl ?_
    refine C_seq ?_
    refine C_region ?_
    refine L (S (P_move rfl) ?_)
    refine L (S (P_quo rfl rfl (c := ((n / 2 : Nat) : Int)) (by decide) (quoU64 (m := n) (k := 2) rfl rfl rfl hlt)) ?_)
    refine L (S (P_conv Try.underlying22 Try.underlying2 rfl (wI64 (c := ((n / 2 : Nat) : Int)) (by omega))) ?_)
    refine L (S (P_neg rfl (wI64 ⟨rfl, by omega, by omega⟩)) ?_)
    refine L (S (P_sub rfl rfl (wI64 ⟨rfl, by omega, by omega⟩)) ?_)
    refine L (S (P_assign rfl) ?_)
    refine L_nil ?_
    refine then_n ?_
    refine C_ret ?_
    refine then_r ?_
    refine F_ret1 Try.results23 rfl ?_
    exact ⟨rfl, hr1, hm1⟩
  · have hz : unzig n = ((n / 2 : Nat) : Int) := by simp only [unzig, if_neg hodd]
    rw [hz]
    refine F_enter Try.func23 Try.ntmps23 rfl rfl ?_
    refine C_seq ?_
    refine C_region ?_
    refine L (S (P_assign rfl) ?_)
    refine L_nil ?_
    refine then_n ?_
    refine C_seq ?_
    refine C_region ?_
    refine L (S (P_move rfl) ?_)
    refine L (S_call cb_14 rfl (hN) ?_)
    rintro _ w1 ⟨rfl, hr1, hm1⟩
    refine L (S (P_assign rfl) ?_)
    refine L_nil ?_
    refine then_n ?_
    refine C_seq ?_
    refine C_seq ?_
    refine C_region ?_
    refine L (S (P_move rfl) ?_)
    refine L (S (P_rem rfl rfl (c := ((n % 2 : Nat) : Int)) (by decide) (remN (m := n) (k := 2) rfl rfl rfl)) ?_)
    refine L (S (P_eq rfl rfl (decide_eq_false (by omega))) ?_)
    refine L_nil ?_
    refine then_n ?_
    refine C_false rfl ?_
    refine C_skip ?_
    refine then_n ?_
    refine C_seq ?_
    refine C_region ?_
    refine L (S (P_move rfl) ?_)
    refine L (S (P_quo rfl rfl (c := ((n / 2 : Nat) : Int)) (by decide) (quoU64 (m := n) (k := 2) rfl rfl rfl hlt)) ?_)
    refine L (S (P_conv Try.underlying22 Try.underlying2 rfl (wI64 (c := ((n / 2 : Nat) : Int)) (by omega))) ?_)
    refine L (S (P_assign rfl) ?_)
    refine L_nil ?_
    refine then_n ?_
    refine C_ret ?_
    refine F_ret1 Try.results23 rfl ?_
    exact ⟨rfl, hr1, hm1⟩

theorem rnum_nil {w : World} : Ret Try.prog 14 [.pointer none] w fun v w' => v = .int .u64 0 ∧ w = w' := by
  refine F_enter Try.func14 Try.ntmps14 rfl rfl ?_
  refine C_seq ?_
  refine C_region ?_
  refine L (S (P_assign rfl) ?_)
  refine L_nil ?_
  refine then_n ?_
  refine C_seq ?_
  refine C_seq ?_
  refine C_region ?_
  refine L (S (P_move rfl) ?_)
  refine L (S_call cb_16 rfl (rerr_nil) ?_)
  rintro _ _ ⟨rfl, rfl⟩
  refine L (S (P_ne rfl rfl (decide_eq_true (by decide))) ?_)
  refine L_nil ?_
  refine then_n ?_
  refine C_true rfl ?_
  refine C_seq ?_
  refine C_region ?_
  refine L (S (P_assign rfl) ?_)
  refine L_nil ?_
  refine then_n ?_
  refine C_ret ?_
  refine then_r ?_
  refine F_ret1 Try.results14 rfl ?_
  exact ⟨rfl, rfl⟩

theorem rint_nil {w : World} : Ret Try.prog 23 [.pointer none] w fun v w' => v = .int .i64 0 ∧ w = w' := by
  refine F_enter Try.func23 Try.ntmps23 rfl rfl ?_
  refine C_seq ?_
  refine C_region ?_
  refine L (S (P_assign rfl) ?_)
  refine L_nil ?_
  refine then_n ?_
  refine C_seq ?_
  refine C_region ?_
  refine L (S (P_move rfl) ?_)
  refine L (S_call cb_14 rfl (rnum_nil) ?_)
  rintro _ _ ⟨rfl, rfl⟩
  refine L (S (P_assign rfl) ?_)
  refine L_nil ?_
  refine then_n ?_
  refine C_seq ?_
  refine C_seq ?_
  refine C_region ?_
  refine L (S (P_move rfl) ?_)
  refine L (S (P_rem rfl rfl (by decide) rfl) ?_)
  refine L (S (P_eq rfl rfl (decide_eq_false (by decide))) ?_)
  refine L_nil ?_
  refine then_n ?_
  refine C_false rfl ?_
  refine C_skip ?_
  refine then_n ?_
  refine C_seq ?_
  refine C_region ?_
  refine L (S (P_move rfl) ?_)
  refine L (S (P_quo rfl rfl (c := 0) (by decide) (by decide)) ?_)
  refine L (S (P_conv Try.underlying22 Try.underlying2 rfl (wI64 ⟨rfl, by omega, by omega⟩)) ?_)
  refine L (S (P_assign rfl) ?_)
  refine L_nil ?_
  refine then_n ?_
  refine C_ret ?_
  refine F_ret1 Try.results23 rfl ?_
  exact ⟨rfl, rfl⟩

theorem rcount_nil {w : World} (most : Int) : Ret Try.prog 24 [.pointer none, .int .i64 most] w fun v w' => v = .int .i64 0 ∧ w = w' := by
  refine F_enter Try.func24 Try.ntmps24 rfl rfl ?_
  refine C_seq ?_
  refine C_region ?_
  refine L (S (P_assign rfl) ?_)
  refine L_nil ?_
  refine then_n ?_
  refine C_seq ?_
  refine C_seq ?_
  refine C_region ?_
  refine L (S (P_move rfl) ?_)
  refine L (S_call cb_16 rfl (rerr_nil) ?_)
  rintro _ _ ⟨rfl, rfl⟩
  refine L (S (P_ne rfl rfl (decide_eq_true (by decide))) ?_)
  refine L_nil ?_
  refine then_n ?_
  refine C_true rfl ?_
  refine C_seq ?_
  refine C_region ?_
  refine L (S (P_assign rfl) ?_)
  refine L_nil ?_
  refine then_n ?_
  refine C_ret ?_
  refine then_r ?_
  refine F_ret1 Try.results24 rfl ?_
  exact ⟨rfl, rfl⟩
theorem rcount_ret {w : World} {lo g : Nat} {bs : List UInt8} {err : Int} (most : Int) (hm0 : -9223372036854775808 ≤ most) (hm9 : most < 9223372036854775808) (h : IsR w lo g bs err) :
    Ret Try.prog 24 [.pointer (some ⟨g, 0, none⟩), .int .i64 most] w fun v w' => v = .int .i64 (rCount bs err most).1 ∧ IsR w' lo g (rCount bs err most).2.1 (rCount bs err most).2.2 ∧ Mv (At g) w w' := by
  have H := h
  obtain ⟨⟨A, cap, hb, hr, h1, h2, h3⟩, hl⟩ := h
  by_cases he : err = 0
  · have hlt := rNum_lt bs err
    have hN := rnum_ret H
    have hR : rCount bs err most = (if (rNum bs err).2.2 = 0 ∧ (most < 0 ∨ most < ((rNum bs err).1 : Int)) then (0, bs, 11) else (if (rNum bs err).2.2 = 0 then ((rNum bs err).1 : Int) else 0, (rNum bs err).2)) := by simp only [rCount]; rw [if_neg (by simpa using he)]
    have hz0 : (rNum bs err).2.2 ≠ 0 → (rNum bs err).1 = 0 := by
      simp only [rNum]
      rw [if_neg (by simpa using he)]
      cases takeF 0 0 bs <;> simp [ofTake]
    rw [hR]
    generalize rNum bs err = x at *
    obtain ⟨n, rest, e'⟩ := x
    dsimp only at *
    refine F_enter Try.func24 Try.ntmps24 rfl rfl ?_
    refine C_seq ?_
    refine C_region ?_
    refine L (S (P_assign rfl) ?_)
    refine L_nil ?_
    refine then_n ?_
    refine C_seq ?_
    refine C_seq ?_
    refine C_region ?_
    refine L (S (P_move rfl) ?_)
    refine L (S_call cb_16 rfl (rerr_ret H) ?_)
    rintro _ _ ⟨rfl, rfl⟩
    refine L (S (P_ne rfl rfl (decide_eq_false (by simpa using he))) ?_)
    refine L_nil ?_
    refine then_n ?_
    refine C_false rfl ?_
    refine C_skip ?_
    refine then_n ?_
    refine C_seq ?_
    refine C_region ?_
    refine L (S (P_move rfl) ?_)
    refine L (S (P_nilCheck rfl) ?_)
    refine L (S (P_fieldAddr fo_57_0 rfl) ?_)
    refine L (S_load sc_23 rfl (hb.cell (i := 0) rfl) ?_)
    refine L (S (P_assign rfl) ?_)
    refine L_nil ?_
    refine then_n ?_
    refine C_seq ?_
    refine C_region ?_
    refine L (S (P_move rfl) ?_)
    refine L (S_call cb_14 rfl (hN) ?_)
    rintro _ w1 ⟨rfl, hr1, hm1⟩
    refine L (S (P_assign rfl) ?_)
    refine L_nil ?_
    refine then_n ?_
    refine C_seq ?_
    refine C_seq ?_
    obtain ⟨⟨A1, cap1, hb1, hs1, h11, h21, h31⟩, hl1⟩ := hr1
    have hR1 : IsR w1 lo g rest e' := ⟨⟨A1, cap1, hb1, hs1, h11, h21, h31⟩, hl1⟩
    by_cases he' : e' = 0
    · by_cases hneg : most < 0
      · rw [if_pos ⟨he', .inl hneg⟩]
        refine C_region ?_
        refine L (S (P_move rfl) ?_)
        refine L (S (P_nilCheck rfl) ?_)
        refine L (S (P_fieldAddr fo_57_1 rfl) ?_)
        refine L (S_load sc_31 rfl (hb1.cell (i := 1) rfl) ?_)
        refine L (S (P_eq rfl rfl (decide_eq_true he')) ?_)
        refine L (S (P_move rfl) ?_)
        refine L_yes (j := 5) (dj := 21) (b := true) (S (P_move rfl) ?_) rfl
        refine L_yes (j := 5) (dj := 21) (b := true) (S (P_lt rfl rfl (decide_eq_true hneg)) ?_) rfl
        refine L_yes (j := 5) (dj := 21) (b := true) (S (P_move rfl) ?_) rfl
        refine L_no (j := 8) (dj := 24) (b := false) (b' := true) (d := 25) rfl ?_
        refine L_no (j := 8) (dj := 24) (b := false) (b' := true) (d := 26) rfl ?_
        refine L_no (j := 8) (dj := 24) (b := false) (b' := true) (d := 27) rfl ?_
        refine L_no (j := 8) (dj := 24) (b := false) (b' := true) (d := 28) rfl ?_
        refine L_yes (j := 5) (dj := 21) (b := true) (S (P_pickT rfl rfl) ?_) rfl
        refine L (S (P_pickT rfl rfl) ?_)
        refine L_nil ?_
        refine then_n ?_
        refine C_true rfl ?_
        refine C_seq ?_
        refine C_region ?_
        refine L (S (P_move rfl) ?_)
        refine L (S (P_move rfl) ?_)
        refine L (S (P_move rfl) ?_)
        refine L (S (P_nilCheck rfl) ?_)
        refine L (S (P_fieldAddr fo_57_0 rfl) ?_)
        refine L (S_store ti_23 rfl rfl rfl hb1 (by simp) ?_)
        rintro w2 hb2 hm2
        refine L (S (P_nilCheck rfl) ?_)
        refine L (S (P_fieldAddr fo_57_1 rfl) ?_)
        refine L (S_store ti_31 rfl rfl rfl hb2 (by simp) ?_)
        rintro w3 hb3 hm3
        refine L_nil ?_
        refine then_n ?_
        refine C_seq ?_
        refine C_region ?_
        refine L (S (P_assign rfl) ?_)
        refine L_nil ?_
        refine then_n ?_
        refine C_ret ?_
        refine then_r ?_
        refine F_ret1 Try.results24 rfl ?_
        have hm12 : Mv (At g) w1 w3 := hm2.trans hm3 fun _ _ h => h
        exact ⟨rfl, IsR.put (bs' := bs) (err' := 11) hl hb3 (hm1.trans hm12 fun _ _ h => h) hr h1 h2 h3, hm1.trans hm12 fun _ _ h => h⟩
      · by_cases hbig : most < (n : Int)
        · rw [if_pos ⟨he', .inr hbig⟩]
          refine C_region ?_
          refine L (S (P_move rfl) ?_)
          refine L (S (P_nilCheck rfl) ?_)
          refine L (S (P_fieldAddr fo_57_1 rfl) ?_)
          refine L (S_load sc_31 rfl (hb1.cell (i := 1) rfl) ?_)
          refine L (S (P_eq rfl rfl (decide_eq_true he')) ?_)
          refine L (S (P_move rfl) ?_)
          refine L_yes (j := 5) (dj := 21) (b := true) (S (P_move rfl) ?_) rfl
          refine L_yes (j := 5) (dj := 21) (b := true) (S (P_lt rfl rfl (decide_eq_false hneg)) ?_) rfl
          refine L_yes (j := 5) (dj := 21) (b := true) (S (P_move rfl) ?_) rfl
          refine L_yes (j := 8) (dj := 24) (b := false) (S (P_move rfl) ?_) rfl
          refine L_yes (j := 8) (dj := 24) (b := false) (S (P_move rfl) ?_) rfl
          refine L_yes (j := 8) (dj := 24) (b := false) (S (P_conv Try.underlying3 Try.underlying22 rfl (wU64 ⟨rfl, by omega, by omega⟩)) ?_) rfl
          refine L_yes (j := 8) (dj := 24) (b := false) (S (P_gt rfl rfl (decide_eq_true hbig)) ?_) rfl
          refine L_yes (j := 5) (dj := 21) (b := true) (S (P_pickF rfl rfl) ?_) rfl
          refine L (S (P_pickT rfl rfl) ?_)
          refine L_nil ?_
          refine then_n ?_
          refine C_true rfl ?_
          refine C_seq ?_
          refine C_region ?_
          refine L (S (P_move rfl) ?_)
          refine L (S (P_move rfl) ?_)
          refine L (S (P_move rfl) ?_)
          refine L (S (P_nilCheck rfl) ?_)
          refine L (S (P_fieldAddr fo_57_0 rfl) ?_)
          refine L (S_store ti_23 rfl rfl rfl hb1 (by simp) ?_)
          rintro w2 hb2 hm2
          refine L (S (P_nilCheck rfl) ?_)
          refine L (S (P_fieldAddr fo_57_1 rfl) ?_)
          refine L (S_store ti_31 rfl rfl rfl hb2 (by simp) ?_)
          rintro w3 hb3 hm3
          refine L_nil ?_
          refine then_n ?_
          refine C_seq ?_
          refine C_region ?_
          refine L (S (P_assign rfl) ?_)
          refine L_nil ?_
          refine then_n ?_
          refine C_ret ?_
          refine then_r ?_
          refine F_ret1 Try.results24 rfl ?_
          have hm12 : Mv (At g) w1 w3 := hm2.trans hm3 fun _ _ h => h
          exact ⟨rfl, IsR.put (bs' := bs) (err' := 11) hl hb3 (hm1.trans hm12 fun _ _ h => h) hr h1 h2 h3, hm1.trans hm12 fun _ _ h => h⟩
        · rw [if_neg (fun hh => hh.2.elim hneg hbig), if_pos he']
          refine C_region ?_
          refine L (S (P_move rfl) ?_)
          refine L (S (P_nilCheck rfl) ?_)
          refine L (S (P_fieldAddr fo_57_1 rfl) ?_)
          refine L (S_load sc_31 rfl (hb1.cell (i := 1) rfl) ?_)
          refine L (S (P_eq rfl rfl (decide_eq_true he')) ?_)
          refine L (S (P_move rfl) ?_)
          refine L_yes (j := 5) (dj := 21) (b := true) (S (P_move rfl) ?_) rfl
          refine L_yes (j := 5) (dj := 21) (b := true) (S (P_lt rfl rfl (decide_eq_false hneg)) ?_) rfl
          refine L_yes (j := 5) (dj := 21) (b := true) (S (P_move rfl) ?_) rfl
          refine L_yes (j := 8) (dj := 24) (b := false) (S (P_move rfl) ?_) rfl
          refine L_yes (j := 8) (dj := 24) (b := false) (S (P_move rfl) ?_) rfl
          refine L_yes (j := 8) (dj := 24) (b := false) (S (P_conv Try.underlying3 Try.underlying22 rfl (wU64 ⟨rfl, by omega, by omega⟩)) ?_) rfl
          refine L_yes (j := 8) (dj := 24) (b := false) (S (P_gt rfl rfl (decide_eq_false hbig)) ?_) rfl
          refine L_yes (j := 5) (dj := 21) (b := true) (S (P_pickF rfl rfl) ?_) rfl
          refine L (S (P_pickT rfl rfl) ?_)
          refine L_nil ?_
          refine then_n ?_
          refine C_false rfl ?_
          refine C_skip ?_
          refine then_n ?_
          refine C_seq ?_
          refine C_region ?_
          refine L (S (P_move rfl) ?_)
          refine L (S (P_conv Try.underlying22 Try.underlying3 rfl (wI64 ⟨rfl, by omega, by omega⟩)) ?_)
          refine L (S (P_assign rfl) ?_)
          refine L_nil ?_
          refine then_n ?_
          refine C_ret ?_
          refine F_ret1 Try.results24 rfl ?_
          exact ⟨rfl, hR1, hm1⟩
    · rw [if_neg (fun hh => he' hh.1), if_neg he']
      obtain rfl : n = 0 := hz0 he'
      refine C_region ?_
      refine L (S (P_move rfl) ?_)
      refine L (S (P_nilCheck rfl) ?_)
      refine L (S (P_fieldAddr fo_57_1 rfl) ?_)
      refine L (S_load sc_31 rfl (hb1.cell (i := 1) rfl) ?_)
      refine L (S (P_eq rfl rfl (decide_eq_false he')) ?_)
      refine L (S (P_move rfl) ?_)
      refine L_no (j := 5) (dj := 21) (b := true) (b' := false) (d := 22) rfl ?_
      refine L_no (j := 5) (dj := 21) (b := true) (b' := false) (d := 23) rfl ?_
      refine L_no (j := 5) (dj := 21) (b := true) (b' := false) (d := 24) rfl ?_
      refine L_nou (j := 8) (dj := 24) (b := false) (d := 25) rfl ?_
      refine L_nou (j := 8) (dj := 24) (b := false) (d := 26) rfl ?_
      refine L_nou (j := 8) (dj := 24) (b := false) (d := 27) rfl ?_
      refine L_nou (j := 8) (dj := 24) (b := false) (d := 28) rfl ?_
      refine L_no (j := 5) (dj := 21) (b := true) (b' := false) (d := 29) rfl ?_
      refine L (S (P_pickF rfl rfl) ?_)
      refine L_nil ?_
      refine then_n ?_
      refine C_false rfl ?_
      refine C_skip ?_
      refine then_n ?_
      refine C_seq ?_
      refine C_region ?_
      refine L (S (P_move rfl) ?_)
      refine L (S (P_conv Try.underlying22 Try.underlying3 rfl (wI64 ⟨rfl, by omega, by omega⟩)) ?_)
      refine L (S (P_assign rfl) ?_)
      refine L_nil ?_
      refine then_n ?_
      refine C_ret ?_
      refine F_ret1 Try.results24 rfl ?_
      exact ⟨rfl, hR1, hm1⟩
  · have hR : rCount bs err most = (0, bs, err) := by simp [rCount, he]
    rw [hR]
    refine F_enter Try.func24 Try.ntmps24 rfl rfl ?_
    refine C_seq ?_
    refine C_region ?_
    refine L (S (P_assign rfl) ?_)
    refine L_nil ?_
    refine then_n ?_
    refine C_seq ?_
    refine C_seq ?_
    refine C_region ?_
    refine L (S (P_move rfl) ?_)
    refine L (S_call cb_16 rfl (rerr_ret H) ?_)
    rintro _ _ ⟨rfl, rfl⟩
    refine L (S (P_ne rfl rfl (decide_eq_true he)) ?_)
    refine L_nil ?_
    refine then_n ?_
    refine C_true rfl ?_
    refine C_seq ?_
    refine C_region ?_
    refine L (S (P_assign rfl) ?_)
    refine L_nil ?_
    refine then_n ?_
    refine C_ret ?_
    refine then_r ?_
    refine F_ret1 Try.results24 rfl ?_
    exact ⟨rfl, H, Mv.refl w⟩

end Go.Proofs.Ytgicoidmjfhnbaa
