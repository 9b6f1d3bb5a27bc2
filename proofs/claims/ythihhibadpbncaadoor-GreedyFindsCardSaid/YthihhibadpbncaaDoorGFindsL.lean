import Derived.Test.YthihhibadpbncaaDoorGRefU
namespace Go.Proofs.YthihhibadpbncaaDoor
open Go.RowKit
section
variable {w : World} {v : Value} {A A5 A6 : Option Addr} {cap c5 c6 : Nat} {bud m k bs : Int} {sz off two : List Int}
set_option maxHeartbeats 1000000 in
theorem greedyFinds_ret (hT : Tab w) (hc : IsCase w v A cap bud m k bs A5 c5 A6 c6 sz off two) :
    Ret Tryd.prog 3 [v] w fun r w' => r = .bool true ∧ Mv No w w' := by
  have hv : v = caseV A sz.length cap bud m k bs A5 off.length c5 A6 two.length c6 := hc.eq
  obtain ⟨hm0, hm9⟩ := hc.rm
  obtain ⟨hk0, hk9⟩ := hc.rk
  obtain ⟨hb0, hb9⟩ := hc.rb
  have hl1 := hc.ls
  unfold maxLen at hl1
  subst hv
  refine F_enter Tryd.func3 Tryd.ntmps3 rfl rfl ?_
  refine C_seq ?_
  refine C_region ?_
  refine L (S_box rfl ?_)
  rintro b1 w1 hb1 hm1 hn1
  refine L (S (P_assign rfl) ?_)
  refine L_nil ?_
  refine then_n ?_
  refine C_seq ?_
  refine C_seq ?_
  have h1 : Blk w1 b1 (caseC A sz.length cap bud m k bs A5 off.length c5 A6 two.length c6) 25 := hb1
  by_cases hf : FitsC sz off two
  · refine C_region ?_
    refine L (S_call cb_7 rfl (lives_ret (hT.mv hm1)) ?_)
    rintro _ w2 ⟨rfl, hm2⟩
    refine L (S (P_not rfl rfl) ?_)
    refine L (S (P_move rfl) ?_)
    refine L_yes (j := 2) (dj := 7) (b := false) (S_loadS st_25 rfl (h1.no hm2).row rfl ?_) rfl
    refine L_yes (j := 2) (dj := 7) (b := false) (S_call cb_8 rfl (fitsC_yes (hc.no (hm1.no hm2)) hf) ?_) rfl
    rintro _ w3 ⟨rfl, hm3⟩
    refine L_yes (j := 2) (dj := 7) (b := false) (S (P_not rfl rfl) ?_) rfl
    refine L (S (P_pickF rfl rfl) ?_)
    refine L_nil ?_
    refine then_n ?_
    refine C_false rfl ?_
    refine C_skip ?_
    refine then_n ?_
    refine C_seq ?_
    have hm03 : Mv No w w3 := (hm1.no hm2).no hm3
    have h1a := (h1.no hm2).no hm3
    have hc3 := hc.no hm03
    by_cases hw : m < 0 ∨ 3 < m ∨ k < 0 ∨ bud < 0
    · refine C_region ?_
      refine L (S (P_fieldAddr fo_25_0 rfl) ?_)
      refine L (S_load sc_22 rfl (h1a.cell (i := 0) rfl) ?_)
      refine L (S (P_fieldAddr fo_25_1 rfl) ?_)
      refine L (S_load sc_2 rfl (h1a.cell (i := 1) rfl) ?_)
      refine L (S (P_fieldAddr fo_25_2 rfl) ?_)
      refine L (S_load sc_3 rfl (h1a.cell (i := 2) rfl) ?_)
      refine L (S (P_fieldAddr fo_25_3 rfl) ?_)
      refine L (S_load sc_3 rfl (h1a.cell (i := 3) rfl) ?_)
      refine L (S_loadS st_25 rfl h1a.row rfl ?_)
      refine L (S (P_makeFunc rfl rfl) ?_)
      refine L (S_call cb_9 rfl (search_bad sz.length bud m k (by omega) (by omega)) ?_)
      rintro _ w5 ⟨rfl, rfl⟩
      refine L (S (P_move rfl) ?_)
      refine L (S (P_extract rfl rfl) ?_)
      refine L (S (P_extract rfl rfl) ?_)
      refine L (S (P_assign rfl) ?_)
      refine L (S (P_assign rfl) ?_)
      refine L_nil ?_
      refine then_n ?_
      refine C_seq ?_
      refine C_seq ?_
      refine C_region ?_
      refine L (S_loadS st_25 rfl h1a.row rfl ?_)
      refine L (S_call cb_11 rfl (wrong_yes hc3 hw) ?_)
      rintro _ w6 ⟨rfl, hm6⟩
      refine L_nil ?_
      refine then_n ?_
      refine C_true rfl ?_
      refine C_seq ?_
      refine C_region ?_
      refine L (S (P_move rfl) ?_)
      refine L (S (P_eq rfl rfl (decide_eq_true rfl)) ?_)
      refine L (S (P_move rfl) ?_)
      refine L_yes (j := 2) (dj := 31) (b := true) (S (P_move rfl) ?_) rfl
      refine L_yes (j := 2) (dj := 31) (b := true) (S (P_eq rfl rfl (decide_eq_true rfl)) ?_) rfl
      refine L (S (P_pickT rfl rfl) ?_)
      refine L (S (P_assign rfl) ?_)
      refine L_nil ?_
      refine then_n ?_
      refine C_ret ?_
      refine then_r ?_
      refine F_ret1 Tryd.results3 rfl ?_
      exact ⟨rfl, hm03.no hm6⟩
    · have hf' := hf
      obtain ⟨hf1, hf2, hf3⟩ := hf
      have hpow : 2 ^ sz.length ≤ 1024 := by
        have := Nat.pow_le_pow_right (n := 2) (by omega) hf1
        simpa using this
      have hlaw := search_fits (sz := sz) (bud := bud) (pr := fun x => priceF bs off two x sz.length) (m := m) (k := k) (by omega) (by omega) (by omega)
      obtain ⟨g1, g2, g3, g4⟩ := hlaw
      clear g1 g2 g4
      refine C_region ?_
      refine L (S (P_fieldAddr fo_25_0 rfl) ?_)
      refine L (S_load sc_22 rfl (h1a.cell (i := 0) rfl) ?_)
      refine L (S (P_fieldAddr fo_25_1 rfl) ?_)
      refine L (S_load sc_2 rfl (h1a.cell (i := 1) rfl) ?_)
      refine L (S (P_fieldAddr fo_25_2 rfl) ?_)
      refine L (S_load sc_3 rfl (h1a.cell (i := 2) rfl) ?_)
      refine L (S (P_fieldAddr fo_25_3 rfl) ?_)
      refine L (S_load sc_3 rfl (h1a.cell (i := 3) rfl) ?_)
      refine L (S_loadS st_25 rfl h1a.row rfl ?_)
      refine L (S (P_makeFunc rfl rfl) ?_)
      refine L (S_call cb_9 rfl (search_ret (pr := fun x => priceF bs off two x sz.length) sz bud m k hc3.s hc3.rs (by omega) hb9 (hc3.pr hf') (hT.mv hm03)) ?_)
      rintro _ w5 ⟨rfl, hm5⟩
      refine L (S (P_move rfl) ?_)
      refine L (S (P_extract rfl rfl) ?_)
      refine L (S (P_extract rfl rfl) ?_)
      refine L (S (P_assign rfl) ?_)
      refine L (S (P_assign rfl) ?_)
      refine L_nil ?_
      refine then_n ?_
      refine C_seq ?_
      refine C_seq ?_
      refine C_region ?_
      refine L (S_loadS st_25 rfl (h1a.no hm5).row rfl ?_)
      refine L (S_call cb_11 rfl (wrong_no (hc3.no hm5) hw) ?_)
      rintro _ w6 ⟨rfl, hm6⟩
      refine L_nil ?_
      refine then_n ?_
      refine C_false rfl ?_
      refine C_skip ?_
      refine then_n ?_
      refine C_seq ?_
      have hm06 : Mv No w w6 := (hm03.no hm5).no hm6
      have h1b := (h1a.no hm5).no hm6
      have hc6 := hc.no hm06
      refine C_drawQ 16 mixed rfl (fun hH => ?_)
      refine H_pure (i := 0) rfl (PureV.toS (P_move rfl)) ?_ (by assumption) (by decide +kernel) (by decide +kernel) (by decide +kernel) (fun _ _ _ _ h => h) rfl rfl rfl
      refine H_pure (i := 1) rfl (PureV.toS (P_eq rfl rfl (decide_eq_true rfl))) ?_ (by assumption) (by decide +kernel) (by decide +kernel) (by decide +kernel) (fun _ _ _ _ h => h) rfl rfl rfl
      refine H_pure (i := 2) rfl (PureV.toS (P_move rfl)) ?_ (by assumption) (by decide +kernel) (by decide +kernel) (by decide +kernel) (fun _ _ _ _ h => h) rfl rfl rfl
      refine H_pureY (i := 3) (j := 2) (dj := 37) (b := true) rfl (PureV.toS (P_move rfl)) rfl ?_ (by assumption) (by decide +kernel) (by decide +kernel) (by decide +kernel) (fun _ _ _ _ h => h) rfl rfl rfl rfl
      refine H_pureY (i := 4) (j := 2) (dj := 37) (b := true) rfl (PureV.toS (P_conv Tryd.underlying28 Tryd.underlying3 rfl (wI64 (c := (searchF sz bud (fun x => priceF bs off two x sz.length) m k : Int)) (by omega)))) rfl ?_ (by assumption) (by decide +kernel) (by decide +kernel) (by decide +kernel) (fun _ _ _ _ h => h) rfl rfl rfl rfl
      refine H_pureY (i := 5) (j := 2) (dj := 37) (b := true) rfl (PS_loadS st_25 rfl (fun _ h => (h1b.no h).row) rfl) rfl ?_ (by assumption) (by decide +kernel) (by decide +kernel) (by decide +kernel) (fun _ _ _ _ h => h) rfl rfl rfl rfl
      refine H_pureY (i := 7) (j := 2) (dj := 37) (b := true) rfl (PureV.toS (P_fieldAddr fo_25_2 rfl)) rfl ?_ (by assumption) (by decide +kernel) (by decide +kernel) (by decide +kernel) (fun _ _ _ _ h => h) rfl rfl rfl rfl
      refine H_pureY (i := 8) (j := 2) (dj := 37) (b := true) rfl (PS_load sc_3 rfl (fun _ h => (h1b.no h).cell (i := 2) rfl)) rfl ?_ (by assumption) (by decide +kernel) (by decide +kernel) (by decide +kernel) (fun _ _ _ _ h => h) rfl rfl rfl rfl
      refine H_pureY (i := 9) (j := 2) (dj := 37) (b := true) rfl (PureV.toS (P_fieldAddr fo_25_3 rfl)) rfl ?_ (by assumption) (by decide +kernel) (by decide +kernel) (by decide +kernel) (fun _ _ _ _ h => h) rfl rfl rfl rfl
      refine H_pureY (i := 10) (j := 2) (dj := 37) (b := true) rfl (PS_load sc_3 rfl (fun _ h => (h1b.no h).cell (i := 3) rfl)) rfl ?_ (by assumption) (by decide +kernel) (by decide +kernel) (by decide +kernel) (fun _ _ _ _ h => h) rfl rfl rfl rfl
      refine H_one (i := 6) (H_yes (j := 2) (dj := 37) (b := true) rfl rfl (S_call cb_14 rfl (problem_ret (hc6.no hH) hf') ?_)) (by decide +kernel)
      rintro _ w7 ⟨A7, c7, rfl, hs7, hm7⟩
      refine and_keep (by first | assumption | exact Mv.no (by assumption) (by assumption)) (fun hH => ?_)
      refine H_one (i := 11) (H_yes (j := 2) (dj := 37) (b := true) rfl rfl (S_call cb_13 rfl (refsearch_ret (bud := bud) (sz := sz) (pr := fun x => priceF bs off two x sz.length) m k ⟨rfl, hf1, (hc6.no hH).s, hc.rs, by omega, hb9, hs7⟩ (by omega) (by omega) (by omega) hk9) ?_)) (by decide +kernel)
      rintro _ w8 ⟨A8, l8, c8, rfl, hs8, hr8, hm8⟩
      refine and_keep (by first | assumption | exact Mv.no (by assumption) (by assumption)) (fun hH => ?_)
      refine H_one (i := 12) (H_yes (j := 2) (dj := 37) (b := true) rfl rfl (S_call cb_12 rfl (refset_ret l8 hs8 (fun x hx => by have := hr8.bnd x hx; omega) (by have := hr8.len (by omega); have := pop_lt (by omega) hr8.lt; omega)) ?_)) (by decide +kernel)
      rintro _ w9 ⟨rfl, rfl⟩
      refine and_keep (by first | assumption | exact Mv.no (by assumption) (by assumption)) (fun hH => ?_)
      refine H_pureY (i := 13) (j := 2) (dj := 37) (b := true) rfl (PureV.toS (P_eq rfl rfl (decide_eq_true (by rw [hr8.set])))) rfl ?_ (by assumption) (by decide +kernel) (by decide +kernel) (by decide +kernel) (fun _ _ _ _ h => h) rfl rfl rfl rfl
      refine H_pure (i := 14) rfl (PureV.toS (P_pickT rfl rfl)) ?_ (by assumption) (by decide +kernel) (by decide +kernel) (by decide +kernel) (fun _ _ _ _ h => h) rfl rfl rfl
      refine H_pure (i := 15) rfl (PureV.toS (P_assign rfl)) ?_ (by assumption) (by decide +kernel) (by decide +kernel) (by decide +kernel) (fun _ _ _ _ h => h) rfl rfl rfl
      refine H_done (by decide +kernel) ?_
      refine then_n ?_
      refine C_ret ?_
      refine F_ret1 Tryd.results3 rfl ?_
      exact ⟨rfl, hm06.no hH⟩
  · refine C_region ?_
    refine L (S_call cb_7 rfl (lives_ret (hT.mv hm1)) ?_)
    rintro _ w2 ⟨rfl, hm2⟩
    refine L (S (P_not rfl rfl) ?_)
    refine L (S (P_move rfl) ?_)
    refine L_yes (j := 2) (dj := 7) (b := false) (S_loadS st_25 rfl (h1.no hm2).row rfl ?_) rfl
    refine L_yes (j := 2) (dj := 7) (b := false) (S_call cb_8 rfl (fitsC_no (hc.no (hm1.no hm2)) hf) ?_) rfl
    rintro _ w3 ⟨rfl, hm3⟩
    refine L_yes (j := 2) (dj := 7) (b := false) (S (P_not rfl rfl) ?_) rfl
    refine L (S (P_pickF rfl rfl) ?_)
    refine L_nil ?_
    refine then_n ?_
    refine C_true rfl ?_
    refine C_seq ?_
    refine C_region ?_
    refine L (S_call cb_7 rfl (lives_ret (hT.mv ((hm1.no hm2).no hm3))) ?_)
    rintro _ w4 ⟨rfl, hm4⟩
    refine L (S (P_assign rfl) ?_)
    refine L_nil ?_
    refine then_n ?_
    refine C_ret ?_
    refine then_r ?_
    refine F_ret1 Tryd.results3 rfl ?_
    exact ⟨rfl, ((hm1.no hm2).no hm3).no hm4⟩
end
end Go.Proofs.YthihhibadpbncaaDoor
