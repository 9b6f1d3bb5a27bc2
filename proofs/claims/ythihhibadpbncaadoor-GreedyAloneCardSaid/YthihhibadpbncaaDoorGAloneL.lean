import Derived.Test.YthihhibadpbncaaDoorGFitsL
import Derived.Test.YthihhibadpbncaaDoorGAlone
import Derived.Test.YthihhibadpbncaaDoorOwn
namespace Go.Proofs.YthihhibadpbncaaDoor
open Go.RowKit

def aF (off : List Int) (i : Nat) : Int := if i < off.length then off.getD i 0 else 0
theorem priceF_alone (bs : Int) (off : List Int) (x : Nat) : ∀ n, priceF bs off [] x n = bs.tmod 1000000 - sumF (aF off) x n
  | 0 => by simp [priceF, sumF]
  | n + 1 => by
    have ih := priceF_alone bs off x n
    simp only [priceF, priceStep, sumF, ih, offF, aF]
    by_cases hb : x.testBit n = true
    · by_cases ho : n < off.length
      · simp [hb, ho]; omega
      · simp [hb, ho]
    · simp [hb]
theorem aF_bound {off : List Int} (h : Inr16 off) (i : Nat) : -32768 ≤ aF off i ∧ aF off i < 32768 := by
  unfold aF
  split
  · rename_i hi; exact h.get hi
  · omega
theorem rep_set (n i : Nat) (s : Int) (h : i < n) : ((List.replicate i s ++ List.replicate (n - i) 0).map iv).set i (.int .i64 s) = (List.replicate (i + 1) s ++ List.replicate (n - (i + 1)) 0).map iv := by
  have e : n - i = (n - (i + 1)) + 1 := by omega
  rw [e, List.replicate_succ, List.map_append, List.map_append, List.set_append_right _ _ (by simp)]
  simp only [List.length_map, List.length_replicate, Nat.sub_self, List.map_cons, List.set_cons_zero]
  rw [show List.replicate (i + 1) s = List.replicate i s ++ [s] by rw [List.replicate_succ']]
  simp [iv]
theorem iv_one (l : List Int) : ∀ v ∈ l.map iv, v.oneCell' = true := by
  intro v hv
  obtain ⟨n, _, rfl⟩ := List.mem_map.1 hv
  rfl

/-- How many have room. -/
def roomN (size bud k : Int) : Nat := if 0 < size then (min k (bud / size)).toNat else k.toNat
theorem roomN_spec {size bud k : Int} (h0 : 0 ≤ size) (hb : 0 ≤ bud) (hk : 0 ≤ k) (p : Nat) : p ≤ roomN size bud k ↔ (p : Int) ≤ k ∧ size * (p : Int) ≤ bud := by
  unfold roomN
  split
  · rename_i hs
    have h1 := Int.le_ediv_iff_mul_le (a := (p : Int)) (b := bud) hs
    rw [Int.mul_comm] at h1
    have h2 : 0 ≤ bud / size := Int.ediv_nonneg hb h0
    omega
  · have : size = 0 := by omega
    subst this
    simp only [Int.zero_mul]
    omega

section
variable {w : World} {v : Value} {A A5 A6 : Option Addr} {cap c5 c6 : Nat} {bud m k bs : Int} {sz off two : List Int}
set_option maxHeartbeats 2000000 in
theorem greedyAlone_ret (size : Int) (hsz8 : 0 ≤ size ∧ size < 256) (hT : Tab w) (hc : IsCase w v A cap bud m k bs A5 c5 A6 c6 sz off two) :
    Ret Tryd.prog 5 [v, .int .u8 size] w fun r w' => r = .bool true ∧ Mv No w w' := by
  obtain ⟨hs0, hs9⟩ := hsz8
  have hv : v = caseV A sz.length cap bud m k bs A5 off.length c5 A6 two.length c6 := hc.eq
  obtain ⟨hm0, hm9⟩ := hc.rm
  obtain ⟨hk0, hk9⟩ := hc.rk
  obtain ⟨hb0, hb9'⟩ := hc.rb
  have hl1 := hc.ls
  unfold maxLen at hl1
  subst hv
  refine F_enter Tryd.func5 Tryd.ntmps5 rfl rfl ?_
  refine C_seq ?_
  refine C_region ?_
  refine L (S_box rfl ?_)
  rintro b2 w1 hb2 hm1 hn1
  refine L (S (P_assign rfl) ?_)
  refine L_nil ?_
  refine then_n ?_
  refine C_seq ?_
  refine C_seq ?_
  have h1 : Blk w1 b2 (caseC A sz.length cap bud m k bs A5 off.length c5 A6 two.length c6) 25 := hb2
  by_cases hf : FitsC sz off two
  · by_cases hw : m < 0 ∨ 3 < m ∨ k < 0 ∨ bud < 0
    · refine C_region ?_
      refine L (S_call cb_7 rfl (lives_ret (hT.mv hm1)) ?_)
      rintro _ w2 ⟨rfl, hm2⟩
      refine L (S (P_not rfl rfl) ?_)
      refine L (S (P_move rfl) ?_)
      refine L_yes (j := 2) (dj := 19) (b := false) (S_loadS st_25 rfl (h1.no hm2).row rfl ?_) rfl
      refine L_yes (j := 2) (dj := 19) (b := false) (S_call cb_8 rfl (fitsC_yes (hc.no (hm1.no hm2)) hf) ?_) rfl
      rintro _ w3 ⟨rfl, hm3⟩
      refine L_yes (j := 2) (dj := 19) (b := false) (S (P_not rfl rfl) ?_) rfl
      refine L (S (P_pickF rfl rfl) ?_)
      refine L (S (P_move rfl) ?_)
      refine L_yes (j := 7) (dj := 24) (b := false) (S_loadS st_25 rfl ((h1.no hm2).no hm3).row rfl ?_) rfl
      refine L_yes (j := 7) (dj := 24) (b := false) (S_call cb_11 rfl (wrong_yes (hc.no ((hm1.no hm2).no hm3)) hw) ?_) rfl
      rintro _ w4 ⟨rfl, hm4⟩
      refine L (S (P_pickF rfl rfl) ?_)
      refine L_nil ?_
      refine then_n ?_
      refine C_true rfl ?_
      refine C_seq ?_
      refine C_region ?_
      refine L (S_call cb_7 rfl (lives_ret (hT.mv (((hm1.no hm2).no hm3).no hm4))) ?_)
      rintro _ w5 ⟨rfl, hm5⟩
      refine L (S (P_assign rfl) ?_)
      refine L_nil ?_
      refine then_n ?_
      refine C_ret ?_
      refine then_r ?_
      refine F_ret1 Tryd.results5 rfl ?_
      exact ⟨rfl, (((hm1.no hm2).no hm3).no hm4).no hm5⟩
    · obtain ⟨hf1, hf2, hf3⟩ := hf
      refine C_region ?_
      refine L (S_call cb_7 rfl (lives_ret (hT.mv hm1)) ?_)
      rintro _ w2 ⟨rfl, hm2⟩
      refine L (S (P_not rfl rfl) ?_)
      refine L (S (P_move rfl) ?_)
      refine L_yes (j := 2) (dj := 19) (b := false) (S_loadS st_25 rfl (h1.no hm2).row rfl ?_) rfl
      refine L_yes (j := 2) (dj := 19) (b := false) (S_call cb_8 rfl (fitsC_yes (hc.no (hm1.no hm2)) ⟨hf1, hf2, hf3⟩) ?_) rfl
      rintro _ w3 ⟨rfl, hm3⟩
      refine L_yes (j := 2) (dj := 19) (b := false) (S (P_not rfl rfl) ?_) rfl
      refine L (S (P_pickF rfl rfl) ?_)
      refine L (S (P_move rfl) ?_)
      refine L_yes (j := 7) (dj := 24) (b := false) (S_loadS st_25 rfl ((h1.no hm2).no hm3).row rfl ?_) rfl
      refine L_yes (j := 7) (dj := 24) (b := false) (S_call cb_11 rfl (wrong_no (hc.no ((hm1.no hm2).no hm3)) hw) ?_) rfl
      rintro _ w4 ⟨rfl, hm4⟩
      refine L (S (P_pickF rfl rfl) ?_)
      refine L_nil ?_
      refine then_n ?_
      refine C_false rfl ?_
      refine C_skip ?_
      refine then_n ?_
      refine C_seq ?_
      have hm04 : Mv No w w4 := ((hm1.no hm2).no hm3).no hm4
      have h1a := ((h1.no hm2).no hm3).no hm4
      have ho4 := hc.o.no hm04
      have hro := hc.ro
      have hlo := hc.lo
      unfold maxLen at hlo
      generalize hn : sz.length = n at *
      refine C_region ?_
      refine L (S (P_fieldAddr fo_25_6 rfl) ?_)
      refine L (S_store ti_23 rfl rfl rfl h1a (by simp [caseC]) ?_)
      rintro w5 hb5 hm5
      refine L_nil ?_
      refine then_n ?_
      refine C_seq ?_
      refine C_region ?_
      refine L (S (P_fieldAddr fo_25_0 rfl) ?_)
      refine L (S_load sc_22 rfl (hb5.cell (i := 0) rfl) ?_)
      refine L (S (P_lenS Tryd.underlying22 rfl) ?_)
      refine L (S_makeSlice Tryd.underlying22 ti_2 rfl rfl rfl rfl (by omega) (by unfold maxLen; omega) (Nat.le_refl _) ?_)
      rintro b5 w6 ho6 hm6 hn6
      refine L (S (P_assign rfl) ?_)
      refine L_nil ?_
      refine then_n ?_
      refine C_seq ?_
      refine C_seq ?_
      have hm05 : Mv No w w5 := hm04.new hm5 hn1
      have hm06 : Mv No w w6 := hm05.no hm6
      have h2b : Blk w6 b2 (caseC A n cap bud m k bs A5 off.length c5 none 0 0) 25 := Blk.no (show Blk w5 b2 (caseC A n cap bud m k bs A5 off.length c5 none 0 0) 25 from hb5) hm6
      have hn25 : b2 ≠ b5 := by have := hb5.lt; omega
      have hw5 : w.heap.size ≤ b5 := Nat.le_trans hm05.size hn6
      have hown : w6.ownsRow w5.heap.size 2 1 (.slice (some ⟨b5, 0, none⟩) n n) n ((List.replicate 0 size ++ List.replicate (n - 0) 0).map iv) := by
        have e : (madeCells (Value.int .i64 0).cells (n * 1)).toList = (List.replicate 0 size ++ List.replicate (n - 0) 0).map iv := by
          rw [Nat.mul_one]
          show (madeCells #[.int .i64 0] n).toList = _
          rw [toList_madeCells_one]
          simp [iv]
        rw [← e]
        exact ho6
      clear hb5 ho6
      refine C_region ?_
      refine L (S (P_move rfl) ?_)
      refine L (S (P_lenS Tryd.underlying22 rfl) ?_)
      refine L (S (P_move rfl) ?_)
      refine L_nil ?_
      refine then_n ?_
      refine C_block ?_
      refine C_loop (γ := Nat) (fun i => [(1, .int .u8 size), (2, .pointer (some ⟨b2, 0, none⟩)), (5, .slice (some ⟨b5, 0, none⟩) n n), (35, .int .i64 (n : Int)), (36, .int .i64 (i : Int))]) (fun i wr => i ≤ n ∧ Blk wr b2 (caseC A n cap bud m k bs A5 off.length c5 none 0 0) 25 ∧ wr.ownsRow w5.heap.size 2 1 (.slice (some ⟨b5, 0, none⟩) n n) n ((List.replicate i size ++ List.replicate (n - i) 0).map iv) ∧ Mv No w wr) (fun i => n - i) 0 (.cons rfl (.cons rfl (.cons rfl (.cons rfl (.cons rfl (.nil _)))))) ⟨by omega, h2b, hown, hm06⟩ ?_
      rintro i wr ⟨hi, h2r, hor, hmr⟩
      clear hown h2b
      refine C_seq ?_
      refine C_region ?_
      refine L (S (P_lt rfl rfl rfl) ?_)
      refine L_nil ?_
      refine then_n ?_
      refine C_seq ?_
      refine C_ifp rfl rfl (fun hlt => ?_) (fun hge => ?_)
      · have hil : i < n := by omega
        refine C_skip ?_
        refine then_n ?_
        refine C_seq ?_
        refine C_block ?_
        refine C_seq ?_
        refine C_region ?_
        refine L (S (P_move rfl) ?_)
        refine L (S (P_assign rfl) ?_)
        refine L_nil ?_
        refine then_n ?_
        refine C_region ?_
        refine L (S (P_move rfl) ?_)
        refine L (S (P_move rfl) ?_)
        refine L (S (P_move rfl) ?_)
        refine L (S (P_conv Tryd.underlying5 Tryd.underlying2 rfl (wI64 (c := size) (by omega))) ?_)
        refine L (S (P_indexAddr Tryd.underlying22 (csz_of ti_2) rfl rfl (j := i) rfl hil (p := i) (by omega)) ?_)
        refine L (S_storeOwn ti_2 rfl rfl rfl hor hil ?_)
        rintro w8 ho8 hm8
        refine L_nil ?_
        refine blk_n ?_
        refine then_n ?_
        refine C_region ?_
        refine L (S (P_add rfl rfl (wI64 (c := ((i + 1 : Nat) : Int)) (by omega))) ?_)
        refine L (S (P_move rfl) ?_)
        refine L_nil ?_
        refine then_n ?_
        rw [rep_set n i size hil] at ho8
        exact ⟨rfl, i + 1, .cons rfl (.cons rfl (.cons rfl (.cons rfl (.cons rfl (.nil _))))), ⟨hil, h2r.ne hm8 hn25, ho8, hmr.new hm8 hw5⟩, by omega⟩
      · have hin : i = n := by omega
        subst hin
        obtain ⟨_, _, he, hsl, _⟩ := own_reads hor
        cases he
        rw [Nat.sub_self, List.replicate_zero, List.append_nil] at hsl
        clear hor
        refine C_exit ?_
        refine then_x ?_
        refine then_x ?_
        refine blk_x ?_
        refine then_n ?_
        refine C_seq ?_
        refine C_region ?_
        refine L (S (P_move rfl) ?_)
        refine L (S (P_fieldAddr fo_25_0 rfl) ?_)
        refine L (S_store ti_22 rfl rfl rfl h2r (by simp [caseC]) ?_)
        rintro w9 hb9 hm9b
        refine L_nil ?_
        refine then_n ?_
        refine C_seq ?_
        have h2c : Blk w9 b2 (caseC (some ⟨b5, 0, none⟩) i i bud m k bs A5 off.length c5 none 0 0) 25 := hb9
        have hm09 : Mv No w w9 := hmr.new hm9b hn1
        have hsl9 : SlR w9 (some ⟨b5, 0, none⟩) ((List.replicate i size).map iv) := hsl.mv hm9b fun a ha => by cases ha; exact fun he => hn25 he.symm
        have hof9 : SlR w9 A5 (off.map iv16) := hc.o.no hm09
        have hpr : ∀ w', Mv No w9 w' → PrF Tryd.prog w' (.func (.func 10) #[caseV (some ⟨b5, 0, none⟩) i i bud m k bs A5 off.length c5 none 0 0] #[]) (fun x => priceF bs off [] x i) := fun w' hm => price_PrF (A := some ⟨b5, 0, none⟩) (A6 := none) (cap := i) (c5 := c5) (c6 := 0) i bud m k bs off [] (by omega) (hof9.no hm) (.inl rfl) hro (by intro x hx; simp at hx) (by omega) (by simp)
        have hS := search_ret (w := w9) (A := some ⟨b5, 0, none⟩) (cap := i) (List.replicate i size) bud m k hsl9 (fun x hx => by rw [List.eq_of_mem_replicate hx]; omega) (by rw [List.length_replicate]; omega) hb9' (hpr w9 (Mv.refl _)) (hT.mv hm09)
        rw [List.length_replicate] at hS
        have hlaw := search_alone (n := i) (R := roomN size bud k) (size := size) (bud := bud) (P0 := bs.tmod 1000000) (m := m) (k := k) (pr := fun x => priceF bs off [] x i) (a := aF off) (by omega) hs0 (by omega) (by omega) (by omega) (fun x => priceF_alone bs off x i) (roomN_spec hs0 (by omega) (by omega))
        have hbnd := (search_fits (sz := List.replicate i size) (bud := bud) (pr := fun x => priceF bs off [] x i) (m := m) (k := k) (by rw [List.length_replicate]; omega) (by omega) (by omega)).2.2.1
        rw [List.length_replicate] at hbnd
        have hpow : 2 ^ i ≤ 1024 := by
          have := Nat.pow_le_pow_right (n := 2) (by omega) hf1
          simpa using this
        have hP0a := Int.tmod_lt_of_pos bs (show (0 : Int) < 1000000 by omega)
        have hP0b := Int.lt_tmod_of_pos bs (show (0 : Int) < 1000000 by omega)
        try dsimp only at hlaw
        generalize searchF (List.replicate i size) bud (fun x => priceF bs off [] x i) m k = s at *
        refine C_region ?_
        refine L (S (P_fieldAddr fo_25_0 rfl) ?_)
        refine L (S_load sc_22 rfl (h2c.cell (i := 0) rfl) ?_)
        refine L (S (P_fieldAddr fo_25_1 rfl) ?_)
        refine L (S_load sc_2 rfl (h2c.cell (i := 1) rfl) ?_)
        refine L (S (P_fieldAddr fo_25_2 rfl) ?_)
        refine L (S_load sc_3 rfl (h2c.cell (i := 2) rfl) ?_)
        refine L (S (P_fieldAddr fo_25_3 rfl) ?_)
        refine L (S_load sc_3 rfl (h2c.cell (i := 3) rfl) ?_)
        refine L (S_loadS st_25 rfl h2c.row rfl ?_)
        refine L (S (P_makeFunc rfl rfl) ?_)
        refine L (S_call cb_9 rfl (hS) ?_)
        rintro _ w10 ⟨rfl, hm10⟩
        refine L (S (P_move rfl) ?_)
        refine L (S (P_extract rfl rfl) ?_)
        refine L (S (P_extract rfl rfl) ?_)
        refine L (S (P_assign rfl) ?_)
        refine L (S (P_assign rfl) ?_)
        refine L_nil ?_
        refine then_n ?_
        refine C_seq ?_
        refine C_seq ?_
        refine C_region ?_
        refine L (S (P_move rfl) ?_)
        refine L (S (P_ne rfl rfl (decide_eq_false (by simp))) ?_)
        refine L_nil ?_
        refine then_n ?_
        refine C_false rfl ?_
        refine C_skip ?_
        refine then_n ?_
        refine C_seq ?_
        have h2d := h2c.no hm10
        have hm010 : Mv No w w10 := hm09.no hm10
        have hof10 := hof9.no hm10
        refine C_region ?_
        refine L (S (P_fieldAddr fo_25_3 rfl) ?_)
        refine L (S_load sc_3 rfl (h2d.cell (i := 3) rfl) ?_)
        refine L (S (P_assign rfl) ?_)
        refine L_nil ?_
        refine then_n ?_
        refine C_seq ?_
        refine C_seq ?_
        refine C_region ?_
        refine L (S (P_move rfl) ?_)
        refine L (S (P_gt rfl rfl rfl) ?_)
        refine L_nil ?_
        refine then_n ?_
        refine C_cutg (γ := Unit) (fun _ => [(2, .pointer (some ⟨b2, 0, none⟩)), (7, .int .u32 (s : Int)), (9, .int .i64 (roomN size bud k : Int))]) (fun _ wc => Mv No w10 wc) ?_ ?_
        · refine C_ifp rfl rfl (fun hp => ?_) (fun hnp => ?_)
          · have hq0 : 0 ≤ bud / size := Int.ediv_nonneg (by omega) hs0
            have hq9 : bud / size ≤ bud := Int.ediv_le_self _ (by omega)
            have hR : (roomN size bud k : Int) = min k (bud / size) := by
              unfold roomN
              rw [if_pos (by omega)]
              omega
            refine C_drawQ 9 mixed rfl (fun hH => ?_)
            refine H_pure (i := 0) rfl (PureV.toS (P_fieldAddr fo_25_3 rfl)) ?_ (by assumption) (by decide +kernel) (by decide +kernel) (by decide +kernel) (fun _ _ _ _ h => h) rfl rfl rfl
            refine H_pure (i := 1) rfl (PS_load sc_3 rfl (fun _ h => (h2d.no h).cell (i := 3) rfl)) ?_ (by assumption) (by decide +kernel) (by decide +kernel) (by decide +kernel) (fun _ _ _ _ h => h) rfl rfl rfl
            refine H_pure (i := 2) rfl (PureV.toS (P_fieldAddr fo_25_1 rfl)) ?_ (by assumption) (by decide +kernel) (by decide +kernel) (by decide +kernel) (fun _ _ _ _ h => h) rfl rfl rfl
            refine H_pure (i := 3) rfl (PS_load sc_2 rfl (fun _ h => (h2d.no h).cell (i := 1) rfl)) ?_ (by assumption) (by decide +kernel) (by decide +kernel) (by decide +kernel) (fun _ _ _ _ h => h) rfl rfl rfl
            refine H_pure (i := 4) rfl (PureV.toS (P_move rfl)) ?_ (by assumption) (by decide +kernel) (by decide +kernel) (by decide +kernel) (fun _ _ _ _ h => h) rfl rfl rfl
            refine H_pure (i := 5) rfl (PureV.toS (P_conv Tryd.underlying5 Tryd.underlying2 rfl (wI64 (c := size) (by omega)))) ?_ (by assumption) (by decide +kernel) (by decide +kernel) (by decide +kernel) (fun _ _ _ _ h => h) rfl rfl rfl
            refine H_pure (i := 6) rfl (PureV.toS (P_quo rfl rfl (by omega) (wI64 (c := bud / size) ⟨Int.tdiv_eq_ediv_of_nonneg (by omega), by omega, by omega⟩))) ?_ (by assumption) (by decide +kernel) (by decide +kernel) (by decide +kernel) (fun _ _ _ _ h => h) rfl rfl rfl
            refine H_pure (i := 7) rfl (PureV.toS (P_min rfl rfl (c := (roomN size bud k : Int)) (by rw [hR]; split <;> omega))) ?_ (by assumption) (by decide +kernel) (by decide +kernel) (by decide +kernel) (fun _ _ _ _ h => h) rfl rfl rfl
            refine H_pure (i := 8) rfl (PureV.toS (P_assign rfl)) ?_ (by assumption) (by decide +kernel) (by decide +kernel) (by decide +kernel) (fun _ _ _ _ h => h) rfl rfl rfl
            refine H_done (by decide +kernel) ?_
            refine then_n ?_
            exact ⟨rfl, (), (.cons rfl (.cons rfl (.cons rfl (.nil _)))), hH⟩
          · have hR : (roomN size bud k : Int) = k := by
              unfold roomN
              rw [if_neg (by omega)]
              omega
            rw [hR]
            refine C_skip ?_
            refine then_n ?_
            exact ⟨rfl, (), (.cons rfl (.cons rfl (.cons rfl (.nil _)))), Mv.refl _⟩
        rintro _ w11 hm11 f' hf'
        refine C_forget hf' ?_
        have h2e := h2d.no hm11
        have hm011 : Mv No w w11 := hm010.no hm11
        have hof11 := hof10.no hm11
        refine C_seq ?_
        refine C_region ?_
        refine L (S (P_assign rfl) ?_)
        refine L_nil ?_
        refine then_n ?_
        refine C_seq ?_
        refine C_seq ?_
        refine C_region ?_
        refine L (S (P_fieldAddr fo_25_0 rfl) ?_)
        refine L (S_load sc_22 rfl (h2e.cell (i := 0) rfl) ?_)
        refine L (S (P_lenS Tryd.underlying22 rfl) ?_)
        refine L (S (P_move rfl) ?_)
        refine L_nil ?_
        refine then_n ?_
        refine C_block ?_
        refine C_loop (γ := Nat × List Int × Value) (fun q => [(2, .pointer (some ⟨b2, 0, none⟩)), (7, .int .u32 (s : Int)), (9, .int .i64 (roomN size bud k : Int)), (10, q.2.2), (77, .int .i64 (i : Int)), (78, .int .i64 (q.1 : Int))]) (fun q wr => q.1 ≤ i ∧ Blk wr b2 (caseC (some ⟨b5, 0, none⟩) i i bud m k bs A5 off.length c5 none 0 0) 25 ∧ wr.ownsRow w.heap.size 2 1 q.2.2 q.2.1.length (q.2.1.map iv) ∧ q.2.1.length = q.1 ∧ Desc q.2.1 ∧ (∀ j, tops q.2.1 j = wF (aF off) q.1 j) ∧ (∀ d ∈ q.2.1, -32768 ≤ d ∧ d < 32768) ∧ Mv No w wr) (fun q => i - q.1) (0, [], .slice none 0 0) (.cons rfl (.cons rfl (.cons rfl (.cons rfl (.cons rfl (.cons rfl (.nil _))))))) ⟨by omega, h2e, own_nil, rfl, List.Pairwise.nil, fun j => rfl, by simp, hm011⟩ ?_
        rintro ⟨x, D, dv⟩ wr ⟨hx, h2r, hov, hDl, hDs, htop, hDr, hmr⟩
        dsimp only at hx h2r hov hDl hDs htop hDr hmr
        obtain ⟨Av, capv, rfl, hrv, hcv1, hcv2, _⟩ := own_reads hov
        have hofr : SlR wr A5 (off.map iv16) := hc.o.no hmr
        dsimp only
        refine C_seq ?_
        refine C_region ?_
        refine L (S (P_lt rfl rfl rfl) ?_)
        refine L_nil ?_
        refine then_n ?_
        refine C_seq ?_
        refine C_ifp rfl rfl (fun hlt2 => ?_) (fun hge2 => ?_)
        · have hxl : x < i := by omega
          refine C_skip ?_
          refine then_n ?_
          refine C_seq ?_
          refine C_block ?_
          refine C_seq ?_
          refine C_region ?_
          refine L (S (P_move rfl) ?_)
          refine L (S (P_assign rfl) ?_)
          refine L_nil ?_
          refine then_n ?_
          refine C_seq ?_
          refine C_region ?_
          refine L (S (P_assign rfl) ?_)
          refine L_nil ?_
          refine then_n ?_
          refine C_seq ?_
          refine C_seq ?_
          refine C_region ?_
          refine L (S (P_move rfl) ?_)
          refine L (S (P_fieldAddr fo_25_5 rfl) ?_)
          refine L (S_load sc_23 rfl (h2r.cell (i := 5) rfl) ?_)
          refine L (S (P_lenS Tryd.underlying23 rfl) ?_)
          refine L (S (P_lt rfl rfl rfl) ?_)
          refine L_nil ?_
          refine then_n ?_
          refine C_cutg (γ := Unit) (fun _ => [(2, .pointer (some ⟨b2, 0, none⟩)), (7, .int .u32 (s : Int)), (9, .int .i64 (roomN size bud k : Int)), (10, .slice Av D.length capv), (12, .int .i64 (aF off x)), (77, .int .i64 (i : Int)), (78, .int .i64 (x : Int))]) (fun _ wc => wc = wr) ?_ ?_
          · refine C_ifp rfl rfl (fun ha => ?_) (fun hb => ?_)
            · have hxo : x < off.length := by omega
              have ha' : aF off x = off.getD x 0 := by unfold aF; rw [if_pos hxo]
              have hrg := hro.get hxo
              rw [ha']
              obtain ⟨b, o, rfl, hrow⟩ := hofr.form (i := x) (by simpa using hxo)
              have hcell : wr.cell? ⟨b, o + x, none⟩ = some (.int .i16 (off.getD x 0)) := hrow x _ (by rw [List.getElem?_map, getD_get hxo]; rfl)
              refine C_region ?_
              refine L (S (P_fieldAddr fo_25_5 rfl) ?_)
              refine L (S_load sc_23 rfl (h2r.cell (i := 5) rfl) ?_)
              refine L (S (P_move rfl) ?_)
              refine L (S (P_indexAddr Tryd.underlying23 (csz_of ti_41) rfl rfl (j := x) rfl hxo (p := o + x) (by omega)) ?_)
              refine L (S_load sc_41 rfl hcell ?_)
              refine L (S (P_conv Tryd.underlying41 Tryd.underlying2 rfl (wI64 (c := off.getD x 0) (by omega))) ?_)
              refine L (S (P_assign rfl) ?_)
              refine L_nil ?_
              refine then_n ?_
              exact ⟨rfl, (), (.cons rfl (.cons rfl (.cons rfl (.cons rfl (.cons rfl (.cons rfl (.cons rfl (.nil _)))))))), rfl⟩
            · have ha' : aF off x = 0 := by unfold aF; rw [if_neg (by omega)]
              rw [ha']
              refine C_skip ?_
              refine then_n ?_
              exact ⟨rfl, (), (.cons rfl (.cons rfl (.cons rfl (.cons rfl (.cons rfl (.cons rfl (.cons rfl (.nil _)))))))), rfl⟩
          rintro _ wc rfl f' hf'
          refine C_forget hf' ?_
          have hvb := aF_bound hro x
          have hwF : ∀ j, wF (aF off) (x + 1) (j + 1) = max (wF (aF off) x (j + 1)) (aF off x + wF (aF off) x j) := fun j => rfl
          generalize aF off x = vv at hvb hwF ⊢
          refine C_seq ?_
          refine C_region ?_
          refine L (S (P_move rfl) ?_)
          refine L (S (P_lenS Tryd.underlying22 rfl) ?_)
          refine L (S (P_assign rfl) ?_)
          refine L_nil ?_
          refine then_n ?_
          refine C_seq ?_
          refine C_block ?_
          refine C_loop (γ := Nat) (fun p => [(2, .pointer (some ⟨b2, 0, none⟩)), (7, .int .u32 (s : Int)), (9, .int .i64 (roomN size bud k : Int)), (10, .slice Av D.length capv), (12, .int .i64 vv), (13, .int .i64 (p : Int)), (77, .int .i64 (i : Int)), (78, .int .i64 (x : Int))]) (fun p wq => wq = wc ∧ p ≤ D.length ∧ ∀ j, p ≤ j → j < D.length → D.getD j 0 < vv) (fun p => p) D.length (.cons rfl (.cons rfl (.cons rfl (.cons rfl (.cons rfl (.cons rfl (.cons rfl (.cons rfl (.nil _))))))))) ⟨rfl, Nat.le_refl _, fun j h1 h2 => by omega⟩ ?_
          rintro p wq ⟨rfl, hp, hpl⟩
          refine C_seq ?_
          refine C_seq ?_
          refine C_cutg (γ := Unit) (fun _ => [(2, .pointer (some ⟨b2, 0, none⟩)), (7, .int .u32 (s : Int)), (9, .int .i64 (roomN size bud k : Int)), (10, .slice Av D.length capv), (12, .int .i64 vv), (13, .int .i64 (p : Int)), (77, .int .i64 (i : Int)), (78, .int .i64 (x : Int)), (104, .bool (decide (0 < p ∧ D.getD (p - 1) 0 < vv)))]) (fun _ wc => wc = wq) ?_ ?_
          · by_cases hp0 : 0 < p
            · obtain ⟨b, o, rfl, hrow⟩ := hrv.form (i := p - 1) (by simp; omega)
              have hcell : wq.cell? ⟨b, o + (p - 1), none⟩ = some (.int .i64 (D.getD (p - 1) 0)) := hrow (p - 1) _ (by rw [List.getElem?_map, getD_get (by omega)]; rfl)
              have e : decide (0 < p ∧ D.getD (p - 1) 0 < vv) = decide (D.getD (p - 1) 0 < vv) := by simp [hp0]
              rw [e]
              refine C_region ?_
              refine L (S (P_move rfl) ?_)
              refine L (S (P_gt rfl rfl (decide_eq_true (by omega))) ?_)
              refine L (S (P_move rfl) ?_)
              refine L_yes (j := 2) (dj := 96) (b := true) (S (P_move rfl) ?_) rfl
              refine L_yes (j := 2) (dj := 96) (b := true) (S (P_move rfl) ?_) rfl
              refine L_yes (j := 2) (dj := 96) (b := true) (S (P_sub rfl rfl (wI64 (c := ((p - 1 : Nat) : Int)) (by omega))) ?_) rfl
              refine L_yes (j := 2) (dj := 96) (b := true) (S (P_indexAddr Tryd.underlying22 (csz_of ti_2) rfl rfl (j := p - 1) rfl (by omega) (p := o + (p - 1)) (by omega)) ?_) rfl
              refine L_yes (j := 2) (dj := 96) (b := true) (S_load sc_2 rfl hcell ?_) rfl
              refine L_yes (j := 2) (dj := 96) (b := true) (S (P_move rfl) ?_) rfl
              refine L_yes (j := 2) (dj := 96) (b := true) (S (P_lt rfl rfl rfl) ?_) rfl
              refine L (S (P_pickT rfl rfl) ?_)
              refine L_nil ?_
              refine then_n ?_
              exact ⟨rfl, (), (.cons rfl (.cons rfl (.cons rfl (.cons rfl (.cons rfl (.cons rfl (.cons rfl (.cons rfl (.cons rfl (.nil _)))))))))), rfl⟩
            · have e : decide (0 < p ∧ D.getD (p - 1) 0 < vv) = false := by simp [hp0]
              rw [e]
              refine C_region ?_
              refine L (S (P_move rfl) ?_)
              refine L (S (P_gt rfl rfl (decide_eq_false (by omega))) ?_)
              refine L (S (P_move rfl) ?_)
              refine L_no (j := 2) (dj := 96) (b := true) (b' := false) (d := 97) rfl ?_
              refine L_no (j := 2) (dj := 96) (b := true) (b' := false) (d := 98) rfl ?_
              refine L_no (j := 2) (dj := 96) (b := true) (b' := false) (d := 99) rfl ?_
              refine L_no (j := 2) (dj := 96) (b := true) (b' := false) (d := 100) rfl ?_
              refine L_no (j := 2) (dj := 96) (b := true) (b' := false) (d := 101) rfl ?_
              refine L_no (j := 2) (dj := 96) (b := true) (b' := false) (d := 102) rfl ?_
              refine L_no (j := 2) (dj := 96) (b := true) (b' := false) (d := 103) rfl ?_
              refine L (S (P_pickF rfl rfl) ?_)
              refine L_nil ?_
              refine then_n ?_
              exact ⟨rfl, (), (.cons rfl (.cons rfl (.cons rfl (.cons rfl (.cons rfl (.cons rfl (.cons rfl (.cons rfl (.cons rfl (.nil _)))))))))), rfl⟩
          rintro _ wz rfl f' hf'
          refine C_forget hf' ?_
          refine C_ifp rfl rfl (fun hgo => ?_) (fun hstop => ?_)
          · refine C_skip ?_
            refine then_n ?_
            refine C_block ?_
            refine C_region ?_
            refine L (S (P_move rfl) ?_)
            refine L (S (P_sub rfl rfl (wI64 (c := ((p - 1 : Nat) : Int)) (by omega))) ?_)
            refine L (S (P_assign rfl) ?_)
            refine L_nil ?_
            refine blk_n ?_
            refine then_n ?_
            refine ⟨rfl, p - 1, (.cons rfl (.cons rfl (.cons rfl (.cons rfl (.cons rfl (.cons rfl (.cons rfl (.cons rfl (.nil _))))))))), ⟨rfl, by omega, fun j h1 h2 => ?_⟩, by omega⟩
            by_cases hj : j = p - 1
            · subst hj; exact hgo.2
            · exact hpl j (by omega) h2
          · have hpre : ∀ j, j < p → vv ≤ D.getD j 0 := by
              intro j hj
              have h1 : vv ≤ D.getD (p - 1) 0 := by omega
              by_cases hje : j = p - 1
              · subst hje; exact h1
              · have h2 := List.pairwise_iff_getElem.1 hDs j (p - 1) (by omega) (by omega) (by omega)
                have e1 : D.getD j 0 = D[j] := by rw [List.getD_eq_getElem?_getD, List.getElem?_eq_getElem (by omega)]; rfl
                have e2 : D.getD (p - 1) 0 = D[p - 1] := by rw [List.getD_eq_getElem?_getD, List.getElem?_eq_getElem (by omega)]; rfl
                omega
            obtain ⟨hD1, hD2⟩ := tops_ins D vv p hDs hp hpre hpl
            have hcut0 : ∀ w', Mv No wz w' → SlR w' (cutA Av 0 1 capv) ((D.take p).map iv) := fun w' hm => by
              have := SlR.cut (m := 1) (l := 0) (cap := capv) (hrv.no hm) (by simpa using hcv1)
              simp only [Nat.zero_mul, List.drop_zero] at this
              rw [List.map_take]
              exact this.take p
            have hcut1 : ∀ w', Mv No wz w' → SlR w' (cutA Av p 1 capv) ((D.drop p).map iv) := fun w' hm => by
              have := SlR.cut (m := 1) (l := p) (cap := capv) (hrv.no hm) (by simpa using hcv1)
              rw [Nat.mul_one, ← List.map_drop] at this
              exact this
            refine C_exit ?_
            refine then_x ?_
            refine then_x ?_
            refine blk_x ?_
            refine then_n ?_
            refine C_drawQ 13 mixed rfl (fun hH => ?_)
            refine H_pure (i := 1) rfl (PureV.toS (P_move rfl)) ?_ (by assumption) (by decide +kernel) (by decide +kernel) (by decide +kernel) (fun _ _ _ _ h => h) rfl rfl rfl
            refine H_pure (i := 2) rfl (PureV.toS (P_move rfl)) ?_ (by assumption) (by decide +kernel) (by decide +kernel) (by decide +kernel) (fun _ _ _ _ h => h) rfl rfl rfl
            refine H_pure (i := 3) rfl (PureV.toS (P_slice Tryd.underlying22 (csz_of ti_2) rfl bnd_none (bnd_some (j := p) rfl rfl) (by omega) (by omega))) ?_ (by assumption) (by decide +kernel) (by decide +kernel) (by decide +kernel) (fun _ _ _ _ h => h) rfl rfl rfl
            refine H_pure (i := 5) rfl (PureV.toS (P_move rfl)) ?_ (by assumption) (by decide +kernel) (by decide +kernel) (by decide +kernel) (fun _ _ _ _ h => h) rfl rfl rfl
            refine H_pure (i := 8) rfl (PureV.toS (P_move rfl)) ?_ (by assumption) (by decide +kernel) (by decide +kernel) (by decide +kernel) (fun _ _ _ _ h => h) rfl rfl rfl
            refine H_pure (i := 9) rfl (PureV.toS (P_move rfl)) ?_ (by assumption) (by decide +kernel) (by decide +kernel) (by decide +kernel) (fun _ _ _ _ h => h) rfl rfl rfl
            refine H_pure (i := 10) rfl (PureV.toS (P_slice Tryd.underlying22 (csz_of ti_2) rfl (bnd_some (j := p) rfl rfl) bnd_none (by omega) (by omega))) ?_ (by assumption) (by decide +kernel) (by decide +kernel) (by decide +kernel) (fun _ _ _ _ h => h) rfl rfl rfl
            refine H_two (i := 0) (i2 := 6) (H_op rfl (S_buildSlice0 Tryd.underlying22 ti_2 ?_)) (H_op rfl (S_buildSlice1 Tryd.underlying22 ti_2 rfl rfl rfl ?_)) (by decide +kernel)
            · rintro b7 w7 ho7 hm7 hn7
              refine and_keep (by first | assumption | exact Mv.no (by assumption) (by assumption)) (fun hH => ?_)
              refine H_two (i := 4) (i2 := 6) (H_op rfl (S_append Tryd.underlying22 ti_2 rfl (by decide) rfl (by first | exact ho7 | exact own_no ho7 hm9) rfl (hcut0 _ hH) (by simp; omega) (iv_one _) (by first | exact hm7.size | exact Nat.le_trans hm7.size hm9.size) (by unfold maxLen; omega) (by omega) ?_)) (H_op rfl (S_buildSlice1 Tryd.underlying22 ti_2 rfl rfl rfl ?_)) (by decide +kernel)
              · rintro v8 w8 ho8 hm8 hf8
                refine and_keep (Mv.own hH hm8 (by first | exact ho7 | exact own_no ho7 hm9) (by first | exact Nat.le_refl _ | exact hm9.size)) (fun hH => ?_)
                refine H_one (i := 6) (H_op rfl (S_buildSlice1 Tryd.underlying22 ti_2 rfl rfl rfl ?_)) (by decide +kernel)
                rintro b9 w9' hb9' hm9 hn9
                refine and_keep (by first | assumption | exact Mv.no (by assumption) (by assumption)) (fun hH => ?_)
                refine H_one (i := 7) (H_op rfl (S_append Tryd.underlying22 ti_2 rfl (by decide) rfl (by first | exact ho8 | exact own_no ho8 hm9) rfl (.inr ⟨b9, 0, rfl, (by first | exact hb9'.row | exact (hb9'.mv hm8 (fun he => by have e : b7 = b9 := Option.some.inj he; have := (own_lt ho7 (k := b7) rfl).2; omega)).row | exact ((hb9'.no hm7).mv hm8 (fun he => by have e : b7 = b9 := Option.some.inj he; have := hb9'.lt; omega)).row)⟩) (by simp) (by simp [Value.oneCell']) (by first | exact Nat.le_trans hm7.size (Nat.le_trans hm8.size hm9.size) | exact Nat.le_trans hm7.size (Nat.le_trans hm9.size hm8.size) | exact Nat.le_trans hm7.size hm8.size) (by unfold maxLen; omega) (by omega) ?_)) (by decide +kernel)
                rintro v10 w10' ho10 hm10' hf10
                refine and_keep (Mv.own hH hm10' (by first | exact ho8 | exact own_no ho8 hm9) (by first | exact Nat.le_refl _ | exact hm9.size)) (fun hH => ?_)
                refine H_one (i := 11) (H_op rfl (S_append Tryd.underlying22 ti_2 rfl (by decide) rfl ho10 rfl (hcut1 _ hH) (by simp) (iv_one _) (by first | exact Nat.le_trans hm7.size (Nat.le_trans hm8.size (Nat.le_trans hm9.size hm10'.size)) | exact Nat.le_trans hm7.size (Nat.le_trans hm9.size (Nat.le_trans hm8.size hm10'.size)) | exact Nat.le_trans hm7.size (Nat.le_trans hm8.size hm10'.size)) (by unfold maxLen; omega) (by omega) ?_)) (by decide +kernel)
                rintro v11 w11' ho11 hm11' hf11
                refine and_keep (Mv.own hH hm11' ho10 (by first | exact Nat.le_refl _ | exact hm9.size)) (fun hH => ?_)
                refine H_pure (i := 12) rfl (PureV.toS (P_assign rfl)) ?_ (by assumption) (by decide +kernel) (by decide +kernel) (by decide +kernel) (fun _ _ _ _ h => h) rfl rfl rfl
                refine H_done (by decide +kernel) ?_
                refine blk_n ?_
                refine then_n ?_
                refine C_region ?_
                refine L (S (P_add rfl rfl (wI64 (c := ((x + 1 : Nat) : Int)) (by omega))) ?_)
                refine L (S (P_move rfl) ?_)
                refine L_nil ?_
                refine then_n ?_
                have e1 : (D.take p ++ vv :: D.drop p).length = 0 + (p - 0) + 1 + (D.length - p) := by simp; omega
                have e2 : (D.take p ++ vv :: D.drop p).map iv = [] ++ (D.take p).map iv ++ [.int .i64 vv] ++ (D.drop p).map iv := by simp [iv]
                have hbase : w.heap.size ≤ wz.heap.size := hmr.size
                have ho12 : w11'.ownsRow w.heap.size 2 1 v11 (D.take p ++ vv :: D.drop p).length ((D.take p ++ vv :: D.drop p).map iv) := by rw [e1, e2]; exact own_base ho11 (by first | exact hbase | exact Nat.le_trans hbase hm9.size)
                refine ⟨rfl, (x + 1, D.take p ++ vv :: D.drop p, v11), (.cons rfl (.cons rfl (.cons rfl (.cons rfl (.cons rfl (.cons rfl (.nil _))))))), ⟨hxl, h2r.no hH, ho12, ?_, hD1, fun j => ?_, fun d hd => ?_, hmr.no hH⟩, by dsimp only; omega⟩
                · dsimp only; rw [e1]; omega
                · dsimp only; cases j with | zero => rw [tops_zero, wF_zero] | succ j => rw [hD2 j, hwF j, htop, htop]
                · exact (List.mem_append.1 hd).elim (fun h => hDr d (List.mem_of_mem_take h)) (fun h => (List.mem_cons.1 h).elim (fun e => e ▸ hvb) (fun h => hDr d (List.mem_of_mem_drop h)))
              · rintro b9 w9' hb9' hm9 hn9
                refine and_keep (by first | assumption | exact Mv.no (by assumption) (by assumption)) (fun hH => ?_)
                refine H_one (i := 4) (H_op rfl (S_append Tryd.underlying22 ti_2 rfl (by decide) rfl (by first | exact ho7 | exact own_no ho7 hm9) rfl (hcut0 _ hH) (by simp; omega) (iv_one _) (by first | exact hm7.size | exact Nat.le_trans hm7.size hm9.size) (by unfold maxLen; omega) (by omega) ?_)) (by decide +kernel)
                rintro v8 w8 ho8 hm8 hf8
                refine and_keep (Mv.own hH hm8 (by first | exact ho7 | exact own_no ho7 hm9) (by first | exact Nat.le_refl _ | exact hm9.size)) (fun hH => ?_)
                refine H_one (i := 7) (H_op rfl (S_append Tryd.underlying22 ti_2 rfl (by decide) rfl (by first | exact ho8 | exact own_no ho8 hm9) rfl (.inr ⟨b9, 0, rfl, (by first | exact hb9'.row | exact (hb9'.mv hm8 (fun he => by have e : b7 = b9 := Option.some.inj he; have := (own_lt ho7 (k := b7) rfl).2; omega)).row | exact ((hb9'.no hm7).mv hm8 (fun he => by have e : b7 = b9 := Option.some.inj he; have := hb9'.lt; omega)).row)⟩) (by simp) (by simp [Value.oneCell']) (by first | exact Nat.le_trans hm7.size (Nat.le_trans hm8.size hm9.size) | exact Nat.le_trans hm7.size (Nat.le_trans hm9.size hm8.size) | exact Nat.le_trans hm7.size hm8.size) (by unfold maxLen; omega) (by omega) ?_)) (by decide +kernel)
                rintro v10 w10' ho10 hm10' hf10
                refine and_keep (Mv.own hH hm10' (by first | exact ho8 | exact own_no ho8 hm9) (by first | exact Nat.le_refl _ | exact hm9.size)) (fun hH => ?_)
                refine H_one (i := 11) (H_op rfl (S_append Tryd.underlying22 ti_2 rfl (by decide) rfl ho10 rfl (hcut1 _ hH) (by simp) (iv_one _) (by first | exact Nat.le_trans hm7.size (Nat.le_trans hm8.size (Nat.le_trans hm9.size hm10'.size)) | exact Nat.le_trans hm7.size (Nat.le_trans hm9.size (Nat.le_trans hm8.size hm10'.size)) | exact Nat.le_trans hm7.size (Nat.le_trans hm8.size hm10'.size)) (by unfold maxLen; omega) (by omega) ?_)) (by decide +kernel)
                rintro v11 w11' ho11 hm11' hf11
                refine and_keep (Mv.own hH hm11' ho10 (by first | exact Nat.le_refl _ | exact hm9.size)) (fun hH => ?_)
                refine H_pure (i := 12) rfl (PureV.toS (P_assign rfl)) ?_ (by assumption) (by decide +kernel) (by decide +kernel) (by decide +kernel) (fun _ _ _ _ h => h) rfl rfl rfl
                refine H_done (by decide +kernel) ?_
                refine blk_n ?_
                refine then_n ?_
                refine C_region ?_
                refine L (S (P_add rfl rfl (wI64 (c := ((x + 1 : Nat) : Int)) (by omega))) ?_)
                refine L (S (P_move rfl) ?_)
                refine L_nil ?_
                refine then_n ?_
                have e1 : (D.take p ++ vv :: D.drop p).length = 0 + (p - 0) + 1 + (D.length - p) := by simp; omega
                have e2 : (D.take p ++ vv :: D.drop p).map iv = [] ++ (D.take p).map iv ++ [.int .i64 vv] ++ (D.drop p).map iv := by simp [iv]
                have hbase : w.heap.size ≤ wz.heap.size := hmr.size
                have ho12 : w11'.ownsRow w.heap.size 2 1 v11 (D.take p ++ vv :: D.drop p).length ((D.take p ++ vv :: D.drop p).map iv) := by rw [e1, e2]; exact own_base ho11 (by first | exact hbase | exact Nat.le_trans hbase hm9.size)
                refine ⟨rfl, (x + 1, D.take p ++ vv :: D.drop p, v11), (.cons rfl (.cons rfl (.cons rfl (.cons rfl (.cons rfl (.cons rfl (.nil _))))))), ⟨hxl, h2r.no hH, ho12, ?_, hD1, fun j => ?_, fun d hd => ?_, hmr.no hH⟩, by dsimp only; omega⟩
                · dsimp only; rw [e1]; omega
                · dsimp only; cases j with | zero => rw [tops_zero, wF_zero] | succ j => rw [hD2 j, hwF j, htop, htop]
                · exact (List.mem_append.1 hd).elim (fun h => hDr d (List.mem_of_mem_take h)) (fun h => (List.mem_cons.1 h).elim (fun e => e ▸ hvb) (fun h => hDr d (List.mem_of_mem_drop h)))
            · rintro b9 w9' hb9' hm9 hn9
              refine and_keep (by first | assumption | exact Mv.no (by assumption) (by assumption)) (fun hH => ?_)
              refine H_one (i := 0) (H_op rfl (S_buildSlice0 Tryd.underlying22 ti_2 ?_)) (by decide +kernel)
              rintro b7 w7 ho7 hm7 hn7
              refine and_keep (by first | assumption | exact Mv.no (by assumption) (by assumption)) (fun hH => ?_)
              refine H_one (i := 4) (H_op rfl (S_append Tryd.underlying22 ti_2 rfl (by decide) rfl (by first | exact ho7 | exact own_no ho7 hm9) rfl (hcut0 _ hH) (by simp; omega) (iv_one _) (by first | exact hm7.size | exact Nat.le_trans hm7.size hm9.size) (by unfold maxLen; omega) (by omega) ?_)) (by decide +kernel)
              rintro v8 w8 ho8 hm8 hf8
              refine and_keep (Mv.own hH hm8 (by first | exact ho7 | exact own_no ho7 hm9) (by first | exact Nat.le_refl _ | exact hm9.size)) (fun hH => ?_)
              refine H_one (i := 7) (H_op rfl (S_append Tryd.underlying22 ti_2 rfl (by decide) rfl (by first | exact ho8 | exact own_no ho8 hm9) rfl (.inr ⟨b9, 0, rfl, (by first | exact hb9'.row | exact (hb9'.mv hm8 (fun he => by have e : b7 = b9 := Option.some.inj he; have := (own_lt ho7 (k := b7) rfl).2; omega)).row | exact ((hb9'.no hm7).mv hm8 (fun he => by have e : b7 = b9 := Option.some.inj he; have := hb9'.lt; omega)).row)⟩) (by simp) (by simp [Value.oneCell']) (by first | exact Nat.le_trans hm7.size (Nat.le_trans hm8.size hm9.size) | exact Nat.le_trans hm7.size (Nat.le_trans hm9.size hm8.size) | exact Nat.le_trans hm7.size hm8.size) (by unfold maxLen; omega) (by omega) ?_)) (by decide +kernel)
              rintro v10 w10' ho10 hm10' hf10
              refine and_keep (Mv.own hH hm10' (by first | exact ho8 | exact own_no ho8 hm9) (by first | exact Nat.le_refl _ | exact hm9.size)) (fun hH => ?_)
              refine H_one (i := 11) (H_op rfl (S_append Tryd.underlying22 ti_2 rfl (by decide) rfl ho10 rfl (hcut1 _ hH) (by simp) (iv_one _) (by first | exact Nat.le_trans hm7.size (Nat.le_trans hm8.size (Nat.le_trans hm9.size hm10'.size)) | exact Nat.le_trans hm7.size (Nat.le_trans hm9.size (Nat.le_trans hm8.size hm10'.size)) | exact Nat.le_trans hm7.size (Nat.le_trans hm8.size hm10'.size)) (by unfold maxLen; omega) (by omega) ?_)) (by decide +kernel)
              rintro v11 w11' ho11 hm11' hf11
              refine and_keep (Mv.own hH hm11' ho10 (by first | exact Nat.le_refl _ | exact hm9.size)) (fun hH => ?_)
              refine H_pure (i := 12) rfl (PureV.toS (P_assign rfl)) ?_ (by assumption) (by decide +kernel) (by decide +kernel) (by decide +kernel) (fun _ _ _ _ h => h) rfl rfl rfl
              refine H_done (by decide +kernel) ?_
              refine blk_n ?_
              refine then_n ?_
              refine C_region ?_
              refine L (S (P_add rfl rfl (wI64 (c := ((x + 1 : Nat) : Int)) (by omega))) ?_)
              refine L (S (P_move rfl) ?_)
              refine L_nil ?_
              refine then_n ?_
              have e1 : (D.take p ++ vv :: D.drop p).length = 0 + (p - 0) + 1 + (D.length - p) := by simp; omega
              have e2 : (D.take p ++ vv :: D.drop p).map iv = [] ++ (D.take p).map iv ++ [.int .i64 vv] ++ (D.drop p).map iv := by simp [iv]
              have hbase : w.heap.size ≤ wz.heap.size := hmr.size
              have ho12 : w11'.ownsRow w.heap.size 2 1 v11 (D.take p ++ vv :: D.drop p).length ((D.take p ++ vv :: D.drop p).map iv) := by rw [e1, e2]; exact own_base ho11 (by first | exact hbase | exact Nat.le_trans hbase hm9.size)
              refine ⟨rfl, (x + 1, D.take p ++ vv :: D.drop p, v11), (.cons rfl (.cons rfl (.cons rfl (.cons rfl (.cons rfl (.cons rfl (.nil _))))))), ⟨hxl, h2r.no hH, ho12, ?_, hD1, fun j => ?_, fun d hd => ?_, hmr.no hH⟩, by dsimp only; omega⟩
              · dsimp only; rw [e1]; omega
              · dsimp only; cases j with | zero => rw [tops_zero, wF_zero] | succ j => rw [hD2 j, hwF j, htop, htop]
              · exact (List.mem_append.1 hd).elim (fun h => hDr d (List.mem_of_mem_take h)) (fun h => (List.mem_cons.1 h).elim (fun e => e ▸ hvb) (fun h => hDr d (List.mem_of_mem_drop h)))
        · have hxi : x = i := by omega
          have htR : tops D (roomN size bud k) = wF (aF off) i (roomN size bud k) := by rw [htop, hxi]
          have hprc := fun (w' : World) (hm : Mv No wr w') (y : Nat) (hy : y < 4294967296) => price_ret (w := w') (A := some ⟨b5, 0, none⟩) (A6 := none) (cap := i) (c5 := c5) (c6 := 0) i bud m k bs off [] y hy (by omega) (hofr.no hm) (.inl rfl) hro (by intro x hx; simp at hx) (by omega) (by simp)
          have hz : priceF bs off [] 0 i = bs.tmod 1000000 := by
            rw [priceF_alone]
            have : ∀ n, sumF (aF off) 0 n = 0 := by
              intro n
              induction n with
              | zero => rfl
              | succ n ih => simp [sumF, ih]
            rw [this]
            omega
          refine C_exit ?_
          refine then_x ?_
          refine then_x ?_
          refine blk_x ?_
          refine then_n ?_
          refine C_seq ?_
          refine C_region ?_
          refine L (S_loadS st_25 rfl h2r.row rfl ?_)
          refine L (S_call cb_10 rfl (hprc _ (Mv.refl _) 0 (by omega)) ?_)
          rintro _ w12 ⟨rfl, hm12⟩
          refine L (S (P_assign rfl) ?_)
          refine L_nil ?_
          refine then_n ?_
          refine C_seq ?_
          refine C_seq ?_
          refine C_region ?_
          refine L (S (P_move rfl) ?_)
          refine L (S (P_lenS Tryd.underlying22 rfl) ?_)
          refine L (S (P_move rfl) ?_)
          refine L_nil ?_
          refine then_n ?_
          refine C_block ?_
          rw [hz]
          have hrv12 := hrv.no hm12
          have h2s := h2r.no hm12
          generalize hRg : roomN size bud k = R at *
          refine C_loop (γ := Nat × Int) (fun q => [(2, .pointer (some ⟨b2, 0, none⟩)), (7, .int .u32 (s : Int)), (9, .int .i64 (R : Int)), (14, .int .i64 q.2), (122, .slice Av D.length capv), (123, .int .i64 (D.length : Int)), (124, .int .i64 (q.1 : Int))]) (fun q wq => wq = w12 ∧ q.1 ≤ D.length ∧ q.2 - tops (D.drop q.1) (R - q.1) = bs.tmod 1000000 - tops D R ∧ -1000000 - 32768 * (q.1 : Int) ≤ q.2 ∧ q.2 ≤ 1000000) (fun q => D.length - q.1) (0, bs.tmod 1000000) (.cons rfl (.cons rfl (.cons rfl (.cons rfl (.cons rfl (.cons rfl (.cons rfl (.nil _)))))))) ⟨rfl, by omega, by simp, by dsimp only; omega, by dsimp only; omega⟩ ?_
          rintro ⟨y, acc⟩ wq ⟨rfl, hy, hinv, ha0, ha9⟩
          dsimp only at hy hinv ha0 ha9
          dsimp only
          refine C_seq ?_
          refine C_region ?_
          refine L (S (P_lt rfl rfl rfl) ?_)
          refine L_nil ?_
          refine then_n ?_
          refine C_seq ?_
          refine C_ifp rfl rfl (fun hlt3 => ?_) (fun hge3 => ?_)
          · have hyl : y < D.length := by omega
            obtain ⟨d, hd⟩ : ∃ d, D[y]? = some d := ⟨D[y], List.getElem?_eq_getElem hyl⟩
            have hdd : D.drop y = d :: D.drop (y + 1) := by
              rw [List.drop_eq_getElem_cons hyl]
              rw [List.getElem?_eq_getElem hyl] at hd
              simp only [Option.some.injEq] at hd
              rw [hd]
            obtain ⟨hd0, hd9⟩ := hDr d (List.mem_of_getElem? hd)
            rw [hdd] at hinv
            obtain ⟨b, o, rfl, hrow⟩ := hrv12.form (i := y) (by simpa using hyl)
            have hcell : wq.cell? ⟨b, o + y, none⟩ = some (.int .i64 d) := hrow y _ (by rw [List.getElem?_map, hd]; rfl)
            by_cases hyR : y < R
            · obtain ⟨z, hzz⟩ : ∃ z, R - y = z + 1 := ⟨R - y - 1, by omega⟩
              have hzz2 : R - (y + 1) = z := by omega
              rw [hzz] at hinv
              have e : tops (d :: D.drop (y + 1)) (z + 1) = max d 0 + tops (D.drop (y + 1)) z := rfl
              by_cases hdp : 0 < d
              · refine C_skip ?_
                refine then_n ?_
                refine C_seq ?_
                refine C_block ?_
                refine C_seq ?_
                refine C_region ?_
                refine L (S (P_move rfl) ?_)
                refine L (S (P_indexAddr Tryd.underlying22 (csz_of ti_2) rfl rfl (j := y) rfl hyl (p := o + y) (by omega)) ?_)
                refine L (S_load sc_2 rfl hcell ?_)
                refine L (S (P_assign rfl) ?_)
                refine L (S (P_assign rfl) ?_)
                refine L_nil ?_
                refine then_n ?_
                refine C_seq ?_
                refine C_region ?_
                refine L (S (P_move rfl) ?_)
                refine L (S (P_move rfl) ?_)
                refine L (S (P_lt rfl rfl (decide_eq_true (by omega))) ?_)
                refine L (S (P_move rfl) ?_)
                refine L_yes (j := 3) (dj := 132) (b := true) (S (P_move rfl) ?_) rfl
                refine L_yes (j := 3) (dj := 132) (b := true) (S (P_gt rfl rfl (decide_eq_true hdp)) ?_) rfl
                refine L (S (P_pickT rfl rfl) ?_)
                refine L_nil ?_
                refine then_n ?_
                refine C_true rfl ?_
                refine C_region ?_
                refine L (S (P_move rfl) ?_)
                refine L (S (P_move rfl) ?_)
                refine L (S (P_sub rfl rfl (wI64 (c := acc - d) (by omega))) ?_)
                refine L (S (P_assign rfl) ?_)
                refine L_nil ?_
                refine blk_n ?_
                refine then_n ?_
                refine C_region ?_
                refine L (S (P_add rfl rfl (wI64 (c := ((y + 1 : Nat) : Int)) (by omega))) ?_)
                refine L (S (P_move rfl) ?_)
                refine L_nil ?_
                refine then_n ?_
                exact ⟨rfl, (y + 1, acc - d), (.cons rfl (.cons rfl (.cons rfl (.cons rfl (.cons rfl (.cons rfl (.cons rfl (.nil _)))))))), ⟨rfl, by dsimp only; omega, by dsimp only; rw [hzz2]; omega, by dsimp only; omega, by dsimp only; omega⟩, by dsimp only; omega⟩
              · refine C_skip ?_
                refine then_n ?_
                refine C_seq ?_
                refine C_block ?_
                refine C_seq ?_
                refine C_region ?_
                refine L (S (P_move rfl) ?_)
                refine L (S (P_indexAddr Tryd.underlying22 (csz_of ti_2) rfl rfl (j := y) rfl hyl (p := o + y) (by omega)) ?_)
                refine L (S_load sc_2 rfl hcell ?_)
                refine L (S (P_assign rfl) ?_)
                refine L (S (P_assign rfl) ?_)
                refine L_nil ?_
                refine then_n ?_
                refine C_seq ?_
                refine C_region ?_
                refine L (S (P_move rfl) ?_)
                refine L (S (P_move rfl) ?_)
                refine L (S (P_lt rfl rfl (decide_eq_true (by omega))) ?_)
                refine L (S (P_move rfl) ?_)
                refine L_yes (j := 3) (dj := 132) (b := true) (S (P_move rfl) ?_) rfl
                refine L_yes (j := 3) (dj := 132) (b := true) (S (P_gt rfl rfl (decide_eq_false hdp)) ?_) rfl
                refine L (S (P_pickT rfl rfl) ?_)
                refine L_nil ?_
                refine then_n ?_
                refine C_false rfl ?_
                refine C_skip ?_
                refine blk_n ?_
                refine then_n ?_
                refine C_region ?_
                refine L (S (P_add rfl rfl (wI64 (c := ((y + 1 : Nat) : Int)) (by omega))) ?_)
                refine L (S (P_move rfl) ?_)
                refine L_nil ?_
                refine then_n ?_
                exact ⟨rfl, (y + 1, acc), (.cons rfl (.cons rfl (.cons rfl (.cons rfl (.cons rfl (.cons rfl (.cons rfl (.nil _)))))))), ⟨rfl, by dsimp only; omega, by dsimp only; rw [hzz2]; omega, by dsimp only; omega, by dsimp only; omega⟩, by dsimp only; omega⟩
            · have hz0 : R - y = 0 := by omega
              have hz1 : R - (y + 1) = 0 := by omega
              rw [hz0] at hinv
              have e1 := tops_zero (d :: D.drop (y + 1))
              have e2 := tops_zero (D.drop (y + 1))
              refine C_skip ?_
              refine then_n ?_
              refine C_seq ?_
              refine C_block ?_
              refine C_seq ?_
              refine C_region ?_
              refine L (S (P_move rfl) ?_)
              refine L (S (P_indexAddr Tryd.underlying22 (csz_of ti_2) rfl rfl (j := y) rfl hyl (p := o + y) (by omega)) ?_)
              refine L (S_load sc_2 rfl hcell ?_)
              refine L (S (P_assign rfl) ?_)
              refine L (S (P_assign rfl) ?_)
              refine L_nil ?_
              refine then_n ?_
              refine C_seq ?_
              refine C_region ?_
              refine L (S (P_move rfl) ?_)
              refine L (S (P_move rfl) ?_)
              refine L (S (P_lt rfl rfl (decide_eq_false (by omega))) ?_)
              refine L (S (P_move rfl) ?_)
              refine L_no (j := 3) (dj := 132) (b := true) (b' := false) (d := 133) rfl ?_
              refine L_no (j := 3) (dj := 132) (b := true) (b' := false) (d := 134) rfl ?_
              refine L (S (P_pickF rfl rfl) ?_)
              refine L_nil ?_
              refine then_n ?_
              refine C_false rfl ?_
              refine C_skip ?_
              refine blk_n ?_
              refine then_n ?_
              refine C_region ?_
              refine L (S (P_add rfl rfl (wI64 (c := ((y + 1 : Nat) : Int)) (by omega))) ?_)
              refine L (S (P_move rfl) ?_)
              refine L_nil ?_
              refine then_n ?_
              exact ⟨rfl, (y + 1, acc), (.cons rfl (.cons rfl (.cons rfl (.cons rfl (.cons rfl (.cons rfl (.cons rfl (.nil _)))))))), ⟨rfl, by dsimp only; omega, by dsimp only; rw [hz1]; omega, by dsimp only; omega, by dsimp only; omega⟩, by dsimp only; omega⟩
          · have hye : D.drop y = [] := List.drop_eq_nil_of_le (by omega)
            rw [hye] at hinv
            have e : tops ([] : List Int) (R - y) = 0 := rfl
            refine C_exit ?_
            refine then_x ?_
            refine then_x ?_
            refine blk_x ?_
            refine then_n ?_
            refine C_seq ?_
            refine C_region ?_
            refine L (S_loadS st_25 rfl h2s.row rfl ?_)
            refine L (S (P_move rfl) ?_)
            refine L (S_call cb_10 rfl (hprc _ hm12 s (by omega)) ?_)
            rintro _ w13 ⟨rfl, hm13⟩
            refine L (S (P_move rfl) ?_)
            refine L (S (P_eq rfl rfl (decide_eq_true (by rw [hlaw]; omega))) ?_)
            refine L (S (P_assign rfl) ?_)
            refine L_nil ?_
            refine then_n ?_
            refine C_ret ?_
            refine F_ret1 Tryd.results5 rfl ?_
            exact ⟨rfl, (hmr.no hm12).no hm13⟩
  · refine C_region ?_
    refine L (S_call cb_7 rfl (lives_ret (hT.mv hm1)) ?_)
    rintro _ w2 ⟨rfl, hm2⟩
    refine L (S (P_not rfl rfl) ?_)
    refine L (S (P_move rfl) ?_)
    refine L_yes (j := 2) (dj := 19) (b := false) (S_loadS st_25 rfl (h1.no hm2).row rfl ?_) rfl
    refine L_yes (j := 2) (dj := 19) (b := false) (S_call cb_8 rfl (fitsC_no (hc.no (hm1.no hm2)) hf) ?_) rfl
    rintro _ w3 ⟨rfl, hm3⟩
    refine L_yes (j := 2) (dj := 19) (b := false) (S (P_not rfl rfl) ?_) rfl
    refine L (S (P_pickF rfl rfl) ?_)
    refine L (S (P_move rfl) ?_)
    refine L_no (j := 7) (dj := 24) (b := false) (b' := true) (d := 25) rfl ?_
    refine L_no (j := 7) (dj := 24) (b := false) (b' := true) (d := 26) rfl ?_
    refine L (S (P_pickT rfl rfl) ?_)
    refine L_nil ?_
    refine then_n ?_
    refine C_true rfl ?_
    refine C_seq ?_
    refine C_region ?_
    refine L (S_call cb_7 rfl (lives_ret (hT.mv ((hm1.no hm2).no hm3))) ?_)
    rintro _ w4 ⟨rfl, hm4⟩
    refine L (S (P_assign rfl) ?_)
    refine L_nil ?_
    refine then_n ?_
    refine C_ret ?_
    refine then_r ?_
    refine F_ret1 Tryd.results5 rfl ?_
    exact ⟨rfl, ((hm1.no hm2).no hm3).no hm4⟩
end
end Go.Proofs.YthihhibadpbncaaDoor
