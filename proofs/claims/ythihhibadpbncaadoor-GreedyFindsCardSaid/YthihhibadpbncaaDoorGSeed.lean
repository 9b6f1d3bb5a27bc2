import Derived.Test.YthihhibadpbncaaDoorGFits
namespace Go.Proofs.YthihhibadpbncaaDoor
open Go.RowKit

def fdC (s : Nat) (p : Int) : List Value := [.int .u32 (s : Int), .int .i64 p]
def fdV (s : Nat) (p : Int) : Value := .agg #[.int .u32 (s : Int), .int .i64 p]
theorem fdC_one (s : Nat) (p : Int) : ∀ v ∈ fdC s p, v.oneCell' = true := by simp [fdC, Value.oneCell']

theorem finF {w3 : World} {b2 : Nat} {s : Nat} {p : Int} (h : Blk w3 b2 (fdC s p) 48) : (loadVar 48 ⟨b2, 0, none⟩).run Tryd.prog w3 = .ok (fdV s p) w3 := run_loadVar_struct st_48 h.row rfl

theorem seed_ret {w : World} {A : Option Addr} {cap : Nat} {fv : Value} {pr : Nat → Int} (sz : List Int) (bud m : Int) (hs : SlR w A (sz.map iv)) (hr : Inr sz) (hl : sz.length ≤ 16) (hb0 : 0 ≤ bud) (hb9 : bud < 9223372036854775808) (hp : PrF Tryd.prog w fv pr) (hT : Tab w) :
    Ret Tryd.prog 18 [.agg #[.slice A sz.length cap, .int .i64 bud, fv], .int .i64 m] w fun v w' => v = fdV (seedF sz bud pr m (2 ^ sz.length - 1)).1 (seedF sz bud pr m (2 ^ sz.length - 1)).2 ∧ Mv No w w' := by
  have hpow : 2 ^ sz.length ≤ 65536 := by
    have := Nat.pow_le_pow_right (n := 2) (by omega) hl
    simpa using this
  have hpow1 : 0 < 2 ^ sz.length := Nat.two_pow_pos _
  refine F_enter Tryd.func18 Tryd.ntmps18 rfl rfl ?_
  refine C_seq ?_
  refine C_region ?_
  refine L (S_box rfl ?_)
  rintro b2 w1 hb2 hm1 hn1
  refine L (S_alloc (zs := [(.int .u32 0), (.int .i64 0)]) ti_48 rfl ?_)
  rintro b4 w2 hb4 hm2 hn2
  refine L_nil ?_
  refine then_n ?_
  refine C_seq ?_
  have h2 : Blk w2 b2 [.slice A sz.length cap, .int .i64 bud, fv] 46 := hb2.no hm2
  have hm02 : Mv No w w2 := hm1.no hm2
  refine C_region ?_
  refine L (S (P_fieldAddr fo_46_2 rfl) ?_)
  refine L (S_load sc_32 rfl (h2.cell (i := 2) rfl) ?_)
  refine L (S_callP (s := 0) hp rfl rfl (by omega) hm02 ?_)
  rintro w3 hm3
  refine L (S (P_buildC (ix := [0, 1]) (l := [.const (.int .u32 0), .tmp 12]) bi_48_0_1 rfl (by simp [Value.oneCell']) rfl) ?_)
  refine L (S_alloc (zs := [(.int .u32 0), (.int .i64 0)]) ti_48 rfl ?_)
  rintro b5 w4 hb5 hm4 hn4
  refine L (S_storeS ti_48 rfl rfl (fdC_one 0 (pr 0)) rfl hb5 (by exact Nat.le_refl 2) ?_)
  rintro w5 hb5' hm5
  refine L_nil ?_
  refine then_n ?_
  refine C_seq ?_
  refine C_seq ?_
  have hw4 : w.heap.size ≤ b4 := Nat.le_trans hm1.size hn2
  have hw5 : w.heap.size ≤ b5 := Nat.le_trans (hm02.no hm3).size hn4
  have hlt2 := h2.lt
  have hlt4 := hb4.lt
  have hle3 := hm3.size
  have h25 : b2 ≠ b5 := by omega
  have h45 : b4 ≠ b5 := by omega
  have h2' : Blk w5 b2 [.slice A sz.length cap, .int .i64 bud, fv] 46 := ((h2.no hm3).no hm4).ne hm5 h25
  have h4' : Blk w5 b4 (fdC 0 0) 48 := (((show Blk w2 b4 (fdC 0 0) 48 from hb4).no hm3).no hm4).ne hm5 h45
  have h5' : Blk w5 b5 (fdC 0 (pr 0)) 48 := hb5'
  have hm05 : Mv No w w5 := ((hm02.no hm3).no hm4).new hm5 hw5
  clear hb2 hb4 hb5 hb5'
  refine C_region ?_
  refine L (S (P_assign rfl) ?_)
  refine L_nil ?_
  refine then_n ?_
  refine C_block ?_
  refine C_loop (γ := Nat) (fun k => [(1, .int .i64 m), (2, .pointer (some ⟨b2, 0, none⟩)), (4, .pointer (some ⟨b4, 0, none⟩)), (5, .pointer (some ⟨b5, 0, none⟩)), (6, .int .u32 ((k + 1 : Nat) : Int))]) (fun k wr => k < 2 ^ sz.length ∧ Blk wr b2 [.slice A sz.length cap, .int .i64 bud, fv] 46 ∧ Blk wr b4 (fdC 0 0) 48 ∧ Blk wr b5 (fdC (seedF sz bud pr m k).1 (seedF sz bud pr m k).2) 48 ∧ Mv No w wr) (fun k => 2 ^ sz.length - k) 0 (.cons rfl (.cons rfl (.cons rfl (.cons rfl (.cons rfl (.nil _)))))) ⟨hpow1, h2', h4', h5', hm05⟩ ?_
  rintro k wr ⟨hk, h2r, h4r, h5r, hmr⟩
  try dsimp only at hk h2r h4r h5r hmr
  have hse : seedF sz bud pr m (k + 1) = seedStep sz bud pr m (seedF sz bud pr m k) (k + 1) := rfl
  have hsl := seedF_lt sz bud pr m k
  generalize hbest : seedF sz bud pr m k = best at *
  obtain ⟨bs, bp⟩ := best
  try dsimp only at h5r hsl
  simp only [seedStep] at hse
  refine C_seq ?_
  refine C_seq ?_
  refine C_region ?_
  refine L (S (P_move rfl) ?_)
  refine L (S (P_fieldAddr fo_46_0 rfl) ?_)
  refine L (S_load sc_22 rfl (h2r.cell (i := 0) rfl) ?_)
  refine L (S (P_lenS Tryd.underlying22 rfl) ?_)
  refine L (S (P_shl rfl rfl (by omega) (shlU32 (s := sz.length) rfl (by omega) rfl)) ?_)
  refine L (S (P_lt rfl rfl rfl) ?_)
  refine L_nil ?_
  refine then_n ?_
  refine C_ifp rfl rfl (fun hlt => ?_) (fun hge => ?_)
  · have hk1 : k + 1 < 2 ^ sz.length := by omega
    refine C_skip ?_
    refine then_n ?_
    refine C_seq ?_
    refine C_block ?_
    refine C_seq ?_
    refine C_region ?_
    refine L (S (P_move rfl) ?_)
    refine L (S_call cb_19 rfl (ones_ret (k + 1) (by omega)) ?_)
    rintro _ w6 ⟨rfl, hm6⟩
    refine L (S (P_assign rfl) ?_)
    refine L_nil ?_
    refine then_n ?_
    refine C_seq ?_
    refine C_seq ?_
    have h2a := h2r.no hm6
    have h4a := h4r.no hm6
    have h5a := h5r.no hm6
    have hm06 : Mv No w w6 := hmr.no hm6
    by_cases hmany : m < (pop (k + 1) : Int)
    · rw [if_pos hmany] at hse
      refine C_region ?_
      refine L (S (P_move rfl) ?_)
      refine L (S (P_move rfl) ?_)
      refine L (S (P_gt rfl rfl (decide_eq_true (by omega))) ?_)
      refine L (S (P_move rfl) ?_)
      refine L_no (j := 3) (dj := 27) (b := false) (b' := true) (d := 28) rfl ?_
      refine L_no (j := 3) (dj := 27) (b := false) (b' := true) (d := 29) rfl ?_
      refine L_no (j := 3) (dj := 27) (b := false) (b' := true) (d := 30) rfl ?_
      refine L_no (j := 3) (dj := 27) (b := false) (b' := true) (d := 31) rfl ?_
      refine L (S (P_pickT rfl rfl) ?_)
      refine L_nil ?_
      refine then_n ?_
      refine C_true rfl ?_
      refine C_exit ?_
      refine then_x ?_
      refine blk_x ?_
      refine then_n ?_
      refine C_region ?_
      refine L (S (P_move rfl) ?_)
      refine L (S (P_add rfl rfl (wU32 (c := ((k + 1 + 1 : Nat) : Int)) (by omega))) ?_)
      refine L (S (P_assign rfl) ?_)
      refine L_nil ?_
      refine then_n ?_
      exact ⟨rfl, k + 1, .cons rfl (.cons rfl (.cons rfl (.cons rfl (.cons rfl (.nil _))))), ⟨hk1, h2a, h4a, by rw [hse]; exact h5a, hm06⟩, by omega⟩
    · rw [if_neg hmany] at hse
      have kf := fun w hs => fits_ret (w := w) (A := A) (cap := cap) (fv := fv) sz bud (k + 1) hs hr hl hb0 hb9 (by omega)
      by_cases hfit : fitsF sz bud (k + 1) 0 = false
      · rw [if_pos hfit] at hse
        rw [hfit] at kf
        refine C_region ?_
        refine L (S (P_move rfl) ?_)
        refine L (S (P_move rfl) ?_)
        refine L (S (P_gt rfl rfl (decide_eq_false (by omega))) ?_)
        refine L (S (P_move rfl) ?_)
        refine L_yes (j := 3) (dj := 27) (b := false) (S_loadS st_46 rfl h2a.row rfl ?_) rfl
        refine L_yes (j := 3) (dj := 27) (b := false) (S (P_move rfl) ?_) rfl
        refine L_yes (j := 3) (dj := 27) (b := false) (S_call cb_20 rfl (kf _ (hs.no hm06)) ?_) rfl
        rintro _ w7 ⟨rfl, hm7⟩
        refine L_yes (j := 3) (dj := 27) (b := false) (S (P_not rfl rfl) ?_) rfl
        refine L (S (P_pickF rfl rfl) ?_)
        refine L_nil ?_
        refine then_n ?_
        refine C_true rfl ?_
        refine C_exit ?_
        refine then_x ?_
        refine blk_x ?_
        refine then_n ?_
        refine C_region ?_
        refine L (S (P_move rfl) ?_)
        refine L (S (P_add rfl rfl (wU32 (c := ((k + 1 + 1 : Nat) : Int)) (by omega))) ?_)
        refine L (S (P_assign rfl) ?_)
        refine L_nil ?_
        refine then_n ?_
        exact ⟨rfl, k + 1, .cons rfl (.cons rfl (.cons rfl (.cons rfl (.cons rfl (.nil _))))), ⟨hk1, h2a.no hm7, h4a.no hm7, by rw [hse]; exact h5a.no hm7, hm06.no hm7⟩, by omega⟩
      · rw [if_neg hfit] at hse
        have hfit2 : fitsF sz bud (k + 1) 0 = true := by simpa using hfit
        rw [hfit2] at kf
        refine C_region ?_
        refine L (S (P_move rfl) ?_)
        refine L (S (P_move rfl) ?_)
        refine L (S (P_gt rfl rfl (decide_eq_false (by omega))) ?_)
        refine L (S (P_move rfl) ?_)
        refine L_yes (j := 3) (dj := 27) (b := false) (S_loadS st_46 rfl h2a.row rfl ?_) rfl
        refine L_yes (j := 3) (dj := 27) (b := false) (S (P_move rfl) ?_) rfl
        refine L_yes (j := 3) (dj := 27) (b := false) (S_call cb_20 rfl (kf _ (hs.no hm06)) ?_) rfl
        rintro _ w7 ⟨rfl, hm7⟩
        refine L_yes (j := 3) (dj := 27) (b := false) (S (P_not rfl rfl) ?_) rfl
        refine L (S (P_pickF rfl rfl) ?_)
        refine L_nil ?_
        refine then_n ?_
        refine C_false rfl ?_
        refine C_skip ?_
        refine then_n ?_
        refine C_seq ?_
        refine C_region ?_
        refine L (S (P_fieldAddr fo_46_2 rfl) ?_)
        refine L (S_load sc_32 rfl ((h2a.no hm7).cell (i := 2) rfl) ?_)
        refine L (S (P_move rfl) ?_)
        refine L (S_callP (s := k + 1) hp rfl rfl (by omega) (hm06.no hm7) ?_)
        rintro w8 hm8
        refine L (S (P_assign rfl) ?_)
        refine L_nil ?_
        refine then_n ?_
        refine C_seq ?_
        refine C_region ?_
        refine L (S (P_fieldAddr fo_48_0 rfl) ?_)
        refine L (S_load sc_28 rfl (((h5a.no hm7).no hm8).cell (i := 0) rfl) ?_)
        refine L (S_call cb_19 rfl (ones_ret bs (by omega)) ?_)
        rintro _ w9 ⟨rfl, hm9⟩
        refine L (S (P_assign rfl) ?_)
        refine L_nil ?_
        refine then_n ?_
        refine C_seq ?_
        have hm69 : Mv No w6 w9 := (hm7.no hm8).no hm9
        have h2b := h2a.no hm69
        have h4b := h4a.no hm69
        have h5b := h5a.no hm69
        have hm09 : Mv No w w9 := hm06.no hm69
        have hT9 := hT.mv hm09
        refine C_cutg (γ := Unit) (fun _ => [(1, .int .i64 m), (2, .pointer (some ⟨b2, 0, none⟩)), (4, .pointer (some ⟨b4, 0, none⟩)), (5, .pointer (some ⟨b5, 0, none⟩)), (6, .int .u32 ((k + 1 : Nat) : Int)), (8, .int .i64 (pr (k + 1))), (65, .bool (better pr (k + 1) (bs, bp)))]) (fun _ wc => wc = w9) ?_ ?_
        · by_cases hA : pr (k + 1) < bp
          · have hβ : better pr (k + 1) (bs, bp) = true := by simp [better, hA]
            rw [hβ]
            refine C_region ?_
            refine L (S (P_move rfl) ?_)
            refine L (S (P_fieldAddr fo_48_1 rfl) ?_)
            refine L (S_load sc_2 rfl (h5b.cell (i := 1) rfl) ?_)
            refine L (S (P_lt rfl rfl (decide_eq_true hA)) ?_)
            refine L (S (P_move rfl) ?_)
            refine L_no (j := 4) (dj := 44) (b := false) (b' := true) (d := 45) rfl ?_
            refine L_no (j := 4) (dj := 44) (b := false) (b' := true) (d := 46) rfl ?_
            refine L_no (j := 4) (dj := 44) (b := false) (b' := true) (d := 47) rfl ?_
            refine L_no (j := 4) (dj := 44) (b := false) (b' := true) (d := 48) rfl ?_
            refine L_no (j := 4) (dj := 44) (b := false) (b' := true) (d := 49) rfl ?_
            refine L_nou (j := 9) (dj := 49) (b := true) (d := 50) rfl ?_
            refine L_nou (j := 9) (dj := 49) (b := true) (d := 51) rfl ?_
            refine L_nou (j := 9) (dj := 49) (b := true) (d := 52) rfl ?_
            refine L_nou (j := 9) (dj := 49) (b := true) (d := 53) rfl ?_
            refine L_nou (j := 13) (dj := 53) (b := false) (d := 54) rfl ?_
            refine L_nou (j := 13) (dj := 53) (b := false) (d := 55) rfl ?_
            refine L_nou (j := 13) (dj := 53) (b := false) (d := 56) rfl ?_
            refine L_nou (j := 13) (dj := 53) (b := false) (d := 57) rfl ?_
            refine L_nou (j := 17) (dj := 57) (b := true) (d := 58) rfl ?_
            refine L_nou (j := 17) (dj := 57) (b := true) (d := 59) rfl ?_
            refine L_nou (j := 17) (dj := 57) (b := true) (d := 60) rfl ?_
            refine L_nou (j := 17) (dj := 57) (b := true) (d := 61) rfl ?_
            refine L_nou (j := 13) (dj := 53) (b := false) (d := 62) rfl ?_
            refine L_nou (j := 9) (dj := 49) (b := true) (d := 63) rfl ?_
            refine L_no (j := 4) (dj := 44) (b := false) (b' := true) (d := 64) rfl ?_
            refine L (S (P_pickT rfl rfl) ?_)
            refine L_nil ?_
            refine then_n ?_
            exact ⟨rfl, (), .cons rfl (.cons rfl (.cons rfl (.cons rfl (.cons rfl (.cons rfl (.cons rfl (.nil _))))))), rfl⟩
          · by_cases hB : pr (k + 1) = bp
            · by_cases hC : pop (k + 1) < pop bs
              · have hβ : better pr (k + 1) (bs, bp) = true := by simp [better, hB, hC]
                rw [hβ]
                refine C_region ?_
                refine L (S (P_move rfl) ?_)
                refine L (S (P_fieldAddr fo_48_1 rfl) ?_)
                refine L (S_load sc_2 rfl (h5b.cell (i := 1) rfl) ?_)
                refine L (S (P_lt rfl rfl (decide_eq_false hA)) ?_)
                refine L (S (P_move rfl) ?_)
                refine L_yes (j := 4) (dj := 44) (b := false) (S (P_move rfl) ?_) rfl
                refine L_yes (j := 4) (dj := 44) (b := false) (S (P_fieldAddr fo_48_1 rfl) ?_) rfl
                refine L_yes (j := 4) (dj := 44) (b := false) (S_load sc_2 rfl (h5b.cell (i := 1) rfl) ?_) rfl
                refine L_yes (j := 4) (dj := 44) (b := false) (S (P_eq rfl rfl (decide_eq_true hB)) ?_) rfl
                refine L_yes (j := 4) (dj := 44) (b := false) (S (P_move rfl) ?_) rfl
                refine L_yes (j := 9) (dj := 49) (b := true) (S (P_move rfl) ?_) rfl
                refine L_yes (j := 9) (dj := 49) (b := true) (S (P_move rfl) ?_) rfl
                refine L_yes (j := 9) (dj := 49) (b := true) (S (P_lt rfl rfl (decide_eq_true (by omega))) ?_) rfl
                refine L_yes (j := 9) (dj := 49) (b := true) (S (P_move rfl) ?_) rfl
                refine L_no (j := 13) (dj := 53) (b := false) (b' := true) (d := 54) rfl ?_
                refine L_no (j := 13) (dj := 53) (b := false) (b' := true) (d := 55) rfl ?_
                refine L_no (j := 13) (dj := 53) (b := false) (b' := true) (d := 56) rfl ?_
                refine L_no (j := 13) (dj := 53) (b := false) (b' := true) (d := 57) rfl ?_
                refine L_nou (j := 17) (dj := 57) (b := true) (d := 58) rfl ?_
                refine L_nou (j := 17) (dj := 57) (b := true) (d := 59) rfl ?_
                refine L_nou (j := 17) (dj := 57) (b := true) (d := 60) rfl ?_
                refine L_nou (j := 17) (dj := 57) (b := true) (d := 61) rfl ?_
                refine L_no (j := 13) (dj := 53) (b := false) (b' := true) (d := 62) rfl ?_
                refine L_yes (j := 9) (dj := 49) (b := true) (S (P_pickT rfl rfl) ?_) rfl
                refine L_yes (j := 4) (dj := 44) (b := false) (S (P_pickT rfl rfl) ?_) rfl
                refine L (S (P_pickF rfl rfl) ?_)
                refine L_nil ?_
                refine then_n ?_
                exact ⟨rfl, (), .cons rfl (.cons rfl (.cons rfl (.cons rfl (.cons rfl (.cons rfl (.cons rfl (.nil _))))))), rfl⟩
              · by_cases hD : pop (k + 1) = pop bs
                · have hβ : better pr (k + 1) (bs, bp) = aheadF (k + 1) bs := by simp [better, hB, hD]
                  rw [hβ]
                  refine C_region ?_
                  refine L (S (P_move rfl) ?_)
                  refine L (S (P_fieldAddr fo_48_1 rfl) ?_)
                  refine L (S_load sc_2 rfl (h5b.cell (i := 1) rfl) ?_)
                  refine L (S (P_lt rfl rfl (decide_eq_false hA)) ?_)
                  refine L (S (P_move rfl) ?_)
                  refine L_yes (j := 4) (dj := 44) (b := false) (S (P_move rfl) ?_) rfl
                  refine L_yes (j := 4) (dj := 44) (b := false) (S (P_fieldAddr fo_48_1 rfl) ?_) rfl
                  refine L_yes (j := 4) (dj := 44) (b := false) (S_load sc_2 rfl (h5b.cell (i := 1) rfl) ?_) rfl
                  refine L_yes (j := 4) (dj := 44) (b := false) (S (P_eq rfl rfl (decide_eq_true hB)) ?_) rfl
                  refine L_yes (j := 4) (dj := 44) (b := false) (S (P_move rfl) ?_) rfl
                  refine L_yes (j := 9) (dj := 49) (b := true) (S (P_move rfl) ?_) rfl
                  refine L_yes (j := 9) (dj := 49) (b := true) (S (P_move rfl) ?_) rfl
                  refine L_yes (j := 9) (dj := 49) (b := true) (S (P_lt rfl rfl (decide_eq_false (by omega))) ?_) rfl
                  refine L_yes (j := 9) (dj := 49) (b := true) (S (P_move rfl) ?_) rfl
                  refine L_yes (j := 13) (dj := 53) (b := false) (S (P_move rfl) ?_) rfl
                  refine L_yes (j := 13) (dj := 53) (b := false) (S (P_move rfl) ?_) rfl
                  refine L_yes (j := 13) (dj := 53) (b := false) (S (P_eq rfl rfl (decide_eq_true (by omega))) ?_) rfl
                  refine L_yes (j := 13) (dj := 53) (b := false) (S (P_move rfl) ?_) rfl
                  refine L_yes (j := 17) (dj := 57) (b := true) (S (P_move rfl) ?_) rfl
                  refine L_yes (j := 17) (dj := 57) (b := true) (S (P_fieldAddr fo_48_0 rfl) ?_) rfl
                  refine L_yes (j := 17) (dj := 57) (b := true) (S_load sc_28 rfl (h5b.cell (i := 0) rfl) ?_) rfl
                  refine L_yes (j := 17) (dj := 57) (b := true) (S_call cb_24 rfl (ahead_ret (k + 1) bs (by omega) (by omega) hT9) ?_) rfl
                  rintro _ _ ⟨rfl, rfl⟩
                  refine L_yes (j := 13) (dj := 53) (b := false) (S (P_pickT rfl rfl) ?_) rfl
                  refine L_yes (j := 9) (dj := 49) (b := true) (S (P_pickF rfl rfl) ?_) rfl
                  refine L_yes (j := 4) (dj := 44) (b := false) (S (P_pickT rfl rfl) ?_) rfl
                  refine L (S (P_pickF rfl rfl) ?_)
                  refine L_nil ?_
                  refine then_n ?_
                  exact ⟨rfl, (), .cons rfl (.cons rfl (.cons rfl (.cons rfl (.cons rfl (.cons rfl (.cons rfl (.nil _))))))), rfl⟩
                · have hβ : better pr (k + 1) (bs, bp) = false := by simp [better, hB, hC, hD]
                  rw [hβ]
                  refine C_region ?_
                  refine L (S (P_move rfl) ?_)
                  refine L (S (P_fieldAddr fo_48_1 rfl) ?_)
                  refine L (S_load sc_2 rfl (h5b.cell (i := 1) rfl) ?_)
                  refine L (S (P_lt rfl rfl (decide_eq_false hA)) ?_)
                  refine L (S (P_move rfl) ?_)
                  refine L_yes (j := 4) (dj := 44) (b := false) (S (P_move rfl) ?_) rfl
                  refine L_yes (j := 4) (dj := 44) (b := false) (S (P_fieldAddr fo_48_1 rfl) ?_) rfl
                  refine L_yes (j := 4) (dj := 44) (b := false) (S_load sc_2 rfl (h5b.cell (i := 1) rfl) ?_) rfl
                  refine L_yes (j := 4) (dj := 44) (b := false) (S (P_eq rfl rfl (decide_eq_true hB)) ?_) rfl
                  refine L_yes (j := 4) (dj := 44) (b := false) (S (P_move rfl) ?_) rfl
                  refine L_yes (j := 9) (dj := 49) (b := true) (S (P_move rfl) ?_) rfl
                  refine L_yes (j := 9) (dj := 49) (b := true) (S (P_move rfl) ?_) rfl
                  refine L_yes (j := 9) (dj := 49) (b := true) (S (P_lt rfl rfl (decide_eq_false (by omega))) ?_) rfl
                  refine L_yes (j := 9) (dj := 49) (b := true) (S (P_move rfl) ?_) rfl
                  refine L_yes (j := 13) (dj := 53) (b := false) (S (P_move rfl) ?_) rfl
                  refine L_yes (j := 13) (dj := 53) (b := false) (S (P_move rfl) ?_) rfl
                  refine L_yes (j := 13) (dj := 53) (b := false) (S (P_eq rfl rfl (decide_eq_false (by omega))) ?_) rfl
                  refine L_yes (j := 13) (dj := 53) (b := false) (S (P_move rfl) ?_) rfl
                  refine L_no (j := 17) (dj := 57) (b := true) (b' := false) (d := 58) rfl ?_
                  refine L_no (j := 17) (dj := 57) (b := true) (b' := false) (d := 59) rfl ?_
                  refine L_no (j := 17) (dj := 57) (b := true) (b' := false) (d := 60) rfl ?_
                  refine L_no (j := 17) (dj := 57) (b := true) (b' := false) (d := 61) rfl ?_
                  refine L_yes (j := 13) (dj := 53) (b := false) (S (P_pickF rfl rfl) ?_) rfl
                  refine L_yes (j := 9) (dj := 49) (b := true) (S (P_pickF rfl rfl) ?_) rfl
                  refine L_yes (j := 4) (dj := 44) (b := false) (S (P_pickT rfl rfl) ?_) rfl
                  refine L (S (P_pickF rfl rfl) ?_)
                  refine L_nil ?_
                  refine then_n ?_
                  exact ⟨rfl, (), .cons rfl (.cons rfl (.cons rfl (.cons rfl (.cons rfl (.cons rfl (.cons rfl (.nil _))))))), rfl⟩
            · have hβ : better pr (k + 1) (bs, bp) = false := by simp [better, hA, hB]
              rw [hβ]
              refine C_region ?_
              refine L (S (P_move rfl) ?_)
              refine L (S (P_fieldAddr fo_48_1 rfl) ?_)
              refine L (S_load sc_2 rfl (h5b.cell (i := 1) rfl) ?_)
              refine L (S (P_lt rfl rfl (decide_eq_false hA)) ?_)
              refine L (S (P_move rfl) ?_)
              refine L_yes (j := 4) (dj := 44) (b := false) (S (P_move rfl) ?_) rfl
              refine L_yes (j := 4) (dj := 44) (b := false) (S (P_fieldAddr fo_48_1 rfl) ?_) rfl
              refine L_yes (j := 4) (dj := 44) (b := false) (S_load sc_2 rfl (h5b.cell (i := 1) rfl) ?_) rfl
              refine L_yes (j := 4) (dj := 44) (b := false) (S (P_eq rfl rfl (decide_eq_false hB)) ?_) rfl
              refine L_yes (j := 4) (dj := 44) (b := false) (S (P_move rfl) ?_) rfl
              refine L_no (j := 9) (dj := 49) (b := true) (b' := false) (d := 50) rfl ?_
              refine L_no (j := 9) (dj := 49) (b := true) (b' := false) (d := 51) rfl ?_
              refine L_no (j := 9) (dj := 49) (b := true) (b' := false) (d := 52) rfl ?_
              refine L_no (j := 9) (dj := 49) (b := true) (b' := false) (d := 53) rfl ?_
              refine L_nou (j := 13) (dj := 53) (b := false) (d := 54) rfl ?_
              refine L_nou (j := 13) (dj := 53) (b := false) (d := 55) rfl ?_
              refine L_nou (j := 13) (dj := 53) (b := false) (d := 56) rfl ?_
              refine L_nou (j := 13) (dj := 53) (b := false) (d := 57) rfl ?_
              refine L_nou (j := 17) (dj := 57) (b := true) (d := 58) rfl ?_
              refine L_nou (j := 17) (dj := 57) (b := true) (d := 59) rfl ?_
              refine L_nou (j := 17) (dj := 57) (b := true) (d := 60) rfl ?_
              refine L_nou (j := 17) (dj := 57) (b := true) (d := 61) rfl ?_
              refine L_nou (j := 13) (dj := 53) (b := false) (d := 62) rfl ?_
              refine L_no (j := 9) (dj := 49) (b := true) (b' := false) (d := 63) rfl ?_
              refine L_yes (j := 4) (dj := 44) (b := false) (S (P_pickF rfl rfl) ?_) rfl
              refine L (S (P_pickF rfl rfl) ?_)
              refine L_nil ?_
              refine then_n ?_
              exact ⟨rfl, (), .cons rfl (.cons rfl (.cons rfl (.cons rfl (.cons rfl (.cons rfl (.cons rfl (.nil _))))))), rfl⟩
        rintro _ wc rfl f' hf'
        refine C_forget hf' ?_
        by_cases hβ : better pr (k + 1) (bs, bp) = true
        · rw [if_pos hβ] at hse
          rw [hβ]
          refine C_true rfl ?_
          refine C_region ?_
          refine L (S (P_move rfl) ?_)
          refine L (S (P_move rfl) ?_)
          refine L (S (P_buildC (ix := [0, 1]) (l := [.tmp 66, .tmp 67]) bi_48_0_1 rfl (by simp [Value.oneCell']) rfl) ?_)
          refine L (S_storeS ti_48 rfl rfl (fdC_one (k + 1) (pr (k + 1))) rfl h5b (by exact Nat.le_refl 2) ?_)
          rintro w10 hb10 hm10
          refine L_nil ?_
          refine blk_n ?_
          refine then_n ?_
          refine C_region ?_
          refine L (S (P_move rfl) ?_)
          refine L (S (P_add rfl rfl (wU32 (c := ((k + 1 + 1 : Nat) : Int)) (by omega))) ?_)
          refine L (S (P_assign rfl) ?_)
          refine L_nil ?_
          refine then_n ?_
          exact ⟨rfl, k + 1, .cons rfl (.cons rfl (.cons rfl (.cons rfl (.cons rfl (.nil _))))), ⟨hk1, h2b.ne hm10 h25, h4b.ne hm10 h45, by rw [hse]; exact hb10, hm09.new hm10 hw5⟩, by omega⟩
        · rw [if_neg hβ] at hse
          have hβf : better pr (k + 1) (bs, bp) = false := by simpa using hβ
          rw [hβf]
          refine C_false rfl ?_
          refine C_skip ?_
          refine blk_n ?_
          refine then_n ?_
          refine C_region ?_
          refine L (S (P_move rfl) ?_)
          refine L (S (P_add rfl rfl (wU32 (c := ((k + 1 + 1 : Nat) : Int)) (by omega))) ?_)
          refine L (S (P_assign rfl) ?_)
          refine L_nil ?_
          refine then_n ?_
          exact ⟨rfl, k + 1, .cons rfl (.cons rfl (.cons rfl (.cons rfl (.cons rfl (.nil _))))), ⟨hk1, h2b, h4b, by rw [hse]; exact h5b, hm09⟩, by omega⟩
  · have hk2 : 2 ^ sz.length - 1 = k := by omega
    rw [hk2, hbest]
    refine C_exit ?_
    refine then_x ?_
    refine then_x ?_
    refine blk_x ?_
    refine then_n ?_
    refine C_seq ?_
    refine C_region ?_
    refine L (S_loadS st_48 rfl h5r.row rfl ?_)
    refine L (S_storeS ti_48 rfl rfl (fdC_one bs bp) rfl h4r (by exact Nat.le_refl 2) ?_)
    rintro w6 hb6 hm6
    refine L_nil ?_
    refine then_n ?_
    refine C_ret ?_
    refine F_ret (rs := [.cell 4 48]) [fdV bs bp] Tryd.results18 ?_ ?_
    · exact ⟨⟨_, rfl, finF hb6⟩, trivial⟩
    · exact ⟨rfl, hmr.new hm6 hw4⟩
end Go.Proofs.YthihhibadpbncaaDoor
