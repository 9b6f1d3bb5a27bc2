import Derived.Test.YtnoioimphcmeiaaGreatDoorSCols
namespace Go.Proofs.YtnoioimphcmeiaaGreatDoor
open Go.RowKit
set_option maxRecDepth 20000
set_option maxHeartbeats 1000000

section
variable {w : World}
theorem reftable_ret {s : Sch} (hs : SlR w s.A (cellsL tabC s.tabs)) (hl : s.tabs.length ≤ 1000000) (nm : List UInt8) : Ret Tryz.prog 16 [.agg (schC s).toArray, .string (str nm)] w fun v w' => v = .int .i64 (findN (fun x => decide (x.name = nm)) s.tabs) ∧ Mv No w w' := by
  refine F_enter Tryz.func16 Tryz.ntmps16 rfl rfl ?_
  refine C_seq ?_
  refine C_region ?_
  refine L (S_box rfl ?_)
  rintro b2 w1 hb2 hm1 hn1
  refine L (S (P_assign rfl) ?_)
  refine L_nil ?_
  refine then_n ?_
  refine C_seq ?_
  refine C_seq ?_
  refine C_region ?_
  refine L (S (P_assign rfl) ?_)
  refine L_nil ?_
  refine then_n ?_
  refine C_block ?_
  have hsl : ∀ wq, Mv No w1 wq → wq.cell? ⟨b2, 0, none⟩ = some (.slice s.A s.tabs.length s.c) := fun wq h => (hb2.no h).cell (i := 0) rfl
  have hs1 := hs.no hm1
  refine C_loop (γ := Nat) (fun i => [(1, .string (str nm)), (2, .pointer (some ⟨b2, 0, none⟩)), (5, .int .i64 (i : Int))]) (fun i wr => Mv No w1 wr ∧ i ≤ s.tabs.length ∧ ∀ x ∈ s.tabs.take i, decide (x.name = nm) = false) (fun i => s.tabs.length - i) 0 (.cons rfl (.cons rfl (.cons rfl (.nil _)))) ⟨Mv.refl w1, Nat.zero_le _, by simp⟩ ?_
  rintro i wr ⟨hmr, hi, hb⟩
  by_cases hlt : i < s.tabs.length
  · have ha := List.getElem?_eq_getElem hlt
    generalize s.tabs[i] = a at ha
    have hsl2 := hsl wr hmr
    obtain ⟨b, o, hAe, -, hrow⟩ := cellsL_at tabC_len (by decide) (hs1.no hmr) ha
    rw [hAe] at hsl2
    by_cases hq : a.name = nm
    · refine C_seq ?_
      refine C_seq ?_
      refine C_region ?_
      refine L (S (P_move rfl) ?_)
      refine L (S (P_fieldAddr fo_37_0 rfl) ?_)
      refine L (S_load sc_34 rfl hsl2 ?_)
      refine L (S (P_lenS Tryz.underlying34 rfl) ?_)
      refine L (S (P_lt rfl rfl (decide_eq_true (by omega))) ?_)
      refine L_nil ?_
      refine then_n ?_
      refine C_true rfl ?_
      refine C_skip ?_
      refine then_n ?_
      refine C_seq ?_
      refine C_block ?_
      refine C_seq ?_
      refine C_region ?_
      refine L (S (P_fieldAddr fo_37_0 rfl) ?_)
      refine L (S_load sc_34 rfl hsl2 ?_)
      refine L (S (P_move rfl) ?_)
      refine L (S (P_indexAddr Tryz.underlying34 (csz_of ti_27) rfl rfl (j := i) rfl (by omega) (p := o + i * 5) (by omega)) ?_)
      refine L (S (P_fieldAddr fo_27_0 rfl) ?_)
      refine L (S_load sc_9 rfl (hrow 0 _ rfl) ?_)
      refine L (S (P_move rfl) ?_)
      refine L (S (P_eqT rfl rfl (decide_eq_true (congrArg str hq))) ?_)
      refine L_nil ?_
      refine then_n ?_
      refine C_true rfl ?_
      refine C_seq ?_
      refine C_region ?_
      refine L (S (P_move rfl) ?_)
      refine L (S (P_assign rfl) ?_)
      refine L_nil ?_
      refine then_n ?_
      refine C_ret ?_
      refine blk_r ?_
      refine then_r ?_
      refine then_r ?_
      refine blk_r ?_
      refine then_r ?_
      refine F_ret1 Tryz.results16 rfl ?_
      exact ⟨by rw [findN_some ha (decide_eq_true hq) hb], hm1.no hmr⟩
    · refine C_seq ?_
      refine C_seq ?_
      refine C_region ?_
      refine L (S (P_move rfl) ?_)
      refine L (S (P_fieldAddr fo_37_0 rfl) ?_)
      refine L (S_load sc_34 rfl hsl2 ?_)
      refine L (S (P_lenS Tryz.underlying34 rfl) ?_)
      refine L (S (P_lt rfl rfl (decide_eq_true (by omega))) ?_)
      refine L_nil ?_
      refine then_n ?_
      refine C_true rfl ?_
      refine C_skip ?_
      refine then_n ?_
      refine C_seq ?_
      refine C_block ?_
      refine C_seq ?_
      refine C_region ?_
      refine L (S (P_fieldAddr fo_37_0 rfl) ?_)
      refine L (S_load sc_34 rfl hsl2 ?_)
      refine L (S (P_move rfl) ?_)
      refine L (S (P_indexAddr Tryz.underlying34 (csz_of ti_27) rfl rfl (j := i) rfl (by omega) (p := o + i * 5) (by omega)) ?_)
      refine L (S (P_fieldAddr fo_27_0 rfl) ?_)
      refine L (S_load sc_9 rfl (hrow 0 _ rfl) ?_)
      refine L (S (P_move rfl) ?_)
      refine L (S (P_eqT rfl rfl (decide_eq_false (fun h => hq (str_inj h)))) ?_)
      refine L_nil ?_
      refine then_n ?_
      refine C_false rfl ?_
      refine C_skip ?_
      refine blk_n ?_
      refine then_n ?_
      refine C_region ?_
      refine L (S (P_move rfl) ?_)
      refine L (S (P_add rfl rfl (wI64 (c := ((i + 1 : Nat) : Int)) (by omega))) ?_)
      refine L (S (P_assign rfl) ?_)
      refine L_nil ?_
      refine then_n ?_
      refine ⟨rfl, i + 1, (.cons rfl (.cons rfl (.cons rfl (.nil _)))), ⟨hmr, by omega, fun x hx => ?_⟩, by omega⟩
      rw [take_at ha, List.mem_append] at hx
      rcases hx with hx | hx
      · exact hb x hx
      · have : x = a := by simpa using hx
        rw [this]; exact decide_eq_false hq
  · refine C_seq ?_
    refine C_seq ?_
    refine C_region ?_
    refine L (S (P_move rfl) ?_)
    refine L (S (P_fieldAddr fo_37_0 rfl) ?_)
    refine L (S_load sc_34 rfl (hsl wr hmr) ?_)
    refine L (S (P_lenS Tryz.underlying34 rfl) ?_)
    refine L (S (P_lt rfl rfl (decide_eq_false (by omega))) ?_)
    refine L_nil ?_
    refine then_n ?_
    refine C_false rfl ?_
    refine C_exit ?_
    refine then_x ?_
    refine then_x ?_
    refine blk_x ?_
    refine then_n ?_
    refine C_seq ?_
    refine C_region ?_
    refine L (S (P_assign rfl) ?_)
    refine L_nil ?_
    refine then_n ?_
    refine C_ret ?_
    refine F_ret1 Tryz.results16 rfl ?_
    refine ⟨by rw [findN_none fun x hx => hb x (by rw [List.take_of_length_le (by omega)]; exact hx)], hm1.no hmr⟩
theorem refindex_ret {s : Sch} (hs : SlR w s.B (cellsL idxC s.idxs)) (hl : s.idxs.length ≤ 1000000) (nm : List UInt8) : Ret Tryz.prog 18 [.agg (schC s).toArray, .string (str nm)] w fun v w' => v = .int .i64 (findN (fun x => decide (x.name = nm)) s.idxs) ∧ Mv No w w' := by
  refine F_enter Tryz.func18 Tryz.ntmps18 rfl rfl ?_
  refine C_seq ?_
  refine C_region ?_
  refine L (S_box rfl ?_)
  rintro b2 w1 hb2 hm1 hn1
  refine L (S (P_assign rfl) ?_)
  refine L_nil ?_
  refine then_n ?_
  refine C_seq ?_
  refine C_seq ?_
  refine C_region ?_
  refine L (S (P_assign rfl) ?_)
  refine L_nil ?_
  refine then_n ?_
  refine C_block ?_
  have hsl : ∀ wq, Mv No w1 wq → wq.cell? ⟨b2, 1, none⟩ = some (.slice s.B s.idxs.length s.d) := fun wq h => (hb2.no h).cell (i := 1) rfl
  have hs1 := hs.no hm1
  refine C_loop (γ := Nat) (fun i => [(1, .string (str nm)), (2, .pointer (some ⟨b2, 0, none⟩)), (5, .int .i64 (i : Int))]) (fun i wr => Mv No w1 wr ∧ i ≤ s.idxs.length ∧ ∀ x ∈ s.idxs.take i, decide (x.name = nm) = false) (fun i => s.idxs.length - i) 0 (.cons rfl (.cons rfl (.cons rfl (.nil _)))) ⟨Mv.refl w1, Nat.zero_le _, by simp⟩ ?_
  rintro i wr ⟨hmr, hi, hb⟩
  by_cases hlt : i < s.idxs.length
  · have ha := List.getElem?_eq_getElem hlt
    generalize s.idxs[i] = a at ha
    have hsl2 := hsl wr hmr
    obtain ⟨b, o, hAe, -, hrow⟩ := cellsL_at idxC_len (by decide) (hs1.no hmr) ha
    rw [hAe] at hsl2
    by_cases hq : a.name = nm
    · refine C_seq ?_
      refine C_seq ?_
      refine C_region ?_
      refine L (S (P_move rfl) ?_)
      refine L (S (P_fieldAddr fo_37_1 rfl) ?_)
      refine L (S_load sc_35 rfl hsl2 ?_)
      refine L (S (P_lenS Tryz.underlying35 rfl) ?_)
      refine L (S (P_lt rfl rfl (decide_eq_true (by omega))) ?_)
      refine L_nil ?_
      refine then_n ?_
      refine C_true rfl ?_
      refine C_skip ?_
      refine then_n ?_
      refine C_seq ?_
      refine C_block ?_
      refine C_seq ?_
      refine C_region ?_
      refine L (S (P_fieldAddr fo_37_1 rfl) ?_)
      refine L (S_load sc_35 rfl hsl2 ?_)
      refine L (S (P_move rfl) ?_)
      refine L (S (P_indexAddr Tryz.underlying35 (csz_of ti_30) rfl rfl (j := i) rfl (by omega) (p := o + i * 6) (by omega)) ?_)
      refine L (S (P_fieldAddr fo_30_0 rfl) ?_)
      refine L (S_load sc_9 rfl (hrow 0 _ rfl) ?_)
      refine L (S (P_move rfl) ?_)
      refine L (S (P_eqT rfl rfl (decide_eq_true (congrArg str hq))) ?_)
      refine L_nil ?_
      refine then_n ?_
      refine C_true rfl ?_
      refine C_seq ?_
      refine C_region ?_
      refine L (S (P_move rfl) ?_)
      refine L (S (P_assign rfl) ?_)
      refine L_nil ?_
      refine then_n ?_
      refine C_ret ?_
      refine blk_r ?_
      refine then_r ?_
      refine then_r ?_
      refine blk_r ?_
      refine then_r ?_
      refine F_ret1 Tryz.results18 rfl ?_
      exact ⟨by rw [findN_some ha (decide_eq_true hq) hb], hm1.no hmr⟩
    · refine C_seq ?_
      refine C_seq ?_
      refine C_region ?_
      refine L (S (P_move rfl) ?_)
      refine L (S (P_fieldAddr fo_37_1 rfl) ?_)
      refine L (S_load sc_35 rfl hsl2 ?_)
      refine L (S (P_lenS Tryz.underlying35 rfl) ?_)
      refine L (S (P_lt rfl rfl (decide_eq_true (by omega))) ?_)
      refine L_nil ?_
      refine then_n ?_
      refine C_true rfl ?_
      refine C_skip ?_
      refine then_n ?_
      refine C_seq ?_
      refine C_block ?_
      refine C_seq ?_
      refine C_region ?_
      refine L (S (P_fieldAddr fo_37_1 rfl) ?_)
      refine L (S_load sc_35 rfl hsl2 ?_)
      refine L (S (P_move rfl) ?_)
      refine L (S (P_indexAddr Tryz.underlying35 (csz_of ti_30) rfl rfl (j := i) rfl (by omega) (p := o + i * 6) (by omega)) ?_)
      refine L (S (P_fieldAddr fo_30_0 rfl) ?_)
      refine L (S_load sc_9 rfl (hrow 0 _ rfl) ?_)
      refine L (S (P_move rfl) ?_)
      refine L (S (P_eqT rfl rfl (decide_eq_false (fun h => hq (str_inj h)))) ?_)
      refine L_nil ?_
      refine then_n ?_
      refine C_false rfl ?_
      refine C_skip ?_
      refine blk_n ?_
      refine then_n ?_
      refine C_region ?_
      refine L (S (P_move rfl) ?_)
      refine L (S (P_add rfl rfl (wI64 (c := ((i + 1 : Nat) : Int)) (by omega))) ?_)
      refine L (S (P_assign rfl) ?_)
      refine L_nil ?_
      refine then_n ?_
      refine ⟨rfl, i + 1, (.cons rfl (.cons rfl (.cons rfl (.nil _)))), ⟨hmr, by omega, fun x hx => ?_⟩, by omega⟩
      rw [take_at ha, List.mem_append] at hx
      rcases hx with hx | hx
      · exact hb x hx
      · have : x = a := by simpa using hx
        rw [this]; exact decide_eq_false hq
  · refine C_seq ?_
    refine C_seq ?_
    refine C_region ?_
    refine L (S (P_move rfl) ?_)
    refine L (S (P_fieldAddr fo_37_1 rfl) ?_)
    refine L (S_load sc_35 rfl (hsl wr hmr) ?_)
    refine L (S (P_lenS Tryz.underlying35 rfl) ?_)
    refine L (S (P_lt rfl rfl (decide_eq_false (by omega))) ?_)
    refine L_nil ?_
    refine then_n ?_
    refine C_false rfl ?_
    refine C_exit ?_
    refine then_x ?_
    refine then_x ?_
    refine blk_x ?_
    refine then_n ?_
    refine C_seq ?_
    refine C_region ?_
    refine L (S (P_assign rfl) ?_)
    refine L_nil ?_
    refine then_n ?_
    refine C_ret ?_
    refine F_ret1 Tryz.results18 rfl ?_
    refine ⟨by rw [findN_none fun x hx => hb x (by rw [List.take_of_length_le (by omega)]; exact hx)], hm1.no hmr⟩
theorem refcolumn_ret {s : Tab} (hs : SlR w s.A (cellsL colC s.cols)) (hl : s.cols.length ≤ 1000000) (nm : List UInt8) : Ret Tryz.prog 22 [.agg (tabC s).toArray, .string (str nm)] w fun v w' => v = .int .i64 (findN (fun x => decide (x.name = nm)) s.cols) ∧ Mv No w w' := by
  refine F_enter Tryz.func22 Tryz.ntmps22 rfl rfl ?_
  refine C_seq ?_
  refine C_region ?_
  refine L (S_box rfl ?_)
  rintro b2 w1 hb2 hm1 hn1
  refine L (S (P_assign rfl) ?_)
  refine L_nil ?_
  refine then_n ?_
  refine C_seq ?_
  refine C_seq ?_
  refine C_region ?_
  refine L (S (P_assign rfl) ?_)
  refine L_nil ?_
  refine then_n ?_
  refine C_block ?_
  have hsl : ∀ wq, Mv No w1 wq → wq.cell? ⟨b2, 1, none⟩ = some (.slice s.A s.cols.length s.cap) := fun wq h => (hb2.no h).cell (i := 1) rfl
  have hs1 := hs.no hm1
  refine C_loop (γ := Nat) (fun i => [(1, .string (str nm)), (2, .pointer (some ⟨b2, 0, none⟩)), (5, .int .i64 (i : Int))]) (fun i wr => Mv No w1 wr ∧ i ≤ s.cols.length ∧ ∀ x ∈ s.cols.take i, decide (x.name = nm) = false) (fun i => s.cols.length - i) 0 (.cons rfl (.cons rfl (.cons rfl (.nil _)))) ⟨Mv.refl w1, Nat.zero_le _, by simp⟩ ?_
  rintro i wr ⟨hmr, hi, hb⟩
  by_cases hlt : i < s.cols.length
  · have ha := List.getElem?_eq_getElem hlt
    generalize s.cols[i] = a at ha
    have hsl2 := hsl wr hmr
    obtain ⟨b, o, hAe, -, hrow⟩ := cellsL_at colC_len (by decide) (hs1.no hmr) ha
    rw [hAe] at hsl2
    by_cases hq : a.name = nm
    · refine C_seq ?_
      refine C_seq ?_
      refine C_region ?_
      refine L (S (P_move rfl) ?_)
      refine L (S (P_fieldAddr fo_27_1 rfl) ?_)
      refine L (S_load sc_25 rfl hsl2 ?_)
      refine L (S (P_lenS Tryz.underlying25 rfl) ?_)
      refine L (S (P_lt rfl rfl (decide_eq_true (by omega))) ?_)
      refine L_nil ?_
      refine then_n ?_
      refine C_true rfl ?_
      refine C_skip ?_
      refine then_n ?_
      refine C_seq ?_
      refine C_block ?_
      refine C_seq ?_
      refine C_region ?_
      refine L (S (P_fieldAddr fo_27_1 rfl) ?_)
      refine L (S_load sc_25 rfl hsl2 ?_)
      refine L (S (P_move rfl) ?_)
      refine L (S (P_indexAddr Tryz.underlying25 (csz_of ti_43) rfl rfl (j := i) rfl (by omega) (p := o + i * 3) (by omega)) ?_)
      refine L (S (P_fieldAddr fo_43_0 rfl) ?_)
      refine L (S_load sc_9 rfl (hrow 0 _ rfl) ?_)
      refine L (S (P_move rfl) ?_)
      refine L (S (P_eqT rfl rfl (decide_eq_true (congrArg str hq))) ?_)
      refine L_nil ?_
      refine then_n ?_
      refine C_true rfl ?_
      refine C_seq ?_
      refine C_region ?_
      refine L (S (P_move rfl) ?_)
      refine L (S (P_assign rfl) ?_)
      refine L_nil ?_
      refine then_n ?_
      refine C_ret ?_
      refine blk_r ?_
      refine then_r ?_
      refine then_r ?_
      refine blk_r ?_
      refine then_r ?_
      refine F_ret1 Tryz.results22 rfl ?_
      exact ⟨by rw [findN_some ha (decide_eq_true hq) hb], hm1.no hmr⟩
    · refine C_seq ?_
      refine C_seq ?_
      refine C_region ?_
      refine L (S (P_move rfl) ?_)
      refine L (S (P_fieldAddr fo_27_1 rfl) ?_)
      refine L (S_load sc_25 rfl hsl2 ?_)
      refine L (S (P_lenS Tryz.underlying25 rfl) ?_)
      refine L (S (P_lt rfl rfl (decide_eq_true (by omega))) ?_)
      refine L_nil ?_
      refine then_n ?_
      refine C_true rfl ?_
      refine C_skip ?_
      refine then_n ?_
      refine C_seq ?_
      refine C_block ?_
      refine C_seq ?_
      refine C_region ?_
      refine L (S (P_fieldAddr fo_27_1 rfl) ?_)
      refine L (S_load sc_25 rfl hsl2 ?_)
      refine L (S (P_move rfl) ?_)
      refine L (S (P_indexAddr Tryz.underlying25 (csz_of ti_43) rfl rfl (j := i) rfl (by omega) (p := o + i * 3) (by omega)) ?_)
      refine L (S (P_fieldAddr fo_43_0 rfl) ?_)
      refine L (S_load sc_9 rfl (hrow 0 _ rfl) ?_)
      refine L (S (P_move rfl) ?_)
      refine L (S (P_eqT rfl rfl (decide_eq_false (fun h => hq (str_inj h)))) ?_)
      refine L_nil ?_
      refine then_n ?_
      refine C_false rfl ?_
      refine C_skip ?_
      refine blk_n ?_
      refine then_n ?_
      refine C_region ?_
      refine L (S (P_move rfl) ?_)
      refine L (S (P_add rfl rfl (wI64 (c := ((i + 1 : Nat) : Int)) (by omega))) ?_)
      refine L (S (P_assign rfl) ?_)
      refine L_nil ?_
      refine then_n ?_
      refine ⟨rfl, i + 1, (.cons rfl (.cons rfl (.cons rfl (.nil _)))), ⟨hmr, by omega, fun x hx => ?_⟩, by omega⟩
      rw [take_at ha, List.mem_append] at hx
      rcases hx with hx | hx
      · exact hb x hx
      · have : x = a := by simpa using hx
        rw [this]; exact decide_eq_false hq
  · refine C_seq ?_
    refine C_seq ?_
    refine C_region ?_
    refine L (S (P_move rfl) ?_)
    refine L (S (P_fieldAddr fo_27_1 rfl) ?_)
    refine L (S_load sc_25 rfl (hsl wr hmr) ?_)
    refine L (S (P_lenS Tryz.underlying25 rfl) ?_)
    refine L (S (P_lt rfl rfl (decide_eq_false (by omega))) ?_)
    refine L_nil ?_
    refine then_n ?_
    refine C_false rfl ?_
    refine C_exit ?_
    refine then_x ?_
    refine then_x ?_
    refine blk_x ?_
    refine then_n ?_
    refine C_seq ?_
    refine C_region ?_
    refine L (S (P_assign rfl) ?_)
    refine L_nil ?_
    refine then_n ?_
    refine C_ret ?_
    refine F_ret1 Tryz.results22 rfl ?_
    refine ⟨by rw [findN_none fun x hx => hb x (by rw [List.take_of_length_le (by omega)]; exact hx)], hm1.no hmr⟩
theorem refcolumns_ret (hv : Vr w) {l : List Col} {A : Option Addr} {c : Nat} (hA : SlR w A (cellsL colC l)) (hl : l.length ≤ 1000000) (hn : ∀ x ∈ l, x.name.length ≤ 100000) : Ret Tryz.prog 24 [.slice A l.length c] w fun v w' => v = .int .i64 (colsE l : Nat) ∧ Mv No w w' := by
  unfold colsE
  refine F_enter Tryz.func24 Tryz.ntmps24 rfl rfl ?_
  by_cases h0 : l.length = 0
  · rw [if_pos h0]
    refine C_seq ?_
    refine C_region ?_
    refine L (S (P_assign rfl) ?_)
    refine L_nil ?_
    refine then_n ?_
    refine C_seq ?_
    refine C_seq ?_
    refine C_region ?_
    refine L (S (P_move rfl) ?_)
    refine L (S (P_lenS Tryz.underlying25 rfl) ?_)
    refine L (S (P_eq rfl rfl (decide_eq_true (by omega))) ?_)
    refine L_nil ?_
    refine then_n ?_
    refine C_true rfl ?_
    refine C_seq ?_
    refine C_region ?_
    refine L (S (P_assign rfl) ?_)
    refine L_nil ?_
    refine then_n ?_
    refine C_ret ?_
    refine then_r ?_
    refine F_ret1 Tryz.results24 rfl ?_
    exact ⟨rfl, Mv.refl w⟩
  rw [if_neg h0]
  by_cases h6 : 6 < l.length
  · rw [if_pos h6]
    refine C_seq ?_
    refine C_region ?_
    refine L (S (P_assign rfl) ?_)
    refine L_nil ?_
    refine then_n ?_
    refine C_seq ?_
    refine C_seq ?_
    refine C_region ?_
    refine L (S (P_move rfl) ?_)
    refine L (S (P_lenS Tryz.underlying25 rfl) ?_)
    refine L (S (P_eq rfl rfl (decide_eq_false (by omega))) ?_)
    refine L_nil ?_
    refine then_n ?_
    refine C_false rfl ?_
    refine C_skip ?_
    refine then_n ?_
    refine C_seq ?_
    refine C_seq ?_
    refine C_region ?_
    refine L (S (P_move rfl) ?_)
    refine L (S (P_lenS Tryz.underlying25 rfl) ?_)
    refine L (S (P_gt rfl rfl (decide_eq_true (by omega))) ?_)
    refine L_nil ?_
    refine then_n ?_
    refine C_true rfl ?_
    refine C_seq ?_
    refine C_region ?_
    refine L (S (P_assign rfl) ?_)
    refine L_nil ?_
    refine then_n ?_
    refine C_ret ?_
    refine then_r ?_
    refine F_ret1 Tryz.results24 rfl ?_
    exact ⟨rfl, Mv.refl w⟩
  rw [if_neg h6]
  refine C_seq ?_
  refine C_region ?_
  refine L (S (P_assign rfl) ?_)
  refine L_nil ?_
  refine then_n ?_
  refine C_seq ?_
  refine C_seq ?_
  refine C_region ?_
  refine L (S (P_move rfl) ?_)
  refine L (S (P_lenS Tryz.underlying25 rfl) ?_)
  refine L (S (P_eq rfl rfl (decide_eq_false (by omega))) ?_)
  refine L_nil ?_
  refine then_n ?_
  refine C_false rfl ?_
  refine C_skip ?_
  refine then_n ?_
  refine C_seq ?_
  refine C_seq ?_
  refine C_region ?_
  refine L (S (P_move rfl) ?_)
  refine L (S (P_lenS Tryz.underlying25 rfl) ?_)
  refine L (S (P_gt rfl rfl (decide_eq_false (by omega))) ?_)
  refine L_nil ?_
  refine then_n ?_
  refine C_false rfl ?_
  refine C_skip ?_
  refine then_n ?_
  refine C_seq ?_
  refine C_seq ?_
  refine C_region ?_
  refine L (S (P_assign rfl) ?_)
  refine L_nil ?_
  refine then_n ?_
  refine C_block ?_
  refine C_loop (γ := Nat) (fun i => [(0, .slice A l.length c), (3, .int .i64 (i : Int))]) (fun i wr => Mv No w wr ∧ i ≤ l.length ∧ colsG [] l = colsG (l.take i) (l.drop i)) (fun i => l.length - i) 0 (.cons rfl (.cons rfl (.nil _))) ⟨Mv.refl w, Nat.zero_le _, rfl⟩ ?_
  rintro i wr ⟨hmr, hi, hg⟩
  rw [hg]
  by_cases hlt : i < l.length
  · have ha := List.getElem?_eq_getElem hlt
    generalize l[i] = x at ha
    have hnx := hn x (List.mem_of_getElem? ha)
    have hN : ∀ {w' : World} {β : Bool}, Mv No w w' → nameB x.name = β → _ := fun {w'} {β} h hβ => refname_is (β := β) (hv.no h) hnx hβ
    obtain ⟨b, o, hAe, hrr, hrow⟩ := cellsL_at colC_len (by decide) (hA.no hmr) ha
    subst hAe
    have hgs : colsG (l.take i) (l.drop i) = if nameB x.name = false ∨ x.ty < 1 ∨ x.ty > 3 then 7 else if (l.take i).any (fun d => decide (d.name = x.name)) = true then 8 else colsG (l.take (i + 1)) (l.drop (i + 1)) := by rw [drop_at ha, take_at ha]; rfl
    have hty : ∀ wq, Mv No wr wq → wq.cell? ⟨b, o + i * 3 + 1, none⟩ = some (.int .i64 x.ty) := fun wq h => (hrow.no h) 1 _ rfl
    have hnm : ∀ wq, Mv No wr wq → wq.cell? ⟨b, o + i * 3 + 0, none⟩ = some (.string (str x.name)) := fun wq h => (hrow.no h) 0 _ rfl
    by_cases q1 : nameB x.name = true
    rotate_left
    · have q1' : nameB x.name = false := by simpa using q1
      rw [hgs, if_pos (.inl q1')]
      refine C_seq ?_
      refine C_seq ?_
      refine C_region ?_
      refine L (S (P_move rfl) ?_)
      refine L (S (P_move rfl) ?_)
      refine L (S (P_lenS Tryz.underlying25 rfl) ?_)
      refine L (S (P_lt rfl rfl (decide_eq_true (by omega))) ?_)
      refine L_nil ?_
      refine then_n ?_
      refine C_true rfl ?_
      refine C_skip ?_
      refine then_n ?_
      refine C_seq ?_
      refine C_block ?_
      refine C_seq ?_
      refine C_seq ?_
      refine C_region ?_
      refine L (S (P_move rfl) ?_)
      refine L (S (P_move rfl) ?_)
      refine L (S (P_indexAddr Tryz.underlying25 (csz_of ti_43) rfl rfl (j := i) rfl (by omega) (p := o + i * 3) (by omega)) ?_)
      refine L (S (P_fieldAddr fo_43_0 rfl) ?_)
      refine L (S_load sc_9 rfl (hnm _ (Mv.refl _)) ?_)
      refine L (S_call cb_10 rfl ((hN hmr q1')) ?_)
      rintro _ w6 ⟨rfl, hm6⟩
      refine L (S (P_not rfl rfl) ?_)
      refine L (S (P_move rfl) ?_)
      refine L_no (j := 7) (dj := 23) (b := false) (b' := true) (d := 24) rfl ?_
      refine L_no (j := 7) (dj := 23) (b := false) (b' := true) (d := 25) rfl ?_
      refine L_no (j := 7) (dj := 23) (b := false) (b' := true) (d := 26) rfl ?_
      refine L_no (j := 7) (dj := 23) (b := false) (b' := true) (d := 27) rfl ?_
      refine L_no (j := 7) (dj := 23) (b := false) (b' := true) (d := 28) rfl ?_
      refine L_no (j := 7) (dj := 23) (b := false) (b' := true) (d := 29) rfl ?_
      refine L (S (P_pickT rfl rfl) ?_)
      refine L (S (P_move rfl) ?_)
      refine L_no (j := 15) (dj := 31) (b := false) (b' := true) (d := 32) rfl ?_
      refine L_no (j := 15) (dj := 31) (b := false) (b' := true) (d := 33) rfl ?_
      refine L_no (j := 15) (dj := 31) (b := false) (b' := true) (d := 34) rfl ?_
      refine L_no (j := 15) (dj := 31) (b := false) (b' := true) (d := 35) rfl ?_
      refine L_no (j := 15) (dj := 31) (b := false) (b' := true) (d := 36) rfl ?_
      refine L_no (j := 15) (dj := 31) (b := false) (b' := true) (d := 37) rfl ?_
      refine L (S (P_pickT rfl rfl) ?_)
      refine L_nil ?_
      refine then_n ?_
      refine C_true rfl ?_
      refine C_seq ?_
      refine C_region ?_
      refine L (S (P_assign rfl) ?_)
      refine L_nil ?_
      refine then_n ?_
      refine C_ret ?_
      refine then_r ?_
      refine blk_r ?_
      refine then_r ?_
      refine then_r ?_
      refine blk_r ?_
      refine then_r ?_
      refine F_ret1 Tryz.results24 rfl ?_
      exact ⟨rfl, hmr.no hm6⟩
    by_cases q2 : x.ty < 1
    · rw [hgs, if_pos (.inr (.inl q2))]
      refine C_seq ?_
      refine C_seq ?_
      refine C_region ?_
      refine L (S (P_move rfl) ?_)
      refine L (S (P_move rfl) ?_)
      refine L (S (P_lenS Tryz.underlying25 rfl) ?_)
      refine L (S (P_lt rfl rfl (decide_eq_true (by omega))) ?_)
      refine L_nil ?_
      refine then_n ?_
      refine C_true rfl ?_
      refine C_skip ?_
      refine then_n ?_
      refine C_seq ?_
      refine C_block ?_
      refine C_seq ?_
      refine C_seq ?_
      refine C_region ?_
      refine L (S (P_move rfl) ?_)
      refine L (S (P_move rfl) ?_)
      refine L (S (P_indexAddr Tryz.underlying25 (csz_of ti_43) rfl rfl (j := i) rfl (by omega) (p := o + i * 3) (by omega)) ?_)
      refine L (S (P_fieldAddr fo_43_0 rfl) ?_)
      refine L (S_load sc_9 rfl (hnm _ (Mv.refl _)) ?_)
      refine L (S_call cb_10 rfl ((hN hmr q1)) ?_)
      rintro _ w6 ⟨rfl, hm6⟩
      refine L (S (P_not rfl rfl) ?_)
      refine L (S (P_move rfl) ?_)
      refine L_yes (j := 7) (dj := 23) (b := false) (S (P_move rfl) ?_) rfl
      refine L_yes (j := 7) (dj := 23) (b := false) (S (P_move rfl) ?_) rfl
      refine L_yes (j := 7) (dj := 23) (b := false) (S (P_indexAddr Tryz.underlying25 (csz_of ti_43) rfl rfl (j := i) rfl (by omega) (p := o + i * 3) (by omega)) ?_) rfl
      refine L_yes (j := 7) (dj := 23) (b := false) (S (P_fieldAddr fo_43_1 rfl) ?_) rfl
      refine L_yes (j := 7) (dj := 23) (b := false) (S_load sc_3 rfl (hty _ hm6) ?_) rfl
      refine L_yes (j := 7) (dj := 23) (b := false) (S (P_lt rfl rfl (decide_eq_true (by omega))) ?_) rfl
      refine L (S (P_pickF rfl rfl) ?_)
      refine L (S (P_move rfl) ?_)
      refine L_no (j := 15) (dj := 31) (b := false) (b' := true) (d := 32) rfl ?_
      refine L_no (j := 15) (dj := 31) (b := false) (b' := true) (d := 33) rfl ?_
      refine L_no (j := 15) (dj := 31) (b := false) (b' := true) (d := 34) rfl ?_
      refine L_no (j := 15) (dj := 31) (b := false) (b' := true) (d := 35) rfl ?_
      refine L_no (j := 15) (dj := 31) (b := false) (b' := true) (d := 36) rfl ?_
      refine L_no (j := 15) (dj := 31) (b := false) (b' := true) (d := 37) rfl ?_
      refine L (S (P_pickT rfl rfl) ?_)
      refine L_nil ?_
      refine then_n ?_
      refine C_true rfl ?_
      refine C_seq ?_
      refine C_region ?_
      refine L (S (P_assign rfl) ?_)
      refine L_nil ?_
      refine then_n ?_
      refine C_ret ?_
      refine then_r ?_
      refine blk_r ?_
      refine then_r ?_
      refine then_r ?_
      refine blk_r ?_
      refine then_r ?_
      refine F_ret1 Tryz.results24 rfl ?_
      exact ⟨rfl, hmr.no hm6⟩
    by_cases q3 : x.ty > 3
    · rw [hgs, if_pos (.inr (.inr q3))]
      refine C_seq ?_
      refine C_seq ?_
      refine C_region ?_
      refine L (S (P_move rfl) ?_)
      refine L (S (P_move rfl) ?_)
      refine L (S (P_lenS Tryz.underlying25 rfl) ?_)
      refine L (S (P_lt rfl rfl (decide_eq_true (by omega))) ?_)
      refine L_nil ?_
      refine then_n ?_
      refine C_true rfl ?_
      refine C_skip ?_
      refine then_n ?_
      refine C_seq ?_
      refine C_block ?_
      refine C_seq ?_
      refine C_seq ?_
      refine C_region ?_
      refine L (S (P_move rfl) ?_)
      refine L (S (P_move rfl) ?_)
      refine L (S (P_indexAddr Tryz.underlying25 (csz_of ti_43) rfl rfl (j := i) rfl (by omega) (p := o + i * 3) (by omega)) ?_)
      refine L (S (P_fieldAddr fo_43_0 rfl) ?_)
      refine L (S_load sc_9 rfl (hnm _ (Mv.refl _)) ?_)
      refine L (S_call cb_10 rfl ((hN hmr q1)) ?_)
      rintro _ w6 ⟨rfl, hm6⟩
      refine L (S (P_not rfl rfl) ?_)
      refine L (S (P_move rfl) ?_)
      refine L_yes (j := 7) (dj := 23) (b := false) (S (P_move rfl) ?_) rfl
      refine L_yes (j := 7) (dj := 23) (b := false) (S (P_move rfl) ?_) rfl
      refine L_yes (j := 7) (dj := 23) (b := false) (S (P_indexAddr Tryz.underlying25 (csz_of ti_43) rfl rfl (j := i) rfl (by omega) (p := o + i * 3) (by omega)) ?_) rfl
      refine L_yes (j := 7) (dj := 23) (b := false) (S (P_fieldAddr fo_43_1 rfl) ?_) rfl
      refine L_yes (j := 7) (dj := 23) (b := false) (S_load sc_3 rfl (hty _ hm6) ?_) rfl
      refine L_yes (j := 7) (dj := 23) (b := false) (S (P_lt rfl rfl (decide_eq_false (by omega))) ?_) rfl
      refine L (S (P_pickF rfl rfl) ?_)
      refine L (S (P_move rfl) ?_)
      refine L_yes (j := 15) (dj := 31) (b := false) (S (P_move rfl) ?_) rfl
      refine L_yes (j := 15) (dj := 31) (b := false) (S (P_move rfl) ?_) rfl
      refine L_yes (j := 15) (dj := 31) (b := false) (S (P_indexAddr Tryz.underlying25 (csz_of ti_43) rfl rfl (j := i) rfl (by omega) (p := o + i * 3) (by omega)) ?_) rfl
      refine L_yes (j := 15) (dj := 31) (b := false) (S (P_fieldAddr fo_43_1 rfl) ?_) rfl
      refine L_yes (j := 15) (dj := 31) (b := false) (S_load sc_3 rfl (hty _ hm6) ?_) rfl
      refine L_yes (j := 15) (dj := 31) (b := false) (S (P_gt rfl rfl (decide_eq_true (by omega))) ?_) rfl
      refine L (S (P_pickF rfl rfl) ?_)
      refine L_nil ?_
      refine then_n ?_
      refine C_true rfl ?_
      refine C_seq ?_
      refine C_region ?_
      refine L (S (P_assign rfl) ?_)
      refine L_nil ?_
      refine then_n ?_
      refine C_ret ?_
      refine then_r ?_
      refine blk_r ?_
      refine then_r ?_
      refine then_r ?_
      refine blk_r ?_
      refine then_r ?_
      refine F_ret1 Tryz.results24 rfl ?_
      exact ⟨rfl, hmr.no hm6⟩
    have hq : ¬ (nameB x.name = false ∨ x.ty < 1 ∨ x.ty > 3) := by rw [q1]; simp; omega
    rw [if_neg hq] at hgs
    have hfl := findN_lt (p := fun d : Col => decide (d.name = x.name)) ha (decide_eq_true rfl)
    have hC := fun wq (h : Mv No wr wq) => refcolumn_ret (s := ⟨[], l, some ⟨b, o, none⟩, c, 0, 0, 0⟩) ((hA.no hmr).no h) hl x.name
    by_cases q4 : (l.take i).any (fun d => decide (d.name = x.name)) = true
    · rw [hgs, if_pos q4]
      rw [q4] at hfl
      refine C_seq ?_
      refine C_seq ?_
      refine C_region ?_
      refine L (S (P_move rfl) ?_)
      refine L (S (P_move rfl) ?_)
      refine L (S (P_lenS Tryz.underlying25 rfl) ?_)
      refine L (S (P_lt rfl rfl (decide_eq_true (by omega))) ?_)
      refine L_nil ?_
      refine then_n ?_
      refine C_true rfl ?_
      refine C_skip ?_
      refine then_n ?_
      refine C_seq ?_
      refine C_block ?_
      refine C_seq ?_
      refine C_seq ?_
      refine C_region ?_
      refine L (S (P_move rfl) ?_)
      refine L (S (P_move rfl) ?_)
      refine L (S (P_indexAddr Tryz.underlying25 (csz_of ti_43) rfl rfl (j := i) rfl (by omega) (p := o + i * 3) (by omega)) ?_)
      refine L (S (P_fieldAddr fo_43_0 rfl) ?_)
      refine L (S_load sc_9 rfl (hnm _ (Mv.refl _)) ?_)
      refine L (S_call cb_10 rfl ((hN hmr q1)) ?_)
      rintro _ w6 ⟨rfl, hm6⟩
      refine L (S (P_not rfl rfl) ?_)
      refine L (S (P_move rfl) ?_)
      refine L_yes (j := 7) (dj := 23) (b := false) (S (P_move rfl) ?_) rfl
      refine L_yes (j := 7) (dj := 23) (b := false) (S (P_move rfl) ?_) rfl
      refine L_yes (j := 7) (dj := 23) (b := false) (S (P_indexAddr Tryz.underlying25 (csz_of ti_43) rfl rfl (j := i) rfl (by omega) (p := o + i * 3) (by omega)) ?_) rfl
      refine L_yes (j := 7) (dj := 23) (b := false) (S (P_fieldAddr fo_43_1 rfl) ?_) rfl
      refine L_yes (j := 7) (dj := 23) (b := false) (S_load sc_3 rfl (hty _ hm6) ?_) rfl
      refine L_yes (j := 7) (dj := 23) (b := false) (S (P_lt rfl rfl (decide_eq_false (by omega))) ?_) rfl
      refine L (S (P_pickF rfl rfl) ?_)
      refine L (S (P_move rfl) ?_)
      refine L_yes (j := 15) (dj := 31) (b := false) (S (P_move rfl) ?_) rfl
      refine L_yes (j := 15) (dj := 31) (b := false) (S (P_move rfl) ?_) rfl
      refine L_yes (j := 15) (dj := 31) (b := false) (S (P_indexAddr Tryz.underlying25 (csz_of ti_43) rfl rfl (j := i) rfl (by omega) (p := o + i * 3) (by omega)) ?_) rfl
      refine L_yes (j := 15) (dj := 31) (b := false) (S (P_fieldAddr fo_43_1 rfl) ?_) rfl
      refine L_yes (j := 15) (dj := 31) (b := false) (S_load sc_3 rfl (hty _ hm6) ?_) rfl
      refine L_yes (j := 15) (dj := 31) (b := false) (S (P_gt rfl rfl (decide_eq_false (by omega))) ?_) rfl
      refine L (S (P_pickF rfl rfl) ?_)
      refine L_nil ?_
      refine then_n ?_
      refine C_false rfl ?_
      refine C_skip ?_
      refine then_n ?_
      refine C_seq ?_
      refine C_region ?_
      refine L (S (P_move rfl) ?_)
      refine L (S (P_buildC (ix := [1]) (l := [.tmp 39]) bi_27_1 rfl (by simp [Value.oneCell']) rfl) ?_)
      refine L (S (P_move rfl) ?_)
      refine L (S (P_move rfl) ?_)
      refine L (S (P_indexAddr Tryz.underlying25 (csz_of ti_43) rfl rfl (j := i) rfl (by omega) (p := o + i * 3) (by omega)) ?_)
      refine L (S (P_fieldAddr fo_43_0 rfl) ?_)
      refine L (S_load sc_9 rfl (hnm _ hm6) ?_)
      refine L (S_call cb_22 rfl ((hC _ hm6)) ?_)
      rintro _ w7 ⟨rfl, hm7⟩
      refine L (S (P_move rfl) ?_)
      refine L (S (P_lt rfl rfl (decide_eq_true (of_decide_eq_true hfl))) ?_)
      refine L_nil ?_
      refine then_n ?_
      refine C_true rfl ?_
      refine C_seq ?_
      refine C_region ?_
      refine L (S (P_assign rfl) ?_)
      refine L_nil ?_
      refine then_n ?_
      refine C_ret ?_
      refine blk_r ?_
      refine then_r ?_
      refine then_r ?_
      refine blk_r ?_
      refine then_r ?_
      refine F_ret1 Tryz.results24 rfl ?_
      exact ⟨rfl, (hmr.no hm6).no hm7⟩
    · have q4' : (l.take i).any (fun d => decide (d.name = x.name)) = false := by simpa using q4
      rw [if_neg q4] at hgs
      rw [q4'] at hfl
      refine C_seq ?_
      refine C_seq ?_
      refine C_region ?_
      refine L (S (P_move rfl) ?_)
      refine L (S (P_move rfl) ?_)
      refine L (S (P_lenS Tryz.underlying25 rfl) ?_)
      refine L (S (P_lt rfl rfl (decide_eq_true (by omega))) ?_)
      refine L_nil ?_
      refine then_n ?_
      refine C_true rfl ?_
      refine C_skip ?_
      refine then_n ?_
      refine C_seq ?_
      refine C_block ?_
      refine C_seq ?_
      refine C_seq ?_
      refine C_region ?_
      refine L (S (P_move rfl) ?_)
      refine L (S (P_move rfl) ?_)
      refine L (S (P_indexAddr Tryz.underlying25 (csz_of ti_43) rfl rfl (j := i) rfl (by omega) (p := o + i * 3) (by omega)) ?_)
      refine L (S (P_fieldAddr fo_43_0 rfl) ?_)
      refine L (S_load sc_9 rfl (hnm _ (Mv.refl _)) ?_)
      refine L (S_call cb_10 rfl ((hN hmr q1)) ?_)
      rintro _ w6 ⟨rfl, hm6⟩
      refine L (S (P_not rfl rfl) ?_)
      refine L (S (P_move rfl) ?_)
      refine L_yes (j := 7) (dj := 23) (b := false) (S (P_move rfl) ?_) rfl
      refine L_yes (j := 7) (dj := 23) (b := false) (S (P_move rfl) ?_) rfl
      refine L_yes (j := 7) (dj := 23) (b := false) (S (P_indexAddr Tryz.underlying25 (csz_of ti_43) rfl rfl (j := i) rfl (by omega) (p := o + i * 3) (by omega)) ?_) rfl
      refine L_yes (j := 7) (dj := 23) (b := false) (S (P_fieldAddr fo_43_1 rfl) ?_) rfl
      refine L_yes (j := 7) (dj := 23) (b := false) (S_load sc_3 rfl (hty _ hm6) ?_) rfl
      refine L_yes (j := 7) (dj := 23) (b := false) (S (P_lt rfl rfl (decide_eq_false (by omega))) ?_) rfl
      refine L (S (P_pickF rfl rfl) ?_)
      refine L (S (P_move rfl) ?_)
      refine L_yes (j := 15) (dj := 31) (b := false) (S (P_move rfl) ?_) rfl
      refine L_yes (j := 15) (dj := 31) (b := false) (S (P_move rfl) ?_) rfl
      refine L_yes (j := 15) (dj := 31) (b := false) (S (P_indexAddr Tryz.underlying25 (csz_of ti_43) rfl rfl (j := i) rfl (by omega) (p := o + i * 3) (by omega)) ?_) rfl
      refine L_yes (j := 15) (dj := 31) (b := false) (S (P_fieldAddr fo_43_1 rfl) ?_) rfl
      refine L_yes (j := 15) (dj := 31) (b := false) (S_load sc_3 rfl (hty _ hm6) ?_) rfl
      refine L_yes (j := 15) (dj := 31) (b := false) (S (P_gt rfl rfl (decide_eq_false (by omega))) ?_) rfl
      refine L (S (P_pickF rfl rfl) ?_)
      refine L_nil ?_
      refine then_n ?_
      refine C_false rfl ?_
      refine C_skip ?_
      refine then_n ?_
      refine C_seq ?_
      refine C_region ?_
      refine L (S (P_move rfl) ?_)
      refine L (S (P_buildC (ix := [1]) (l := [.tmp 39]) bi_27_1 rfl (by simp [Value.oneCell']) rfl) ?_)
      refine L (S (P_move rfl) ?_)
      refine L (S (P_move rfl) ?_)
      refine L (S (P_indexAddr Tryz.underlying25 (csz_of ti_43) rfl rfl (j := i) rfl (by omega) (p := o + i * 3) (by omega)) ?_)
      refine L (S (P_fieldAddr fo_43_0 rfl) ?_)
      refine L (S_load sc_9 rfl (hnm _ hm6) ?_)
      refine L (S_call cb_22 rfl ((hC _ hm6)) ?_)
      rintro _ w7 ⟨rfl, hm7⟩
      refine L (S (P_move rfl) ?_)
      refine L (S (P_lt rfl rfl (decide_eq_false (of_decide_eq_false hfl))) ?_)
      refine L_nil ?_
      refine then_n ?_
      refine C_false rfl ?_
      refine C_skip ?_
      refine blk_n ?_
      refine then_n ?_
      refine C_region ?_
      refine L (S (P_move rfl) ?_)
      refine L (S (P_add rfl rfl (wI64 (c := ((i + 1 : Nat) : Int)) (by omega))) ?_)
      refine L (S (P_assign rfl) ?_)
      refine L_nil ?_
      refine then_n ?_
      exact ⟨rfl, i + 1, (.cons rfl (.cons rfl (.nil _))), ⟨(hmr.no hm6).no hm7, by omega, hgs⟩, by omega⟩
  · have e : colsG (l.take i) (l.drop i) = 0 := by rw [List.drop_eq_nil_of_le (by omega)]; rfl
    rw [e]
    refine C_seq ?_
    refine C_seq ?_
    refine C_region ?_
    refine L (S (P_move rfl) ?_)
    refine L (S (P_move rfl) ?_)
    refine L (S (P_lenS Tryz.underlying25 rfl) ?_)
    refine L (S (P_lt rfl rfl (decide_eq_false (by omega))) ?_)
    refine L_nil ?_
    refine then_n ?_
    refine C_false rfl ?_
    refine C_exit ?_
    refine then_x ?_
    refine then_x ?_
    refine blk_x ?_
    refine then_n ?_
    refine C_seq ?_
    refine C_region ?_
    refine L (S (P_assign rfl) ?_)
    refine L_nil ?_
    refine then_n ?_
    refine C_ret ?_
    refine F_ret1 Tryz.results24 rfl ?_
    exact ⟨rfl, hmr⟩
end
end Go.Proofs.YtnoioimphcmeiaaGreatDoor
