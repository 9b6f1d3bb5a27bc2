import Derived.Test.YtgicoidmjfhnbaaRef2
namespace Go.Proofs.Ytgicoidmjfhnbaa
open Go.RowKit

theorem finR {w3 : World} {b2 : Nat} {bs' : List UInt8} {e' : Int} (h : Blk w3 b2 (rdC bs' e') 42) : (loadVar 42 ⟨b2, 0, none⟩).run Try.prog w3 = .ok (rdV bs' e') w3 := run_loadVar_struct st_42 h.row rfl

theorem reftakeint_ret {w : World} (bs : List UInt8) (err : Int) (hl : bs.length < 140737488355328) :
    Ret Try.prog 31 [rdV bs err] w fun v w' => v = .tuple #[rdV (rInt bs err).2.1 (rInt bs err).2.2, .int .i64 (rInt bs err).1] ∧ Mv No w w' := by
  have hlt := rNum_lt bs err
  have hR : (rInt bs err).1 = unzig (rNum bs err).1 := rfl
  have hR2 : (rInt bs err).2 = (rNum bs err).2 := rfl
  rw [hR, hR2]
  have hN := fun w => reftake_ret (w := w) bs err hl
  generalize (rNum bs err) = x at *
  obtain ⟨n, rest, e'⟩ := x
  dsimp only at *
  refine F_enter Try.func31 Try.ntmps31 rfl rfl ?_
  refine C_seq ?_
  refine C_region ?_
  refine L (S_box rfl ?_)
  rintro b1 w1 hb1 hm1 hn1
  refine L (S_alloc (zs := [(.string (ByteArray.mk #[])), (.int .i64 0)]) ti_42 rfl ?_)
  rintro b2 w2 hb2 hm2 hn2
  refine L (S (P_assign rfl) ?_)
  refine L_nil ?_
  refine then_n ?_
  refine C_seq ?_
  have h1 : Blk w2 b1 (rdC bs err) 42 := hb1.no hm2
  have h2 : Blk w2 b2 [.string ByteArray.empty, .int .i64 0] 42 := hb2
  have hm : Mv No w w2 := hm1.no hm2
  have hold : w.heap.size ≤ b2 := Nat.le_trans hm1.size hn2
  refine C_region ?_
  refine L (S_loadS st_42 rfl h1.row rfl ?_)
  refine L (S_call cb_30 rfl (hN _) ?_)
  rintro _ w3 ⟨rfl, hm3⟩
  refine L (S (P_move rfl) ?_)
  refine L (S (P_extract rfl rfl) ?_)
  refine L (S (P_extract rfl rfl) ?_)
  refine L (S_alloc (zs := [(.string (ByteArray.mk #[])), (.int .i64 0)]) ti_42 rfl ?_)
  rintro b4 w4 hb4 hm4 hn4
  refine L (S_storeS ti_42 rfl rfl (rdC_one rest e') rfl hb4 (by simp [rdC]) ?_)
  rintro w5 hb5 hm5
  refine L (S (P_assign rfl) ?_)
  refine L_nil ?_
  refine then_n ?_
  refine C_seq ?_
  refine C_seq ?_
  have h4 : Blk w5 b4 (rdC rest e') 42 := hb5
  have hne : b2 ≠ b4 := by have := h2.lt; have := hm3.size; omega
  have h2' : Blk w5 b2 [.string ByteArray.empty, .int .i64 0] 42 := ((h2.no hm3).no hm4).ne hm5 hne
  have hm' : Mv No w w5 := ((hm.no hm3).no hm4).new hm5 (by have := hm3.size; have := hm.size; omega)
  by_cases hodd : n % 2 = 1
  · have hz : unzig n = -((n / 2 : Nat) : Int) - 1 := by simp only [unzig, if_pos hodd]
    rw [hz]
    refine C_region ?_
    refine L (S (P_move rfl) ?_)
    refine L (S (P_rem rfl rfl (c := ((n % 2 : Nat) : Int)) (by decide) (remN (m := n) (k := 2) rfl rfl rfl)) ?_)
    refine L (S (P_eq rfl rfl (decide_eq_true (by omega))) ?_)
    refine L_nil ?_
    refine then_n ?_
    refine C_true rfl ?_
    refine C_seq ?_
    refine C_region ?_
    refine L (S_loadS st_42 rfl h4.row rfl ?_)
    refine L (S (P_move rfl) ?_)
    refine L (S (P_quo rfl rfl (c := ((n / 2 : Nat) : Int)) (by decide) (quoU64 (m := n) (k := 2) rfl rfl rfl hlt)) ?_)
    refine L (S (P_conv Try.underlying22 Try.underlying2 rfl (wI64 (c := ((n / 2 : Nat) : Int)) (by omega))) ?_)
    refine L (S (P_neg rfl (wI64 ⟨rfl, by omega, by omega⟩)) ?_)
    refine L (S (P_sub rfl rfl (wI64 ⟨rfl, by omega, by omega⟩)) ?_)
    refine L (S_storeS ti_42 rfl rfl (rdC_one rest e') rfl h2' (by simp [rdC]) ?_)
    rintro w6 hb6 hm6
    refine L (S (P_assign rfl) ?_)
    refine L_nil ?_
    refine then_n ?_
    refine C_ret ?_
    refine then_r ?_
    refine F_ret (rs := [.cell 2 42, .tmp 3]) [rdV rest e', .int .i64 (-((n / 2 : Nat) : Int) - 1)] Try.results31 ?_ ?_
    · exact ⟨⟨_, rfl, finR hb6⟩, rfl, trivial⟩
    · exact ⟨rfl, hm'.new hm6 hold⟩
  · have hz : unzig n = ((n / 2 : Nat) : Int) := by simp only [unzig, if_neg hodd]
    rw [hz]
    refine C_region ?_
    refine L (S (P_move rfl) ?_)
    refine L (S (P_rem rfl rfl (c := ((n % 2 : Nat) : Int)) (by decide) (remN (m := n) (k := 2) rfl rfl rfl)) ?_)
    refine L (S (P_eq rfl rfl (decide_eq_false (by omega))) ?_)
    refine L_nil ?_
    refine then_n ?_
    refine C_false rfl ?_
    refine C_skip ?_
    refine then_n ?_
    refine C_seq ?_
    refine C_region ?_
    refine L (S_loadS st_42 rfl h4.row rfl ?_)
    refine L (S (P_move rfl) ?_)
    refine L (S (P_quo rfl rfl (c := ((n / 2 : Nat) : Int)) (by decide) (quoU64 (m := n) (k := 2) rfl rfl rfl hlt)) ?_)
    refine L (S (P_conv Try.underlying22 Try.underlying2 rfl (wI64 (c := ((n / 2 : Nat) : Int)) (by omega))) ?_)
    refine L (S_storeS ti_42 rfl rfl (rdC_one rest e') rfl h2' (by simp [rdC]) ?_)
    rintro w6 hb6 hm6
    refine L (S (P_assign rfl) ?_)
    refine L_nil ?_
    refine then_n ?_
    refine C_ret ?_
    refine F_ret (rs := [.cell 2 42, .tmp 3]) [rdV rest e', .int .i64 ((n / 2 : Nat) : Int)] Try.results31 ?_ ?_
    · exact ⟨⟨_, rfl, finR hb6⟩, rfl, trivial⟩
    · exact ⟨rfl, hm'.new hm6 hold⟩

theorem refcount_ret {w : World} (bs : List UInt8) (err most : Int) (hm0 : -9223372036854775808 ≤ most) (hm9 : most < 9223372036854775808) (hl : bs.length < 140737488355328) :
    Ret Try.prog 32 [rdV bs err, .int .i64 most] w fun v w' => v = .tuple #[rdV (rCount bs err most).2.1 (rCount bs err most).2.2, .int .i64 (rCount bs err most).1] ∧ Mv No w w' := by
  have hlt := rNum_lt bs err
  have hR : rCount bs err most = (if err ≠ 0 then (0, bs, err) else if (rNum bs err).2.2 = 0 ∧ (most < 0 ∨ most < ((rNum bs err).1 : Int)) then (0, bs, 11) else (if (rNum bs err).2.2 = 0 then ((rNum bs err).1 : Int) else 0, (rNum bs err).2)) := by simp only [rCount]
  have he0 : err ≠ 0 → (rNum bs err).2 = (bs, err) := fun h => by simp [rNum, h]
  have hN := fun w => reftake_ret (w := w) bs err hl
  rw [hR]
  generalize (rNum bs err) = x at *
  obtain ⟨n, rest, e'⟩ := x
  dsimp only at *
  refine F_enter Try.func32 Try.ntmps32 rfl rfl ?_
  refine C_seq ?_
  refine C_region ?_
  refine L (S_box rfl ?_)
  rintro b1 w1 hb1 hm1 hn1
  refine L (S_alloc (zs := [(.string (ByteArray.mk #[])), (.int .i64 0)]) ti_42 rfl ?_)
  rintro b2 w2 hb2 hm2 hn2
  refine L (S (P_assign rfl) ?_)
  refine L_nil ?_
  refine then_n ?_
  refine C_seq ?_
  have h1 : Blk w2 b1 (rdC bs err) 42 := hb1.no hm2
  have h2 : Blk w2 b2 [.string ByteArray.empty, .int .i64 0] 42 := hb2
  have hm : Mv No w w2 := hm1.no hm2
  have hold : w.heap.size ≤ b2 := Nat.le_trans hm1.size hn2
  refine C_region ?_
  refine L (S_loadS st_42 rfl h1.row rfl ?_)
  refine L (S_call cb_30 rfl (hN _) ?_)
  rintro _ w3 ⟨rfl, hm3⟩
  refine L (S (P_move rfl) ?_)
  refine L (S (P_extract rfl rfl) ?_)
  refine L (S (P_extract rfl rfl) ?_)
  refine L (S_alloc (zs := [(.string (ByteArray.mk #[])), (.int .i64 0)]) ti_42 rfl ?_)
  rintro b4 w4 hb4 hm4 hn4
  refine L (S_storeS ti_42 rfl rfl (rdC_one rest e') rfl hb4 (by simp [rdC]) ?_)
  rintro w5 hb5 hm5
  refine L (S (P_assign rfl) ?_)
  refine L_nil ?_
  refine then_n ?_
  refine C_seq ?_
  refine C_seq ?_
  have h4 : Blk w5 b4 (rdC rest e') 42 := hb5
  have hne : b2 ≠ b4 := by have := h2.lt; have := hm3.size; omega
  have hne1 : b1 ≠ b4 := by have := h1.lt; have := hm3.size; omega
  have h2' : Blk w5 b2 [.string ByteArray.empty, .int .i64 0] 42 := ((h2.no hm3).no hm4).ne hm5 hne
  have h1' : Blk w5 b1 (rdC bs err) 42 := ((h1.no hm3).no hm4).ne hm5 hne1
  have hm' : Mv No w w5 := ((hm.no hm3).no hm4).new hm5 (by have := hm3.size; have := hm.size; omega)
  by_cases he' : e' = 0
  · have he : err = 0 := by
      by_cases he : err = 0
      · exact he
      · have := he0 he
        simp only [Prod.mk.injEq] at this
        omega
    rw [if_neg (by simpa using he)]
    by_cases hbig : most < 0 ∨ most < (n : Int)
    · rw [if_pos ⟨he', hbig⟩]
      refine C_region ?_
      refine L (S (P_fieldAddr fo_42_1 rfl) ?_)
      refine L (S_load sc_3 rfl (h4.cell (i := 1) rfl) ?_)
      refine L (S (P_ne rfl rfl (decide_eq_false (by simpa using he'))) ?_)
      refine L_nil ?_
      refine then_n ?_
      refine C_false rfl ?_
      refine C_skip ?_
      refine then_n ?_
      refine C_seq ?_
      refine C_seq ?_
      refine C_cutg (γ := Unit) (fun _ => [(2, .pointer (some ⟨b1, 0, none⟩)), (4, .pointer (some ⟨b2, 0, none⟩)), (24, .bool true)]) (fun _ wc => w5 = wc) ?_ ?_
      · by_cases hneg : most < 0
        · refine C_region ?_
          refine L (S (P_move rfl) ?_)
          refine L (S (P_lt rfl rfl (decide_eq_true hneg)) ?_)
          refine L (S (P_move rfl) ?_)
          refine L_no (j := 2) (dj := 19) (b := false) (b' := true) (d := 20) rfl ?_
          refine L_no (j := 2) (dj := 19) (b := false) (b' := true) (d := 21) rfl ?_
          refine L_no (j := 2) (dj := 19) (b := false) (b' := true) (d := 22) rfl ?_
          refine L_no (j := 2) (dj := 19) (b := false) (b' := true) (d := 23) rfl ?_
          refine L (S (P_pickT rfl rfl) ?_)
          refine L_nil ?_
          refine then_n ?_
          exact ⟨rfl, (), .cons rfl (.cons rfl (.cons rfl (.nil _))), rfl⟩
        · have hb2 : most < (n : Int) := hbig.resolve_left hneg
          refine C_region ?_
          refine L (S (P_move rfl) ?_)
          refine L (S (P_lt rfl rfl (decide_eq_false hneg)) ?_)
          refine L (S (P_move rfl) ?_)
          refine L_yes (j := 2) (dj := 19) (b := false) (S (P_move rfl) ?_) rfl
          refine L_yes (j := 2) (dj := 19) (b := false) (S (P_move rfl) ?_) rfl
          refine L_yes (j := 2) (dj := 19) (b := false) (S (P_conv Try.underlying3 Try.underlying22 rfl (wU64 ⟨rfl, by omega, by omega⟩)) ?_) rfl
          refine L_yes (j := 2) (dj := 19) (b := false) (S (P_gt rfl rfl (decide_eq_true hb2)) ?_) rfl
          refine L (S (P_pickF rfl rfl) ?_)
          refine L_nil ?_
          refine then_n ?_
          exact ⟨rfl, (), .cons rfl (.cons rfl (.cons rfl (.nil _))), rfl⟩
      rintro _ _ rfl f' hf'
      refine C_forget hf' ?_
      refine C_true rfl ?_
      refine C_seq ?_
      refine C_region ?_
      refine L (S (P_fieldAddr fo_42_0 rfl) ?_)
      refine L (S_load sc_9 rfl (h1'.cell (i := 0) rfl) ?_)
      refine L (S (P_buildC (ix := [0, 1]) (l := [.tmp 26, .const (.int .i64 11)]) bi_42_0_1 rfl (by simp [Value.oneCell']) rfl) ?_)
      refine L (S_storeS ti_42 rfl rfl (rdC_one bs 11) rfl h2' (by simp [setAll]) ?_)
      rintro w6 hb6 hm6
      refine L (S (P_assign rfl) ?_)
      refine L_nil ?_
      refine then_n ?_
      refine C_ret ?_
      refine then_r ?_
      refine F_ret (rs := [.cell 4 42, .tmp 5]) [rdV bs 11, .int .i64 0] Try.results32 ?_ ?_
      · exact ⟨⟨_, rfl, finR (bs' := bs) (e' := 11) hb6⟩, rfl, trivial⟩
      · exact ⟨rfl, hm'.new hm6 hold⟩
    · rw [if_neg (fun hh => hbig hh.2), if_pos he']
      refine C_region ?_
      refine L (S (P_fieldAddr fo_42_1 rfl) ?_)
      refine L (S_load sc_3 rfl (h4.cell (i := 1) rfl) ?_)
      refine L (S (P_ne rfl rfl (decide_eq_false (by simpa using he'))) ?_)
      refine L_nil ?_
      refine then_n ?_
      refine C_false rfl ?_
      refine C_skip ?_
      refine then_n ?_
      refine C_seq ?_
      refine C_seq ?_
      refine C_region ?_
      refine L (S (P_move rfl) ?_)
      refine L (S (P_lt rfl rfl (decide_eq_false (by omega))) ?_)
      refine L (S (P_move rfl) ?_)
      refine L_yes (j := 2) (dj := 19) (b := false) (S (P_move rfl) ?_) rfl
      refine L_yes (j := 2) (dj := 19) (b := false) (S (P_move rfl) ?_) rfl
      refine L_yes (j := 2) (dj := 19) (b := false) (S (P_conv Try.underlying3 Try.underlying22 rfl (wU64 ⟨rfl, by omega, by omega⟩)) ?_) rfl
      refine L_yes (j := 2) (dj := 19) (b := false) (S (P_gt rfl rfl (decide_eq_false (by omega))) ?_) rfl
      refine L (S (P_pickF rfl rfl) ?_)
      refine L_nil ?_
      refine then_n ?_
      refine C_false rfl ?_
      refine C_skip ?_
      refine then_n ?_
      refine C_seq ?_
      refine C_region ?_
      refine L (S_loadS st_42 rfl h4.row rfl ?_)
      refine L (S (P_move rfl) ?_)
      refine L (S (P_conv Try.underlying22 Try.underlying3 rfl (wI64 ⟨rfl, by omega, by omega⟩)) ?_)
      refine L (S_storeS ti_42 rfl rfl (rdC_one rest e') rfl h2' (by simp [rdC]) ?_)
      rintro w6 hb6 hm6
      refine L (S (P_assign rfl) ?_)
      refine L_nil ?_
      refine then_n ?_
      refine C_ret ?_
      refine F_ret (rs := [.cell 4 42, .tmp 5]) [rdV rest e', .int .i64 (n : Int)] Try.results32 ?_ ?_
      · exact ⟨⟨_, rfl, finR hb6⟩, rfl, trivial⟩
      · exact ⟨rfl, hm'.new hm6 hold⟩
  · have hgoal : (if err ≠ 0 then ((0 : Int), bs, err) else if e' = 0 ∧ (most < 0 ∨ most < (n : Int)) then (0, bs, 11) else (if e' = 0 then (n : Int) else 0, rest, e')) = (0, rest, e') := by
      by_cases he : err = 0
      · rw [if_neg (by simpa using he), if_neg (fun hh => he' hh.1), if_neg he']
      · have := he0 he
        rw [if_pos he, ← this]
    rw [hgoal]
    refine C_region ?_
    refine L (S (P_fieldAddr fo_42_1 rfl) ?_)
    refine L (S_load sc_3 rfl (h4.cell (i := 1) rfl) ?_)
    refine L (S (P_ne rfl rfl (decide_eq_true he')) ?_)
    refine L_nil ?_
    refine then_n ?_
    refine C_true rfl ?_
    refine C_seq ?_
    refine C_region ?_
    refine L (S_loadS st_42 rfl h4.row rfl ?_)
    refine L (S_storeS ti_42 rfl rfl (rdC_one rest e') rfl h2' (by simp [rdC]) ?_)
    rintro w6 hb6 hm6
    refine L (S (P_assign rfl) ?_)
    refine L_nil ?_
    refine then_n ?_
    refine C_ret ?_
    refine then_r ?_
    refine F_ret (rs := [.cell 4 42, .tmp 5]) [rdV rest e', .int .i64 0] Try.results32 ?_ ?_
    · exact ⟨⟨_, rfl, finR hb6⟩, rfl, trivial⟩
    · exact ⟨rfl, hm'.new hm6 hold⟩

theorem refend_ret {w : World} (bs : List UInt8) (err : Int) :
    Ret Try.prog 35 [rdV bs err] w fun v w' => v = rdV bs (rEnd bs err) ∧ Mv No w w' := by
  refine F_enter Try.func35 Try.ntmps35 rfl rfl ?_
  refine C_seq ?_
  refine C_region ?_
  refine L (S_box rfl ?_)
  rintro b1 w1 hb1 hm1 hn1
  refine L (S_alloc (zs := [(.string (ByteArray.mk #[])), (.int .i64 0)]) ti_42 rfl ?_)
  rintro b2 w2 hb2 hm2 hn2
  refine L_nil ?_
  refine then_n ?_
  refine C_seq ?_
  refine C_seq ?_
  have h1 : Blk w2 b1 (rdC bs err) 42 := hb1.no hm2
  have h2 : Blk w2 b2 [.string ByteArray.empty, .int .i64 0] 42 := hb2
  have hm : Mv No w w2 := hm1.no hm2
  have hold : w.heap.size ≤ b2 := Nat.le_trans hm1.size hn2
  have hne : b1 ≠ b2 := by have := hb1.lt; omega
  have hemp : (str bs ≠ (⟨#[]⟩ : ByteArray)) ↔ 0 < bs.length := by
    cases bs with
    | nil => simp [str]
    | cons c r => simp [str]
  by_cases he : err = 0
  · by_cases hn : 0 < bs.length
    · have hR : rEnd bs err = 12 := by simp only [rEnd]; rw [if_pos ⟨he, hn⟩]
      rw [hR]
      refine C_region ?_
      refine L (S (P_fieldAddr fo_42_1 rfl) ?_)
      refine L (S_load sc_3 rfl (h1.cell (i := 1) rfl) ?_)
      refine L (S (P_eq rfl rfl (decide_eq_true he)) ?_)
      refine L (S (P_move rfl) ?_)
      refine L_yes (j := 3) (dj := 6) (b := true) (S (P_fieldAddr fo_42_0 rfl) ?_) rfl
      refine L_yes (j := 3) (dj := 6) (b := true) (S_load sc_9 rfl (h1.cell (i := 0) rfl) ?_) rfl
      refine L_yes (j := 3) (dj := 6) (b := true) (S (P_neT rfl rfl (decide_eq_true (hemp.2 hn))) ?_) rfl
      refine L (S (P_pickT rfl rfl) ?_)
      refine L_nil ?_
      refine then_n ?_
      refine C_true rfl ?_
      refine C_region ?_
      refine L (S (P_fieldAddr fo_42_1 rfl) ?_)
      refine L (S_store ti_3 rfl rfl rfl h1 (by simp [rdC]) ?_)
      rintro w3 hb3 hm3
      refine L_nil ?_
      refine then_n ?_
      refine C_seq ?_
      have h3 : Blk w3 b1 (rdC bs 12) 42 := hb3
      have h2' := h2.ne hm3 hne.symm
      refine C_region ?_
      refine L (S_loadS st_42 rfl h3.row rfl ?_)
      refine L (S_storeS ti_42 rfl rfl (rdC_one bs 12) rfl h2' (by simp [rdC]) ?_)
      rintro w4 hb4 hm4
      refine L_nil ?_
      refine then_n ?_
      refine C_ret ?_
      refine F_ret (rs := [.cell 2 42]) [rdV bs 12] Try.results35 ?_ ?_
      · exact ⟨⟨_, rfl, finR hb4⟩, trivial⟩
      · exact ⟨rfl, (hm.new hm3 hn1).new hm4 hold⟩
    · have hR : rEnd bs err = err := by simp only [rEnd]; rw [if_neg (fun hh => hn hh.2)]
      rw [hR]
      refine C_region ?_
      refine L (S (P_fieldAddr fo_42_1 rfl) ?_)
      refine L (S_load sc_3 rfl (h1.cell (i := 1) rfl) ?_)
      refine L (S (P_eq rfl rfl (decide_eq_true he)) ?_)
      refine L (S (P_move rfl) ?_)
      refine L_yes (j := 3) (dj := 6) (b := true) (S (P_fieldAddr fo_42_0 rfl) ?_) rfl
      refine L_yes (j := 3) (dj := 6) (b := true) (S_load sc_9 rfl (h1.cell (i := 0) rfl) ?_) rfl
      refine L_yes (j := 3) (dj := 6) (b := true) (S (P_neT rfl rfl (decide_eq_false (fun hh => hn (hemp.1 hh)))) ?_) rfl
      refine L (S (P_pickT rfl rfl) ?_)
      refine L_nil ?_
      refine then_n ?_
      refine C_false rfl ?_
      refine C_skip ?_
      refine then_n ?_
      refine C_seq ?_
      refine C_region ?_
      refine L (S_loadS st_42 rfl h1.row rfl ?_)
      refine L (S_storeS ti_42 rfl rfl (rdC_one bs err) rfl h2 (by simp [rdC]) ?_)
      rintro w4 hb4 hm4
      refine L_nil ?_
      refine then_n ?_
      refine C_ret ?_
      refine F_ret (rs := [.cell 2 42]) [rdV bs err] Try.results35 ?_ ?_
      · exact ⟨⟨_, rfl, finR hb4⟩, trivial⟩
      · exact ⟨rfl, hm.new hm4 hold⟩
  · have hR : rEnd bs err = err := by simp only [rEnd]; rw [if_neg (fun hh => he hh.1)]
    rw [hR]
    refine C_region ?_
    refine L (S (P_fieldAddr fo_42_1 rfl) ?_)
    refine L (S_load sc_3 rfl (h1.cell (i := 1) rfl) ?_)
    refine L (S (P_eq rfl rfl (decide_eq_false he)) ?_)
    refine L (S (P_move rfl) ?_)
    refine L_no (j := 3) (dj := 6) (b := true) (b' := false) (d := 7) rfl ?_
    refine L_no (j := 3) (dj := 6) (b := true) (b' := false) (d := 8) rfl ?_
    refine L_no (j := 3) (dj := 6) (b := true) (b' := false) (d := 9) rfl ?_
    refine L (S (P_pickF rfl rfl) ?_)
    refine L_nil ?_
    refine then_n ?_
    refine C_false rfl ?_
    refine C_skip ?_
    refine then_n ?_
    refine C_seq ?_
    refine C_region ?_
    refine L (S_loadS st_42 rfl h1.row rfl ?_)
    refine L (S_storeS ti_42 rfl rfl (rdC_one bs err) rfl h2 (by simp [rdC]) ?_)
    rintro w4 hb4 hm4
    refine L_nil ?_
    refine then_n ?_
    refine C_ret ?_
    refine F_ret (rs := [.cell 2 42]) [rdV bs err] Try.results35 ?_ ?_
    · exact ⟨⟨_, rfl, finR hb4⟩, trivial⟩
    · exact ⟨rfl, hm.new hm4 hold⟩

end Go.Proofs.Ytgicoidmjfhnbaa
