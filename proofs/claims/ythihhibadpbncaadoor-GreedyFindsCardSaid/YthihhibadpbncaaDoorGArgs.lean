import Derived.Test.YthihhibadpbncaaDoorRowCase
import Derived.Test.YthihhibadpbncaaDoorHeld
import Derived.Laws.OwnMore
namespace Go.Proofs.YthihhibadpbncaaDoor
open Go.RowKit

section
variable {w : World} {v : Value} {A A5 A6 : Option Addr} {cap c5 c6 : Nat} {bud m k bs : Int} {sz off two : List Int}
def FitsC (sz off two : List Int) : Prop := sz.length ≤ 10 ∧ off.length ≤ 20 ∧ two.length ≤ 20

theorem fitsC_ret (hc : IsCase w v A cap bud m k bs A5 c5 A6 c6 sz off two) : Ret Tryd.prog 8 [v] w fun r w' => (∃ β, r = .bool β ∧ (β = true ↔ FitsC sz off two)) ∧ Mv No w w' := by
  obtain ⟨rfl, -, -, -, -, -, -, -, -, -, hl1, hl2, hl3⟩ := hc
  unfold maxLen at hl1 hl2 hl3
  unfold FitsC
  refine F_enter Tryd.func8 Tryd.ntmps8 rfl rfl ?_
  refine C_seq ?_
  refine C_region ?_
  refine L (S_box rfl ?_)
  rintro b1 w1 hb1 hm1 hn1
  refine L (S (P_assign rfl) ?_)
  refine L_nil ?_
  refine then_n ?_
  refine C_seq ?_
  have h1 : Blk w1 b1 (caseC A sz.length cap bud m k bs A5 off.length c5 A6 two.length c6) 25 := hb1
  by_cases ha : sz.length ≤ 10
  · by_cases hb : off.length ≤ 20
    · by_cases hc : two.length ≤ 20
      · refine C_region ?_
        refine L (S (P_fieldAddr fo_25_0 rfl) ?_)
        refine L (S_load sc_22 rfl (h1.cell (i := 0) rfl) ?_)
        refine L (S (P_lenS Tryd.underlying22 rfl) ?_)
        refine L (S (P_le rfl rfl (decide_eq_true (by omega))) ?_)
        refine L (S (P_move rfl) ?_)
        refine L_yes (j := 4) (dj := 7) (b := true) (S (P_fieldAddr fo_25_5 rfl) ?_) rfl
        refine L_yes (j := 4) (dj := 7) (b := true) (S_load sc_23 rfl (h1.cell (i := 5) rfl) ?_) rfl
        refine L_yes (j := 4) (dj := 7) (b := true) (S (P_lenS Tryd.underlying23 rfl) ?_) rfl
        refine L_yes (j := 4) (dj := 7) (b := true) (S (P_le rfl rfl (decide_eq_true (by omega))) ?_) rfl
        refine L (S (P_pickT rfl rfl) ?_)
        refine L (S (P_move rfl) ?_)
        refine L_yes (j := 10) (dj := 13) (b := true) (S (P_fieldAddr fo_25_6 rfl) ?_) rfl
        refine L_yes (j := 10) (dj := 13) (b := true) (S_load sc_23 rfl (h1.cell (i := 6) rfl) ?_) rfl
        refine L_yes (j := 10) (dj := 13) (b := true) (S (P_lenS Tryd.underlying23 rfl) ?_) rfl
        refine L_yes (j := 10) (dj := 13) (b := true) (S (P_le rfl rfl (decide_eq_true (by omega))) ?_) rfl
        refine L (S (P_pickT rfl rfl) ?_)
        refine L (S (P_assign rfl) ?_)
        refine L_nil ?_
        refine then_n ?_
        refine C_ret ?_
        refine F_ret1 Tryd.results8 rfl ?_
        exact ⟨⟨_, rfl, by simp [ha, hb, hc]⟩, hm1⟩
      · refine C_region ?_
        refine L (S (P_fieldAddr fo_25_0 rfl) ?_)
        refine L (S_load sc_22 rfl (h1.cell (i := 0) rfl) ?_)
        refine L (S (P_lenS Tryd.underlying22 rfl) ?_)
        refine L (S (P_le rfl rfl (decide_eq_true (by omega))) ?_)
        refine L (S (P_move rfl) ?_)
        refine L_yes (j := 4) (dj := 7) (b := true) (S (P_fieldAddr fo_25_5 rfl) ?_) rfl
        refine L_yes (j := 4) (dj := 7) (b := true) (S_load sc_23 rfl (h1.cell (i := 5) rfl) ?_) rfl
        refine L_yes (j := 4) (dj := 7) (b := true) (S (P_lenS Tryd.underlying23 rfl) ?_) rfl
        refine L_yes (j := 4) (dj := 7) (b := true) (S (P_le rfl rfl (decide_eq_true (by omega))) ?_) rfl
        refine L (S (P_pickT rfl rfl) ?_)
        refine L (S (P_move rfl) ?_)
        refine L_yes (j := 10) (dj := 13) (b := true) (S (P_fieldAddr fo_25_6 rfl) ?_) rfl
        refine L_yes (j := 10) (dj := 13) (b := true) (S_load sc_23 rfl (h1.cell (i := 6) rfl) ?_) rfl
        refine L_yes (j := 10) (dj := 13) (b := true) (S (P_lenS Tryd.underlying23 rfl) ?_) rfl
        refine L_yes (j := 10) (dj := 13) (b := true) (S (P_le rfl rfl (decide_eq_false (by omega))) ?_) rfl
        refine L (S (P_pickT rfl rfl) ?_)
        refine L (S (P_assign rfl) ?_)
        refine L_nil ?_
        refine then_n ?_
        refine C_ret ?_
        refine F_ret1 Tryd.results8 rfl ?_
        exact ⟨⟨_, rfl, by simp [hc]⟩, hm1⟩
    · refine C_region ?_
      refine L (S (P_fieldAddr fo_25_0 rfl) ?_)
      refine L (S_load sc_22 rfl (h1.cell (i := 0) rfl) ?_)
      refine L (S (P_lenS Tryd.underlying22 rfl) ?_)
      refine L (S (P_le rfl rfl (decide_eq_true (by omega))) ?_)
      refine L (S (P_move rfl) ?_)
      refine L_yes (j := 4) (dj := 7) (b := true) (S (P_fieldAddr fo_25_5 rfl) ?_) rfl
      refine L_yes (j := 4) (dj := 7) (b := true) (S_load sc_23 rfl (h1.cell (i := 5) rfl) ?_) rfl
      refine L_yes (j := 4) (dj := 7) (b := true) (S (P_lenS Tryd.underlying23 rfl) ?_) rfl
      refine L_yes (j := 4) (dj := 7) (b := true) (S (P_le rfl rfl (decide_eq_false (by omega))) ?_) rfl
      refine L (S (P_pickT rfl rfl) ?_)
      refine L (S (P_move rfl) ?_)
      refine L_no (j := 10) (dj := 13) (b := true) (b' := false) (d := 14) rfl ?_
      refine L_no (j := 10) (dj := 13) (b := true) (b' := false) (d := 15) rfl ?_
      refine L_no (j := 10) (dj := 13) (b := true) (b' := false) (d := 16) rfl ?_
      refine L_no (j := 10) (dj := 13) (b := true) (b' := false) (d := 17) rfl ?_
      refine L (S (P_pickF rfl rfl) ?_)
      refine L (S (P_assign rfl) ?_)
      refine L_nil ?_
      refine then_n ?_
      refine C_ret ?_
      refine F_ret1 Tryd.results8 rfl ?_
      exact ⟨⟨_, rfl, by simp [hb]⟩, hm1⟩
  · refine C_region ?_
    refine L (S (P_fieldAddr fo_25_0 rfl) ?_)
    refine L (S_load sc_22 rfl (h1.cell (i := 0) rfl) ?_)
    refine L (S (P_lenS Tryd.underlying22 rfl) ?_)
    refine L (S (P_le rfl rfl (decide_eq_false (by omega))) ?_)
    refine L (S (P_move rfl) ?_)
    refine L_no (j := 4) (dj := 7) (b := true) (b' := false) (d := 8) rfl ?_
    refine L_no (j := 4) (dj := 7) (b := true) (b' := false) (d := 9) rfl ?_
    refine L_no (j := 4) (dj := 7) (b := true) (b' := false) (d := 10) rfl ?_
    refine L_no (j := 4) (dj := 7) (b := true) (b' := false) (d := 11) rfl ?_
    refine L (S (P_pickF rfl rfl) ?_)
    refine L (S (P_move rfl) ?_)
    refine L_no (j := 10) (dj := 13) (b := true) (b' := false) (d := 14) rfl ?_
    refine L_no (j := 10) (dj := 13) (b := true) (b' := false) (d := 15) rfl ?_
    refine L_no (j := 10) (dj := 13) (b := true) (b' := false) (d := 16) rfl ?_
    refine L_no (j := 10) (dj := 13) (b := true) (b' := false) (d := 17) rfl ?_
    refine L (S (P_pickF rfl rfl) ?_)
    refine L (S (P_assign rfl) ?_)
    refine L_nil ?_
    refine then_n ?_
    refine C_ret ?_
    refine F_ret1 Tryd.results8 rfl ?_
    exact ⟨⟨_, rfl, by simp [ha]⟩, hm1⟩

theorem fitsC_yes (hc : IsCase w v A cap bud m k bs A5 c5 A6 c6 sz off two) (hf : FitsC sz off two) : Ret Tryd.prog 8 [v] w fun r w' => r = .bool true ∧ Mv No w w' :=
  (fitsC_ret hc).mono fun r w' ⟨⟨β, h1, h2⟩, h3⟩ => ⟨by rw [h1, h2.2 hf], h3⟩
theorem fitsC_no (hc : IsCase w v A cap bud m k bs A5 c5 A6 c6 sz off two) (hf : ¬ FitsC sz off two) : Ret Tryd.prog 8 [v] w fun r w' => r = .bool false ∧ Mv No w w' :=
  (fitsC_ret hc).mono fun r w' ⟨⟨β, h1, h2⟩, h3⟩ => ⟨by
    cases β with
    | false => exact h1
    | true => exact absurd (h2.1 rfl) hf, h3⟩
theorem IsCase.no {w' : World} (hc : IsCase w v A cap bud m k bs A5 c5 A6 c6 sz off two) (hm : Mv No w w') : IsCase w' v A cap bud m k bs A5 c5 A6 c6 sz off two :=
  { hc with s := hc.s.no hm, o := hc.o.no hm, t := hc.t.no hm }
theorem IsCase.pr (hc : IsCase w v A cap bud m k bs A5 c5 A6 c6 sz off two) (hf : FitsC sz off two) : PrF Tryd.prog w (.func (.func 10) #[v] #[]) fun x => priceF bs off two x sz.length := by
  have hl1 := hc.lo
  have hl2 := hc.lt
  unfold maxLen at hl1 hl2
  have := price_PrF (A := A) (cap := cap) (c5 := c5) (c6 := c6) sz.length bud m k bs off two (by have := hf.1; omega) hc.o hc.t hc.ro hc.rt (by omega) (by omega)
  rw [hc.eq]
  exact this

/-- May it be searched in? -/
theorem search_args {fv : Value} {pr : Nat → Int} (sz : List Int) (bud m k : Int) (hs : SlR w A (sz.map iv)) (hr : Inr sz) (hb9 : bud < 9223372036854775808) (hp : PrF Tryd.prog w fv pr) (hT : Tab w) (hl : sz.length < 9223372036854775808) :
    Ret Tryd.prog 9 [.slice A sz.length cap, .int .i64 bud, .int .i64 m, .int .i64 k, fv] w fun v w' => ∃ s : Nat, v = .tuple #[.int .u32 (s : Int), .int .i64 (if 16 < sz.length ∨ m < 0 ∨ 3 < m ∨ k < 0 ∨ bud < 0 then 1 else 0)] ∧ Mv No w w' := by
  by_cases hbad : 16 < sz.length ∨ m < 0 ∨ 3 < m ∨ k < 0 ∨ bud < 0
  · rw [if_pos hbad]
    exact (search_bad sz.length bud m k hl hbad).mono fun v w' ⟨h1, h2⟩ => ⟨0, h1, h2 ▸ Mv.refl _⟩
  · rw [if_neg hbad]
    exact (search_ret sz bud m k hs hr hbad hb9 hp hT).mono fun v w' ⟨h1, h2⟩ => ⟨_, h1, h2⟩

theorem search_zero {fv : Value} {pr : Nat → Int} {b base : Nat} (n : Nat) (bud m k : Int) (hn : n < 40) (ho : w.ownsRow base 2 1 (.slice (some ⟨b, 0, none⟩) n n) n (madeCells (Value.int .i64 0).cells (n * 1)).toList) (hb9 : bud < 9223372036854775808) (hp : PrF Tryd.prog w fv pr) (hT : Tab w) :
    Ret Tryd.prog 9 [.slice (some ⟨b, 0, none⟩) n n, .int .i64 bud, .int .i64 m, .int .i64 k, fv] w fun v w' => ∃ s : Nat, v = .tuple #[.int .u32 (s : Int), .int .i64 (if 16 < n ∨ m < 0 ∨ 3 < m ∨ k < 0 ∨ bud < 0 then 1 else 0)] ∧ Mv No w w' := by
  obtain ⟨A, cap, he, hs, _⟩ := own_reads ho
  cases he
  have e : (madeCells (Value.int .i64 0).cells (n * 1)).toList = (List.replicate n (0 : Int)).map iv := by
    rw [Nat.mul_one]
    show (madeCells #[.int .i64 0] n).toList = _
    rw [toList_madeCells_one, List.map_replicate]
    rfl
  rw [e] at hs
  have := search_args (cap := n) (List.replicate n (0 : Int)) bud m k hs (fun x hx => by rw [List.eq_of_mem_replicate hx]; omega) hb9 hp hT (by rw [List.length_replicate]; omega)
  rwa [List.length_replicate] at this

theorem greedyArgs_ret (many : Int) (hT : Tab w) (hc : IsCase w v A cap bud m k bs A5 c5 A6 c6 sz off two) :
    Ret Tryd.prog 6 [.int .i64 many, v] w fun r w' => r = .bool true ∧ Mv No w w' := by
  obtain ⟨mm, hmm, hmlt⟩ : ∃ mm : Nat, IntKind.u64.wrap many = (mm : Int) ∧ mm < 18446744073709551616 := by
    refine ⟨(IntKind.u64.wrap many).toNat, ?_, ?_⟩ <;>
    · simp only [IntKind.wrap, IntKind.bits, IntKind.signed]
      simp
      omega
  obtain ⟨n, hn, hn40⟩ : ∃ n : Nat, mm % 40 = n ∧ n < 40 := ⟨_, rfl, Nat.mod_lt _ (by omega)⟩
  have hv : v = caseV A sz.length cap bud m k bs A5 off.length c5 A6 two.length c6 := hc.eq
  obtain ⟨hm0, hm9⟩ := hc.rm
  obtain ⟨hk0, hk9⟩ := hc.rk
  obtain ⟨hb0, hb9⟩ := hc.rb
  have hl1 := hc.ls
  unfold maxLen at hl1
  subst hv
  refine F_enter Tryd.func6 Tryd.ntmps6 rfl rfl ?_
  refine C_seq ?_
  refine C_region ?_
  refine L (S_box rfl ?_)
  rintro b3 w1 hb3 hm1 hn1
  refine L (S (P_assign rfl) ?_)
  refine L_nil ?_
  refine then_n ?_
  refine C_seq ?_
  refine C_seq ?_
  have h3 : Blk w1 b3 (caseC A sz.length cap bud m k bs A5 off.length c5 A6 two.length c6) 25 := hb3
  by_cases hf : FitsC sz off two
  · refine C_region ?_
    refine L (S_call cb_7 rfl (lives_ret (hT.mv hm1)) ?_)
    rintro _ w2 ⟨rfl, hm2⟩
    refine L (S (P_not rfl rfl) ?_)
    refine L (S (P_move rfl) ?_)
    refine L_yes (j := 2) (dj := 12) (b := false) (S_loadS st_25 rfl (h3.no hm2).row rfl ?_) rfl
    refine L_yes (j := 2) (dj := 12) (b := false) (S_call cb_8 rfl (fitsC_yes (hc.no (hm1.no hm2)) hf) ?_) rfl
    rintro _ w3 ⟨rfl, hm3⟩
    refine L_yes (j := 2) (dj := 12) (b := false) (S (P_not rfl rfl) ?_) rfl
    refine L (S (P_pickF rfl rfl) ?_)
    refine L_nil ?_
    refine then_n ?_
    refine C_false rfl ?_
    refine C_skip ?_
    refine then_n ?_
    refine C_seq ?_
    refine C_region ?_
    refine L (S (P_move rfl) ?_)
    refine L (S (P_conv Tryd.underlying3 Tryd.underlying43 rfl hmm) ?_)
    refine L (S (P_rem rfl rfl (c := (n : Int)) (by decide) (by have := remN (m := mm) (k := 40) rfl rfl rfl; rwa [hn] at this)) ?_)
    refine L (S (P_conv Tryd.underlying43 Tryd.underlying3 rfl (wI64 (c := (n : Int)) (by omega))) ?_)
    refine L (S (P_assign rfl) ?_)
    refine L_nil ?_
    refine then_n ?_
    refine C_seq ?_
    have hm03 : Mv No w w3 := (hm1.no hm2).no hm3
    have h3a := (h3.no hm2).no hm3
    have hc3 := hc.no hm03
    have hT3 := hT.mv hm03
    refine C_drawQ 17 mixed rfl (fun hH => ?_)
    refine H_pure (i := 0) rfl (PureV.toS (P_move rfl)) ?_ (by assumption) (by decide +kernel) (by decide +kernel) (by decide +kernel) (fun _ _ _ _ h => h) rfl rfl rfl
    refine H_pure (i := 2) rfl (PureV.toS (P_fieldAddr fo_25_1 rfl)) ?_ (by assumption) (by decide +kernel) (by decide +kernel) (by decide +kernel) (fun _ _ _ _ h => h) rfl rfl rfl
    refine H_pure (i := 3) rfl (PS_load sc_2 rfl (fun _ h => (h3a.no h).cell (i := 1) rfl)) ?_ (by assumption) (by decide +kernel) (by decide +kernel) (by decide +kernel) (fun _ _ _ _ h => h) rfl rfl rfl
    refine H_pure (i := 4) rfl (PureV.toS (P_fieldAddr fo_25_2 rfl)) ?_ (by assumption) (by decide +kernel) (by decide +kernel) (by decide +kernel) (fun _ _ _ _ h => h) rfl rfl rfl
    refine H_pure (i := 5) rfl (PS_load sc_3 rfl (fun _ h => (h3a.no h).cell (i := 2) rfl)) ?_ (by assumption) (by decide +kernel) (by decide +kernel) (by decide +kernel) (fun _ _ _ _ h => h) rfl rfl rfl
    refine H_pure (i := 6) rfl (PureV.toS (P_fieldAddr fo_25_3 rfl)) ?_ (by assumption) (by decide +kernel) (by decide +kernel) (by decide +kernel) (fun _ _ _ _ h => h) rfl rfl rfl
    refine H_pure (i := 7) rfl (PS_load sc_3 rfl (fun _ h => (h3a.no h).cell (i := 3) rfl)) ?_ (by assumption) (by decide +kernel) (by decide +kernel) (by decide +kernel) (fun _ _ _ _ h => h) rfl rfl rfl
    refine H_pure (i := 8) rfl (PureV.toS (P_min rfl rfl (c := min k 3) (by split <;> omega))) ?_ (by assumption) (by decide +kernel) (by decide +kernel) (by decide +kernel) (fun _ _ _ _ h => h) rfl rfl rfl
    refine H_pure (i := 9) rfl (PS_loadS st_25 rfl (fun _ h => (h3a.no h).row) rfl) ?_ (by assumption) (by decide +kernel) (by decide +kernel) (by decide +kernel) (fun _ _ _ _ h => h) rfl rfl rfl
    refine H_pure (i := 10) rfl (PureV.toS (P_makeFunc rfl rfl)) ?_ (by assumption) (by decide +kernel) (by decide +kernel) (by decide +kernel) (fun _ _ _ _ h => h) rfl rfl rfl
    refine H_one (i := 1) (H_op rfl (S_makeSlice Tryd.underlying22 ti_2 rfl rfl rfl rfl (by omega) (by unfold maxLen; omega) (Nat.le_refl _) ?_)) (by decide +kernel)
    rintro b4 w4 ho4 hm4 hn4
    refine and_keep (by first | assumption | exact Mv.no (by assumption) (by assumption)) (fun hH => ?_)
    refine H_one (i := 11) (H_op rfl (S_call cb_9 rfl (search_zero n bud m (min k 3) hn40 ho4 hb9 ((hc3.no hH).pr hf) (hT3.mv hH)) ?_)) (by decide +kernel)
    rintro _ w5 ⟨s5, rfl, hm5⟩
    refine and_keep (by first | assumption | exact Mv.no (by assumption) (by assumption)) (fun hH => ?_)
    refine H_pure (i := 12) rfl (PureV.toS (P_move rfl)) ?_ (by assumption) (by decide +kernel) (by decide +kernel) (by decide +kernel) (fun _ _ _ _ h => h) rfl rfl rfl
    refine H_pure (i := 13) rfl (PureV.toS (P_extract rfl rfl)) ?_ (by assumption) (by decide +kernel) (by decide +kernel) (by decide +kernel) (fun _ _ _ _ h => h) rfl rfl rfl
    refine H_pure (i := 14) rfl (PureV.toS (P_extract rfl rfl)) ?_ (by assumption) (by decide +kernel) (by decide +kernel) (by decide +kernel) (fun _ _ _ _ h => h) rfl rfl rfl
    refine H_pure (i := 15) rfl (PureV.toS (P_assign rfl)) ?_ (by assumption) (by decide +kernel) (by decide +kernel) (by decide +kernel) (fun _ _ _ _ h => h) rfl rfl rfl
    refine H_pure (i := 16) rfl (PureV.toS (P_assign rfl)) ?_ (by assumption) (by decide +kernel) (by decide +kernel) (by decide +kernel) (fun _ _ _ _ h => h) rfl rfl rfl
    refine H_done (by decide +kernel) ?_
    refine then_n ?_
    refine C_seq ?_
    have hm35 : Mv No w3 w5 := hH
    have h3b := h3a.no hm35
    have hE : ∃ e : Int, (if 16 < n ∨ m < 0 ∨ 3 < m ∨ min k 3 < 0 ∨ bud < 0 then (1 : Int) else 0) = e ∧ (e = 1 ↔ (16 < n ∨ m < 0 ∨ 3 < m ∨ k < 0 ∨ bud < 0)) := by
      refine ⟨_, rfl, ?_⟩
      split <;> omega
    obtain ⟨e, he, hiff⟩ := hE
    rw [he]
    refine C_region ?_
    refine L (S (P_fieldAddr fo_25_0 rfl) ?_)
    refine L (S_load sc_22 rfl (h3b.cell (i := 0) rfl) ?_)
    refine L (S (P_fieldAddr fo_25_1 rfl) ?_)
    refine L (S_load sc_2 rfl (h3b.cell (i := 1) rfl) ?_)
    refine L (S (P_fieldAddr fo_25_2 rfl) ?_)
    refine L (S_load sc_3 rfl (h3b.cell (i := 2) rfl) ?_)
    refine L (S (P_fieldAddr fo_25_3 rfl) ?_)
    refine L (S_load sc_3 rfl (h3b.cell (i := 3) rfl) ?_)
    refine L (S_call cb_9 rfl (search_nil sz.length bud m k (by omega)) ?_)
    rintro _ _ ⟨rfl, rfl⟩
    refine L (S (P_move rfl) ?_)
    refine L (S (P_extract rfl rfl) ?_)
    refine L (S (P_extract rfl rfl) ?_)
    refine L (S (P_assign rfl) ?_)
    refine L (S (P_assign rfl) ?_)
    refine L_nil ?_
    refine then_n ?_
    refine C_seq ?_
    have hfin : Mv No w w5 := hm03.no hm35
    by_cases p1 : 16 < n
    · refine C_region ?_
      refine L (S (P_move rfl) ?_)
      refine L (S (P_eq rfl rfl (decide_eq_true rfl)) ?_)
      refine L (S (P_move rfl) ?_)
      refine L_yes (j := 2) (dj := 51) (b := true) (S (P_move rfl) ?_) rfl
      refine L_yes (j := 2) (dj := 51) (b := true) (S (P_eq rfl rfl (decide_eq_true (hiff.2 (by omega)))) ?_) rfl
      refine L_yes (j := 2) (dj := 51) (b := true) (S (P_move rfl) ?_) rfl
      refine L_yes (j := 2) (dj := 51) (b := true) (S (P_gt rfl rfl (decide_eq_true (by omega))) ?_) rfl
      refine L_yes (j := 2) (dj := 51) (b := true) (S (P_move rfl) ?_) rfl
      refine L_no (j := 7) (dj := 56) (b := false) (b' := true) (d := 57) rfl ?_
      refine L_no (j := 7) (dj := 56) (b := false) (b' := true) (d := 58) rfl ?_
      refine L_no (j := 7) (dj := 56) (b := false) (b' := true) (d := 59) rfl ?_
      refine L_yes (j := 2) (dj := 51) (b := true) (S (P_pickT rfl rfl) ?_) rfl
      refine L_yes (j := 2) (dj := 51) (b := true) (S (P_move rfl) ?_) rfl
      refine L_no (j := 12) (dj := 61) (b := false) (b' := true) (d := 62) rfl ?_
      refine L_no (j := 12) (dj := 61) (b := false) (b' := true) (d := 63) rfl ?_
      refine L_no (j := 12) (dj := 61) (b := false) (b' := true) (d := 64) rfl ?_
      refine L_yes (j := 2) (dj := 51) (b := true) (S (P_pickT rfl rfl) ?_) rfl
      refine L_yes (j := 2) (dj := 51) (b := true) (S (P_move rfl) ?_) rfl
      refine L_no (j := 17) (dj := 66) (b := false) (b' := true) (d := 67) rfl ?_
      refine L_no (j := 17) (dj := 66) (b := false) (b' := true) (d := 68) rfl ?_
      refine L_no (j := 17) (dj := 66) (b := false) (b' := true) (d := 69) rfl ?_
      refine L_yes (j := 2) (dj := 51) (b := true) (S (P_pickT rfl rfl) ?_) rfl
      refine L_yes (j := 2) (dj := 51) (b := true) (S (P_move rfl) ?_) rfl
      refine L_no (j := 22) (dj := 71) (b := false) (b' := true) (d := 72) rfl ?_
      refine L_no (j := 22) (dj := 71) (b := false) (b' := true) (d := 73) rfl ?_
      refine L_no (j := 22) (dj := 71) (b := false) (b' := true) (d := 74) rfl ?_
      refine L_yes (j := 2) (dj := 51) (b := true) (S (P_pickT rfl rfl) ?_) rfl
      refine L_yes (j := 2) (dj := 51) (b := true) (S (P_eqB (β := true) Tryd.underlying4 rfl rfl rfl) ?_) rfl
      refine L (S (P_pickT rfl rfl) ?_)
      refine L (S (P_assign rfl) ?_)
      refine L_nil ?_
      refine then_n ?_
      refine C_ret ?_
      refine F_ret1 Tryd.results6 rfl ?_
      exact ⟨rfl, hfin⟩
    · by_cases p2 : m < 0
      · refine C_region ?_
        refine L (S (P_move rfl) ?_)
        refine L (S (P_eq rfl rfl (decide_eq_true rfl)) ?_)
        refine L (S (P_move rfl) ?_)
        refine L_yes (j := 2) (dj := 51) (b := true) (S (P_move rfl) ?_) rfl
        refine L_yes (j := 2) (dj := 51) (b := true) (S (P_eq rfl rfl (decide_eq_true (hiff.2 (by omega)))) ?_) rfl
        refine L_yes (j := 2) (dj := 51) (b := true) (S (P_move rfl) ?_) rfl
        refine L_yes (j := 2) (dj := 51) (b := true) (S (P_gt rfl rfl (decide_eq_false (by omega))) ?_) rfl
        refine L_yes (j := 2) (dj := 51) (b := true) (S (P_move rfl) ?_) rfl
        refine L_yes (j := 7) (dj := 56) (b := false) (S (P_fieldAddr fo_25_2 rfl) ?_) rfl
        refine L_yes (j := 7) (dj := 56) (b := false) (S_load sc_3 rfl (h3b.cell (i := 2) rfl) ?_) rfl
        refine L_yes (j := 7) (dj := 56) (b := false) (S (P_lt rfl rfl (decide_eq_true p2)) ?_) rfl
        refine L_yes (j := 2) (dj := 51) (b := true) (S (P_pickF rfl rfl) ?_) rfl
        refine L_yes (j := 2) (dj := 51) (b := true) (S (P_move rfl) ?_) rfl
        refine L_no (j := 12) (dj := 61) (b := false) (b' := true) (d := 62) rfl ?_
        refine L_no (j := 12) (dj := 61) (b := false) (b' := true) (d := 63) rfl ?_
        refine L_no (j := 12) (dj := 61) (b := false) (b' := true) (d := 64) rfl ?_
        refine L_yes (j := 2) (dj := 51) (b := true) (S (P_pickT rfl rfl) ?_) rfl
        refine L_yes (j := 2) (dj := 51) (b := true) (S (P_move rfl) ?_) rfl
        refine L_no (j := 17) (dj := 66) (b := false) (b' := true) (d := 67) rfl ?_
        refine L_no (j := 17) (dj := 66) (b := false) (b' := true) (d := 68) rfl ?_
        refine L_no (j := 17) (dj := 66) (b := false) (b' := true) (d := 69) rfl ?_
        refine L_yes (j := 2) (dj := 51) (b := true) (S (P_pickT rfl rfl) ?_) rfl
        refine L_yes (j := 2) (dj := 51) (b := true) (S (P_move rfl) ?_) rfl
        refine L_no (j := 22) (dj := 71) (b := false) (b' := true) (d := 72) rfl ?_
        refine L_no (j := 22) (dj := 71) (b := false) (b' := true) (d := 73) rfl ?_
        refine L_no (j := 22) (dj := 71) (b := false) (b' := true) (d := 74) rfl ?_
        refine L_yes (j := 2) (dj := 51) (b := true) (S (P_pickT rfl rfl) ?_) rfl
        refine L_yes (j := 2) (dj := 51) (b := true) (S (P_eqB (β := true) Tryd.underlying4 rfl rfl rfl) ?_) rfl
        refine L (S (P_pickT rfl rfl) ?_)
        refine L (S (P_assign rfl) ?_)
        refine L_nil ?_
        refine then_n ?_
        refine C_ret ?_
        refine F_ret1 Tryd.results6 rfl ?_
        exact ⟨rfl, hfin⟩
      · by_cases p3 : 3 < m
        · refine C_region ?_
          refine L (S (P_move rfl) ?_)
          refine L (S (P_eq rfl rfl (decide_eq_true rfl)) ?_)
          refine L (S (P_move rfl) ?_)
          refine L_yes (j := 2) (dj := 51) (b := true) (S (P_move rfl) ?_) rfl
          refine L_yes (j := 2) (dj := 51) (b := true) (S (P_eq rfl rfl (decide_eq_true (hiff.2 (by omega)))) ?_) rfl
          refine L_yes (j := 2) (dj := 51) (b := true) (S (P_move rfl) ?_) rfl
          refine L_yes (j := 2) (dj := 51) (b := true) (S (P_gt rfl rfl (decide_eq_false (by omega))) ?_) rfl
          refine L_yes (j := 2) (dj := 51) (b := true) (S (P_move rfl) ?_) rfl
          refine L_yes (j := 7) (dj := 56) (b := false) (S (P_fieldAddr fo_25_2 rfl) ?_) rfl
          refine L_yes (j := 7) (dj := 56) (b := false) (S_load sc_3 rfl (h3b.cell (i := 2) rfl) ?_) rfl
          refine L_yes (j := 7) (dj := 56) (b := false) (S (P_lt rfl rfl (decide_eq_false p2)) ?_) rfl
          refine L_yes (j := 2) (dj := 51) (b := true) (S (P_pickF rfl rfl) ?_) rfl
          refine L_yes (j := 2) (dj := 51) (b := true) (S (P_move rfl) ?_) rfl
          refine L_yes (j := 12) (dj := 61) (b := false) (S (P_fieldAddr fo_25_2 rfl) ?_) rfl
          refine L_yes (j := 12) (dj := 61) (b := false) (S_load sc_3 rfl (h3b.cell (i := 2) rfl) ?_) rfl
          refine L_yes (j := 12) (dj := 61) (b := false) (S (P_gt rfl rfl (decide_eq_true p3)) ?_) rfl
          refine L_yes (j := 2) (dj := 51) (b := true) (S (P_pickF rfl rfl) ?_) rfl
          refine L_yes (j := 2) (dj := 51) (b := true) (S (P_move rfl) ?_) rfl
          refine L_no (j := 17) (dj := 66) (b := false) (b' := true) (d := 67) rfl ?_
          refine L_no (j := 17) (dj := 66) (b := false) (b' := true) (d := 68) rfl ?_
          refine L_no (j := 17) (dj := 66) (b := false) (b' := true) (d := 69) rfl ?_
          refine L_yes (j := 2) (dj := 51) (b := true) (S (P_pickT rfl rfl) ?_) rfl
          refine L_yes (j := 2) (dj := 51) (b := true) (S (P_move rfl) ?_) rfl
          refine L_no (j := 22) (dj := 71) (b := false) (b' := true) (d := 72) rfl ?_
          refine L_no (j := 22) (dj := 71) (b := false) (b' := true) (d := 73) rfl ?_
          refine L_no (j := 22) (dj := 71) (b := false) (b' := true) (d := 74) rfl ?_
          refine L_yes (j := 2) (dj := 51) (b := true) (S (P_pickT rfl rfl) ?_) rfl
          refine L_yes (j := 2) (dj := 51) (b := true) (S (P_eqB (β := true) Tryd.underlying4 rfl rfl rfl) ?_) rfl
          refine L (S (P_pickT rfl rfl) ?_)
          refine L (S (P_assign rfl) ?_)
          refine L_nil ?_
          refine then_n ?_
          refine C_ret ?_
          refine F_ret1 Tryd.results6 rfl ?_
          exact ⟨rfl, hfin⟩
        · by_cases p4 : k < 0
          · refine C_region ?_
            refine L (S (P_move rfl) ?_)
            refine L (S (P_eq rfl rfl (decide_eq_true rfl)) ?_)
            refine L (S (P_move rfl) ?_)
            refine L_yes (j := 2) (dj := 51) (b := true) (S (P_move rfl) ?_) rfl
            refine L_yes (j := 2) (dj := 51) (b := true) (S (P_eq rfl rfl (decide_eq_true (hiff.2 (by omega)))) ?_) rfl
            refine L_yes (j := 2) (dj := 51) (b := true) (S (P_move rfl) ?_) rfl
            refine L_yes (j := 2) (dj := 51) (b := true) (S (P_gt rfl rfl (decide_eq_false (by omega))) ?_) rfl
            refine L_yes (j := 2) (dj := 51) (b := true) (S (P_move rfl) ?_) rfl
            refine L_yes (j := 7) (dj := 56) (b := false) (S (P_fieldAddr fo_25_2 rfl) ?_) rfl
            refine L_yes (j := 7) (dj := 56) (b := false) (S_load sc_3 rfl (h3b.cell (i := 2) rfl) ?_) rfl
            refine L_yes (j := 7) (dj := 56) (b := false) (S (P_lt rfl rfl (decide_eq_false p2)) ?_) rfl
            refine L_yes (j := 2) (dj := 51) (b := true) (S (P_pickF rfl rfl) ?_) rfl
            refine L_yes (j := 2) (dj := 51) (b := true) (S (P_move rfl) ?_) rfl
            refine L_yes (j := 12) (dj := 61) (b := false) (S (P_fieldAddr fo_25_2 rfl) ?_) rfl
            refine L_yes (j := 12) (dj := 61) (b := false) (S_load sc_3 rfl (h3b.cell (i := 2) rfl) ?_) rfl
            refine L_yes (j := 12) (dj := 61) (b := false) (S (P_gt rfl rfl (decide_eq_false p3)) ?_) rfl
            refine L_yes (j := 2) (dj := 51) (b := true) (S (P_pickF rfl rfl) ?_) rfl
            refine L_yes (j := 2) (dj := 51) (b := true) (S (P_move rfl) ?_) rfl
            refine L_yes (j := 17) (dj := 66) (b := false) (S (P_fieldAddr fo_25_3 rfl) ?_) rfl
            refine L_yes (j := 17) (dj := 66) (b := false) (S_load sc_3 rfl (h3b.cell (i := 3) rfl) ?_) rfl
            refine L_yes (j := 17) (dj := 66) (b := false) (S (P_lt rfl rfl (decide_eq_true p4)) ?_) rfl
            refine L_yes (j := 2) (dj := 51) (b := true) (S (P_pickF rfl rfl) ?_) rfl
            refine L_yes (j := 2) (dj := 51) (b := true) (S (P_move rfl) ?_) rfl
            refine L_no (j := 22) (dj := 71) (b := false) (b' := true) (d := 72) rfl ?_
            refine L_no (j := 22) (dj := 71) (b := false) (b' := true) (d := 73) rfl ?_
            refine L_no (j := 22) (dj := 71) (b := false) (b' := true) (d := 74) rfl ?_
            refine L_yes (j := 2) (dj := 51) (b := true) (S (P_pickT rfl rfl) ?_) rfl
            refine L_yes (j := 2) (dj := 51) (b := true) (S (P_eqB (β := true) Tryd.underlying4 rfl rfl rfl) ?_) rfl
            refine L (S (P_pickT rfl rfl) ?_)
            refine L (S (P_assign rfl) ?_)
            refine L_nil ?_
            refine then_n ?_
            refine C_ret ?_
            refine F_ret1 Tryd.results6 rfl ?_
            exact ⟨rfl, hfin⟩
          · by_cases p5 : bud < 0
            · refine C_region ?_
              refine L (S (P_move rfl) ?_)
              refine L (S (P_eq rfl rfl (decide_eq_true rfl)) ?_)
              refine L (S (P_move rfl) ?_)
              refine L_yes (j := 2) (dj := 51) (b := true) (S (P_move rfl) ?_) rfl
              refine L_yes (j := 2) (dj := 51) (b := true) (S (P_eq rfl rfl (decide_eq_true (hiff.2 (by omega)))) ?_) rfl
              refine L_yes (j := 2) (dj := 51) (b := true) (S (P_move rfl) ?_) rfl
              refine L_yes (j := 2) (dj := 51) (b := true) (S (P_gt rfl rfl (decide_eq_false (by omega))) ?_) rfl
              refine L_yes (j := 2) (dj := 51) (b := true) (S (P_move rfl) ?_) rfl
              refine L_yes (j := 7) (dj := 56) (b := false) (S (P_fieldAddr fo_25_2 rfl) ?_) rfl
              refine L_yes (j := 7) (dj := 56) (b := false) (S_load sc_3 rfl (h3b.cell (i := 2) rfl) ?_) rfl
              refine L_yes (j := 7) (dj := 56) (b := false) (S (P_lt rfl rfl (decide_eq_false p2)) ?_) rfl
              refine L_yes (j := 2) (dj := 51) (b := true) (S (P_pickF rfl rfl) ?_) rfl
              refine L_yes (j := 2) (dj := 51) (b := true) (S (P_move rfl) ?_) rfl
              refine L_yes (j := 12) (dj := 61) (b := false) (S (P_fieldAddr fo_25_2 rfl) ?_) rfl
              refine L_yes (j := 12) (dj := 61) (b := false) (S_load sc_3 rfl (h3b.cell (i := 2) rfl) ?_) rfl
              refine L_yes (j := 12) (dj := 61) (b := false) (S (P_gt rfl rfl (decide_eq_false p3)) ?_) rfl
              refine L_yes (j := 2) (dj := 51) (b := true) (S (P_pickF rfl rfl) ?_) rfl
              refine L_yes (j := 2) (dj := 51) (b := true) (S (P_move rfl) ?_) rfl
              refine L_yes (j := 17) (dj := 66) (b := false) (S (P_fieldAddr fo_25_3 rfl) ?_) rfl
              refine L_yes (j := 17) (dj := 66) (b := false) (S_load sc_3 rfl (h3b.cell (i := 3) rfl) ?_) rfl
              refine L_yes (j := 17) (dj := 66) (b := false) (S (P_lt rfl rfl (decide_eq_false p4)) ?_) rfl
              refine L_yes (j := 2) (dj := 51) (b := true) (S (P_pickF rfl rfl) ?_) rfl
              refine L_yes (j := 2) (dj := 51) (b := true) (S (P_move rfl) ?_) rfl
              refine L_yes (j := 22) (dj := 71) (b := false) (S (P_fieldAddr fo_25_1 rfl) ?_) rfl
              refine L_yes (j := 22) (dj := 71) (b := false) (S_load sc_2 rfl (h3b.cell (i := 1) rfl) ?_) rfl
              refine L_yes (j := 22) (dj := 71) (b := false) (S (P_lt rfl rfl (decide_eq_true p5)) ?_) rfl
              refine L_yes (j := 2) (dj := 51) (b := true) (S (P_pickF rfl rfl) ?_) rfl
              refine L_yes (j := 2) (dj := 51) (b := true) (S (P_eqB (β := true) Tryd.underlying4 rfl rfl rfl) ?_) rfl
              refine L (S (P_pickT rfl rfl) ?_)
              refine L (S (P_assign rfl) ?_)
              refine L_nil ?_
              refine then_n ?_
              refine C_ret ?_
              refine F_ret1 Tryd.results6 rfl ?_
              exact ⟨rfl, hfin⟩
            · refine C_region ?_
              refine L (S (P_move rfl) ?_)
              refine L (S (P_eq rfl rfl (decide_eq_true rfl)) ?_)
              refine L (S (P_move rfl) ?_)
              refine L_yes (j := 2) (dj := 51) (b := true) (S (P_move rfl) ?_) rfl
              refine L_yes (j := 2) (dj := 51) (b := true) (S (P_eq rfl rfl (decide_eq_false (fun h => by have := hiff.1 h; omega))) ?_) rfl
              refine L_yes (j := 2) (dj := 51) (b := true) (S (P_move rfl) ?_) rfl
              refine L_yes (j := 2) (dj := 51) (b := true) (S (P_gt rfl rfl (decide_eq_false (by omega))) ?_) rfl
              refine L_yes (j := 2) (dj := 51) (b := true) (S (P_move rfl) ?_) rfl
              refine L_yes (j := 7) (dj := 56) (b := false) (S (P_fieldAddr fo_25_2 rfl) ?_) rfl
              refine L_yes (j := 7) (dj := 56) (b := false) (S_load sc_3 rfl (h3b.cell (i := 2) rfl) ?_) rfl
              refine L_yes (j := 7) (dj := 56) (b := false) (S (P_lt rfl rfl (decide_eq_false p2)) ?_) rfl
              refine L_yes (j := 2) (dj := 51) (b := true) (S (P_pickF rfl rfl) ?_) rfl
              refine L_yes (j := 2) (dj := 51) (b := true) (S (P_move rfl) ?_) rfl
              refine L_yes (j := 12) (dj := 61) (b := false) (S (P_fieldAddr fo_25_2 rfl) ?_) rfl
              refine L_yes (j := 12) (dj := 61) (b := false) (S_load sc_3 rfl (h3b.cell (i := 2) rfl) ?_) rfl
              refine L_yes (j := 12) (dj := 61) (b := false) (S (P_gt rfl rfl (decide_eq_false p3)) ?_) rfl
              refine L_yes (j := 2) (dj := 51) (b := true) (S (P_pickF rfl rfl) ?_) rfl
              refine L_yes (j := 2) (dj := 51) (b := true) (S (P_move rfl) ?_) rfl
              refine L_yes (j := 17) (dj := 66) (b := false) (S (P_fieldAddr fo_25_3 rfl) ?_) rfl
              refine L_yes (j := 17) (dj := 66) (b := false) (S_load sc_3 rfl (h3b.cell (i := 3) rfl) ?_) rfl
              refine L_yes (j := 17) (dj := 66) (b := false) (S (P_lt rfl rfl (decide_eq_false p4)) ?_) rfl
              refine L_yes (j := 2) (dj := 51) (b := true) (S (P_pickF rfl rfl) ?_) rfl
              refine L_yes (j := 2) (dj := 51) (b := true) (S (P_move rfl) ?_) rfl
              refine L_yes (j := 22) (dj := 71) (b := false) (S (P_fieldAddr fo_25_1 rfl) ?_) rfl
              refine L_yes (j := 22) (dj := 71) (b := false) (S_load sc_2 rfl (h3b.cell (i := 1) rfl) ?_) rfl
              refine L_yes (j := 22) (dj := 71) (b := false) (S (P_lt rfl rfl (decide_eq_false p5)) ?_) rfl
              refine L_yes (j := 2) (dj := 51) (b := true) (S (P_pickF rfl rfl) ?_) rfl
              refine L_yes (j := 2) (dj := 51) (b := true) (S (P_eqB (β := true) Tryd.underlying4 rfl rfl rfl) ?_) rfl
              refine L (S (P_pickT rfl rfl) ?_)
              refine L (S (P_assign rfl) ?_)
              refine L_nil ?_
              refine then_n ?_
              refine C_ret ?_
              refine F_ret1 Tryd.results6 rfl ?_
              exact ⟨rfl, hfin⟩
  · refine C_region ?_
    refine L (S_call cb_7 rfl (lives_ret (hT.mv hm1)) ?_)
    rintro _ w2 ⟨rfl, hm2⟩
    refine L (S (P_not rfl rfl) ?_)
    refine L (S (P_move rfl) ?_)
    refine L_yes (j := 2) (dj := 12) (b := false) (S_loadS st_25 rfl (h3.no hm2).row rfl ?_) rfl
    refine L_yes (j := 2) (dj := 12) (b := false) (S_call cb_8 rfl (fitsC_no (hc.no (hm1.no hm2)) hf) ?_) rfl
    rintro _ w3 ⟨rfl, hm3⟩
    refine L_yes (j := 2) (dj := 12) (b := false) (S (P_not rfl rfl) ?_) rfl
    refine L (S (P_pickF rfl rfl) ?_)
    refine L_nil ?_
    refine then_n ?_
    refine C_true rfl ?_
    refine C_seq ?_
    refine C_region ?_
    refine L (S_call cb_7 rfl (lives_ret (hT.mv ((hm1.no hm2).no hm3))) ?_)
    rintro _ w4 ⟨rfl, hm4⟩
    refine L (S (P_assign rfl) ?_)
    refine L_nil ?_
    refine then_n ?_
    refine C_ret ?_
    refine then_r ?_
    refine F_ret1 Tryd.results6 rfl ?_
    exact ⟨rfl, ((hm1.no hm2).no hm3).no hm4⟩
end
end Go.Proofs.YthihhibadpbncaaDoor
