import Derived.Test.YthihhibadpbncaaDoorGArgs
import Derived.Test.YthihhibadpbncaaDoorGLaw
namespace Go.Proofs.YthihhibadpbncaaDoor
open Go.RowKit

theorem quoU32 {a b c : Int} {m k : Nat} (ha : a = (m : Int)) (hb : b = (k : Int)) (hc : c = ((m / k : Nat) : Int)) (hm : m < 4294967296) : IntKind.u32.wrap (a.tdiv b) = c := by
  subst ha; subst hb; subst hc
  rw [← Int.ofNat_tdiv]
  have h1 : m / k ≤ m := Nat.div_le_self m k
  generalize m / k = z at *
  exact wU32 ⟨rfl, by omega, by omega⟩
theorem shlI64 {s : Nat} {b c : Int} (hb : b = (s : Int)) (hs : s < 62) (hc : c = ((2 ^ s : Nat) : Int)) : IntKind.i64.wrap (1 * 2 ^ (min b.toNat IntKind.i64.bits)) = c := by
  subst hb hc
  have e : min (s : Int).toNat IntKind.i64.bits = s := by
    show min (s : Int).toNat 64 = s
    omega
  rw [e, Int.one_mul]
  have h1 : 2 ^ s < 2 ^ 62 := Nat.pow_lt_pow_right (by omega) hs
  have h2 : ((2 : Int) ^ s) = ((2 ^ s : Nat) : Int) := by simp
  rw [h2]
  clear h2
  generalize 2 ^ s = z at *
  exact wI64 ⟨rfl, by omega, by omega⟩

section
variable {w : World} {v : Value} {A A5 A6 : Option Addr} {cap c5 c6 : Nat} {bud m k bs : Int} {sz off two : List Int}

theorem wrong_ret (hc : IsCase w v A cap bud m k bs A5 c5 A6 c6 sz off two) : Ret Tryd.prog 11 [v] w fun r w' => (∃ β, r = .bool β ∧ (β = true ↔ (m < 0 ∨ 3 < m ∨ k < 0 ∨ bud < 0))) ∧ Mv No w w' := by
  obtain ⟨rfl, -, -, -, -, -, -, -, -, -, hl1, hl2, hl3⟩ := hc
  refine F_enter Tryd.func11 Tryd.ntmps11 rfl rfl ?_
  refine C_seq ?_
  refine C_region ?_
  refine L (S_box rfl ?_)
  rintro b1 w1 hb1 hm1 hn1
  refine L (S (P_assign rfl) ?_)
  refine L_nil ?_
  refine then_n ?_
  refine C_seq ?_
  have h1 : Blk w1 b1 (caseC A sz.length cap bud m k bs A5 off.length c5 A6 two.length c6) 25 := hb1
  by_cases p1 : m < 0
  · refine C_region ?_
    refine L (S (P_fieldAddr fo_25_2 rfl) ?_)
    refine L (S_load sc_3 rfl (h1.cell (i := 2) rfl) ?_)
    refine L (S (P_lt rfl rfl (decide_eq_true p1)) ?_)
    refine L (S (P_move rfl) ?_)
    refine L_no (j := 3) (dj := 6) (b := false) (b' := true) (d := 7) rfl ?_
    refine L_no (j := 3) (dj := 6) (b := false) (b' := true) (d := 8) rfl ?_
    refine L_no (j := 3) (dj := 6) (b := false) (b' := true) (d := 9) rfl ?_
    refine L (S (P_pickT rfl rfl) ?_)
    refine L (S (P_move rfl) ?_)
    refine L_no (j := 8) (dj := 11) (b := false) (b' := true) (d := 12) rfl ?_
    refine L_no (j := 8) (dj := 11) (b := false) (b' := true) (d := 13) rfl ?_
    refine L_no (j := 8) (dj := 11) (b := false) (b' := true) (d := 14) rfl ?_
    refine L (S (P_pickT rfl rfl) ?_)
    refine L (S (P_move rfl) ?_)
    refine L_no (j := 13) (dj := 16) (b := false) (b' := true) (d := 17) rfl ?_
    refine L_no (j := 13) (dj := 16) (b := false) (b' := true) (d := 18) rfl ?_
    refine L_no (j := 13) (dj := 16) (b := false) (b' := true) (d := 19) rfl ?_
    refine L (S (P_pickT rfl rfl) ?_)
    refine L (S (P_assign rfl) ?_)
    refine L_nil ?_
    refine then_n ?_
    refine C_ret ?_
    refine F_ret1 Tryd.results11 rfl ?_
    exact ⟨⟨_, rfl, by simp [p1]⟩, hm1⟩
  · by_cases p2 : 3 < m
    · refine C_region ?_
      refine L (S (P_fieldAddr fo_25_2 rfl) ?_)
      refine L (S_load sc_3 rfl (h1.cell (i := 2) rfl) ?_)
      refine L (S (P_lt rfl rfl (decide_eq_false p1)) ?_)
      refine L (S (P_move rfl) ?_)
      refine L_yes (j := 3) (dj := 6) (b := false) (S (P_fieldAddr fo_25_2 rfl) ?_) rfl
      refine L_yes (j := 3) (dj := 6) (b := false) (S_load sc_3 rfl (h1.cell (i := 2) rfl) ?_) rfl
      refine L_yes (j := 3) (dj := 6) (b := false) (S (P_gt rfl rfl (decide_eq_true p2)) ?_) rfl
      refine L (S (P_pickF rfl rfl) ?_)
      refine L (S (P_move rfl) ?_)
      refine L_no (j := 8) (dj := 11) (b := false) (b' := true) (d := 12) rfl ?_
      refine L_no (j := 8) (dj := 11) (b := false) (b' := true) (d := 13) rfl ?_
      refine L_no (j := 8) (dj := 11) (b := false) (b' := true) (d := 14) rfl ?_
      refine L (S (P_pickT rfl rfl) ?_)
      refine L (S (P_move rfl) ?_)
      refine L_no (j := 13) (dj := 16) (b := false) (b' := true) (d := 17) rfl ?_
      refine L_no (j := 13) (dj := 16) (b := false) (b' := true) (d := 18) rfl ?_
      refine L_no (j := 13) (dj := 16) (b := false) (b' := true) (d := 19) rfl ?_
      refine L (S (P_pickT rfl rfl) ?_)
      refine L (S (P_assign rfl) ?_)
      refine L_nil ?_
      refine then_n ?_
      refine C_ret ?_
      refine F_ret1 Tryd.results11 rfl ?_
      exact ⟨⟨_, rfl, by simp [p2]⟩, hm1⟩
    · by_cases p3 : k < 0
      · refine C_region ?_
        refine L (S (P_fieldAddr fo_25_2 rfl) ?_)
        refine L (S_load sc_3 rfl (h1.cell (i := 2) rfl) ?_)
        refine L (S (P_lt rfl rfl (decide_eq_false p1)) ?_)
        refine L (S (P_move rfl) ?_)
        refine L_yes (j := 3) (dj := 6) (b := false) (S (P_fieldAddr fo_25_2 rfl) ?_) rfl
        refine L_yes (j := 3) (dj := 6) (b := false) (S_load sc_3 rfl (h1.cell (i := 2) rfl) ?_) rfl
        refine L_yes (j := 3) (dj := 6) (b := false) (S (P_gt rfl rfl (decide_eq_false p2)) ?_) rfl
        refine L (S (P_pickF rfl rfl) ?_)
        refine L (S (P_move rfl) ?_)
        refine L_yes (j := 8) (dj := 11) (b := false) (S (P_fieldAddr fo_25_3 rfl) ?_) rfl
        refine L_yes (j := 8) (dj := 11) (b := false) (S_load sc_3 rfl (h1.cell (i := 3) rfl) ?_) rfl
        refine L_yes (j := 8) (dj := 11) (b := false) (S (P_lt rfl rfl (decide_eq_true p3)) ?_) rfl
        refine L (S (P_pickF rfl rfl) ?_)
        refine L (S (P_move rfl) ?_)
        refine L_no (j := 13) (dj := 16) (b := false) (b' := true) (d := 17) rfl ?_
        refine L_no (j := 13) (dj := 16) (b := false) (b' := true) (d := 18) rfl ?_
        refine L_no (j := 13) (dj := 16) (b := false) (b' := true) (d := 19) rfl ?_
        refine L (S (P_pickT rfl rfl) ?_)
        refine L (S (P_assign rfl) ?_)
        refine L_nil ?_
        refine then_n ?_
        refine C_ret ?_
        refine F_ret1 Tryd.results11 rfl ?_
        exact ⟨⟨_, rfl, by simp [p3]⟩, hm1⟩
      · by_cases p4 : bud < 0
        · refine C_region ?_
          refine L (S (P_fieldAddr fo_25_2 rfl) ?_)
          refine L (S_load sc_3 rfl (h1.cell (i := 2) rfl) ?_)
          refine L (S (P_lt rfl rfl (decide_eq_false p1)) ?_)
          refine L (S (P_move rfl) ?_)
          refine L_yes (j := 3) (dj := 6) (b := false) (S (P_fieldAddr fo_25_2 rfl) ?_) rfl
          refine L_yes (j := 3) (dj := 6) (b := false) (S_load sc_3 rfl (h1.cell (i := 2) rfl) ?_) rfl
          refine L_yes (j := 3) (dj := 6) (b := false) (S (P_gt rfl rfl (decide_eq_false p2)) ?_) rfl
          refine L (S (P_pickF rfl rfl) ?_)
          refine L (S (P_move rfl) ?_)
          refine L_yes (j := 8) (dj := 11) (b := false) (S (P_fieldAddr fo_25_3 rfl) ?_) rfl
          refine L_yes (j := 8) (dj := 11) (b := false) (S_load sc_3 rfl (h1.cell (i := 3) rfl) ?_) rfl
          refine L_yes (j := 8) (dj := 11) (b := false) (S (P_lt rfl rfl (decide_eq_false p3)) ?_) rfl
          refine L (S (P_pickF rfl rfl) ?_)
          refine L (S (P_move rfl) ?_)
          refine L_yes (j := 13) (dj := 16) (b := false) (S (P_fieldAddr fo_25_1 rfl) ?_) rfl
          refine L_yes (j := 13) (dj := 16) (b := false) (S_load sc_2 rfl (h1.cell (i := 1) rfl) ?_) rfl
          refine L_yes (j := 13) (dj := 16) (b := false) (S (P_lt rfl rfl (decide_eq_true p4)) ?_) rfl
          refine L (S (P_pickF rfl rfl) ?_)
          refine L (S (P_assign rfl) ?_)
          refine L_nil ?_
          refine then_n ?_
          refine C_ret ?_
          refine F_ret1 Tryd.results11 rfl ?_
          exact ⟨⟨_, rfl, by simp [p4]⟩, hm1⟩
        · refine C_region ?_
          refine L (S (P_fieldAddr fo_25_2 rfl) ?_)
          refine L (S_load sc_3 rfl (h1.cell (i := 2) rfl) ?_)
          refine L (S (P_lt rfl rfl (decide_eq_false p1)) ?_)
          refine L (S (P_move rfl) ?_)
          refine L_yes (j := 3) (dj := 6) (b := false) (S (P_fieldAddr fo_25_2 rfl) ?_) rfl
          refine L_yes (j := 3) (dj := 6) (b := false) (S_load sc_3 rfl (h1.cell (i := 2) rfl) ?_) rfl
          refine L_yes (j := 3) (dj := 6) (b := false) (S (P_gt rfl rfl (decide_eq_false p2)) ?_) rfl
          refine L (S (P_pickF rfl rfl) ?_)
          refine L (S (P_move rfl) ?_)
          refine L_yes (j := 8) (dj := 11) (b := false) (S (P_fieldAddr fo_25_3 rfl) ?_) rfl
          refine L_yes (j := 8) (dj := 11) (b := false) (S_load sc_3 rfl (h1.cell (i := 3) rfl) ?_) rfl
          refine L_yes (j := 8) (dj := 11) (b := false) (S (P_lt rfl rfl (decide_eq_false p3)) ?_) rfl
          refine L (S (P_pickF rfl rfl) ?_)
          refine L (S (P_move rfl) ?_)
          refine L_yes (j := 13) (dj := 16) (b := false) (S (P_fieldAddr fo_25_1 rfl) ?_) rfl
          refine L_yes (j := 13) (dj := 16) (b := false) (S_load sc_2 rfl (h1.cell (i := 1) rfl) ?_) rfl
          refine L_yes (j := 13) (dj := 16) (b := false) (S (P_lt rfl rfl (decide_eq_false p4)) ?_) rfl
          refine L (S (P_pickF rfl rfl) ?_)
          refine L (S (P_assign rfl) ?_)
          refine L_nil ?_
          refine then_n ?_
          refine C_ret ?_
          refine F_ret1 Tryd.results11 rfl ?_
          exact ⟨⟨_, rfl, by simp [p1, p2, p3, p4]⟩, hm1⟩
theorem wrong_yes (hc : IsCase w v A cap bud m k bs A5 c5 A6 c6 sz off two) (hf : m < 0 ∨ 3 < m ∨ k < 0 ∨ bud < 0) : Ret Tryd.prog 11 [v] w fun r w' => r = .bool true ∧ Mv No w w' :=
  (wrong_ret hc).mono fun r w' ⟨⟨β, h1, h2⟩, h3⟩ => ⟨by rw [h1, h2.2 hf], h3⟩
theorem wrong_no (hc : IsCase w v A cap bud m k bs A5 c5 A6 c6 sz off two) (hf : ¬ (m < 0 ∨ 3 < m ∨ k < 0 ∨ bud < 0)) : Ret Tryd.prog 11 [v] w fun r w' => r = .bool false ∧ Mv No w w' :=
  (wrong_ret hc).mono fun r w' ⟨⟨β, h1, h2⟩, h3⟩ => ⟨by
    cases β with
    | false => exact h1
    | true => exact absurd (h2.1 rfl) hf, h3⟩

theorem many_ret (x : Nat) (hx : x < 4294967296) : Ret Tryd.prog 15 [.int .u32 (x : Int)] w fun r w' => r = .int .i64 (pop x : Int) ∧ w = w' := by
  have hp0 := pop_le x
  refine F_enter Tryd.func15 Tryd.ntmps15 rfl rfl ?_
  refine C_seq ?_
  refine C_region ?_
  refine L (S (P_assign rfl) ?_)
  refine L_nil ?_
  refine then_n ?_
  refine C_seq ?_
  refine C_region ?_
  refine L (S (P_assign rfl) ?_)
  refine L_nil ?_
  refine then_n ?_
  refine C_seq ?_
  refine C_block ?_
  refine C_loop (γ := Nat × Nat) (fun q => [(0, .int .u32 (q.1 : Int)), (3, .int .i64 (q.2 : Int))]) (fun q wr => wr = w ∧ q.1 < 4294967296 ∧ q.2 + pop q.1 = pop x) (fun q => q.1) (x, 0) (.cons rfl (.cons rfl (.nil _))) ⟨rfl, hx, by dsimp only; omega⟩ ?_
  rintro ⟨y, c⟩ wr ⟨rfl, hy, hs⟩
  dsimp only at hy hs
  have hh := pop_half hy
  dsimp only
  refine C_seq ?_
  refine C_seq ?_
  refine C_region ?_
  refine L (S (P_move rfl) ?_)
  refine L (S (P_gt rfl rfl rfl) ?_)
  refine L_nil ?_
  refine then_n ?_
  refine C_ifp rfl rfl (fun hlt => ?_) (fun hge => ?_)
  · refine C_skip ?_
    refine then_n ?_
    refine C_seq ?_
    refine C_block ?_
    refine C_region ?_
    refine L (S (P_move rfl) ?_)
    refine L (S (P_move rfl) ?_)
    refine L (S (P_rem rfl rfl (by decide) (remN (m := y) (k := 2) rfl rfl rfl)) ?_)
    refine L (S (P_conv Tryd.underlying28 Tryd.underlying3 rfl (wI64 (c := ((y % 2 : Nat) : Int)) (by omega))) ?_)
    refine L (S (P_add rfl rfl (wI64 (c := ((c + y % 2 : Nat) : Int)) (by omega))) ?_)
    refine L (S (P_assign rfl) ?_)
    refine L_nil ?_
    refine blk_n ?_
    refine then_n ?_
    refine C_region ?_
    refine L (S (P_move rfl) ?_)
    refine L (S (P_quo rfl rfl (by decide) (quoU32 (m := y) (k := 2) rfl rfl rfl hy)) ?_)
    refine L (S (P_assign rfl) ?_)
    refine L_nil ?_
    refine then_n ?_
    exact ⟨rfl, (y / 2, c + y % 2), .cons rfl (.cons rfl (.nil _)), ⟨rfl, by dsimp only; omega, by dsimp only; omega⟩, by dsimp only; omega⟩
  · have hy0 : y = 0 := by omega
    subst hy0
    have hz := pop_zero
    have hcx : c = pop x := by omega
    subst hcx
    refine C_exit ?_
    refine then_x ?_
    refine then_x ?_
    refine blk_x ?_
    refine then_n ?_
    refine C_seq ?_
    refine C_region ?_
    refine L (S (P_move rfl) ?_)
    refine L (S (P_assign rfl) ?_)
    refine L_nil ?_
    refine then_n ?_
    refine C_ret ?_
    refine F_ret1 Tryd.results15 rfl ?_
    exact ⟨rfl, rfl⟩

theorem ok_ret {b1 : Nat} (x : Nat) (hx : x < 4294967296) (h1 : Blk w b1 (caseC A sz.length cap bud m k bs A5 off.length c5 A6 two.length c6) 25) (hs1 : SlR w A (sz.map iv)) (hr : Inr sz) (hl : sz.length ≤ 16) (hb0 : 0 ≤ bud) (hb9 : bud < 9223372036854775808) :
    Ret Tryd.prog 16 [.int .u32 (x : Int), .pointer (some ⟨b1, 0, none⟩)] w fun r w' => r = .bool (fitsF sz bud x 0) ∧ w = w' := by
  refine F_enter Tryd.func16 Tryd.ntmps16 rfl rfl ?_
  refine C_seq ?_
  refine C_region ?_
  refine L (S (P_assign rfl) ?_)
  refine L_nil ?_
  refine then_n ?_
  refine C_seq ?_
  refine C_region ?_
  refine L (S (P_fieldAddr fo_25_1 rfl) ?_)
  refine L (S_load sc_2 rfl (h1.cell (i := 1) rfl) ?_)
  refine L (S (P_assign rfl) ?_)
  refine L_nil ?_
  refine then_n ?_
  refine C_seq ?_
  refine C_seq ?_
  refine C_region ?_
  refine L (S (P_fieldAddr fo_25_0 rfl) ?_)
  refine L (S_load sc_22 rfl (h1.cell (i := 0) rfl) ?_)
  refine L (S (P_lenS Tryd.underlying22 rfl) ?_)
  refine L (S (P_move rfl) ?_)
  refine L_nil ?_
  refine then_n ?_
  refine C_block ?_
  refine C_loop (γ := Nat × Int) (fun q => [(0, .int .u32 (x : Int)), (4, .int .i64 q.2), (10, .slice A sz.length cap), (11, .int .i64 (sz.length : Int)), (12, .int .i64 (q.1 : Int))]) (fun q wr => wr = w ∧ q.1 ≤ sz.length ∧ 0 ≤ q.2 ∧ q.2 < 9223372036854775808 ∧ fitsF (sz.drop q.1) q.2 x q.1 = fitsF sz bud x 0) (fun q => sz.length - q.1) (0, bud) (.cons rfl (.cons rfl (.cons rfl (.cons rfl (.cons rfl (.nil _)))))) ⟨rfl, by omega, hb0, hb9, rfl⟩ ?_
  rintro ⟨i, left⟩ wr ⟨rfl, hi, hl0, hl9, hF⟩
  dsimp only at hi hl0 hl9 hF
  dsimp only
  refine C_seq ?_
  refine C_region ?_
  refine L (S (P_lt rfl rfl rfl) ?_)
  refine L_nil ?_
  refine then_n ?_
  refine C_seq ?_
  refine C_ifp rfl rfl (fun hlt => ?_) (fun hge => ?_)
  · have hil : i < sz.length := by omega
    obtain ⟨n, hn⟩ : ∃ n, sz[i]? = some n := ⟨sz[i], List.getElem?_eq_getElem hil⟩
    have hd : sz.drop i = n :: sz.drop (i + 1) := by
      rw [List.drop_eq_getElem_cons hil]
      rw [List.getElem?_eq_getElem hil] at hn
      simp only [Option.some.injEq] at hn
      rw [hn]
    obtain ⟨hn0, hn9⟩ := hr n (List.mem_of_getElem? hn)
    obtain ⟨b, o, rfl, hrow⟩ := hs1.form (i := i) (by simpa using hil)
    have hcell : wr.cell? ⟨b, o + i, none⟩ = some (.int .i64 n) := hrow i _ (by simp [hn, iv])
    rw [hd] at hF
    simp only [fitsF] at hF
    refine C_skip ?_
    refine then_n ?_
    refine C_seq ?_
    refine C_block ?_
    refine C_seq ?_
    refine C_region ?_
    refine L (S (P_move rfl) ?_)
    refine L (S (P_indexAddr Tryd.underlying22 (csz_of ti_2) rfl rfl (j := i) rfl hil (p := o + i) (by omega)) ?_)
    refine L (S_load sc_2 rfl hcell ?_)
    refine L (S (P_assign rfl) ?_)
    refine L (S (P_assign rfl) ?_)
    refine L_nil ?_
    refine then_n ?_
    refine C_seq ?_
    refine C_seq ?_
    by_cases hbit : x.testBit i = true
    · rw [if_pos hbit] at hF
      by_cases hbad : n < 0 ∨ left < n
      · rw [if_pos hbad] at hF
        rw [← hF]
        by_cases hneg : n < 0
        · refine C_region ?_
          refine L (S (P_move rfl) ?_)
          refine L (S (P_move rfl) ?_)
          refine L (S (P_shr rfl rfl (by omega) (shrU32 (s := i) rfl (by omega) rfl)) ?_)
          refine L (S (P_and rfl rfl (andU32 (b := 1) (shr_lt x hx i) (by omega) rfl)) ?_)
          refine L (S (P_eq rfl rfl (decide_eq_true ((bitO x i).2 hbit))) ?_)
          refine L (S (P_move rfl) ?_)
          refine L_yes (j := 5) (dj := 22) (b := true) (S (P_move rfl) ?_) rfl
          refine L_yes (j := 5) (dj := 22) (b := true) (S (P_lt rfl rfl (decide_eq_true hneg)) ?_) rfl
          refine L_yes (j := 5) (dj := 22) (b := true) (S (P_move rfl) ?_) rfl
          refine L_no (j := 8) (dj := 25) (b := false) (b' := true) (d := 26) rfl ?_
          refine L_no (j := 8) (dj := 25) (b := false) (b' := true) (d := 27) rfl ?_
          refine L_no (j := 8) (dj := 25) (b := false) (b' := true) (d := 28) rfl ?_
          refine L_yes (j := 5) (dj := 22) (b := true) (S (P_pickT rfl rfl) ?_) rfl
          refine L (S (P_pickT rfl rfl) ?_)
          refine L_nil ?_
          refine then_n ?_
          refine C_true rfl ?_
          refine C_seq ?_
          refine C_region ?_
          refine L (S (P_assign rfl) ?_)
          refine L_nil ?_
          refine then_n ?_
          refine C_ret ?_
          refine then_r ?_
          refine blk_r ?_
          refine then_r ?_
          refine then_r ?_
          refine blk_r ?_
          refine then_r ?_
          refine F_ret1 Tryd.results16 rfl ?_
          exact ⟨rfl, rfl⟩
        · refine C_region ?_
          refine L (S (P_move rfl) ?_)
          refine L (S (P_move rfl) ?_)
          refine L (S (P_shr rfl rfl (by omega) (shrU32 (s := i) rfl (by omega) rfl)) ?_)
          refine L (S (P_and rfl rfl (andU32 (b := 1) (shr_lt x hx i) (by omega) rfl)) ?_)
          refine L (S (P_eq rfl rfl (decide_eq_true ((bitO x i).2 hbit))) ?_)
          refine L (S (P_move rfl) ?_)
          refine L_yes (j := 5) (dj := 22) (b := true) (S (P_move rfl) ?_) rfl
          refine L_yes (j := 5) (dj := 22) (b := true) (S (P_lt rfl rfl (decide_eq_false hneg)) ?_) rfl
          refine L_yes (j := 5) (dj := 22) (b := true) (S (P_move rfl) ?_) rfl
          refine L_yes (j := 8) (dj := 25) (b := false) (S (P_move rfl) ?_) rfl
          refine L_yes (j := 8) (dj := 25) (b := false) (S (P_move rfl) ?_) rfl
          refine L_yes (j := 8) (dj := 25) (b := false) (S (P_gt rfl rfl (decide_eq_true (by omega))) ?_) rfl
          refine L_yes (j := 5) (dj := 22) (b := true) (S (P_pickF rfl rfl) ?_) rfl
          refine L (S (P_pickT rfl rfl) ?_)
          refine L_nil ?_
          refine then_n ?_
          refine C_true rfl ?_
          refine C_seq ?_
          refine C_region ?_
          refine L (S (P_assign rfl) ?_)
          refine L_nil ?_
          refine then_n ?_
          refine C_ret ?_
          refine then_r ?_
          refine blk_r ?_
          refine then_r ?_
          refine then_r ?_
          refine blk_r ?_
          refine then_r ?_
          refine F_ret1 Tryd.results16 rfl ?_
          exact ⟨rfl, rfl⟩
      · rw [if_neg hbad] at hF
        refine C_region ?_
        refine L (S (P_move rfl) ?_)
        refine L (S (P_move rfl) ?_)
        refine L (S (P_shr rfl rfl (by omega) (shrU32 (s := i) rfl (by omega) rfl)) ?_)
        refine L (S (P_and rfl rfl (andU32 (b := 1) (shr_lt x hx i) (by omega) rfl)) ?_)
        refine L (S (P_eq rfl rfl (decide_eq_true ((bitO x i).2 hbit))) ?_)
        refine L (S (P_move rfl) ?_)
        refine L_yes (j := 5) (dj := 22) (b := true) (S (P_move rfl) ?_) rfl
        refine L_yes (j := 5) (dj := 22) (b := true) (S (P_lt rfl rfl (decide_eq_false (by omega))) ?_) rfl
        refine L_yes (j := 5) (dj := 22) (b := true) (S (P_move rfl) ?_) rfl
        refine L_yes (j := 8) (dj := 25) (b := false) (S (P_move rfl) ?_) rfl
        refine L_yes (j := 8) (dj := 25) (b := false) (S (P_move rfl) ?_) rfl
        refine L_yes (j := 8) (dj := 25) (b := false) (S (P_gt rfl rfl (decide_eq_false (by omega))) ?_) rfl
        refine L_yes (j := 5) (dj := 22) (b := true) (S (P_pickF rfl rfl) ?_) rfl
        refine L (S (P_pickT rfl rfl) ?_)
        refine L_nil ?_
        refine then_n ?_
        refine C_false rfl ?_
        refine C_skip ?_
        refine then_n ?_
        refine C_seq ?_
        refine C_region ?_
        refine L (S (P_move rfl) ?_)
        refine L (S (P_move rfl) ?_)
        refine L (S (P_shr rfl rfl (by omega) (shrU32 (s := i) rfl (by omega) rfl)) ?_)
        refine L (S (P_and rfl rfl (andU32 (b := 1) (shr_lt x hx i) (by omega) rfl)) ?_)
        refine L (S (P_eq rfl rfl (decide_eq_true ((bitO x i).2 hbit))) ?_)
        refine L_nil ?_
        refine then_n ?_
        refine C_true rfl ?_
        refine C_region ?_
        refine L (S (P_move rfl) ?_)
        refine L (S (P_move rfl) ?_)
        refine L (S (P_sub rfl rfl (wI64 (c := left - n) (by omega))) ?_)
        refine L (S (P_assign rfl) ?_)
        refine L_nil ?_
        refine blk_n ?_
        refine then_n ?_
        refine C_region ?_
        refine L (S (P_add rfl rfl (wI64 (c := ((i + 1 : Nat) : Int)) (by omega))) ?_)
        refine L (S (P_move rfl) ?_)
        refine L_nil ?_
        refine then_n ?_
        exact ⟨rfl, (i + 1, left - n), .cons rfl (.cons rfl (.cons rfl (.cons rfl (.cons rfl (.nil _))))), ⟨rfl, by dsimp only; omega, by dsimp only; omega, by dsimp only; omega, hF⟩, by dsimp only; omega⟩
    · rw [if_neg hbit] at hF
      refine C_region ?_
      refine L (S (P_move rfl) ?_)
      refine L (S (P_move rfl) ?_)
      refine L (S (P_shr rfl rfl (by omega) (shrU32 (s := i) rfl (by omega) rfl)) ?_)
      refine L (S (P_and rfl rfl (andU32 (b := 1) (shr_lt x hx i) (by omega) rfl)) ?_)
      refine L (S (P_eq rfl rfl (decide_eq_false (fun hh => hbit ((bitO x i).1 hh)))) ?_)
      refine L (S (P_move rfl) ?_)
      refine L_no (j := 5) (dj := 22) (b := true) (b' := false) (d := 23) rfl ?_
      refine L_no (j := 5) (dj := 22) (b := true) (b' := false) (d := 24) rfl ?_
      refine L_no (j := 5) (dj := 22) (b := true) (b' := false) (d := 25) rfl ?_
      refine L_nou (j := 8) (dj := 25) (b := false) (d := 26) rfl ?_
      refine L_nou (j := 8) (dj := 25) (b := false) (d := 27) rfl ?_
      refine L_nou (j := 8) (dj := 25) (b := false) (d := 28) rfl ?_
      refine L_no (j := 5) (dj := 22) (b := true) (b' := false) (d := 29) rfl ?_
      refine L (S (P_pickF rfl rfl) ?_)
      refine L_nil ?_
      refine then_n ?_
      refine C_false rfl ?_
      refine C_skip ?_
      refine then_n ?_
      refine C_seq ?_
      refine C_region ?_
      refine L (S (P_move rfl) ?_)
      refine L (S (P_move rfl) ?_)
      refine L (S (P_shr rfl rfl (by omega) (shrU32 (s := i) rfl (by omega) rfl)) ?_)
      refine L (S (P_and rfl rfl (andU32 (b := 1) (shr_lt x hx i) (by omega) rfl)) ?_)
      refine L (S (P_eq rfl rfl (decide_eq_false (fun hh => hbit ((bitO x i).1 hh)))) ?_)
      refine L_nil ?_
      refine then_n ?_
      refine C_false rfl ?_
      refine C_skip ?_
      refine blk_n ?_
      refine then_n ?_
      refine C_region ?_
      refine L (S (P_add rfl rfl (wI64 (c := ((i + 1 : Nat) : Int)) (by omega))) ?_)
      refine L (S (P_move rfl) ?_)
      refine L_nil ?_
      refine then_n ?_
      exact ⟨rfl, (i + 1, left), .cons rfl (.cons rfl (.cons rfl (.cons rfl (.cons rfl (.nil _))))), ⟨rfl, by dsimp only; omega, hl0, hl9, hF⟩, by dsimp only; omega⟩
  · have hn : sz.drop i = [] := List.drop_eq_nil_of_le (by omega)
    rw [hn] at hF
    simp only [fitsF] at hF
    rw [← hF]
    refine C_exit ?_
    refine then_x ?_
    refine then_x ?_
    refine blk_x ?_
    refine then_n ?_
    refine C_seq ?_
    refine C_region ?_
    refine L (S (P_assign rfl) ?_)
    refine L_nil ?_
    refine then_n ?_
    refine C_ret ?_
    refine F_ret1 Tryd.results16 rfl ?_
    exact ⟨rfl, rfl⟩

theorem greedyFits_ret (hT : Tab w) (hc : IsCase w v A cap bud m k bs A5 c5 A6 c6 sz off two) :
    Ret Tryd.prog 4 [v] w fun r w' => r = .bool true ∧ Mv No w w' := by
  have hv : v = caseV A sz.length cap bud m k bs A5 off.length c5 A6 two.length c6 := hc.eq
  obtain ⟨hm0, hm9⟩ := hc.rm
  obtain ⟨hk0, hk9⟩ := hc.rk
  obtain ⟨hb0, hb9⟩ := hc.rb
  have hl1 := hc.ls
  unfold maxLen at hl1
  subst hv
  refine F_enter Tryd.func4 Tryd.ntmps4 rfl rfl ?_
  refine C_seq ?_
  refine C_region ?_
  refine L (S_box rfl ?_)
  rintro b1 w1 hb1 hm1 hn1
  refine L (S (P_assign rfl) ?_)
  refine L_nil ?_
  refine then_n ?_
  refine C_seq ?_
  refine C_seq ?_
  have h1 : Blk w1 b1 (caseC A sz.length cap bud m k bs A5 off.length c5 A6 two.length c6) 25 := hb1
  by_cases hf : FitsC sz off two
  · by_cases hw : m < 0 ∨ 3 < m ∨ k < 0 ∨ bud < 0
    · refine C_region ?_
      refine L (S_call cb_7 rfl (lives_ret (hT.mv hm1)) ?_)
      rintro _ w2 ⟨rfl, hm2⟩
      refine L (S (P_not rfl rfl) ?_)
      refine L (S (P_move rfl) ?_)
      refine L_yes (j := 2) (dj := 10) (b := false) (S_loadS st_25 rfl (h1.no hm2).row rfl ?_) rfl
      refine L_yes (j := 2) (dj := 10) (b := false) (S_call cb_8 rfl (fitsC_yes (hc.no (hm1.no hm2)) hf) ?_) rfl
      rintro _ w3 ⟨rfl, hm3⟩
      refine L_yes (j := 2) (dj := 10) (b := false) (S (P_not rfl rfl) ?_) rfl
      refine L (S (P_pickF rfl rfl) ?_)
      refine L (S (P_move rfl) ?_)
      refine L_yes (j := 7) (dj := 15) (b := false) (S_loadS st_25 rfl ((h1.no hm2).no hm3).row rfl ?_) rfl
      refine L_yes (j := 7) (dj := 15) (b := false) (S_call cb_11 rfl (wrong_yes (hc.no ((hm1.no hm2).no hm3)) hw) ?_) rfl
      rintro _ w4 ⟨rfl, hm4⟩
      refine L (S (P_pickF rfl rfl) ?_)
      refine L_nil ?_
      refine then_n ?_
      refine C_true rfl ?_
      refine C_seq ?_
      refine C_region ?_
      refine L (S_call cb_7 rfl (lives_ret (hT.mv (((hm1.no hm2).no hm3).no hm4))) ?_)
      rintro _ w5 ⟨rfl, hm5⟩
      refine L (S (P_assign rfl) ?_)
      refine L_nil ?_
      refine then_n ?_
      refine C_ret ?_
      refine then_r ?_
      refine F_ret1 Tryd.results4 rfl ?_
      exact ⟨rfl, (((hm1.no hm2).no hm3).no hm4).no hm5⟩
    · obtain ⟨hf1, hf2, hf3⟩ := hf
      have hpow : 2 ^ sz.length ≤ 1024 := by
        have := Nat.pow_le_pow_right (n := 2) (by omega) hf1
        simpa using this
      have hlaw := search_fits (sz := sz) (bud := bud) (pr := fun x => priceF bs off two x sz.length) (m := m) (k := k) (by omega) (by omega) (by omega)
      have hS := fun w A cap fv hs hp hT => search_ret (w := w) (A := A) (cap := cap) (fv := fv) (pr := fun x => priceF bs off two x sz.length) sz bud m k hs hc.rs (by omega) hb9 hp hT
      generalize searchF sz bud (fun x => priceF bs off two x sz.length) m k = s at *
      obtain ⟨g1, g2, g3, g4⟩ := hlaw
      have hpl := pop_le s
      refine C_region ?_
      refine L (S_call cb_7 rfl (lives_ret (hT.mv hm1)) ?_)
      rintro _ w2 ⟨rfl, hm2⟩
      refine L (S (P_not rfl rfl) ?_)
      refine L (S (P_move rfl) ?_)
      refine L_yes (j := 2) (dj := 10) (b := false) (S_loadS st_25 rfl (h1.no hm2).row rfl ?_) rfl
      refine L_yes (j := 2) (dj := 10) (b := false) (S_call cb_8 rfl (fitsC_yes (hc.no (hm1.no hm2)) ⟨hf1, hf2, hf3⟩) ?_) rfl
      rintro _ w3 ⟨rfl, hm3⟩
      refine L_yes (j := 2) (dj := 10) (b := false) (S (P_not rfl rfl) ?_) rfl
      refine L (S (P_pickF rfl rfl) ?_)
      refine L (S (P_move rfl) ?_)
      refine L_yes (j := 7) (dj := 15) (b := false) (S_loadS st_25 rfl ((h1.no hm2).no hm3).row rfl ?_) rfl
      refine L_yes (j := 7) (dj := 15) (b := false) (S_call cb_11 rfl (wrong_no (hc.no ((hm1.no hm2).no hm3)) hw) ?_) rfl
      rintro _ w4 ⟨rfl, hm4⟩
      refine L (S (P_pickF rfl rfl) ?_)
      refine L_nil ?_
      refine then_n ?_
      refine C_false rfl ?_
      refine C_skip ?_
      refine then_n ?_
      refine C_seq ?_
      have hm04 : Mv No w w4 := ((hm1.no hm2).no hm3).no hm4
      have h1a := ((h1.no hm2).no hm3).no hm4
      have hc4 := hc.no hm04
      refine C_region ?_
      refine L (S (P_fieldAddr fo_25_0 rfl) ?_)
      refine L (S_load sc_22 rfl (h1a.cell (i := 0) rfl) ?_)
      refine L (S (P_fieldAddr fo_25_1 rfl) ?_)
      refine L (S_load sc_2 rfl (h1a.cell (i := 1) rfl) ?_)
      refine L (S (P_fieldAddr fo_25_2 rfl) ?_)
      refine L (S_load sc_3 rfl (h1a.cell (i := 2) rfl) ?_)
      refine L (S (P_fieldAddr fo_25_3 rfl) ?_)
      refine L (S_load sc_3 rfl (h1a.cell (i := 3) rfl) ?_)
      refine L (S_loadS st_25 rfl h1a.row rfl ?_)
      refine L (S (P_makeFunc rfl rfl) ?_)
      refine L (S_call cb_9 rfl (hS _ _ _ _ hc4.s (hc4.pr ⟨hf1, hf2, hf3⟩) (hT.mv hm04)) ?_)
      rintro _ w5 ⟨rfl, hm5⟩
      refine L (S (P_move rfl) ?_)
      refine L (S (P_extract rfl rfl) ?_)
      refine L (S (P_extract rfl rfl) ?_)
      refine L (S (P_assign rfl) ?_)
      refine L (S (P_assign rfl) ?_)
      refine L_nil ?_
      refine then_n ?_
      refine C_seq ?_
      refine C_seq ?_
      have hm05 : Mv No w w5 := hm04.no hm5
      have h1b := h1a.no hm5
      have hc5 := hc4.no hm5
      refine C_region ?_
      refine L (S (P_move rfl) ?_)
      refine L (S (P_ne rfl rfl (decide_eq_false (by simp))) ?_)
      refine L (S (P_move rfl) ?_)
      refine L_yes (j := 2) (dj := 36) (b := false) (S (P_move rfl) ?_) rfl
      refine L_yes (j := 2) (dj := 36) (b := false) (S (P_conv Tryd.underlying28 Tryd.underlying3 rfl (wI64 (c := (s : Int)) (by omega))) ?_) rfl
      refine L_yes (j := 2) (dj := 36) (b := false) (S (P_fieldAddr fo_25_0 rfl) ?_) rfl
      refine L_yes (j := 2) (dj := 36) (b := false) (S_load sc_22 rfl (h1b.cell (i := 0) rfl) ?_) rfl
      refine L_yes (j := 2) (dj := 36) (b := false) (S (P_lenS Tryd.underlying22 rfl) ?_) rfl
      refine L_yes (j := 2) (dj := 36) (b := false) (S (P_shl rfl rfl (by omega) (shlI64 (s := sz.length) rfl (by omega) rfl)) ?_) rfl
      refine L_yes (j := 2) (dj := 36) (b := false) (S (P_ge rfl rfl (decide_eq_false (by omega))) ?_) rfl
      refine L (S (P_pickF rfl rfl) ?_)
      refine L_nil ?_
      refine then_n ?_
      refine C_false rfl ?_
      refine C_skip ?_
      refine then_n ?_
      refine C_seq ?_
      refine C_region ?_
      refine L (S (P_assign rfl) ?_)
      refine L_nil ?_
      refine then_n ?_
      refine C_seq ?_
      refine C_region ?_
      refine L (S (P_makeFunc rfl rfl) ?_)
      refine L (S (P_assign rfl) ?_)
      refine L_nil ?_
      refine then_n ?_
      refine C_seq ?_
      refine C_seq ?_
      have hok := fun (w' : World) (hm : Mv No w5 w') (x : Nat) (hx : x < 4294967296) => ok_ret (k := k) (m := m) (bs := bs) (A5 := A5) (A6 := A6) (c5 := c5) (c6 := c6) (off := off) (two := two) x hx (h1b.no hm) (hc5.s.no hm) hc.rs (by omega) (by omega) hb9
      refine C_cutg (γ := Unit) (fun _ => [(1, .pointer (some ⟨b1, 0, none⟩)), (3, .int .u32 (s : Int)), (5, .func (.func 15) #[] #[]), (6, .func (.func 16) #[] #[.pointer (some ⟨b1, 0, none⟩)]), (57, .bool false)]) (fun _ wc => Mv No w5 wc) ?_ ?_
      · refine C_drawQ 12 mixed rfl (fun hH => ?_)
        refine H_pure (i := 0) rfl (PureV.toS (P_move rfl)) ?_ (by assumption) (by decide +kernel) (by decide +kernel) (by decide +kernel) (fun _ _ _ _ h => h) rfl rfl rfl
        refine H_pure (i := 1) rfl (PureV.toS (P_move rfl)) ?_ (by assumption) (by decide +kernel) (by decide +kernel) (by decide +kernel) (fun _ _ _ _ h => h) rfl rfl rfl
        refine H_one (i := 2) (H_op rfl (S_callv (first := []) (captured := [.pointer (some ⟨b1, 0, none⟩)]) cb_16 rfl rfl (by have := hok _ hH s (by omega); rw [g1] at this; exact this) ?_)) (by decide +kernel)
        rintro _ w6 ⟨rfl, rfl⟩
        refine and_keep (by first | assumption | exact Mv.no (by assumption) (by assumption)) (fun hH => ?_)
        refine H_pure (i := 3) rfl (PureV.toS (P_not rfl rfl)) ?_ (by assumption) (by decide +kernel) (by decide +kernel) (by decide +kernel) (fun _ _ _ _ h => h) rfl rfl rfl
        refine H_pure (i := 4) rfl (PureV.toS (P_move rfl)) ?_ (by assumption) (by decide +kernel) (by decide +kernel) (by decide +kernel) (fun _ _ _ _ h => h) rfl rfl rfl
        refine H_pureY (i := 5) (j := 4) (dj := 50) (b := false) rfl (PureV.toS (P_move rfl)) rfl ?_ (by assumption) (by decide +kernel) (by decide +kernel) (by decide +kernel) (fun _ _ _ _ h => h) rfl rfl rfl rfl
        refine H_pureY (i := 6) (j := 4) (dj := 50) (b := false) rfl (PureV.toS (P_move rfl)) rfl ?_ (by assumption) (by decide +kernel) (by decide +kernel) (by decide +kernel) (fun _ _ _ _ h => h) rfl rfl rfl rfl
        refine H_pureY (i := 8) (j := 4) (dj := 50) (b := false) rfl (PureV.toS (P_fieldAddr fo_25_3 rfl)) rfl ?_ (by assumption) (by decide +kernel) (by decide +kernel) (by decide +kernel) (fun _ _ _ _ h => h) rfl rfl rfl rfl
        refine H_pureY (i := 9) (j := 4) (dj := 50) (b := false) rfl (PS_load sc_3 rfl (fun _ h => (h1b.no h).cell (i := 3) rfl)) rfl ?_ (by assumption) (by decide +kernel) (by decide +kernel) (by decide +kernel) (fun _ _ _ _ h => h) rfl rfl rfl rfl
        refine H_one (i := 7) (H_yes (j := 4) (dj := 50) (b := false) rfl rfl (S_callv (first := []) (captured := []) cb_15 rfl rfl (many_ret s (by omega)) ?_)) (by decide +kernel)
        rintro _ w7 ⟨rfl, rfl⟩
        refine and_keep (by first | assumption | exact Mv.no (by assumption) (by assumption)) (fun hH => ?_)
        refine H_pureY (i := 10) (j := 4) (dj := 50) (b := false) rfl (PureV.toS (P_gt rfl rfl (decide_eq_false (by omega)))) rfl ?_ (by assumption) (by decide +kernel) (by decide +kernel) (by decide +kernel) (fun _ _ _ _ h => h) rfl rfl rfl rfl
        refine H_pure (i := 11) rfl (PureV.toS (P_pickF rfl rfl)) ?_ (by assumption) (by decide +kernel) (by decide +kernel) (by decide +kernel) (fun _ _ _ _ h => h) rfl rfl rfl
        refine H_done (by decide +kernel) ?_
        refine then_n ?_
        exact ⟨rfl, (), .cons rfl (.cons rfl (.cons rfl (.cons rfl (.cons rfl (.nil _))))), hH⟩
      rintro _ w6 hm6 f' hf'
      refine C_forget hf' ?_
      refine C_false rfl ?_
      refine C_skip ?_
      refine then_n ?_
      refine C_seq ?_
      refine C_seq ?_
      refine C_region ?_
      refine L (S (P_assign rfl) ?_)
      refine L_nil ?_
      refine then_n ?_
      refine C_block ?_
      refine C_loop (γ := Nat) (fun x => [(1, .pointer (some ⟨b1, 0, none⟩)), (3, .int .u32 (s : Int)), (5, .func (.func 15) #[] #[]), (6, .func (.func 16) #[] #[.pointer (some ⟨b1, 0, none⟩)]), (7, .int .u32 (x : Int))]) (fun x wr => x ≤ 2 ^ sz.length ∧ Mv No w5 wr) (fun x => 2 ^ sz.length - x) 0 (.cons rfl (.cons rfl (.cons rfl (.cons rfl (.cons rfl (.nil _)))))) ⟨by omega, hm6⟩ ?_
      rintro x wr ⟨hx, hmr⟩
      have h1r := h1b.no hmr
      have hcr := hc5.no hmr
      refine C_seq ?_
      refine C_seq ?_
      refine C_region ?_
      refine L (S (P_move rfl) ?_)
      refine L (S (P_fieldAddr fo_25_0 rfl) ?_)
      refine L (S_load sc_22 rfl (h1r.cell (i := 0) rfl) ?_)
      refine L (S (P_lenS Tryd.underlying22 rfl) ?_)
      refine L (S (P_shl rfl rfl (by omega) (shlU32 (s := sz.length) rfl (by omega) rfl)) ?_)
      refine L (S (P_lt rfl rfl rfl) ?_)
      refine L_nil ?_
      refine then_n ?_
      refine C_ifp rfl rfl (fun hlt => ?_) (fun hge => ?_)
      · have hx1 : x < 2 ^ sz.length := by omega
        have hpr := fun (w' : World) (hm : Mv No wr w') (y : Nat) (hy : y < 4294967296) => price_ret (w := w') (cap := cap) (c5 := c5) (c6 := c6) (A := A) sz.length bud m k bs off two y hy (by omega) (hcr.no hm).o (hcr.no hm).t hc.ro hc.rt (by omega) (by omega)
        by_cases hp : (pop x : Int) ≤ min m k
        · by_cases hfx : fitsF sz bud x 0 = true
          · have hle := g4 x hx1 hp hfx
            refine C_skip ?_
            refine then_n ?_
            refine C_seq ?_
            refine C_block ?_
            refine C_seq ?_
            refine C_drawQ 23 mixed rfl (fun hH => ?_)
            refine H_pure (i := 0) rfl (PureV.toS (P_move rfl)) ?_ (by assumption) (by decide +kernel) (by decide +kernel) (by decide +kernel) (fun _ _ _ _ h => h) rfl rfl rfl
            refine H_pure (i := 1) rfl (PureV.toS (P_move rfl)) ?_ (by assumption) (by decide +kernel) (by decide +kernel) (by decide +kernel) (fun _ _ _ _ h => h) rfl rfl rfl
            refine H_pure (i := 3) rfl (PureV.toS (P_fieldAddr fo_25_2 rfl)) ?_ (by assumption) (by decide +kernel) (by decide +kernel) (by decide +kernel) (fun _ _ _ _ h => h) rfl rfl rfl
            refine H_pure (i := 4) rfl (PS_load sc_3 rfl (fun _ h => (h1r.no h).cell (i := 2) rfl)) ?_ (by assumption) (by decide +kernel) (by decide +kernel) (by decide +kernel) (fun _ _ _ _ h => h) rfl rfl rfl
            refine H_pure (i := 5) rfl (PureV.toS (P_fieldAddr fo_25_3 rfl)) ?_ (by assumption) (by decide +kernel) (by decide +kernel) (by decide +kernel) (fun _ _ _ _ h => h) rfl rfl rfl
            refine H_pure (i := 6) rfl (PS_load sc_3 rfl (fun _ h => (h1r.no h).cell (i := 3) rfl)) ?_ (by assumption) (by decide +kernel) (by decide +kernel) (by decide +kernel) (fun _ _ _ _ h => h) rfl rfl rfl
            refine H_pure (i := 7) rfl (PureV.toS (P_min rfl rfl (c := min m k) (by split <;> omega))) ?_ (by assumption) (by decide +kernel) (by decide +kernel) (by decide +kernel) (fun _ _ _ _ h => h) rfl rfl rfl
            refine H_one (i := 2) (H_op rfl (S_callv (first := []) (captured := []) cb_15 rfl rfl (many_ret x (by omega)) ?_)) (by decide +kernel)
            rintro _ w7 ⟨rfl, rfl⟩
            refine and_keep (by first | assumption | exact Mv.no (by assumption) (by assumption)) (fun hH => ?_)
            refine H_pure (i := 8) rfl (PureV.toS (P_le rfl rfl (decide_eq_true hp))) ?_ (by assumption) (by decide +kernel) (by decide +kernel) (by decide +kernel) (fun _ _ _ _ h => h) rfl rfl rfl
            refine H_pure (i := 9) rfl (PureV.toS (P_move rfl)) ?_ (by assumption) (by decide +kernel) (by decide +kernel) (by decide +kernel) (fun _ _ _ _ h => h) rfl rfl rfl
            refine H_pureY (i := 10) (j := 9) (dj := 75) (b := true) rfl (PureV.toS (P_move rfl)) rfl ?_ (by assumption) (by decide +kernel) (by decide +kernel) (by decide +kernel) (fun _ _ _ _ h => h) rfl rfl rfl rfl
            refine H_pureY (i := 11) (j := 9) (dj := 75) (b := true) rfl (PureV.toS (P_move rfl)) rfl ?_ (by assumption) (by decide +kernel) (by decide +kernel) (by decide +kernel) (fun _ _ _ _ h => h) rfl rfl rfl rfl
            refine H_one (i := 12) (H_yes (j := 9) (dj := 75) (b := true) rfl rfl (S_callv (first := []) (captured := [.pointer (some ⟨b1, 0, none⟩)]) cb_16 rfl rfl (by have := hok _ (hmr.no hH) x (by omega); rw [hfx] at this; exact this) ?_)) (by decide +kernel)
            rintro _ w8 ⟨rfl, rfl⟩
            refine and_keep (by first | assumption | exact Mv.no (by assumption) (by assumption)) (fun hH => ?_)
            refine H_pure (i := 13) rfl (PureV.toS (P_pickT rfl rfl)) ?_ (by assumption) (by decide +kernel) (by decide +kernel) (by decide +kernel) (fun _ _ _ _ h => h) rfl rfl rfl
            refine H_pure (i := 14) rfl (PureV.toS (P_move rfl)) ?_ (by assumption) (by decide +kernel) (by decide +kernel) (by decide +kernel) (fun _ _ _ _ h => h) rfl rfl rfl
            refine H_pureY (i := 15) (j := 14) (dj := 80) (b := true) rfl (PS_loadS st_25 rfl (fun _ h => (h1r.no h).row) rfl) rfl ?_ (by assumption) (by decide +kernel) (by decide +kernel) (by decide +kernel) (fun _ _ _ _ h => h) rfl rfl rfl rfl
            refine H_pureY (i := 16) (j := 14) (dj := 80) (b := true) rfl (PureV.toS (P_move rfl)) rfl ?_ (by assumption) (by decide +kernel) (by decide +kernel) (by decide +kernel) (fun _ _ _ _ h => h) rfl rfl rfl rfl
            refine H_pureY (i := 18) (j := 14) (dj := 80) (b := true) rfl (PS_loadS st_25 rfl (fun _ h => (h1r.no h).row) rfl) rfl ?_ (by assumption) (by decide +kernel) (by decide +kernel) (by decide +kernel) (fun _ _ _ _ h => h) rfl rfl rfl rfl
            refine H_pureY (i := 19) (j := 14) (dj := 80) (b := true) rfl (PureV.toS (P_move rfl)) rfl ?_ (by assumption) (by decide +kernel) (by decide +kernel) (by decide +kernel) (fun _ _ _ _ h => h) rfl rfl rfl rfl
            refine H_one (i := 17) (H_yes (j := 14) (dj := 80) (b := true) rfl rfl (S_call cb_10 rfl (hpr _ hH x (by omega)) ?_)) (by decide +kernel)
            rintro _ w9 ⟨rfl, hm9⟩
            refine and_keep (by first | assumption | exact Mv.no (by assumption) (by assumption)) (fun hH => ?_)
            refine H_one (i := 20) (H_yes (j := 14) (dj := 80) (b := true) rfl rfl (S_call cb_10 rfl (hpr _ hH s (by omega)) ?_)) (by decide +kernel)
            rintro _ w10 ⟨rfl, hm10⟩
            refine and_keep (by first | assumption | exact Mv.no (by assumption) (by assumption)) (fun hH => ?_)
            refine H_pureY (i := 21) (j := 14) (dj := 80) (b := true) rfl (PureV.toS (P_lt rfl rfl (decide_eq_false (by omega)))) rfl ?_ (by assumption) (by decide +kernel) (by decide +kernel) (by decide +kernel) (fun _ _ _ _ h => h) rfl rfl rfl rfl
            refine H_pure (i := 22) rfl (PureV.toS (P_pickT rfl rfl)) ?_ (by assumption) (by decide +kernel) (by decide +kernel) (by decide +kernel) (fun _ _ _ _ h => h) rfl rfl rfl
            refine H_done (by decide +kernel) ?_
            refine then_n ?_
            refine C_false rfl ?_
            refine C_skip ?_
            refine blk_n ?_
            refine then_n ?_
            refine C_region ?_
            refine L (S (P_move rfl) ?_)
            refine L (S (P_add rfl rfl (wU32 (c := ((x + 1 : Nat) : Int)) (by omega))) ?_)
            refine L (S (P_assign rfl) ?_)
            refine L_nil ?_
            refine then_n ?_
            exact ⟨rfl, x + 1, .cons rfl (.cons rfl (.cons rfl (.cons rfl (.cons rfl (.nil _))))), ⟨by omega, hmr.no hH⟩, by omega⟩
          · have hfx2 : fitsF sz bud x 0 = false := by simpa using hfx
            refine C_skip ?_
            refine then_n ?_
            refine C_seq ?_
            refine C_block ?_
            refine C_seq ?_
            refine C_drawQ 23 mixed rfl (fun hH => ?_)
            refine H_pure (i := 0) rfl (PureV.toS (P_move rfl)) ?_ (by assumption) (by decide +kernel) (by decide +kernel) (by decide +kernel) (fun _ _ _ _ h => h) rfl rfl rfl
            refine H_pure (i := 1) rfl (PureV.toS (P_move rfl)) ?_ (by assumption) (by decide +kernel) (by decide +kernel) (by decide +kernel) (fun _ _ _ _ h => h) rfl rfl rfl
            refine H_pure (i := 3) rfl (PureV.toS (P_fieldAddr fo_25_2 rfl)) ?_ (by assumption) (by decide +kernel) (by decide +kernel) (by decide +kernel) (fun _ _ _ _ h => h) rfl rfl rfl
            refine H_pure (i := 4) rfl (PS_load sc_3 rfl (fun _ h => (h1r.no h).cell (i := 2) rfl)) ?_ (by assumption) (by decide +kernel) (by decide +kernel) (by decide +kernel) (fun _ _ _ _ h => h) rfl rfl rfl
            refine H_pure (i := 5) rfl (PureV.toS (P_fieldAddr fo_25_3 rfl)) ?_ (by assumption) (by decide +kernel) (by decide +kernel) (by decide +kernel) (fun _ _ _ _ h => h) rfl rfl rfl
            refine H_pure (i := 6) rfl (PS_load sc_3 rfl (fun _ h => (h1r.no h).cell (i := 3) rfl)) ?_ (by assumption) (by decide +kernel) (by decide +kernel) (by decide +kernel) (fun _ _ _ _ h => h) rfl rfl rfl
            refine H_pure (i := 7) rfl (PureV.toS (P_min rfl rfl (c := min m k) (by split <;> omega))) ?_ (by assumption) (by decide +kernel) (by decide +kernel) (by decide +kernel) (fun _ _ _ _ h => h) rfl rfl rfl
            refine H_one (i := 2) (H_op rfl (S_callv (first := []) (captured := []) cb_15 rfl rfl (many_ret x (by omega)) ?_)) (by decide +kernel)
            rintro _ w7 ⟨rfl, rfl⟩
            refine and_keep (by first | assumption | exact Mv.no (by assumption) (by assumption)) (fun hH => ?_)
            refine H_pure (i := 8) rfl (PureV.toS (P_le rfl rfl (decide_eq_true hp))) ?_ (by assumption) (by decide +kernel) (by decide +kernel) (by decide +kernel) (fun _ _ _ _ h => h) rfl rfl rfl
            refine H_pure (i := 9) rfl (PureV.toS (P_move rfl)) ?_ (by assumption) (by decide +kernel) (by decide +kernel) (by decide +kernel) (fun _ _ _ _ h => h) rfl rfl rfl
            refine H_pureY (i := 10) (j := 9) (dj := 75) (b := true) rfl (PureV.toS (P_move rfl)) rfl ?_ (by assumption) (by decide +kernel) (by decide +kernel) (by decide +kernel) (fun _ _ _ _ h => h) rfl rfl rfl rfl
            refine H_pureY (i := 11) (j := 9) (dj := 75) (b := true) rfl (PureV.toS (P_move rfl)) rfl ?_ (by assumption) (by decide +kernel) (by decide +kernel) (by decide +kernel) (fun _ _ _ _ h => h) rfl rfl rfl rfl
            refine H_one (i := 12) (H_yes (j := 9) (dj := 75) (b := true) rfl rfl (S_callv (first := []) (captured := [.pointer (some ⟨b1, 0, none⟩)]) cb_16 rfl rfl (by have := hok _ (hmr.no hH) x (by omega); rw [hfx2] at this; exact this) ?_)) (by decide +kernel)
            rintro _ w8 ⟨rfl, rfl⟩
            refine and_keep (by first | assumption | exact Mv.no (by assumption) (by assumption)) (fun hH => ?_)
            refine H_pure (i := 13) rfl (PureV.toS (P_pickT rfl rfl)) ?_ (by assumption) (by decide +kernel) (by decide +kernel) (by decide +kernel) (fun _ _ _ _ h => h) rfl rfl rfl
            refine H_pure (i := 14) rfl (PureV.toS (P_move rfl)) ?_ (by assumption) (by decide +kernel) (by decide +kernel) (by decide +kernel) (fun _ _ _ _ h => h) rfl rfl rfl
            refine H_pureN (i := 15) (j := 14) (dj := 80) (b := true) (b' := false) rfl rfl ?_ (by assumption) (by decide +kernel) (by decide +kernel) (by decide +kernel) (fun _ _ _ _ h => h) rfl rfl rfl rfl rfl
            refine H_pureN (i := 16) (j := 14) (dj := 80) (b := true) (b' := false) rfl rfl ?_ (by assumption) (by decide +kernel) (by decide +kernel) (by decide +kernel) (fun _ _ _ _ h => h) rfl rfl rfl rfl rfl
            refine H_pureN (i := 17) (j := 14) (dj := 80) (b := true) (b' := false) rfl rfl ?_ (by assumption) (by decide +kernel) (by decide +kernel) (by decide +kernel) (fun _ _ _ _ h => h) rfl rfl rfl rfl rfl
            refine H_pureN (i := 18) (j := 14) (dj := 80) (b := true) (b' := false) rfl rfl ?_ (by assumption) (by decide +kernel) (by decide +kernel) (by decide +kernel) (fun _ _ _ _ h => h) rfl rfl rfl rfl rfl
            refine H_pureN (i := 19) (j := 14) (dj := 80) (b := true) (b' := false) rfl rfl ?_ (by assumption) (by decide +kernel) (by decide +kernel) (by decide +kernel) (fun _ _ _ _ h => h) rfl rfl rfl rfl rfl
            refine H_pureN (i := 20) (j := 14) (dj := 80) (b := true) (b' := false) rfl rfl ?_ (by assumption) (by decide +kernel) (by decide +kernel) (by decide +kernel) (fun _ _ _ _ h => h) rfl rfl rfl rfl rfl
            refine H_pureN (i := 21) (j := 14) (dj := 80) (b := true) (b' := false) rfl rfl ?_ (by assumption) (by decide +kernel) (by decide +kernel) (by decide +kernel) (fun _ _ _ _ h => h) rfl rfl rfl rfl rfl
            refine H_pure (i := 22) rfl (PureV.toS (P_pickF rfl rfl)) ?_ (by assumption) (by decide +kernel) (by decide +kernel) (by decide +kernel) (fun _ _ _ _ h => h) rfl rfl rfl
            refine H_done (by decide +kernel) ?_
            refine then_n ?_
            refine C_false rfl ?_
            refine C_skip ?_
            refine blk_n ?_
            refine then_n ?_
            refine C_region ?_
            refine L (S (P_move rfl) ?_)
            refine L (S (P_add rfl rfl (wU32 (c := ((x + 1 : Nat) : Int)) (by omega))) ?_)
            refine L (S (P_assign rfl) ?_)
            refine L_nil ?_
            refine then_n ?_
            exact ⟨rfl, x + 1, .cons rfl (.cons rfl (.cons rfl (.cons rfl (.cons rfl (.nil _))))), ⟨by omega, hmr.no hH⟩, by omega⟩
        · refine C_skip ?_
          refine then_n ?_
          refine C_seq ?_
          refine C_block ?_
          refine C_seq ?_
          refine C_drawQ 23 mixed rfl (fun hH => ?_)
          refine H_pure (i := 0) rfl (PureV.toS (P_move rfl)) ?_ (by assumption) (by decide +kernel) (by decide +kernel) (by decide +kernel) (fun _ _ _ _ h => h) rfl rfl rfl
          refine H_pure (i := 1) rfl (PureV.toS (P_move rfl)) ?_ (by assumption) (by decide +kernel) (by decide +kernel) (by decide +kernel) (fun _ _ _ _ h => h) rfl rfl rfl
          refine H_pure (i := 3) rfl (PureV.toS (P_fieldAddr fo_25_2 rfl)) ?_ (by assumption) (by decide +kernel) (by decide +kernel) (by decide +kernel) (fun _ _ _ _ h => h) rfl rfl rfl
          refine H_pure (i := 4) rfl (PS_load sc_3 rfl (fun _ h => (h1r.no h).cell (i := 2) rfl)) ?_ (by assumption) (by decide +kernel) (by decide +kernel) (by decide +kernel) (fun _ _ _ _ h => h) rfl rfl rfl
          refine H_pure (i := 5) rfl (PureV.toS (P_fieldAddr fo_25_3 rfl)) ?_ (by assumption) (by decide +kernel) (by decide +kernel) (by decide +kernel) (fun _ _ _ _ h => h) rfl rfl rfl
          refine H_pure (i := 6) rfl (PS_load sc_3 rfl (fun _ h => (h1r.no h).cell (i := 3) rfl)) ?_ (by assumption) (by decide +kernel) (by decide +kernel) (by decide +kernel) (fun _ _ _ _ h => h) rfl rfl rfl
          refine H_pure (i := 7) rfl (PureV.toS (P_min rfl rfl (c := min m k) (by split <;> omega))) ?_ (by assumption) (by decide +kernel) (by decide +kernel) (by decide +kernel) (fun _ _ _ _ h => h) rfl rfl rfl
          refine H_one (i := 2) (H_op rfl (S_callv (first := []) (captured := []) cb_15 rfl rfl (many_ret x (by omega)) ?_)) (by decide +kernel)
          rintro _ w7 ⟨rfl, rfl⟩
          refine and_keep (by first | assumption | exact Mv.no (by assumption) (by assumption)) (fun hH => ?_)
          refine H_pure (i := 8) rfl (PureV.toS (P_le rfl rfl (decide_eq_false hp))) ?_ (by assumption) (by decide +kernel) (by decide +kernel) (by decide +kernel) (fun _ _ _ _ h => h) rfl rfl rfl
          refine H_pure (i := 9) rfl (PureV.toS (P_move rfl)) ?_ (by assumption) (by decide +kernel) (by decide +kernel) (by decide +kernel) (fun _ _ _ _ h => h) rfl rfl rfl
          refine H_pureN (i := 10) (j := 9) (dj := 75) (b := true) (b' := false) rfl rfl ?_ (by assumption) (by decide +kernel) (by decide +kernel) (by decide +kernel) (fun _ _ _ _ h => h) rfl rfl rfl rfl rfl
          refine H_pureN (i := 11) (j := 9) (dj := 75) (b := true) (b' := false) rfl rfl ?_ (by assumption) (by decide +kernel) (by decide +kernel) (by decide +kernel) (fun _ _ _ _ h => h) rfl rfl rfl rfl rfl
          refine H_pureN (i := 12) (j := 9) (dj := 75) (b := true) (b' := false) rfl rfl ?_ (by assumption) (by decide +kernel) (by decide +kernel) (by decide +kernel) (fun _ _ _ _ h => h) rfl rfl rfl rfl rfl
          refine H_pure (i := 13) rfl (PureV.toS (P_pickF rfl rfl)) ?_ (by assumption) (by decide +kernel) (by decide +kernel) (by decide +kernel) (fun _ _ _ _ h => h) rfl rfl rfl
          refine H_pure (i := 14) rfl (PureV.toS (P_move rfl)) ?_ (by assumption) (by decide +kernel) (by decide +kernel) (by decide +kernel) (fun _ _ _ _ h => h) rfl rfl rfl
          refine H_pureN (i := 15) (j := 14) (dj := 80) (b := true) (b' := false) rfl rfl ?_ (by assumption) (by decide +kernel) (by decide +kernel) (by decide +kernel) (fun _ _ _ _ h => h) rfl rfl rfl rfl rfl
          refine H_pureN (i := 16) (j := 14) (dj := 80) (b := true) (b' := false) rfl rfl ?_ (by assumption) (by decide +kernel) (by decide +kernel) (by decide +kernel) (fun _ _ _ _ h => h) rfl rfl rfl rfl rfl
          refine H_pureN (i := 17) (j := 14) (dj := 80) (b := true) (b' := false) rfl rfl ?_ (by assumption) (by decide +kernel) (by decide +kernel) (by decide +kernel) (fun _ _ _ _ h => h) rfl rfl rfl rfl rfl
          refine H_pureN (i := 18) (j := 14) (dj := 80) (b := true) (b' := false) rfl rfl ?_ (by assumption) (by decide +kernel) (by decide +kernel) (by decide +kernel) (fun _ _ _ _ h => h) rfl rfl rfl rfl rfl
          refine H_pureN (i := 19) (j := 14) (dj := 80) (b := true) (b' := false) rfl rfl ?_ (by assumption) (by decide +kernel) (by decide +kernel) (by decide +kernel) (fun _ _ _ _ h => h) rfl rfl rfl rfl rfl
          refine H_pureN (i := 20) (j := 14) (dj := 80) (b := true) (b' := false) rfl rfl ?_ (by assumption) (by decide +kernel) (by decide +kernel) (by decide +kernel) (fun _ _ _ _ h => h) rfl rfl rfl rfl rfl
          refine H_pureN (i := 21) (j := 14) (dj := 80) (b := true) (b' := false) rfl rfl ?_ (by assumption) (by decide +kernel) (by decide +kernel) (by decide +kernel) (fun _ _ _ _ h => h) rfl rfl rfl rfl rfl
          refine H_pure (i := 22) rfl (PureV.toS (P_pickF rfl rfl)) ?_ (by assumption) (by decide +kernel) (by decide +kernel) (by decide +kernel) (fun _ _ _ _ h => h) rfl rfl rfl
          refine H_done (by decide +kernel) ?_
          refine then_n ?_
          refine C_false rfl ?_
          refine C_skip ?_
          refine blk_n ?_
          refine then_n ?_
          refine C_region ?_
          refine L (S (P_move rfl) ?_)
          refine L (S (P_add rfl rfl (wU32 (c := ((x + 1 : Nat) : Int)) (by omega))) ?_)
          refine L (S (P_assign rfl) ?_)
          refine L_nil ?_
          refine then_n ?_
          exact ⟨rfl, x + 1, .cons rfl (.cons rfl (.cons rfl (.cons rfl (.cons rfl (.nil _))))), ⟨by omega, hmr.no hH⟩, by omega⟩
      · refine C_exit ?_
        refine then_x ?_
        refine then_x ?_
        refine blk_x ?_
        refine then_n ?_
        refine C_seq ?_
        refine C_region ?_
        refine L (S (P_assign rfl) ?_)
        refine L_nil ?_
        refine then_n ?_
        refine C_ret ?_
        refine F_ret1 Tryd.results4 rfl ?_
        exact ⟨rfl, hm05.no hmr⟩
  · refine C_region ?_
    refine L (S_call cb_7 rfl (lives_ret (hT.mv hm1)) ?_)
    rintro _ w2 ⟨rfl, hm2⟩
    refine L (S (P_not rfl rfl) ?_)
    refine L (S (P_move rfl) ?_)
    refine L_yes (j := 2) (dj := 10) (b := false) (S_loadS st_25 rfl (h1.no hm2).row rfl ?_) rfl
    refine L_yes (j := 2) (dj := 10) (b := false) (S_call cb_8 rfl (fitsC_no (hc.no (hm1.no hm2)) hf) ?_) rfl
    rintro _ w3 ⟨rfl, hm3⟩
    refine L_yes (j := 2) (dj := 10) (b := false) (S (P_not rfl rfl) ?_) rfl
    refine L (S (P_pickF rfl rfl) ?_)
    refine L (S (P_move rfl) ?_)
    refine L_no (j := 7) (dj := 15) (b := false) (b' := true) (d := 16) rfl ?_
    refine L_no (j := 7) (dj := 15) (b := false) (b' := true) (d := 17) rfl ?_
    refine L (S (P_pickT rfl rfl) ?_)
    refine L_nil ?_
    refine then_n ?_
    refine C_true rfl ?_
    refine C_seq ?_
    refine C_region ?_
    refine L (S_call cb_7 rfl (lives_ret (hT.mv ((hm1.no hm2).no hm3))) ?_)
    rintro _ w4 ⟨rfl, hm4⟩
    refine L (S (P_assign rfl) ?_)
    refine L_nil ?_
    refine then_n ?_
    refine C_ret ?_
    refine then_r ?_
    refine F_ret1 Tryd.results4 rfl ?_
    exact ⟨rfl, ((hm1.no hm2).no hm3).no hm4⟩
end
end Go.Proofs.YthihhibadpbncaaDoor
