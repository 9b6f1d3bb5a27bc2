import Derived.Test.YthihhibadpbncaaDoorGBits
namespace Go.Proofs.YthihhibadpbncaaDoor
open Go.RowKit

def iv (n : Int) : Value := .int .i64 n
def Inr (l : List Int) : Prop := ∀ n ∈ l, -9223372036854775808 ≤ n ∧ n < 9223372036854775808

theorem bitZ (x i : Nat) : (((x >>> i &&& 1 : Nat) : Int) = 0) ↔ x.testBit i = false := by
  rw [bit01]
  cases x.testBit i <;> simp
theorem bitO (x i : Nat) : (((x >>> i &&& 1 : Nat) : Int) = 1) ↔ x.testBit i = true := by
  rw [bit01]
  cases x.testBit i <;> simp

theorem fits_ret {w : World} {A : Option Addr} {cap : Nat} {fv : Value} (sz : List Int) (bud : Int) (x : Nat) (hs : SlR w A (sz.map iv)) (hr : Inr sz) (hl : sz.length ≤ 16) (hb0 : 0 ≤ bud) (hb9 : bud < 9223372036854775808) (hx : x < 4294967296) :
    Ret Tryd.prog 20 [.agg #[.slice A sz.length cap, .int .i64 bud, fv], .int .u32 (x : Int)] w fun v w' => v = .bool (fitsF sz bud x 0) ∧ Mv No w w' := by
  refine F_enter Tryd.func20 Tryd.ntmps20 rfl rfl ?_
  refine C_seq ?_
  refine C_region ?_
  refine L (S_box rfl ?_)
  rintro b2 w1 hb2 hm1 hn1
  refine L (S (P_assign rfl) ?_)
  refine L_nil ?_
  refine then_n ?_
  refine C_seq ?_
  have h2 : Blk w1 b2 [.slice A sz.length cap, .int .i64 bud, fv] 46 := hb2
  have hs1 := hs.no hm1
  refine C_region ?_
  refine L (S (P_fieldAddr fo_46_1 rfl) ?_)
  refine L (S_load sc_2 rfl (h2.cell (i := 1) rfl) ?_)
  refine L (S (P_assign rfl) ?_)
  refine L_nil ?_
  refine then_n ?_
  refine C_seq ?_
  refine C_seq ?_
  refine C_region ?_
  refine L (S (P_fieldAddr fo_46_0 rfl) ?_)
  refine L (S_load sc_22 rfl (h2.cell (i := 0) rfl) ?_)
  refine L (S (P_lenS Tryd.underlying22 rfl) ?_)
  refine L (S (P_move rfl) ?_)
  refine L_nil ?_
  refine then_n ?_
  refine C_block ?_
  refine C_loop (γ := Nat × Int) (fun q => [(1, .int .u32 (x : Int)), (5, .int .i64 q.2), (11, .slice A sz.length cap), (12, .int .i64 (sz.length : Int)), (13, .int .i64 (q.1 : Int))]) (fun q wr => wr = w1 ∧ q.1 ≤ sz.length ∧ 0 ≤ q.2 ∧ q.2 < 9223372036854775808 ∧ fitsF (sz.drop q.1) q.2 x q.1 = fitsF sz bud x 0) (fun q => sz.length - q.1) (0, bud) (.cons rfl (.cons rfl (.cons rfl (.cons rfl (.cons rfl (.nil _)))))) ⟨rfl, by omega, hb0, hb9, rfl⟩ ?_
  rintro ⟨i, left⟩ wr ⟨rfl, hi, hl0, hl9, hF⟩
  dsimp only at hi hl0 hl9 hF
  dsimp only
  refine C_seq ?_
  refine C_region ?_
  refine L (S (P_lt rfl rfl rfl) ?_)
  refine L_nil ?_
  refine then_n ?_
  refine C_seq ?_
  refine C_ifp rfl rfl (fun hlt => ?_) (fun hge => ?_)
  · have hil : i < sz.length := by omega
    obtain ⟨n, hn⟩ : ∃ n, sz[i]? = some n := ⟨sz[i], List.getElem?_eq_getElem hil⟩
    have hd : sz.drop i = n :: sz.drop (i + 1) := by
      rw [List.drop_eq_getElem_cons hil]
      rw [List.getElem?_eq_getElem hil] at hn
      simp only [Option.some.injEq] at hn
      rw [hn]
    obtain ⟨hn0, hn9⟩ := hr n (List.mem_of_getElem? hn)
    obtain ⟨b, off, rfl, hrow⟩ := hs1.form (i := i) (by simpa using hil)
    have hcell : wr.cell? ⟨b, off + i, none⟩ = some (.int .i64 n) := hrow i _ (by simp [hn, iv])
    rw [hd] at hF
    simp only [fitsF] at hF
    refine C_skip ?_
    refine then_n ?_
    refine C_seq ?_
    refine C_block ?_
    refine C_seq ?_
    refine C_region ?_
    refine L (S (P_move rfl) ?_)
    refine L (S (P_indexAddr Tryd.underlying22 (csz_of ti_2) rfl rfl (j := i) rfl hil (p := off + i) (by omega)) ?_)
    refine L (S_load sc_2 rfl hcell ?_)
    refine L (S (P_assign rfl) ?_)
    refine L (S (P_assign rfl) ?_)
    refine L_nil ?_
    refine then_n ?_
    refine C_seq ?_
    refine C_seq ?_
    by_cases hbit : x.testBit i = true
    · rw [if_pos hbit] at hF
      by_cases hbad : n < 0 ∨ left < n
      · rw [if_pos hbad] at hF
        rw [← hF]
        by_cases hneg : n < 0
        · refine C_region ?_
          refine L (S (P_move rfl) ?_)
          refine L (S (P_move rfl) ?_)
          refine L (S (P_shr rfl rfl (by omega) (shrU32 (s := i) rfl (by omega) rfl)) ?_)
          refine L (S (P_and rfl rfl (andU32 (b := 1) (shr_lt x hx i) (by omega) rfl)) ?_)
          refine L (S (P_eq rfl rfl (decide_eq_false (fun hh => by rw [(bitZ x i).1 hh] at hbit; cases hbit))) ?_)
          refine L_nil ?_
          refine then_n ?_
          refine C_false rfl ?_
          refine C_skip ?_
          refine then_n ?_
          refine C_seq ?_
          refine C_seq ?_
          refine C_region ?_
          refine L (S (P_move rfl) ?_)
          refine L (S (P_lt rfl rfl (decide_eq_true hneg)) ?_)
          refine L (S (P_move rfl) ?_)
          refine L_no (j := 2) (dj := 25) (b := false) (b' := true) (d := 26) rfl ?_
          refine L_no (j := 2) (dj := 25) (b := false) (b' := true) (d := 27) rfl ?_
          refine L_no (j := 2) (dj := 25) (b := false) (b' := true) (d := 28) rfl ?_
          refine L (S (P_pickT rfl rfl) ?_)
          refine L_nil ?_
          refine then_n ?_
          refine C_true rfl ?_
          refine C_seq ?_
          refine C_region ?_
          refine L (S (P_assign rfl) ?_)
          refine L_nil ?_
          refine then_n ?_
          refine C_ret ?_
          refine then_r ?_
          refine blk_r ?_
          refine then_r ?_
          refine then_r ?_
          refine blk_r ?_
          refine then_r ?_
          refine F_ret1 Tryd.results20 rfl ?_
          exact ⟨rfl, hm1⟩
        · refine C_region ?_
          refine L (S (P_move rfl) ?_)
          refine L (S (P_move rfl) ?_)
          refine L (S (P_shr rfl rfl (by omega) (shrU32 (s := i) rfl (by omega) rfl)) ?_)
          refine L (S (P_and rfl rfl (andU32 (b := 1) (shr_lt x hx i) (by omega) rfl)) ?_)
          refine L (S (P_eq rfl rfl (decide_eq_false (fun hh => by rw [(bitZ x i).1 hh] at hbit; cases hbit))) ?_)
          refine L_nil ?_
          refine then_n ?_
          refine C_false rfl ?_
          refine C_skip ?_
          refine then_n ?_
          refine C_seq ?_
          refine C_seq ?_
          refine C_region ?_
          refine L (S (P_move rfl) ?_)
          refine L (S (P_lt rfl rfl (decide_eq_false hneg)) ?_)
          refine L (S (P_move rfl) ?_)
          refine L_yes (j := 2) (dj := 25) (b := false) (S (P_move rfl) ?_) rfl
          refine L_yes (j := 2) (dj := 25) (b := false) (S (P_move rfl) ?_) rfl
          refine L_yes (j := 2) (dj := 25) (b := false) (S (P_gt rfl rfl (decide_eq_true (by omega))) ?_) rfl
          refine L (S (P_pickF rfl rfl) ?_)
          refine L_nil ?_
          refine then_n ?_
          refine C_true rfl ?_
          refine C_seq ?_
          refine C_region ?_
          refine L (S (P_assign rfl) ?_)
          refine L_nil ?_
          refine then_n ?_
          refine C_ret ?_
          refine then_r ?_
          refine blk_r ?_
          refine then_r ?_
          refine then_r ?_
          refine blk_r ?_
          refine then_r ?_
          refine F_ret1 Tryd.results20 rfl ?_
          exact ⟨rfl, hm1⟩
      · rw [if_neg hbad] at hF
        refine C_region ?_
        refine L (S (P_move rfl) ?_)
        refine L (S (P_move rfl) ?_)
        refine L (S (P_shr rfl rfl (by omega) (shrU32 (s := i) rfl (by omega) rfl)) ?_)
        refine L (S (P_and rfl rfl (andU32 (b := 1) (shr_lt x hx i) (by omega) rfl)) ?_)
        refine L (S (P_eq rfl rfl (decide_eq_false (fun hh => by rw [(bitZ x i).1 hh] at hbit; cases hbit))) ?_)
        refine L_nil ?_
        refine then_n ?_
        refine C_false rfl ?_
        refine C_skip ?_
        refine then_n ?_
        refine C_seq ?_
        refine C_seq ?_
        refine C_region ?_
        refine L (S (P_move rfl) ?_)
        refine L (S (P_lt rfl rfl (decide_eq_false (by omega))) ?_)
        refine L (S (P_move rfl) ?_)
        refine L_yes (j := 2) (dj := 25) (b := false) (S (P_move rfl) ?_) rfl
        refine L_yes (j := 2) (dj := 25) (b := false) (S (P_move rfl) ?_) rfl
        refine L_yes (j := 2) (dj := 25) (b := false) (S (P_gt rfl rfl (decide_eq_false (by omega))) ?_) rfl
        refine L (S (P_pickF rfl rfl) ?_)
        refine L_nil ?_
        refine then_n ?_
        refine C_false rfl ?_
        refine C_skip ?_
        refine then_n ?_
        refine C_region ?_
        refine L (S (P_move rfl) ?_)
        refine L (S (P_move rfl) ?_)
        refine L (S (P_sub rfl rfl (wI64 (c := left - n) (by omega))) ?_)
        refine L (S (P_assign rfl) ?_)
        refine L_nil ?_
        refine blk_n ?_
        refine then_n ?_
        refine C_region ?_
        refine L (S (P_add rfl rfl (wI64 (c := ((i + 1 : Nat) : Int)) (by omega))) ?_)
        refine L (S (P_move rfl) ?_)
        refine L_nil ?_
        refine then_n ?_
        exact ⟨rfl, (i + 1, left - n), .cons rfl (.cons rfl (.cons rfl (.cons rfl (.cons rfl (.nil _))))), ⟨rfl, by dsimp only; omega, by dsimp only; omega, by dsimp only; omega, hF⟩, by dsimp only; omega⟩
    · rw [if_neg hbit] at hF
      have hbf : x.testBit i = false := by simpa using hbit
      refine C_region ?_
      refine L (S (P_move rfl) ?_)
      refine L (S (P_move rfl) ?_)
      refine L (S (P_shr rfl rfl (by omega) (shrU32 (s := i) rfl (by omega) rfl)) ?_)
      refine L (S (P_and rfl rfl (andU32 (b := 1) (shr_lt x hx i) (by omega) rfl)) ?_)
      refine L (S (P_eq rfl rfl (decide_eq_true ((bitZ x i).2 hbf))) ?_)
      refine L_nil ?_
      refine then_n ?_
      refine C_true rfl ?_
      refine C_exit ?_
      refine then_x ?_
      refine blk_x ?_
      refine then_n ?_
      refine C_region ?_
      refine L (S (P_add rfl rfl (wI64 (c := ((i + 1 : Nat) : Int)) (by omega))) ?_)
      refine L (S (P_move rfl) ?_)
      refine L_nil ?_
      refine then_n ?_
      exact ⟨rfl, (i + 1, left), .cons rfl (.cons rfl (.cons rfl (.cons rfl (.cons rfl (.nil _))))), ⟨rfl, by dsimp only; omega, hl0, hl9, hF⟩, by dsimp only; omega⟩
  · have hn : sz.drop i = [] := List.drop_eq_nil_of_le (by omega)
    rw [hn] at hF
    simp only [fitsF] at hF
    rw [← hF]
    refine C_exit ?_
    refine then_x ?_
    refine then_x ?_
    refine blk_x ?_
    refine then_n ?_
    refine C_seq ?_
    refine C_region ?_
    refine L (S (P_move rfl) ?_)
    refine L (S (P_ge rfl rfl (decide_eq_true hl0)) ?_)
    refine L (S (P_assign rfl) ?_)
    refine L_nil ?_
    refine then_n ?_
    refine C_ret ?_
    refine F_ret1 Tryd.results20 rfl ?_
    exact ⟨rfl, hm1⟩
end Go.Proofs.YthihhibadpbncaaDoor
