import Derived.Test.YthihhibadpbncaaDoorGLib
import Derived.Test.YthihhibadpbncaaDoorTy
namespace Go.Proofs.YthihhibadpbncaaDoor
open Go.RowKit

theorem shr_lt (x : Nat) (hx : x < 4294967296) (s : Nat) : x >>> s < 4294967296 := by
  rw [Nat.shiftRight_eq_div_pow]
  exact Nat.lt_of_le_of_lt (Nat.div_le_self _ _) hx

theorem ones_ret {w : World} (x : Nat) (hx : x < 4294967296) : Ret Tryd.prog 19 [.int .u32 (x : Int)] w fun v w' => v = .int .i64 (pop x : Int) ∧ Mv No w w' := by
  have h24 : x >>> 24 < 256 := by rw [Nat.shiftRight_eq_div_pow]; omega
  have h16 : x >>> 16 &&& 255 < 256 := Nat.lt_of_le_of_lt Nat.and_le_right (by omega)
  have h8 : x >>> 8 &&& 255 < 256 := Nat.lt_of_le_of_lt Nat.and_le_right (by omega)
  have h0 : x &&& 255 < 256 := Nat.lt_of_le_of_lt Nat.and_le_right (by omega)
  obtain ⟨c3, g3, n3⟩ := popT_ex h24
  obtain ⟨c2, g2, n2⟩ := popT_ex h16
  obtain ⟨c1, g1, n1⟩ := popT_ex h8
  obtain ⟨c0, g0, n0⟩ := popT_ex h0
  have l3 := bitsOf_le 8 (x >>> 24)
  have l2 := bitsOf_le 8 (x >>> 16 &&& 255)
  have l1 := bitsOf_le 8 (x >>> 8 &&& 255)
  have l0 := bitsOf_le 8 (x &&& 255)
  have hp := pop_sum x
  rw [hp, ← n3, ← n2, ← n1, ← n0]
  rw [← n3] at l3
  rw [← n2] at l2
  rw [← n1] at l1
  rw [← n0] at l0
  refine F_enter Tryd.func19 Tryd.ntmps19 rfl rfl ?_
  refine C_seq ?_
  refine C_region ?_
  refine L (S (P_assign rfl) ?_)
  refine L_nil ?_
  refine then_n ?_
  refine C_seq ?_
  refine C_draw 19 mixed rfl ?_
  refine A_pure (i := 0) rfl (P_move rfl) ?_ (by decide +kernel) (by decide +kernel) (by decide +kernel) (fun _ _ _ _ h => h) rfl rfl rfl
  refine A_pure (i := 1) rfl (P_shr rfl rfl (by decide) (shrU32 (s := 24) rfl (by omega) rfl)) ?_ (by decide +kernel) (by decide +kernel) (by decide +kernel) (fun _ _ _ _ h => h) rfl rfl rfl
  refine A_pure (i := 2) rfl (P_indexT Tryd.underlying9 rfl rfl (j := x >>> 24) rfl (popT_use (by decide +kernel) g3)) ?_ (by decide +kernel) (by decide +kernel) (by decide +kernel) (fun _ _ _ _ h => h) rfl rfl rfl
  refine A_pure (i := 3) rfl (P_move rfl) ?_ (by decide +kernel) (by decide +kernel) (by decide +kernel) (fun _ _ _ _ h => h) rfl rfl rfl
  refine A_pure (i := 4) rfl (P_shr rfl rfl (by decide) (shrU32 (s := 16) rfl (by omega) rfl)) ?_ (by decide +kernel) (by decide +kernel) (by decide +kernel) (fun _ _ _ _ h => h) rfl rfl rfl
  refine A_pure (i := 5) rfl (P_and rfl rfl (andU32 (b := 255) (shr_lt x hx 16) (by omega) rfl)) ?_ (by decide +kernel) (by decide +kernel) (by decide +kernel) (fun _ _ _ _ h => h) rfl rfl rfl
  refine A_pure (i := 6) rfl (P_indexT Tryd.underlying9 rfl rfl (j := x >>> 16 &&& 255) rfl (popT_use (by decide +kernel) g2)) ?_ (by decide +kernel) (by decide +kernel) (by decide +kernel) (fun _ _ _ _ h => h) rfl rfl rfl
  refine A_pure (i := 7) rfl (P_add rfl rfl (wU8 (c := ((c3.toNat + c2.toNat : Nat) : Int)) (by omega))) ?_ (by decide +kernel) (by decide +kernel) (by decide +kernel) (fun _ _ _ _ h => h) rfl rfl rfl
  refine A_pure (i := 8) rfl (P_move rfl) ?_ (by decide +kernel) (by decide +kernel) (by decide +kernel) (fun _ _ _ _ h => h) rfl rfl rfl
  refine A_pure (i := 9) rfl (P_shr rfl rfl (by decide) (shrU32 (s := 8) rfl (by omega) rfl)) ?_ (by decide +kernel) (by decide +kernel) (by decide +kernel) (fun _ _ _ _ h => h) rfl rfl rfl
  refine A_pure (i := 10) rfl (P_and rfl rfl (andU32 (b := 255) (shr_lt x hx 8) (by omega) rfl)) ?_ (by decide +kernel) (by decide +kernel) (by decide +kernel) (fun _ _ _ _ h => h) rfl rfl rfl
  refine A_pure (i := 11) rfl (P_indexT Tryd.underlying9 rfl rfl (j := x >>> 8 &&& 255) rfl (popT_use (by decide +kernel) g1)) ?_ (by decide +kernel) (by decide +kernel) (by decide +kernel) (fun _ _ _ _ h => h) rfl rfl rfl
  refine A_pure (i := 12) rfl (P_add rfl rfl (wU8 (c := ((c3.toNat + c2.toNat + c1.toNat : Nat) : Int)) (by omega))) ?_ (by decide +kernel) (by decide +kernel) (by decide +kernel) (fun _ _ _ _ h => h) rfl rfl rfl
  refine A_pure (i := 13) rfl (P_move rfl) ?_ (by decide +kernel) (by decide +kernel) (by decide +kernel) (fun _ _ _ _ h => h) rfl rfl rfl
  refine A_pure (i := 14) rfl (P_and rfl rfl (andU32 (b := 255) hx (by omega) rfl)) ?_ (by decide +kernel) (by decide +kernel) (by decide +kernel) (fun _ _ _ _ h => h) rfl rfl rfl
  refine A_pure (i := 15) rfl (P_indexT Tryd.underlying9 rfl rfl (j := x &&& 255) rfl (popT_use (by decide +kernel) g0)) ?_ (by decide +kernel) (by decide +kernel) (by decide +kernel) (fun _ _ _ _ h => h) rfl rfl rfl
  refine A_pure (i := 16) rfl (P_add rfl rfl (wU8 (c := ((c3.toNat + c2.toNat + c1.toNat + c0.toNat : Nat) : Int)) (by omega))) ?_ (by decide +kernel) (by decide +kernel) (by decide +kernel) (fun _ _ _ _ h => h) rfl rfl rfl
  refine A_pure (i := 17) rfl (P_conv Tryd.underlying5 Tryd.underlying3 rfl (wI64 (c := ((c3.toNat + c2.toNat + c1.toNat + c0.toNat : Nat) : Int)) (by omega))) ?_ (by decide +kernel) (by decide +kernel) (by decide +kernel) (fun _ _ _ _ h => h) rfl rfl rfl
  refine A_pure (i := 18) rfl (P_assign rfl) ?_ (by decide +kernel) (by decide +kernel) (by decide +kernel) (fun _ _ _ _ h => h) rfl rfl rfl
  refine A_done (by decide +kernel) ?_
  refine then_n ?_
  refine C_ret ?_
  refine F_ret1 Tryd.results19 rfl ?_
  exact ⟨rfl, (Mv.refl w).drew⟩

/-- The table of math/bits, laid. -/
def Tab (w : World) : Prop := ∀ j, j < 32 → w.cell? ⟨0, j, none⟩ = some (.int .u8 (Lib.deBruijn32tab.getD j 0))
theorem Tab.mv {w w' : World} (h : Tab w) (hm : Mv No w w') : Tab w' := fun j hj => by
  have hc := h j hj
  rw [World.cell?_of_block (w := w) (hm.block 0 (cell_lt hc) (fun hf => hf.elim))]
  exact hc

theorem ctz_ret {w : World} (x : Nat) (hx : x < 4294967296) (h0 : x ≠ 0) (hT : Tab w) : Ret Tryd.prog 25 [.int .u32 (x : Int)] w fun v w' => v = .int .i64 (Lib.ctz 32 x : Int) ∧ w = w' := by
  obtain ⟨hlow, hk⟩ := Lib.lowest_bit 32 x h0 hx
  obtain ⟨hi, htab⟩ := Lib.deBruijn32_at _ hk
  have hcell := hT _ hi
  rw [htab] at hcell
  have hpow : 2 ^ Lib.ctz 32 x < 4294967296 := by show _ < 2 ^ 32; exact Nat.pow_lt_pow_right (by omega) hk
  have hq : 2 ^ Lib.ctz 32 x * 125613361 % 4294967296 < 4294967296 := Nat.mod_lt _ (by omega)
  generalize hidx : 2 ^ Lib.ctz 32 x * 125613361 % 4294967296 / 134217728 = idx at *
  refine F_enter Tryd.func25 Tryd.ntmps25 rfl rfl ?_
  refine C_seq ?_
  refine C_region ?_
  refine L (S (P_assign rfl) ?_)
  refine L_nil ?_
  refine then_n ?_
  refine C_seq ?_
  refine C_seq ?_
  refine C_region ?_
  refine L (S (P_move rfl) ?_)
  refine L (S (P_eq rfl rfl (decide_eq_false (by omega))) ?_)
  refine L_nil ?_
  refine then_n ?_
  refine C_false rfl ?_
  refine C_skip ?_
  refine then_n ?_
  refine C_seq ?_
  refine C_region ?_
  refine L (S (P_move rfl) ?_)
  refine L (S (P_move rfl) ?_)
  refine L (S (P_neg rfl (negU32 h0 hx rfl)) ?_)
  refine L (S (P_and rfl rfl (andU32 (c := ((2 ^ Lib.ctz 32 x : Nat) : Int)) hx (by omega) (by rw [← hlow]))) ?_)
  refine L (S (P_mul rfl rfl (wrapU32 (x := 2 ^ Lib.ctz 32 x * 125613361) rfl rfl)) ?_)
  refine L (S (P_shr rfl rfl (by decide) (shrU32 (s := 27) (c := (idx : Int)) rfl (by omega) (by rw [← hidx, Nat.shiftRight_eq_div_pow]))) ?_)
  refine L (S (P_indexAddrA Tryd.underlying54 (csz_of ti_5) rfl rfl (j := idx) rfl hi (q := idx) (by omega)) ?_)
  refine L (S_load sc_5 rfl hcell ?_)
  refine L (S (P_conv Tryd.underlying5 Tryd.underlying3 rfl (wI64 (c := (Lib.ctz 32 x : Int)) (by omega))) ?_)
  refine L (S (P_assign rfl) ?_)
  refine L_nil ?_
  refine then_n ?_
  refine C_ret ?_
  refine F_ret1 Tryd.results25 rfl ?_
  exact ⟨rfl, rfl⟩

theorem ahead_ret {w : World} (a b : Nat) (ha : a < 4294967296) (hb : b < 4294967296) (hT : Tab w) : Ret Tryd.prog 24 [.int .u32 (a : Int), .int .u32 (b : Int)] w fun v w' => v = .bool (aheadF a b) ∧ w = w' := by
  have hxl : a ^^^ b < 4294967296 := Nat.xor_lt_two_pow (n := 32) ha hb
  by_cases h0 : a ^^^ b = 0
  · have : aheadF a b = false := by simp [aheadF, h0]
    rw [this]
    refine F_enter Tryd.func24 Tryd.ntmps24 rfl rfl ?_
    refine C_seq ?_
    refine C_region ?_
    refine L (S (P_assign rfl) ?_)
    refine L_nil ?_
    refine then_n ?_
    refine C_seq ?_
    refine C_region ?_
    refine L (S (P_move rfl) ?_)
    refine L (S (P_move rfl) ?_)
    refine L (S (P_xor rfl rfl (xorU32 ha hb rfl)) ?_)
    refine L (S (P_assign rfl) ?_)
    refine L_nil ?_
    refine then_n ?_
    refine C_seq ?_
    refine C_region ?_
    refine L (S (P_move rfl) ?_)
    refine L (S (P_ne rfl rfl (decide_eq_false (by omega))) ?_)
    refine L (S (P_move rfl) ?_)
    refine L_no (j := 2) (dj := 11) (b := true) (b' := false) (d := 12) rfl ?_
    refine L_no (j := 2) (dj := 11) (b := true) (b' := false) (d := 13) rfl ?_
    refine L_no (j := 2) (dj := 11) (b := true) (b' := false) (d := 14) rfl ?_
    refine L_no (j := 2) (dj := 11) (b := true) (b' := false) (d := 15) rfl ?_
    refine L_no (j := 2) (dj := 11) (b := true) (b' := false) (d := 16) rfl ?_
    refine L_no (j := 2) (dj := 11) (b := true) (b' := false) (d := 17) rfl ?_
    refine L (S (P_pickF rfl rfl) ?_)
    refine L (S (P_assign rfl) ?_)
    refine L_nil ?_
    refine then_n ?_
    refine C_ret ?_
    refine F_ret1 Tryd.results24 rfl ?_
    exact ⟨rfl, rfl⟩
  · obtain ⟨_, hk⟩ := Lib.lowest_bit 32 (a ^^^ b) h0 hxl
    have hbit := bit01 a (Lib.ctz 32 (a ^^^ b))
    have hA : aheadF a b = decide ((a >>> Lib.ctz 32 (a ^^^ b)) &&& 1 = 1) := by
      simp only [aheadF, if_neg h0, hbit]
      cases a.testBit (Lib.ctz 32 (a ^^^ b)) <;> simp
    rw [hA]
    refine F_enter Tryd.func24 Tryd.ntmps24 rfl rfl ?_
    refine C_seq ?_
    refine C_region ?_
    refine L (S (P_assign rfl) ?_)
    refine L_nil ?_
    refine then_n ?_
    refine C_seq ?_
    refine C_region ?_
    refine L (S (P_move rfl) ?_)
    refine L (S (P_move rfl) ?_)
    refine L (S (P_xor rfl rfl (xorU32 ha hb rfl)) ?_)
    refine L (S (P_assign rfl) ?_)
    refine L_nil ?_
    refine then_n ?_
    refine C_seq ?_
    refine C_region ?_
    refine L (S (P_move rfl) ?_)
    refine L (S (P_ne rfl rfl (decide_eq_true (by omega))) ?_)
    refine L (S (P_move rfl) ?_)
    refine L_yes (j := 2) (dj := 11) (b := true) (S (P_move rfl) ?_) rfl
    refine L_yes (j := 2) (dj := 11) (b := true) (S (P_move rfl) ?_) rfl
    refine L_yes (j := 2) (dj := 11) (b := true) (S_call cb_25 rfl (ctz_ret _ hxl h0 hT) ?_) rfl
    rintro _ _ ⟨rfl, rfl⟩
    refine L_yes (j := 2) (dj := 11) (b := true) (S (P_shr rfl rfl (by omega) (shrU32 (s := Lib.ctz 32 (a ^^^ b)) rfl (by omega) rfl)) ?_) rfl
    refine L_yes (j := 2) (dj := 11) (b := true) (S (P_and rfl rfl (andU32 (b := 1) (shr_lt a ha _) (by omega) rfl)) ?_) rfl
    refine L_yes (j := 2) (dj := 11) (b := true) (S (P_eq rfl rfl (β := decide ((a >>> Lib.ctz 32 (a ^^^ b)) &&& 1 = 1)) (decide_eq_decide.2 (by omega))) ?_) rfl
    refine L (S (P_pickT rfl rfl) ?_)
    refine L (S (P_assign rfl) ?_)
    refine L_nil ?_
    refine then_n ?_
    refine C_ret ?_
    refine F_ret1 Tryd.results24 rfl ?_
    exact ⟨rfl, rfl⟩
end Go.Proofs.YthihhibadpbncaaDoor
