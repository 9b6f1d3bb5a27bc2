import Derived.Test.YtgicoidmjfhnbaaWireT
import Derived.Test.YtgicoidmjfhnbaaLibW
namespace Go.Proofs.Ytgicoidmjfhnbaa
open Go.RowKit

theorem IsR.drew {w : World} {lo g : Nat} {bs : List UInt8} {err : Int} (h : IsR w lo g bs err) : IsR w.drew lo g bs err := h.no (Mv.refl w).drew
theorem hundred : numB 300 = [172, 2] := by rw [numB_ge (by omega), numB_lt (by omega)]; rfl
theorem nums5 : (rNum [172, 2, 2, 97, 98] 0) = (300, [2, 97, 98], 0) := by decide
theorem text5 : (rText [2, 97, 98] 0 5) = ([97, 98], [], 0) := by decide

theorem lives_ret {w : World} : Ret Try.prog 10 [] w fun v w' => v = .bool true ∧ Mv No w w' := by
  refine F_enter Try.func10 Try.ntmps10 rfl rfl ?_
  refine C_seq ?_
  refine C_region ?_
  refine L (S (P_assign rfl) ?_)
  refine L_nil ?_
  refine then_n ?_
  refine C_seq ?_
  refine C_region ?_
  refine L (S_buildSliceN (l := [.const (.int .u8 172), .const (.int .u8 2), .const (.int .u8 2), .const (.int .u8 97), .const (.int .u8 98)]) Try.underlying23 ti_5 rfl (by simp [Value.oneCell']) rfl (by decide) (by decide) ?_)
  rintro b1 w1 hb1 hm1 hn1
  refine L (S_call cb_12 rfl (read_ret [172, 2, 2, 97, 98] (.inr ⟨b1, 0, rfl, hb1.row⟩) (by simp)) ?_)
  rintro _ w2 ⟨g, rfl, hR, hm2⟩
  refine L (S (P_assign rfl) ?_)
  refine L_nil ?_
  refine then_n ?_
  refine C_seq ?_
  have hm02 : Mv No w w2 := hm1.no hm2
  have hold : w.heap.size ≤ g := Nat.le_trans hm1.size hR.lo
  refine C_region ?_
  refine L (S_call cb_11 rfl (num_ret 300 (by omega) _) ?_)
  rintro v3 w3 ⟨ho3, hm3⟩
  obtain ⟨A3, cap3, rfl, hs3, hc1, hc2, hc3⟩ := own_reads ho3
  rw [hundred] at hs3 ⊢
  have hR3 := hR.no hm3
  have H13 := rnum_ret hR3
  rw [nums5] at H13
  dsimp only at H13
  refine L (S_bytesStr Try.underlying23 Try.underlying5 Try.underlying9 rfl (l := [172, 2]) hs3 rfl ?_)
  refine L (S (P_eqT rfl rfl (decide_eq_true rfl)) ?_)
  refine L (S (P_move rfl) ?_)
  refine L_yes (j := 3) (dj := 7) (b := true) (S (P_move rfl) ?_) rfl
  refine L_yes (j := 3) (dj := 7) (b := true) (S (P_neNil Try.underlying26 rfl rfl rfl) ?_) rfl
  refine L (S (P_pickT rfl rfl) ?_)
  refine L (S (P_move rfl) ?_)
  refine L_yes (j := 7) (dj := 11) (b := true) (S (P_move rfl) ?_) rfl
  refine L_yes (j := 7) (dj := 11) (b := true) (S_call cb_14 rfl (H13) ?_) rfl
  rintro _ w4 ⟨rfl, hR4, hm4⟩
  refine L_yes (j := 7) (dj := 11) (b := true) (S (P_eq rfl rfl (decide_eq_true (by decide))) ?_) rfl
  refine L (S (P_pickT rfl rfl) ?_)
  refine L (S (P_move rfl) ?_)
  refine L_yes (j := 12) (dj := 16) (b := true) (S (P_move rfl) ?_) rfl
  refine L_yes (j := 12) (dj := 16) (b := true) (S_call cb_18 rfl ((by have := rtext_ret 5 (by omega) (by omega) hR4; rw [text5] at this; exact this)) ?_) rfl
  rintro _ w5 ⟨rfl, hR5, hm5⟩
  refine L_yes (j := 12) (dj := 16) (b := true) (S (P_eqT rfl rfl (decide_eq_true rfl)) ?_) rfl
  refine L (S (P_pickT rfl rfl) ?_)
  refine L (S (P_move rfl) ?_)
  refine L_yes (j := 17) (dj := 21) (b := true) (S (P_move rfl) ?_) rfl
  refine L_yes (j := 17) (dj := 21) (b := true) (S_call cb_15 rfl (rleft_ret hR5) ?_) rfl
  rintro _ _ ⟨rfl, rfl⟩
  refine L_yes (j := 17) (dj := 21) (b := true) (S (P_eq rfl rfl (decide_eq_true (by decide))) ?_) rfl
  refine L (S (P_pickT rfl rfl) ?_)
  refine L (S (P_move rfl) ?_)
  refine L_yes (j := 22) (dj := 26) (b := true) (S (P_move rfl) ?_) rfl
  refine L_yes (j := 22) (dj := 26) (b := true) (S_call cb_20 rfl (rend_ret hR5) ?_) rfl
  rintro _ w6 ⟨rfl, hR6, hm6⟩
  refine L_yes (j := 22) (dj := 26) (b := true) (S (P_eq rfl rfl (decide_eq_true (by decide))) ?_) rfl
  refine L (S (P_pickT rfl rfl) ?_)
  refine L (S (P_assign rfl) ?_)
  refine L_nil ?_
  refine then_n ?_
  refine C_ret ?_
  refine F_ret1 Try.results10 rfl ?_
  have hg : w.heap.size ≤ g := hold
  exact ⟨rfl, (((hm02.no hm3).new hm4 hg).new hm5 hg).new hm6 hg⟩

end Go.Proofs.Ytgicoidmjfhnbaa
