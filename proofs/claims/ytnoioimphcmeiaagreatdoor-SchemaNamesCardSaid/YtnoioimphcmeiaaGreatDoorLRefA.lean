/- The document's reader of words: kinds, digits, numbers, texts. -/
import Derived.Test.YtnoioimphcmeiaaGreatDoorLRefKw
import Derived.Test.YtnoioimphcmeiaaGreatDoorLLex
namespace Go.Proofs.YtnoioimphcmeiaaGreatDoor
open Go.RowKit
set_option maxRecDepth 20000

def kdN (c : Nat) : Nat := if letN c = true then 1 else if digN c = true then 2 else if blN c = true then 3 else 0
theorem spanB_drop {p : Nat → Bool} {l : List UInt8} {i : Nat} {c : UInt8} (h : l[i]? = some c) : spanB p (l.drop i) = if p c.toNat = true then spanB p (l.drop (i + 1)) + 1 else 0 := by
  obtain ⟨hlt, he⟩ := List.getElem?_eq_some_iff.1 h
  rw [List.drop_eq_getElem_cons hlt, he]
  rfl
theorem spanB_end {p : Nat → Bool} {l : List UInt8} {i : Nat} (h : l.length ≤ i) : spanB p (l.drop i) = 0 := by
  rw [List.drop_eq_nil_of_le h]; rfl
theorem cut_str {l : List UInt8} {i j : Nat} : (str l).extract i j = str ((l.drop i).take (j - i)) := by
  rw [str_cut, List.drop_take]

section
variable {w : World}
theorem kind_ret (c : UInt8) : Ret Tryz.prog 65 [bv c] w fun v w' => v = .int .i64 (kdN c.toNat : Int) ∧ w = w' := by
  have hcl := c.toNat_lt
  have hA : (c.toNat = 95 ∨ (97 ≤ c.toNat ∧ c.toNat ≤ 122) ∨ (65 ≤ c.toNat ∧ c.toNat ≤ 90)) → kdN c.toNat = 1 := fun h => by unfold kdN; rw [if_pos (show letN c.toNat = true from decide_eq_true h)]
  have hB : ¬ (c.toNat = 95 ∨ (97 ≤ c.toNat ∧ c.toNat ≤ 122) ∨ (65 ≤ c.toNat ∧ c.toNat ≤ 90)) → (48 ≤ c.toNat ∧ c.toNat ≤ 57) → kdN c.toNat = 2 := fun h h2 => by unfold kdN letN digN; rw [decide_eq_false h, decide_eq_true h2]; rfl
  have hC : ¬ (c.toNat = 95 ∨ (97 ≤ c.toNat ∧ c.toNat ≤ 122) ∨ (65 ≤ c.toNat ∧ c.toNat ≤ 90)) → ¬ (48 ≤ c.toNat ∧ c.toNat ≤ 57) → (c.toNat = 32 ∨ c.toNat = 9 ∨ c.toNat = 10 ∨ c.toNat = 13) → kdN c.toNat = 3 := fun h h2 h3 => by unfold kdN letN digN blN; rw [decide_eq_false h, decide_eq_false h2, decide_eq_true h3]; rfl
  have hD : ¬ (c.toNat = 95 ∨ (97 ≤ c.toNat ∧ c.toNat ≤ 122) ∨ (65 ≤ c.toNat ∧ c.toNat ≤ 90)) → ¬ (48 ≤ c.toNat ∧ c.toNat ≤ 57) → ¬ (c.toNat = 32 ∨ c.toNat = 9 ∨ c.toNat = 10 ∨ c.toNat = 13) → kdN c.toNat = 0 := fun h h2 h3 => by unfold kdN letN digN blN; rw [decide_eq_false h, decide_eq_false h2, decide_eq_false h3]; rfl
  refine F_enter Tryz.func65 Tryz.ntmps65 rfl rfl ?_
  by_cases h1 : c.toNat = 95
  · rw [hA (by omega)]
    refine C_seq ?_
    refine C_region ?_
    refine L (S (P_assign rfl) ?_)
    refine L_nil ?_
    refine then_n ?_
    refine C_seq ?_
    refine C_block ?_
    refine C_seq ?_
    refine C_region ?_
    refine L (S (P_move rfl) ?_)
    refine L (S (P_eq rfl rfl (decide_eq_true (by omega))) ?_)
    refine L (S (P_move rfl) ?_)
    refine L_no (j := 2) (dj := 6) (b := false) (b' := true) (d := 7) rfl ?_
    refine L_no (j := 2) (dj := 6) (b := false) (b' := true) (d := 8) rfl ?_
    refine L_no (j := 2) (dj := 6) (b := false) (b' := true) (d := 9) rfl ?_
    refine L_nou (j := 5) (dj := 9) (b := true) (d := 10) rfl ?_
    refine L_nou (j := 5) (dj := 9) (b := true) (d := 11) rfl ?_
    refine L_no (j := 2) (dj := 6) (b := false) (b' := true) (d := 12) rfl ?_
    refine L (S (P_pickT rfl rfl) ?_)
    refine L (S (P_move rfl) ?_)
    refine L_no (j := 10) (dj := 14) (b := false) (b' := true) (d := 15) rfl ?_
    refine L_no (j := 10) (dj := 14) (b := false) (b' := true) (d := 16) rfl ?_
    refine L_no (j := 10) (dj := 14) (b := false) (b' := true) (d := 17) rfl ?_
    refine L_nou (j := 13) (dj := 17) (b := true) (d := 18) rfl ?_
    refine L_nou (j := 13) (dj := 17) (b := true) (d := 19) rfl ?_
    refine L_no (j := 10) (dj := 14) (b := false) (b' := true) (d := 20) rfl ?_
    refine L (S (P_pickT rfl rfl) ?_)
    refine L (S (P_assign rfl) ?_)
    refine L_nil ?_
    refine then_n ?_
    refine C_true rfl ?_
    refine C_seq ?_
    refine C_region ?_
    refine L (S (P_assign rfl) ?_)
    refine L_nil ?_
    refine then_n ?_
    refine C_ret ?_
    refine blk_r ?_
    refine then_r ?_
    refine F_ret1 Tryz.results65 rfl ?_
    exact ⟨rfl, rfl⟩
  by_cases h2 : 97 ≤ c.toNat
  · by_cases h3 : c.toNat ≤ 122
    · rw [hA (by omega)]
      refine C_seq ?_
      refine C_region ?_
      refine L (S (P_assign rfl) ?_)
      refine L_nil ?_
      refine then_n ?_
      refine C_seq ?_
      refine C_block ?_
      refine C_seq ?_
      refine C_region ?_
      refine L (S (P_move rfl) ?_)
      refine L (S (P_eq rfl rfl (decide_eq_false (by omega))) ?_)
      refine L (S (P_move rfl) ?_)
      refine L_yes (j := 2) (dj := 6) (b := false) (S (P_move rfl) ?_) rfl
      refine L_yes (j := 2) (dj := 6) (b := false) (S (P_ge rfl rfl (decide_eq_true (by omega))) ?_) rfl
      refine L_yes (j := 2) (dj := 6) (b := false) (S (P_move rfl) ?_) rfl
      refine L_yes (j := 5) (dj := 9) (b := true) (S (P_move rfl) ?_) rfl
      refine L_yes (j := 5) (dj := 9) (b := true) (S (P_le rfl rfl (decide_eq_true (by omega))) ?_) rfl
      refine L_yes (j := 2) (dj := 6) (b := false) (S (P_pickT rfl rfl) ?_) rfl
      refine L (S (P_pickF rfl rfl) ?_)
      refine L (S (P_move rfl) ?_)
      refine L_no (j := 10) (dj := 14) (b := false) (b' := true) (d := 15) rfl ?_
      refine L_no (j := 10) (dj := 14) (b := false) (b' := true) (d := 16) rfl ?_
      refine L_no (j := 10) (dj := 14) (b := false) (b' := true) (d := 17) rfl ?_
      refine L_nou (j := 13) (dj := 17) (b := true) (d := 18) rfl ?_
      refine L_nou (j := 13) (dj := 17) (b := true) (d := 19) rfl ?_
      refine L_no (j := 10) (dj := 14) (b := false) (b' := true) (d := 20) rfl ?_
      refine L (S (P_pickT rfl rfl) ?_)
      refine L (S (P_assign rfl) ?_)
      refine L_nil ?_
      refine then_n ?_
      refine C_true rfl ?_
      refine C_seq ?_
      refine C_region ?_
      refine L (S (P_assign rfl) ?_)
      refine L_nil ?_
      refine then_n ?_
      refine C_ret ?_
      refine blk_r ?_
      refine then_r ?_
      refine F_ret1 Tryz.results65 rfl ?_
      exact ⟨rfl, rfl⟩
    · rw [hD (by omega) (by omega) (by omega)]
      refine C_seq ?_
      refine C_region ?_
      refine L (S (P_assign rfl) ?_)
      refine L_nil ?_
      refine then_n ?_
      refine C_seq ?_
      refine C_block ?_
      refine C_seq ?_
      refine C_region ?_
      refine L (S (P_move rfl) ?_)
      refine L (S (P_eq rfl rfl (decide_eq_false (by omega))) ?_)
      refine L (S (P_move rfl) ?_)
      refine L_yes (j := 2) (dj := 6) (b := false) (S (P_move rfl) ?_) rfl
      refine L_yes (j := 2) (dj := 6) (b := false) (S (P_ge rfl rfl (decide_eq_true (by omega))) ?_) rfl
      refine L_yes (j := 2) (dj := 6) (b := false) (S (P_move rfl) ?_) rfl
      refine L_yes (j := 5) (dj := 9) (b := true) (S (P_move rfl) ?_) rfl
      refine L_yes (j := 5) (dj := 9) (b := true) (S (P_le rfl rfl (decide_eq_false (by omega))) ?_) rfl
      refine L_yes (j := 2) (dj := 6) (b := false) (S (P_pickT rfl rfl) ?_) rfl
      refine L (S (P_pickF rfl rfl) ?_)
      refine L (S (P_move rfl) ?_)
      refine L_yes (j := 10) (dj := 14) (b := false) (S (P_move rfl) ?_) rfl
      refine L_yes (j := 10) (dj := 14) (b := false) (S (P_ge rfl rfl (decide_eq_true (by omega))) ?_) rfl
      refine L_yes (j := 10) (dj := 14) (b := false) (S (P_move rfl) ?_) rfl
      refine L_yes (j := 13) (dj := 17) (b := true) (S (P_move rfl) ?_) rfl
      refine L_yes (j := 13) (dj := 17) (b := true) (S (P_le rfl rfl (decide_eq_false (by omega))) ?_) rfl
      refine L_yes (j := 10) (dj := 14) (b := false) (S (P_pickT rfl rfl) ?_) rfl
      refine L (S (P_pickF rfl rfl) ?_)
      refine L (S (P_assign rfl) ?_)
      refine L_nil ?_
      refine then_n ?_
      refine C_false rfl ?_
      refine C_seq ?_
      refine C_region ?_
      refine L (S (P_move rfl) ?_)
      refine L (S (P_ge rfl rfl (decide_eq_true (by omega))) ?_)
      refine L (S (P_move rfl) ?_)
      refine L_yes (j := 2) (dj := 25) (b := true) (S (P_move rfl) ?_) rfl
      refine L_yes (j := 2) (dj := 25) (b := true) (S (P_le rfl rfl (decide_eq_false (by omega))) ?_) rfl
      refine L (S (P_pickT rfl rfl) ?_)
      refine L (S (P_assign rfl) ?_)
      refine L_nil ?_
      refine then_n ?_
      refine C_false rfl ?_
      refine C_seq ?_
      refine C_region ?_
      refine L (S (P_move rfl) ?_)
      refine L (S (P_eq rfl rfl (decide_eq_false (by omega))) ?_)
      refine L (S (P_move rfl) ?_)
      refine L_yes (j := 2) (dj := 32) (b := false) (S (P_move rfl) ?_) rfl
      refine L_yes (j := 2) (dj := 32) (b := false) (S (P_eq rfl rfl (decide_eq_false (by omega))) ?_) rfl
      refine L (S (P_pickF rfl rfl) ?_)
      refine L (S (P_move rfl) ?_)
      refine L_yes (j := 6) (dj := 36) (b := false) (S (P_move rfl) ?_) rfl
      refine L_yes (j := 6) (dj := 36) (b := false) (S (P_eq rfl rfl (decide_eq_false (by omega))) ?_) rfl
      refine L (S (P_pickF rfl rfl) ?_)
      refine L (S (P_move rfl) ?_)
      refine L_yes (j := 10) (dj := 40) (b := false) (S (P_move rfl) ?_) rfl
      refine L_yes (j := 10) (dj := 40) (b := false) (S (P_eq rfl rfl (decide_eq_false (by omega))) ?_) rfl
      refine L (S (P_pickF rfl rfl) ?_)
      refine L (S (P_assign rfl) ?_)
      refine L_nil ?_
      refine then_n ?_
      refine C_false rfl ?_
      refine C_skip ?_
      refine blk_n ?_
      refine then_n ?_
      refine C_seq ?_
      refine C_region ?_
      refine L (S (P_assign rfl) ?_)
      refine L_nil ?_
      refine then_n ?_
      refine C_ret ?_
      refine F_ret1 Tryz.results65 rfl ?_
      exact ⟨rfl, rfl⟩
  by_cases h4 : 65 ≤ c.toNat
  · by_cases h5 : c.toNat ≤ 90
    · rw [hA (by omega)]
      refine C_seq ?_
      refine C_region ?_
      refine L (S (P_assign rfl) ?_)
      refine L_nil ?_
      refine then_n ?_
      refine C_seq ?_
      refine C_block ?_
      refine C_seq ?_
      refine C_region ?_
      refine L (S (P_move rfl) ?_)
      refine L (S (P_eq rfl rfl (decide_eq_false (by omega))) ?_)
      refine L (S (P_move rfl) ?_)
      refine L_yes (j := 2) (dj := 6) (b := false) (S (P_move rfl) ?_) rfl
      refine L_yes (j := 2) (dj := 6) (b := false) (S (P_ge rfl rfl (decide_eq_false (by omega))) ?_) rfl
      refine L_yes (j := 2) (dj := 6) (b := false) (S (P_move rfl) ?_) rfl
      refine L_no (j := 5) (dj := 9) (b := true) (b' := false) (d := 10) rfl ?_
      refine L_no (j := 5) (dj := 9) (b := true) (b' := false) (d := 11) rfl ?_
      refine L_yes (j := 2) (dj := 6) (b := false) (S (P_pickF rfl rfl) ?_) rfl
      refine L (S (P_pickF rfl rfl) ?_)
      refine L (S (P_move rfl) ?_)
      refine L_yes (j := 10) (dj := 14) (b := false) (S (P_move rfl) ?_) rfl
      refine L_yes (j := 10) (dj := 14) (b := false) (S (P_ge rfl rfl (decide_eq_true (by omega))) ?_) rfl
      refine L_yes (j := 10) (dj := 14) (b := false) (S (P_move rfl) ?_) rfl
      refine L_yes (j := 13) (dj := 17) (b := true) (S (P_move rfl) ?_) rfl
      refine L_yes (j := 13) (dj := 17) (b := true) (S (P_le rfl rfl (decide_eq_true (by omega))) ?_) rfl
      refine L_yes (j := 10) (dj := 14) (b := false) (S (P_pickT rfl rfl) ?_) rfl
      refine L (S (P_pickF rfl rfl) ?_)
      refine L (S (P_assign rfl) ?_)
      refine L_nil ?_
      refine then_n ?_
      refine C_true rfl ?_
      refine C_seq ?_
      refine C_region ?_
      refine L (S (P_assign rfl) ?_)
      refine L_nil ?_
      refine then_n ?_
      refine C_ret ?_
      refine blk_r ?_
      refine then_r ?_
      refine F_ret1 Tryz.results65 rfl ?_
      exact ⟨rfl, rfl⟩
    · rw [hD (by omega) (by omega) (by omega)]
      refine C_seq ?_
      refine C_region ?_
      refine L (S (P_assign rfl) ?_)
      refine L_nil ?_
      refine then_n ?_
      refine C_seq ?_
      refine C_block ?_
      refine C_seq ?_
      refine C_region ?_
      refine L (S (P_move rfl) ?_)
      refine L (S (P_eq rfl rfl (decide_eq_false (by omega))) ?_)
      refine L (S (P_move rfl) ?_)
      refine L_yes (j := 2) (dj := 6) (b := false) (S (P_move rfl) ?_) rfl
      refine L_yes (j := 2) (dj := 6) (b := false) (S (P_ge rfl rfl (decide_eq_false (by omega))) ?_) rfl
      refine L_yes (j := 2) (dj := 6) (b := false) (S (P_move rfl) ?_) rfl
      refine L_no (j := 5) (dj := 9) (b := true) (b' := false) (d := 10) rfl ?_
      refine L_no (j := 5) (dj := 9) (b := true) (b' := false) (d := 11) rfl ?_
      refine L_yes (j := 2) (dj := 6) (b := false) (S (P_pickF rfl rfl) ?_) rfl
      refine L (S (P_pickF rfl rfl) ?_)
      refine L (S (P_move rfl) ?_)
      refine L_yes (j := 10) (dj := 14) (b := false) (S (P_move rfl) ?_) rfl
      refine L_yes (j := 10) (dj := 14) (b := false) (S (P_ge rfl rfl (decide_eq_true (by omega))) ?_) rfl
      refine L_yes (j := 10) (dj := 14) (b := false) (S (P_move rfl) ?_) rfl
      refine L_yes (j := 13) (dj := 17) (b := true) (S (P_move rfl) ?_) rfl
      refine L_yes (j := 13) (dj := 17) (b := true) (S (P_le rfl rfl (decide_eq_false (by omega))) ?_) rfl
      refine L_yes (j := 10) (dj := 14) (b := false) (S (P_pickT rfl rfl) ?_) rfl
      refine L (S (P_pickF rfl rfl) ?_)
      refine L (S (P_assign rfl) ?_)
      refine L_nil ?_
      refine then_n ?_
      refine C_false rfl ?_
      refine C_seq ?_
      refine C_region ?_
      refine L (S (P_move rfl) ?_)
      refine L (S (P_ge rfl rfl (decide_eq_true (by omega))) ?_)
      refine L (S (P_move rfl) ?_)
      refine L_yes (j := 2) (dj := 25) (b := true) (S (P_move rfl) ?_) rfl
      refine L_yes (j := 2) (dj := 25) (b := true) (S (P_le rfl rfl (decide_eq_false (by omega))) ?_) rfl
      refine L (S (P_pickT rfl rfl) ?_)
      refine L (S (P_assign rfl) ?_)
      refine L_nil ?_
      refine then_n ?_
      refine C_false rfl ?_
      refine C_seq ?_
      refine C_region ?_
      refine L (S (P_move rfl) ?_)
      refine L (S (P_eq rfl rfl (decide_eq_false (by omega))) ?_)
      refine L (S (P_move rfl) ?_)
      refine L_yes (j := 2) (dj := 32) (b := false) (S (P_move rfl) ?_) rfl
      refine L_yes (j := 2) (dj := 32) (b := false) (S (P_eq rfl rfl (decide_eq_false (by omega))) ?_) rfl
      refine L (S (P_pickF rfl rfl) ?_)
      refine L (S (P_move rfl) ?_)
      refine L_yes (j := 6) (dj := 36) (b := false) (S (P_move rfl) ?_) rfl
      refine L_yes (j := 6) (dj := 36) (b := false) (S (P_eq rfl rfl (decide_eq_false (by omega))) ?_) rfl
      refine L (S (P_pickF rfl rfl) ?_)
      refine L (S (P_move rfl) ?_)
      refine L_yes (j := 10) (dj := 40) (b := false) (S (P_move rfl) ?_) rfl
      refine L_yes (j := 10) (dj := 40) (b := false) (S (P_eq rfl rfl (decide_eq_false (by omega))) ?_) rfl
      refine L (S (P_pickF rfl rfl) ?_)
      refine L (S (P_assign rfl) ?_)
      refine L_nil ?_
      refine then_n ?_
      refine C_false rfl ?_
      refine C_skip ?_
      refine blk_n ?_
      refine then_n ?_
      refine C_seq ?_
      refine C_region ?_
      refine L (S (P_assign rfl) ?_)
      refine L_nil ?_
      refine then_n ?_
      refine C_ret ?_
      refine F_ret1 Tryz.results65 rfl ?_
      exact ⟨rfl, rfl⟩
  by_cases h6 : 48 ≤ c.toNat
  · by_cases h7 : c.toNat ≤ 57
    · rw [hB (by omega) (by omega)]
      refine C_seq ?_
      refine C_region ?_
      refine L (S (P_assign rfl) ?_)
      refine L_nil ?_
      refine then_n ?_
      refine C_seq ?_
      refine C_block ?_
      refine C_seq ?_
      refine C_region ?_
      refine L (S (P_move rfl) ?_)
      refine L (S (P_eq rfl rfl (decide_eq_false (by omega))) ?_)
      refine L (S (P_move rfl) ?_)
      refine L_yes (j := 2) (dj := 6) (b := false) (S (P_move rfl) ?_) rfl
      refine L_yes (j := 2) (dj := 6) (b := false) (S (P_ge rfl rfl (decide_eq_false (by omega))) ?_) rfl
      refine L_yes (j := 2) (dj := 6) (b := false) (S (P_move rfl) ?_) rfl
      refine L_no (j := 5) (dj := 9) (b := true) (b' := false) (d := 10) rfl ?_
      refine L_no (j := 5) (dj := 9) (b := true) (b' := false) (d := 11) rfl ?_
      refine L_yes (j := 2) (dj := 6) (b := false) (S (P_pickF rfl rfl) ?_) rfl
      refine L (S (P_pickF rfl rfl) ?_)
      refine L (S (P_move rfl) ?_)
      refine L_yes (j := 10) (dj := 14) (b := false) (S (P_move rfl) ?_) rfl
      refine L_yes (j := 10) (dj := 14) (b := false) (S (P_ge rfl rfl (decide_eq_false (by omega))) ?_) rfl
      refine L_yes (j := 10) (dj := 14) (b := false) (S (P_move rfl) ?_) rfl
      refine L_no (j := 13) (dj := 17) (b := true) (b' := false) (d := 18) rfl ?_
      refine L_no (j := 13) (dj := 17) (b := true) (b' := false) (d := 19) rfl ?_
      refine L_yes (j := 10) (dj := 14) (b := false) (S (P_pickF rfl rfl) ?_) rfl
      refine L (S (P_pickF rfl rfl) ?_)
      refine L (S (P_assign rfl) ?_)
      refine L_nil ?_
      refine then_n ?_
      refine C_false rfl ?_
      refine C_seq ?_
      refine C_region ?_
      refine L (S (P_move rfl) ?_)
      refine L (S (P_ge rfl rfl (decide_eq_true (by omega))) ?_)
      refine L (S (P_move rfl) ?_)
      refine L_yes (j := 2) (dj := 25) (b := true) (S (P_move rfl) ?_) rfl
      refine L_yes (j := 2) (dj := 25) (b := true) (S (P_le rfl rfl (decide_eq_true (by omega))) ?_) rfl
      refine L (S (P_pickT rfl rfl) ?_)
      refine L (S (P_assign rfl) ?_)
      refine L_nil ?_
      refine then_n ?_
      refine C_true rfl ?_
      refine C_seq ?_
      refine C_region ?_
      refine L (S (P_assign rfl) ?_)
      refine L_nil ?_
      refine then_n ?_
      refine C_ret ?_
      refine blk_r ?_
      refine then_r ?_
      refine F_ret1 Tryz.results65 rfl ?_
      exact ⟨rfl, rfl⟩
    · rw [hD (by omega) (by omega) (by omega)]
      refine C_seq ?_
      refine C_region ?_
      refine L (S (P_assign rfl) ?_)
      refine L_nil ?_
      refine then_n ?_
      refine C_seq ?_
      refine C_block ?_
      refine C_seq ?_
      refine C_region ?_
      refine L (S (P_move rfl) ?_)
      refine L (S (P_eq rfl rfl (decide_eq_false (by omega))) ?_)
      refine L (S (P_move rfl) ?_)
      refine L_yes (j := 2) (dj := 6) (b := false) (S (P_move rfl) ?_) rfl
      refine L_yes (j := 2) (dj := 6) (b := false) (S (P_ge rfl rfl (decide_eq_false (by omega))) ?_) rfl
      refine L_yes (j := 2) (dj := 6) (b := false) (S (P_move rfl) ?_) rfl
      refine L_no (j := 5) (dj := 9) (b := true) (b' := false) (d := 10) rfl ?_
      refine L_no (j := 5) (dj := 9) (b := true) (b' := false) (d := 11) rfl ?_
      refine L_yes (j := 2) (dj := 6) (b := false) (S (P_pickF rfl rfl) ?_) rfl
      refine L (S (P_pickF rfl rfl) ?_)
      refine L (S (P_move rfl) ?_)
      refine L_yes (j := 10) (dj := 14) (b := false) (S (P_move rfl) ?_) rfl
      refine L_yes (j := 10) (dj := 14) (b := false) (S (P_ge rfl rfl (decide_eq_false (by omega))) ?_) rfl
      refine L_yes (j := 10) (dj := 14) (b := false) (S (P_move rfl) ?_) rfl
      refine L_no (j := 13) (dj := 17) (b := true) (b' := false) (d := 18) rfl ?_
      refine L_no (j := 13) (dj := 17) (b := true) (b' := false) (d := 19) rfl ?_
      refine L_yes (j := 10) (dj := 14) (b := false) (S (P_pickF rfl rfl) ?_) rfl
      refine L (S (P_pickF rfl rfl) ?_)
      refine L (S (P_assign rfl) ?_)
      refine L_nil ?_
      refine then_n ?_
      refine C_false rfl ?_
      refine C_seq ?_
      refine C_region ?_
      refine L (S (P_move rfl) ?_)
      refine L (S (P_ge rfl rfl (decide_eq_true (by omega))) ?_)
      refine L (S (P_move rfl) ?_)
      refine L_yes (j := 2) (dj := 25) (b := true) (S (P_move rfl) ?_) rfl
      refine L_yes (j := 2) (dj := 25) (b := true) (S (P_le rfl rfl (decide_eq_false (by omega))) ?_) rfl
      refine L (S (P_pickT rfl rfl) ?_)
      refine L (S (P_assign rfl) ?_)
      refine L_nil ?_
      refine then_n ?_
      refine C_false rfl ?_
      refine C_seq ?_
      refine C_region ?_
      refine L (S (P_move rfl) ?_)
      refine L (S (P_eq rfl rfl (decide_eq_false (by omega))) ?_)
      refine L (S (P_move rfl) ?_)
      refine L_yes (j := 2) (dj := 32) (b := false) (S (P_move rfl) ?_) rfl
      refine L_yes (j := 2) (dj := 32) (b := false) (S (P_eq rfl rfl (decide_eq_false (by omega))) ?_) rfl
      refine L (S (P_pickF rfl rfl) ?_)
      refine L (S (P_move rfl) ?_)
      refine L_yes (j := 6) (dj := 36) (b := false) (S (P_move rfl) ?_) rfl
      refine L_yes (j := 6) (dj := 36) (b := false) (S (P_eq rfl rfl (decide_eq_false (by omega))) ?_) rfl
      refine L (S (P_pickF rfl rfl) ?_)
      refine L (S (P_move rfl) ?_)
      refine L_yes (j := 10) (dj := 40) (b := false) (S (P_move rfl) ?_) rfl
      refine L_yes (j := 10) (dj := 40) (b := false) (S (P_eq rfl rfl (decide_eq_false (by omega))) ?_) rfl
      refine L (S (P_pickF rfl rfl) ?_)
      refine L (S (P_assign rfl) ?_)
      refine L_nil ?_
      refine then_n ?_
      refine C_false rfl ?_
      refine C_skip ?_
      refine blk_n ?_
      refine then_n ?_
      refine C_seq ?_
      refine C_region ?_
      refine L (S (P_assign rfl) ?_)
      refine L_nil ?_
      refine then_n ?_
      refine C_ret ?_
      refine F_ret1 Tryz.results65 rfl ?_
      exact ⟨rfl, rfl⟩
  by_cases h8 : c.toNat = 32
  · rw [hC (by omega) (by omega) (by omega)]
    refine C_seq ?_
    refine C_region ?_
    refine L (S (P_assign rfl) ?_)
    refine L_nil ?_
    refine then_n ?_
    refine C_seq ?_
    refine C_block ?_
    refine C_seq ?_
    refine C_region ?_
    refine L (S (P_move rfl) ?_)
    refine L (S (P_eq rfl rfl (decide_eq_false (by omega))) ?_)
    refine L (S (P_move rfl) ?_)
    refine L_yes (j := 2) (dj := 6) (b := false) (S (P_move rfl) ?_) rfl
    refine L_yes (j := 2) (dj := 6) (b := false) (S (P_ge rfl rfl (decide_eq_false (by omega))) ?_) rfl
    refine L_yes (j := 2) (dj := 6) (b := false) (S (P_move rfl) ?_) rfl
    refine L_no (j := 5) (dj := 9) (b := true) (b' := false) (d := 10) rfl ?_
    refine L_no (j := 5) (dj := 9) (b := true) (b' := false) (d := 11) rfl ?_
    refine L_yes (j := 2) (dj := 6) (b := false) (S (P_pickF rfl rfl) ?_) rfl
    refine L (S (P_pickF rfl rfl) ?_)
    refine L (S (P_move rfl) ?_)
    refine L_yes (j := 10) (dj := 14) (b := false) (S (P_move rfl) ?_) rfl
    refine L_yes (j := 10) (dj := 14) (b := false) (S (P_ge rfl rfl (decide_eq_false (by omega))) ?_) rfl
    refine L_yes (j := 10) (dj := 14) (b := false) (S (P_move rfl) ?_) rfl
    refine L_no (j := 13) (dj := 17) (b := true) (b' := false) (d := 18) rfl ?_
    refine L_no (j := 13) (dj := 17) (b := true) (b' := false) (d := 19) rfl ?_
    refine L_yes (j := 10) (dj := 14) (b := false) (S (P_pickF rfl rfl) ?_) rfl
    refine L (S (P_pickF rfl rfl) ?_)
    refine L (S (P_assign rfl) ?_)
    refine L_nil ?_
    refine then_n ?_
    refine C_false rfl ?_
    refine C_seq ?_
    refine C_region ?_
    refine L (S (P_move rfl) ?_)
    refine L (S (P_ge rfl rfl (decide_eq_false (by omega))) ?_)
    refine L (S (P_move rfl) ?_)
    refine L_no (j := 2) (dj := 25) (b := true) (b' := false) (d := 26) rfl ?_
    refine L_no (j := 2) (dj := 25) (b := true) (b' := false) (d := 27) rfl ?_
    refine L (S (P_pickF rfl rfl) ?_)
    refine L (S (P_assign rfl) ?_)
    refine L_nil ?_
    refine then_n ?_
    refine C_false rfl ?_
    refine C_seq ?_
    refine C_region ?_
    refine L (S (P_move rfl) ?_)
    refine L (S (P_eq rfl rfl (decide_eq_true (by omega))) ?_)
    refine L (S (P_move rfl) ?_)
    refine L_no (j := 2) (dj := 32) (b := false) (b' := true) (d := 33) rfl ?_
    refine L_no (j := 2) (dj := 32) (b := false) (b' := true) (d := 34) rfl ?_
    refine L (S (P_pickT rfl rfl) ?_)
    refine L (S (P_move rfl) ?_)
    refine L_no (j := 6) (dj := 36) (b := false) (b' := true) (d := 37) rfl ?_
    refine L_no (j := 6) (dj := 36) (b := false) (b' := true) (d := 38) rfl ?_
    refine L (S (P_pickT rfl rfl) ?_)
    refine L (S (P_move rfl) ?_)
    refine L_no (j := 10) (dj := 40) (b := false) (b' := true) (d := 41) rfl ?_
    refine L_no (j := 10) (dj := 40) (b := false) (b' := true) (d := 42) rfl ?_
    refine L (S (P_pickT rfl rfl) ?_)
    refine L (S (P_assign rfl) ?_)
    refine L_nil ?_
    refine then_n ?_
    refine C_true rfl ?_
    refine C_seq ?_
    refine C_region ?_
    refine L (S (P_assign rfl) ?_)
    refine L_nil ?_
    refine then_n ?_
    refine C_ret ?_
    refine blk_r ?_
    refine then_r ?_
    refine F_ret1 Tryz.results65 rfl ?_
    exact ⟨rfl, rfl⟩
  by_cases h9 : c.toNat = 9
  · rw [hC (by omega) (by omega) (by omega)]
    refine C_seq ?_
    refine C_region ?_
    refine L (S (P_assign rfl) ?_)
    refine L_nil ?_
    refine then_n ?_
    refine C_seq ?_
    refine C_block ?_
    refine C_seq ?_
    refine C_region ?_
    refine L (S (P_move rfl) ?_)
    refine L (S (P_eq rfl rfl (decide_eq_false (by omega))) ?_)
    refine L (S (P_move rfl) ?_)
    refine L_yes (j := 2) (dj := 6) (b := false) (S (P_move rfl) ?_) rfl
    refine L_yes (j := 2) (dj := 6) (b := false) (S (P_ge rfl rfl (decide_eq_false (by omega))) ?_) rfl
    refine L_yes (j := 2) (dj := 6) (b := false) (S (P_move rfl) ?_) rfl
    refine L_no (j := 5) (dj := 9) (b := true) (b' := false) (d := 10) rfl ?_
    refine L_no (j := 5) (dj := 9) (b := true) (b' := false) (d := 11) rfl ?_
    refine L_yes (j := 2) (dj := 6) (b := false) (S (P_pickF rfl rfl) ?_) rfl
    refine L (S (P_pickF rfl rfl) ?_)
    refine L (S (P_move rfl) ?_)
    refine L_yes (j := 10) (dj := 14) (b := false) (S (P_move rfl) ?_) rfl
    refine L_yes (j := 10) (dj := 14) (b := false) (S (P_ge rfl rfl (decide_eq_false (by omega))) ?_) rfl
    refine L_yes (j := 10) (dj := 14) (b := false) (S (P_move rfl) ?_) rfl
    refine L_no (j := 13) (dj := 17) (b := true) (b' := false) (d := 18) rfl ?_
    refine L_no (j := 13) (dj := 17) (b := true) (b' := false) (d := 19) rfl ?_
    refine L_yes (j := 10) (dj := 14) (b := false) (S (P_pickF rfl rfl) ?_) rfl
    refine L (S (P_pickF rfl rfl) ?_)
    refine L (S (P_assign rfl) ?_)
    refine L_nil ?_
    refine then_n ?_
    refine C_false rfl ?_
    refine C_seq ?_
    refine C_region ?_
    refine L (S (P_move rfl) ?_)
    refine L (S (P_ge rfl rfl (decide_eq_false (by omega))) ?_)
    refine L (S (P_move rfl) ?_)
    refine L_no (j := 2) (dj := 25) (b := true) (b' := false) (d := 26) rfl ?_
    refine L_no (j := 2) (dj := 25) (b := true) (b' := false) (d := 27) rfl ?_
    refine L (S (P_pickF rfl rfl) ?_)
    refine L (S (P_assign rfl) ?_)
    refine L_nil ?_
    refine then_n ?_
    refine C_false rfl ?_
    refine C_seq ?_
    refine C_region ?_
    refine L (S (P_move rfl) ?_)
    refine L (S (P_eq rfl rfl (decide_eq_false (by omega))) ?_)
    refine L (S (P_move rfl) ?_)
    refine L_yes (j := 2) (dj := 32) (b := false) (S (P_move rfl) ?_) rfl
    refine L_yes (j := 2) (dj := 32) (b := false) (S (P_eq rfl rfl (decide_eq_true (by omega))) ?_) rfl
    refine L (S (P_pickF rfl rfl) ?_)
    refine L (S (P_move rfl) ?_)
    refine L_no (j := 6) (dj := 36) (b := false) (b' := true) (d := 37) rfl ?_
    refine L_no (j := 6) (dj := 36) (b := false) (b' := true) (d := 38) rfl ?_
    refine L (S (P_pickT rfl rfl) ?_)
    refine L (S (P_move rfl) ?_)
    refine L_no (j := 10) (dj := 40) (b := false) (b' := true) (d := 41) rfl ?_
    refine L_no (j := 10) (dj := 40) (b := false) (b' := true) (d := 42) rfl ?_
    refine L (S (P_pickT rfl rfl) ?_)
    refine L (S (P_assign rfl) ?_)
    refine L_nil ?_
    refine then_n ?_
    refine C_true rfl ?_
    refine C_seq ?_
    refine C_region ?_
    refine L (S (P_assign rfl) ?_)
    refine L_nil ?_
    refine then_n ?_
    refine C_ret ?_
    refine blk_r ?_
    refine then_r ?_
    refine F_ret1 Tryz.results65 rfl ?_
    exact ⟨rfl, rfl⟩
  by_cases h10 : c.toNat = 10
  · rw [hC (by omega) (by omega) (by omega)]
    refine C_seq ?_
    refine C_region ?_
    refine L (S (P_assign rfl) ?_)
    refine L_nil ?_
    refine then_n ?_
    refine C_seq ?_
    refine C_block ?_
    refine C_seq ?_
    refine C_region ?_
    refine L (S (P_move rfl) ?_)
    refine L (S (P_eq rfl rfl (decide_eq_false (by omega))) ?_)
    refine L (S (P_move rfl) ?_)
    refine L_yes (j := 2) (dj := 6) (b := false) (S (P_move rfl) ?_) rfl
    refine L_yes (j := 2) (dj := 6) (b := false) (S (P_ge rfl rfl (decide_eq_false (by omega))) ?_) rfl
    refine L_yes (j := 2) (dj := 6) (b := false) (S (P_move rfl) ?_) rfl
    refine L_no (j := 5) (dj := 9) (b := true) (b' := false) (d := 10) rfl ?_
    refine L_no (j := 5) (dj := 9) (b := true) (b' := false) (d := 11) rfl ?_
    refine L_yes (j := 2) (dj := 6) (b := false) (S (P_pickF rfl rfl) ?_) rfl
    refine L (S (P_pickF rfl rfl) ?_)
    refine L (S (P_move rfl) ?_)
    refine L_yes (j := 10) (dj := 14) (b := false) (S (P_move rfl) ?_) rfl
    refine L_yes (j := 10) (dj := 14) (b := false) (S (P_ge rfl rfl (decide_eq_false (by omega))) ?_) rfl
    refine L_yes (j := 10) (dj := 14) (b := false) (S (P_move rfl) ?_) rfl
    refine L_no (j := 13) (dj := 17) (b := true) (b' := false) (d := 18) rfl ?_
    refine L_no (j := 13) (dj := 17) (b := true) (b' := false) (d := 19) rfl ?_
    refine L_yes (j := 10) (dj := 14) (b := false) (S (P_pickF rfl rfl) ?_) rfl
    refine L (S (P_pickF rfl rfl) ?_)
    refine L (S (P_assign rfl) ?_)
    refine L_nil ?_
    refine then_n ?_
    refine C_false rfl ?_
    refine C_seq ?_
    refine C_region ?_
    refine L (S (P_move rfl) ?_)
    refine L (S (P_ge rfl rfl (decide_eq_false (by omega))) ?_)
    refine L (S (P_move rfl) ?_)
    refine L_no (j := 2) (dj := 25) (b := true) (b' := false) (d := 26) rfl ?_
    refine L_no (j := 2) (dj := 25) (b := true) (b' := false) (d := 27) rfl ?_
    refine L (S (P_pickF rfl rfl) ?_)
    refine L (S (P_assign rfl) ?_)
    refine L_nil ?_
    refine then_n ?_
    refine C_false rfl ?_
    refine C_seq ?_
    refine C_region ?_
    refine L (S (P_move rfl) ?_)
    refine L (S (P_eq rfl rfl (decide_eq_false (by omega))) ?_)
    refine L (S (P_move rfl) ?_)
    refine L_yes (j := 2) (dj := 32) (b := false) (S (P_move rfl) ?_) rfl
    refine L_yes (j := 2) (dj := 32) (b := false) (S (P_eq rfl rfl (decide_eq_false (by omega))) ?_) rfl
    refine L (S (P_pickF rfl rfl) ?_)
    refine L (S (P_move rfl) ?_)
    refine L_yes (j := 6) (dj := 36) (b := false) (S (P_move rfl) ?_) rfl
    refine L_yes (j := 6) (dj := 36) (b := false) (S (P_eq rfl rfl (decide_eq_true (by omega))) ?_) rfl
    refine L (S (P_pickF rfl rfl) ?_)
    refine L (S (P_move rfl) ?_)
    refine L_no (j := 10) (dj := 40) (b := false) (b' := true) (d := 41) rfl ?_
    refine L_no (j := 10) (dj := 40) (b := false) (b' := true) (d := 42) rfl ?_
    refine L (S (P_pickT rfl rfl) ?_)
    refine L (S (P_assign rfl) ?_)
    refine L_nil ?_
    refine then_n ?_
    refine C_true rfl ?_
    refine C_seq ?_
    refine C_region ?_
    refine L (S (P_assign rfl) ?_)
    refine L_nil ?_
    refine then_n ?_
    refine C_ret ?_
    refine blk_r ?_
    refine then_r ?_
    refine F_ret1 Tryz.results65 rfl ?_
    exact ⟨rfl, rfl⟩
  by_cases h13 : c.toNat = 13
  · rw [hC (by omega) (by omega) (by omega)]
    refine C_seq ?_
    refine C_region ?_
    refine L (S (P_assign rfl) ?_)
    refine L_nil ?_
    refine then_n ?_
    refine C_seq ?_
    refine C_block ?_
    refine C_seq ?_
    refine C_region ?_
    refine L (S (P_move rfl) ?_)
    refine L (S (P_eq rfl rfl (decide_eq_false (by omega))) ?_)
    refine L (S (P_move rfl) ?_)
    refine L_yes (j := 2) (dj := 6) (b := false) (S (P_move rfl) ?_) rfl
    refine L_yes (j := 2) (dj := 6) (b := false) (S (P_ge rfl rfl (decide_eq_false (by omega))) ?_) rfl
    refine L_yes (j := 2) (dj := 6) (b := false) (S (P_move rfl) ?_) rfl
    refine L_no (j := 5) (dj := 9) (b := true) (b' := false) (d := 10) rfl ?_
    refine L_no (j := 5) (dj := 9) (b := true) (b' := false) (d := 11) rfl ?_
    refine L_yes (j := 2) (dj := 6) (b := false) (S (P_pickF rfl rfl) ?_) rfl
    refine L (S (P_pickF rfl rfl) ?_)
    refine L (S (P_move rfl) ?_)
    refine L_yes (j := 10) (dj := 14) (b := false) (S (P_move rfl) ?_) rfl
    refine L_yes (j := 10) (dj := 14) (b := false) (S (P_ge rfl rfl (decide_eq_false (by omega))) ?_) rfl
    refine L_yes (j := 10) (dj := 14) (b := false) (S (P_move rfl) ?_) rfl
    refine L_no (j := 13) (dj := 17) (b := true) (b' := false) (d := 18) rfl ?_
    refine L_no (j := 13) (dj := 17) (b := true) (b' := false) (d := 19) rfl ?_
    refine L_yes (j := 10) (dj := 14) (b := false) (S (P_pickF rfl rfl) ?_) rfl
    refine L (S (P_pickF rfl rfl) ?_)
    refine L (S (P_assign rfl) ?_)
    refine L_nil ?_
    refine then_n ?_
    refine C_false rfl ?_
    refine C_seq ?_
    refine C_region ?_
    refine L (S (P_move rfl) ?_)
    refine L (S (P_ge rfl rfl (decide_eq_false (by omega))) ?_)
    refine L (S (P_move rfl) ?_)
    refine L_no (j := 2) (dj := 25) (b := true) (b' := false) (d := 26) rfl ?_
    refine L_no (j := 2) (dj := 25) (b := true) (b' := false) (d := 27) rfl ?_
    refine L (S (P_pickF rfl rfl) ?_)
    refine L (S (P_assign rfl) ?_)
    refine L_nil ?_
    refine then_n ?_
    refine C_false rfl ?_
    refine C_seq ?_
    refine C_region ?_
    refine L (S (P_move rfl) ?_)
    refine L (S (P_eq rfl rfl (decide_eq_false (by omega))) ?_)
    refine L (S (P_move rfl) ?_)
    refine L_yes (j := 2) (dj := 32) (b := false) (S (P_move rfl) ?_) rfl
    refine L_yes (j := 2) (dj := 32) (b := false) (S (P_eq rfl rfl (decide_eq_false (by omega))) ?_) rfl
    refine L (S (P_pickF rfl rfl) ?_)
    refine L (S (P_move rfl) ?_)
    refine L_yes (j := 6) (dj := 36) (b := false) (S (P_move rfl) ?_) rfl
    refine L_yes (j := 6) (dj := 36) (b := false) (S (P_eq rfl rfl (decide_eq_false (by omega))) ?_) rfl
    refine L (S (P_pickF rfl rfl) ?_)
    refine L (S (P_move rfl) ?_)
    refine L_yes (j := 10) (dj := 40) (b := false) (S (P_move rfl) ?_) rfl
    refine L_yes (j := 10) (dj := 40) (b := false) (S (P_eq rfl rfl (decide_eq_true (by omega))) ?_) rfl
    refine L (S (P_pickF rfl rfl) ?_)
    refine L (S (P_assign rfl) ?_)
    refine L_nil ?_
    refine then_n ?_
    refine C_true rfl ?_
    refine C_seq ?_
    refine C_region ?_
    refine L (S (P_assign rfl) ?_)
    refine L_nil ?_
    refine then_n ?_
    refine C_ret ?_
    refine blk_r ?_
    refine then_r ?_
    refine F_ret1 Tryz.results65 rfl ?_
    exact ⟨rfl, rfl⟩
  rw [hD (by omega) (by omega) (by omega)]
  refine C_seq ?_
  refine C_region ?_
  refine L (S (P_assign rfl) ?_)
  refine L_nil ?_
  refine then_n ?_
  refine C_seq ?_
  refine C_block ?_
  refine C_seq ?_
  refine C_region ?_
  refine L (S (P_move rfl) ?_)
  refine L (S (P_eq rfl rfl (decide_eq_false (by omega))) ?_)
  refine L (S (P_move rfl) ?_)
  refine L_yes (j := 2) (dj := 6) (b := false) (S (P_move rfl) ?_) rfl
  refine L_yes (j := 2) (dj := 6) (b := false) (S (P_ge rfl rfl (decide_eq_false (by omega))) ?_) rfl
  refine L_yes (j := 2) (dj := 6) (b := false) (S (P_move rfl) ?_) rfl
  refine L_no (j := 5) (dj := 9) (b := true) (b' := false) (d := 10) rfl ?_
  refine L_no (j := 5) (dj := 9) (b := true) (b' := false) (d := 11) rfl ?_
  refine L_yes (j := 2) (dj := 6) (b := false) (S (P_pickF rfl rfl) ?_) rfl
  refine L (S (P_pickF rfl rfl) ?_)
  refine L (S (P_move rfl) ?_)
  refine L_yes (j := 10) (dj := 14) (b := false) (S (P_move rfl) ?_) rfl
  refine L_yes (j := 10) (dj := 14) (b := false) (S (P_ge rfl rfl (decide_eq_false (by omega))) ?_) rfl
  refine L_yes (j := 10) (dj := 14) (b := false) (S (P_move rfl) ?_) rfl
  refine L_no (j := 13) (dj := 17) (b := true) (b' := false) (d := 18) rfl ?_
  refine L_no (j := 13) (dj := 17) (b := true) (b' := false) (d := 19) rfl ?_
  refine L_yes (j := 10) (dj := 14) (b := false) (S (P_pickF rfl rfl) ?_) rfl
  refine L (S (P_pickF rfl rfl) ?_)
  refine L (S (P_assign rfl) ?_)
  refine L_nil ?_
  refine then_n ?_
  refine C_false rfl ?_
  refine C_seq ?_
  refine C_region ?_
  refine L (S (P_move rfl) ?_)
  refine L (S (P_ge rfl rfl (decide_eq_false (by omega))) ?_)
  refine L (S (P_move rfl) ?_)
  refine L_no (j := 2) (dj := 25) (b := true) (b' := false) (d := 26) rfl ?_
  refine L_no (j := 2) (dj := 25) (b := true) (b' := false) (d := 27) rfl ?_
  refine L (S (P_pickF rfl rfl) ?_)
  refine L (S (P_assign rfl) ?_)
  refine L_nil ?_
  refine then_n ?_
  refine C_false rfl ?_
  refine C_seq ?_
  refine C_region ?_
  refine L (S (P_move rfl) ?_)
  refine L (S (P_eq rfl rfl (decide_eq_false (by omega))) ?_)
  refine L (S (P_move rfl) ?_)
  refine L_yes (j := 2) (dj := 32) (b := false) (S (P_move rfl) ?_) rfl
  refine L_yes (j := 2) (dj := 32) (b := false) (S (P_eq rfl rfl (decide_eq_false (by omega))) ?_) rfl
  refine L (S (P_pickF rfl rfl) ?_)
  refine L (S (P_move rfl) ?_)
  refine L_yes (j := 6) (dj := 36) (b := false) (S (P_move rfl) ?_) rfl
  refine L_yes (j := 6) (dj := 36) (b := false) (S (P_eq rfl rfl (decide_eq_false (by omega))) ?_) rfl
  refine L (S (P_pickF rfl rfl) ?_)
  refine L (S (P_move rfl) ?_)
  refine L_yes (j := 10) (dj := 40) (b := false) (S (P_move rfl) ?_) rfl
  refine L_yes (j := 10) (dj := 40) (b := false) (S (P_eq rfl rfl (decide_eq_false (by omega))) ?_) rfl
  refine L (S (P_pickF rfl rfl) ?_)
  refine L (S (P_assign rfl) ?_)
  refine L_nil ?_
  refine then_n ?_
  refine C_false rfl ?_
  refine C_skip ?_
  refine blk_n ?_
  refine then_n ?_
  refine C_seq ?_
  refine C_region ?_
  refine L (S (P_assign rfl) ?_)
  refine L_nil ?_
  refine then_n ?_
  refine C_ret ?_
  refine F_ret1 Tryz.results65 rfl ?_
  exact ⟨rfl, rfl⟩
theorem let_dig {c : Nat} (h : letN c = true) : digN c = false := by unfold letN at h; unfold digN; have := of_decide_eq_true h; exact decide_eq_false (by omega)
theorem let_bl {c : Nat} (h : letN c = true) : blN c = false := by unfold letN at h; unfold blN; have := of_decide_eq_true h; exact decide_eq_false (by omega)
theorem dig_bl {c : Nat} (h : digN c = true) : blN c = false := by unfold digN at h; unfold blN; have := of_decide_eq_true h; exact decide_eq_false (by omega)
theorem kdN_dig (c : Nat) : kdN c = 2 ↔ digN c = true := by
  unfold kdN
  cases h1 : letN c with
  | true => rw [if_pos rfl, let_dig h1]; simp
  | false =>
    cases h2 : digN c with
    | true => simp
    | false => cases blN c <;> simp
theorem kdN_let (c : Nat) : kdN c = 1 ↔ letN c = true := by
  unfold kdN
  cases h1 : letN c with
  | true => simp
  | false =>
    cases h2 : digN c with
    | true => simp
    | false => cases blN c <;> simp
theorem kdN_bl (c : Nat) : kdN c = 3 ↔ blN c = true := by
  unfold kdN
  cases h1 : letN c with
  | true => rw [let_bl h1]; simp
  | false =>
    cases h2 : digN c with
    | true => rw [dig_bl h2]; simp
    | false => cases blN c <;> simp

theorem digits_ret (l : List UInt8) (hl : l.length ≤ 100000) (at_ : Nat) (ha : at_ ≤ l.length) : Ret Tryz.prog 127 [.string (str l), .int .i64 (at_ : Int)] w fun v w' => v = .int .i64 ((at_ + spanB digN (l.drop at_) : Nat) : Int) ∧ w = w' := by
  have hsz := str_size l
  refine F_enter Tryz.func127 Tryz.ntmps127 rfl rfl ?_
  refine C_seq ?_
  refine C_region ?_
  refine L (S (P_assign rfl) ?_)
  refine L_nil ?_
  refine then_n ?_
  refine C_seq ?_
  refine C_block ?_
  refine C_loop (γ := Nat) (fun i => [(0, .string (str l)), (1, .int .i64 (i : Int))]) (fun i wr => wr = w ∧ i ≤ l.length ∧ i + spanB digN (l.drop i) = at_ + spanB digN (l.drop at_)) (fun i => l.length - i) at_ (.cons rfl (.cons rfl (.nil _))) ⟨rfl, ha, rfl⟩ ?_
  rintro i wr ⟨rfl, hi, he⟩
  rw [← he]
  rcases Nat.lt_or_ge i l.length with hlt | hge
  · obtain ⟨c, hc⟩ : ∃ c, l[i]? = some c := ⟨l[i], List.getElem?_eq_getElem hlt⟩
    have hk := kdN_dig c.toNat
    rw [spanB_drop hc] at he ⊢
    by_cases hd : digN c.toNat = true
    · rw [if_pos hd] at he ⊢
      have hk2 := hk.2 hd
      refine C_seq ?_
      refine C_seq ?_
      refine C_region ?_
      refine L (S (P_move rfl) ?_)
      refine L (S (P_move rfl) ?_)
      refine L (S (P_lenT Tryz.underlying9 rfl) ?_)
      refine L (S (P_lt rfl rfl (decide_eq_true (by omega))) ?_)
      refine L (S (P_move rfl) ?_)
      refine L_yes (j := 4) (dj := 9) (b := true) (S (P_move rfl) ?_) rfl
      refine L_yes (j := 4) (dj := 9) (b := true) (S (P_move rfl) ?_) rfl
      refine L_yes (j := 4) (dj := 9) (b := true) (S (P_indexT Tryz.underlying9 rfl rfl (j := i) rfl (str_idx hc)) ?_) rfl
      refine L_yes (j := 4) (dj := 9) (b := true) (S_call cb_65 rfl (kind_ret c) ?_) rfl
      rintro _ _ ⟨rfl, rfl⟩
      refine L_yes (j := 4) (dj := 9) (b := true) (S (P_eq rfl rfl (decide_eq_true (by omega))) ?_) rfl
      refine L (S (P_pickT rfl rfl) ?_)
      refine L_nil ?_
      refine then_n ?_
      refine C_true rfl ?_
      refine C_skip ?_
      refine then_n ?_
      refine C_block ?_
      refine C_region ?_
      refine L (S (P_move rfl) ?_)
      refine L (S (P_add rfl rfl (wI64 (c := ((i + 1 : Nat) : Int)) (by omega))) ?_)
      refine L (S (P_assign rfl) ?_)
      refine L_nil ?_
      refine blk_n ?_
      refine then_n ?_
      exact ⟨rfl, i + 1, (.cons rfl (.cons rfl (.nil _))), ⟨rfl, hlt, by omega⟩, by omega⟩
    · rw [if_neg hd] at he ⊢
      have hk2 : kdN c.toNat ≠ 2 := fun h => hd (hk.1 h)
      refine C_seq ?_
      refine C_seq ?_
      refine C_region ?_
      refine L (S (P_move rfl) ?_)
      refine L (S (P_move rfl) ?_)
      refine L (S (P_lenT Tryz.underlying9 rfl) ?_)
      refine L (S (P_lt rfl rfl (decide_eq_true (by omega))) ?_)
      refine L (S (P_move rfl) ?_)
      refine L_yes (j := 4) (dj := 9) (b := true) (S (P_move rfl) ?_) rfl
      refine L_yes (j := 4) (dj := 9) (b := true) (S (P_move rfl) ?_) rfl
      refine L_yes (j := 4) (dj := 9) (b := true) (S (P_indexT Tryz.underlying9 rfl rfl (j := i) rfl (str_idx hc)) ?_) rfl
      refine L_yes (j := 4) (dj := 9) (b := true) (S_call cb_65 rfl (kind_ret c) ?_) rfl
      rintro _ _ ⟨rfl, rfl⟩
      refine L_yes (j := 4) (dj := 9) (b := true) (S (P_eq rfl rfl (decide_eq_false (by omega))) ?_) rfl
      refine L (S (P_pickT rfl rfl) ?_)
      refine L_nil ?_
      refine then_n ?_
      refine C_false rfl ?_
      refine C_exit ?_
      refine then_x ?_
      refine then_x ?_
      refine blk_x ?_
      refine then_n ?_
      refine C_seq ?_
      refine C_region ?_
      refine L (S (P_move rfl) ?_)
      refine L (S (P_assign rfl) ?_)
      refine L_nil ?_
      refine then_n ?_
      refine C_ret ?_
      refine F_ret1 Tryz.results127 rfl ?_
      exact ⟨rfl, rfl⟩
  · rw [spanB_end hge]
    refine C_seq ?_
    refine C_seq ?_
    refine C_region ?_
    refine L (S (P_move rfl) ?_)
    refine L (S (P_move rfl) ?_)
    refine L (S (P_lenT Tryz.underlying9 rfl) ?_)
    refine L (S (P_lt rfl rfl (decide_eq_false (by omega))) ?_)
    refine L (S (P_move rfl) ?_)
    refine L_no (j := 4) (dj := 9) (b := true) (b' := false) (d := 10) rfl ?_
    refine L_no (j := 4) (dj := 9) (b := true) (b' := false) (d := 11) rfl ?_
    refine L_no (j := 4) (dj := 9) (b := true) (b' := false) (d := 12) rfl ?_
    refine L_no (j := 4) (dj := 9) (b := true) (b' := false) (d := 13) rfl ?_
    refine L_no (j := 4) (dj := 9) (b := true) (b' := false) (d := 14) rfl ?_
    refine L (S (P_pickF rfl rfl) ?_)
    refine L_nil ?_
    refine then_n ?_
    refine C_false rfl ?_
    refine C_exit ?_
    refine then_x ?_
    refine then_x ?_
    refine blk_x ?_
    refine then_n ?_
    refine C_seq ?_
    refine C_region ?_
    refine L (S (P_move rfl) ?_)
    refine L (S (P_assign rfl) ?_)
    refine L_nil ?_
    refine then_n ?_
    refine C_ret ?_
    refine F_ret1 Tryz.results127 rfl ?_
    exact ⟨rfl, rfl⟩
end
end Go.Proofs.YtnoioimphcmeiaaGreatDoor
