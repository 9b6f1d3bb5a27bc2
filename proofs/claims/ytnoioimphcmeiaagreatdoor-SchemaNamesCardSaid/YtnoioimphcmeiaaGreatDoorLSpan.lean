import Derived.Test.YtnoioimphcmeiaaGreatDoorOpsL
import Derived.Test.YtnoioimphcmeiaaGreatDoorTy
import Derived.Test.YtnoioimphcmeiaaGreatDoorLP
namespace Go.Proofs.YtnoioimphcmeiaaGreatDoor
open Go.RowKit
set_option maxRecDepth 20000

/-- A function value that tells whether a sign is of a kind. -/
def PredF (P : Program) (fv : Value) (p : Nat → Bool) : Prop :=
  (∀ c, 128 ≤ c → p c = false) ∧ ∃ k : FuncId, fv = .func (.func k) #[] #[] ∧ callable P k = true ∧ ∀ (w : World) (c : Nat), c ≤ 1114111 → Ret P k [.int .i32 (c : Int)] w fun v w' => v = .bool (p c) ∧ w = w'
section
variable {P : Program} {n : Nat} {N : Nxt} {Q : Post} {f : Fr} {ds : List Deferred} {w : World}
variable {d : Nat} {ty : TypeId} {pos : String} {af : Array Edge} {g : Option (Nat × Bool)}
theorem S_callPred {fv : Value} {p : Nat → Bool} {c : Operand} {l : List Operand} {ats : Array TypeId} {s : Nat} {β : Bool} (hp : PredF P fv p) (hf : ev f c = some fv) (hl : evs f l = some [.int .i32 (s : Int)]) (hs : s ≤ 1114111) (hβ : p s = β) (h : N ((d, .bool β) :: f) ds w) (hn : Nat.blt d n = true := by rfl) :
    opF P n ⟨some d, .call { callee := .value c, args := l.toArray, argTypes := ats }, ty, pos, af, g⟩ N Q f ds w := by
  obtain ⟨_, k, rfl, h2, h3⟩ := hp
  exact S_callv (first := []) (captured := []) h2 hf hl (h3 w s hs) (fun v w' ⟨hv, hw⟩ => by subst hv; subst hw; rw [hβ]; exact h) hn
end

section
variable {w : World}
theorem letter_ret (c : Nat) : Ret Tryz.prog 100 [.int .i32 (c : Int)] w fun v w' => v = .bool (letN c) ∧ w = w' := by
  refine F_enter Tryz.func100 Tryz.ntmps100 rfl rfl ?_
  by_cases h1 : c = 95
  · rw [show letN c = true from decide_eq_true (by omega)]
    refine C_seq ?_
    refine C_region ?_
    refine L (S (P_assign rfl) ?_)
    refine L_nil ?_
    refine then_n ?_
    refine C_seq ?_
    refine C_region ?_
    refine L (S (P_move rfl) ?_)
    refine L (S (P_eq rfl rfl (decide_eq_true (by omega))) ?_)
    refine L (S (P_move rfl) ?_)
    refine L_no (j := 2) (dj := 5) (b := false) (b' := true) (d := 6) rfl ?_
    refine L_no (j := 2) (dj := 5) (b := false) (b' := true) (d := 7) rfl ?_
    refine L_no (j := 2) (dj := 5) (b := false) (b' := true) (d := 8) rfl ?_
    refine L_nou (j := 5) (dj := 8) (b := true) (d := 9) rfl ?_
    refine L_nou (j := 5) (dj := 8) (b := true) (d := 10) rfl ?_
    refine L_no (j := 2) (dj := 5) (b := false) (b' := true) (d := 11) rfl ?_
    refine L (S (P_pickT rfl rfl) ?_)
    refine L (S (P_move rfl) ?_)
    refine L_no (j := 10) (dj := 13) (b := false) (b' := true) (d := 14) rfl ?_
    refine L_no (j := 10) (dj := 13) (b := false) (b' := true) (d := 15) rfl ?_
    refine L_no (j := 10) (dj := 13) (b := false) (b' := true) (d := 16) rfl ?_
    refine L_nou (j := 13) (dj := 16) (b := true) (d := 17) rfl ?_
    refine L_nou (j := 13) (dj := 16) (b := true) (d := 18) rfl ?_
    refine L_no (j := 10) (dj := 13) (b := false) (b' := true) (d := 19) rfl ?_
    refine L (S (P_pickT rfl rfl) ?_)
    refine L (S (P_assign rfl) ?_)
    refine L_nil ?_
    refine then_n ?_
    refine C_ret ?_
    refine F_ret1 Tryz.results100 rfl ?_
    exact ⟨rfl, rfl⟩
  · by_cases h2 : 97 ≤ c
    · by_cases h3 : c ≤ 122
      · rw [show letN c = true from decide_eq_true (by omega)]
        refine C_seq ?_
        refine C_region ?_
        refine L (S (P_assign rfl) ?_)
        refine L_nil ?_
        refine then_n ?_
        refine C_seq ?_
        refine C_region ?_
        refine L (S (P_move rfl) ?_)
        refine L (S (P_eq rfl rfl (decide_eq_false (by omega))) ?_)
        refine L (S (P_move rfl) ?_)
        refine L_yes (j := 2) (dj := 5) (b := false) (S (P_move rfl) ?_) rfl
        refine L_yes (j := 2) (dj := 5) (b := false) (S (P_ge rfl rfl (decide_eq_true (by omega))) ?_) rfl
        refine L_yes (j := 2) (dj := 5) (b := false) (S (P_move rfl) ?_) rfl
        refine L_yes (j := 5) (dj := 8) (b := true) (S (P_move rfl) ?_) rfl
        refine L_yes (j := 5) (dj := 8) (b := true) (S (P_le rfl rfl (decide_eq_true (by omega))) ?_) rfl
        refine L_yes (j := 2) (dj := 5) (b := false) (S (P_pickT rfl rfl) ?_) rfl
        refine L (S (P_pickF rfl rfl) ?_)
        refine L (S (P_move rfl) ?_)
        refine L_no (j := 10) (dj := 13) (b := false) (b' := true) (d := 14) rfl ?_
        refine L_no (j := 10) (dj := 13) (b := false) (b' := true) (d := 15) rfl ?_
        refine L_no (j := 10) (dj := 13) (b := false) (b' := true) (d := 16) rfl ?_
        refine L_nou (j := 13) (dj := 16) (b := true) (d := 17) rfl ?_
        refine L_nou (j := 13) (dj := 16) (b := true) (d := 18) rfl ?_
        refine L_no (j := 10) (dj := 13) (b := false) (b' := true) (d := 19) rfl ?_
        refine L (S (P_pickT rfl rfl) ?_)
        refine L (S (P_assign rfl) ?_)
        refine L_nil ?_
        refine then_n ?_
        refine C_ret ?_
        refine F_ret1 Tryz.results100 rfl ?_
        exact ⟨rfl, rfl⟩
      · rw [show letN c = false from decide_eq_false (by omega)]
        refine C_seq ?_
        refine C_region ?_
        refine L (S (P_assign rfl) ?_)
        refine L_nil ?_
        refine then_n ?_
        refine C_seq ?_
        refine C_region ?_
        refine L (S (P_move rfl) ?_)
        refine L (S (P_eq rfl rfl (decide_eq_false (by omega))) ?_)
        refine L (S (P_move rfl) ?_)
        refine L_yes (j := 2) (dj := 5) (b := false) (S (P_move rfl) ?_) rfl
        refine L_yes (j := 2) (dj := 5) (b := false) (S (P_ge rfl rfl (decide_eq_true (by omega))) ?_) rfl
        refine L_yes (j := 2) (dj := 5) (b := false) (S (P_move rfl) ?_) rfl
        refine L_yes (j := 5) (dj := 8) (b := true) (S (P_move rfl) ?_) rfl
        refine L_yes (j := 5) (dj := 8) (b := true) (S (P_le rfl rfl (decide_eq_false (by omega))) ?_) rfl
        refine L_yes (j := 2) (dj := 5) (b := false) (S (P_pickT rfl rfl) ?_) rfl
        refine L (S (P_pickF rfl rfl) ?_)
        refine L (S (P_move rfl) ?_)
        refine L_yes (j := 10) (dj := 13) (b := false) (S (P_move rfl) ?_) rfl
        refine L_yes (j := 10) (dj := 13) (b := false) (S (P_ge rfl rfl (decide_eq_true (by omega))) ?_) rfl
        refine L_yes (j := 10) (dj := 13) (b := false) (S (P_move rfl) ?_) rfl
        refine L_yes (j := 13) (dj := 16) (b := true) (S (P_move rfl) ?_) rfl
        refine L_yes (j := 13) (dj := 16) (b := true) (S (P_le rfl rfl (decide_eq_false (by omega))) ?_) rfl
        refine L_yes (j := 10) (dj := 13) (b := false) (S (P_pickT rfl rfl) ?_) rfl
        refine L (S (P_pickF rfl rfl) ?_)
        refine L (S (P_assign rfl) ?_)
        refine L_nil ?_
        refine then_n ?_
        refine C_ret ?_
        refine F_ret1 Tryz.results100 rfl ?_
        exact ⟨rfl, rfl⟩
    · by_cases h4 : 65 ≤ c
      · by_cases h5 : c ≤ 90
        · rw [show letN c = true from decide_eq_true (by omega)]
          refine C_seq ?_
          refine C_region ?_
          refine L (S (P_assign rfl) ?_)
          refine L_nil ?_
          refine then_n ?_
          refine C_seq ?_
          refine C_region ?_
          refine L (S (P_move rfl) ?_)
          refine L (S (P_eq rfl rfl (decide_eq_false (by omega))) ?_)
          refine L (S (P_move rfl) ?_)
          refine L_yes (j := 2) (dj := 5) (b := false) (S (P_move rfl) ?_) rfl
          refine L_yes (j := 2) (dj := 5) (b := false) (S (P_ge rfl rfl (decide_eq_false (by omega))) ?_) rfl
          refine L_yes (j := 2) (dj := 5) (b := false) (S (P_move rfl) ?_) rfl
          refine L_no (j := 5) (dj := 8) (b := true) (b' := false) (d := 9) rfl ?_
          refine L_no (j := 5) (dj := 8) (b := true) (b' := false) (d := 10) rfl ?_
          refine L_yes (j := 2) (dj := 5) (b := false) (S (P_pickF rfl rfl) ?_) rfl
          refine L (S (P_pickF rfl rfl) ?_)
          refine L (S (P_move rfl) ?_)
          refine L_yes (j := 10) (dj := 13) (b := false) (S (P_move rfl) ?_) rfl
          refine L_yes (j := 10) (dj := 13) (b := false) (S (P_ge rfl rfl (decide_eq_true (by omega))) ?_) rfl
          refine L_yes (j := 10) (dj := 13) (b := false) (S (P_move rfl) ?_) rfl
          refine L_yes (j := 13) (dj := 16) (b := true) (S (P_move rfl) ?_) rfl
          refine L_yes (j := 13) (dj := 16) (b := true) (S (P_le rfl rfl (decide_eq_true (by omega))) ?_) rfl
          refine L_yes (j := 10) (dj := 13) (b := false) (S (P_pickT rfl rfl) ?_) rfl
          refine L (S (P_pickF rfl rfl) ?_)
          refine L (S (P_assign rfl) ?_)
          refine L_nil ?_
          refine then_n ?_
          refine C_ret ?_
          refine F_ret1 Tryz.results100 rfl ?_
          exact ⟨rfl, rfl⟩
        · rw [show letN c = false from decide_eq_false (by omega)]
          refine C_seq ?_
          refine C_region ?_
          refine L (S (P_assign rfl) ?_)
          refine L_nil ?_
          refine then_n ?_
          refine C_seq ?_
          refine C_region ?_
          refine L (S (P_move rfl) ?_)
          refine L (S (P_eq rfl rfl (decide_eq_false (by omega))) ?_)
          refine L (S (P_move rfl) ?_)
          refine L_yes (j := 2) (dj := 5) (b := false) (S (P_move rfl) ?_) rfl
          refine L_yes (j := 2) (dj := 5) (b := false) (S (P_ge rfl rfl (decide_eq_false (by omega))) ?_) rfl
          refine L_yes (j := 2) (dj := 5) (b := false) (S (P_move rfl) ?_) rfl
          refine L_no (j := 5) (dj := 8) (b := true) (b' := false) (d := 9) rfl ?_
          refine L_no (j := 5) (dj := 8) (b := true) (b' := false) (d := 10) rfl ?_
          refine L_yes (j := 2) (dj := 5) (b := false) (S (P_pickF rfl rfl) ?_) rfl
          refine L (S (P_pickF rfl rfl) ?_)
          refine L (S (P_move rfl) ?_)
          refine L_yes (j := 10) (dj := 13) (b := false) (S (P_move rfl) ?_) rfl
          refine L_yes (j := 10) (dj := 13) (b := false) (S (P_ge rfl rfl (decide_eq_true (by omega))) ?_) rfl
          refine L_yes (j := 10) (dj := 13) (b := false) (S (P_move rfl) ?_) rfl
          refine L_yes (j := 13) (dj := 16) (b := true) (S (P_move rfl) ?_) rfl
          refine L_yes (j := 13) (dj := 16) (b := true) (S (P_le rfl rfl (decide_eq_false (by omega))) ?_) rfl
          refine L_yes (j := 10) (dj := 13) (b := false) (S (P_pickT rfl rfl) ?_) rfl
          refine L (S (P_pickF rfl rfl) ?_)
          refine L (S (P_assign rfl) ?_)
          refine L_nil ?_
          refine then_n ?_
          refine C_ret ?_
          refine F_ret1 Tryz.results100 rfl ?_
          exact ⟨rfl, rfl⟩
      · rw [show letN c = false from decide_eq_false (by omega)]
        refine C_seq ?_
        refine C_region ?_
        refine L (S (P_assign rfl) ?_)
        refine L_nil ?_
        refine then_n ?_
        refine C_seq ?_
        refine C_region ?_
        refine L (S (P_move rfl) ?_)
        refine L (S (P_eq rfl rfl (decide_eq_false (by omega))) ?_)
        refine L (S (P_move rfl) ?_)
        refine L_yes (j := 2) (dj := 5) (b := false) (S (P_move rfl) ?_) rfl
        refine L_yes (j := 2) (dj := 5) (b := false) (S (P_ge rfl rfl (decide_eq_false (by omega))) ?_) rfl
        refine L_yes (j := 2) (dj := 5) (b := false) (S (P_move rfl) ?_) rfl
        refine L_no (j := 5) (dj := 8) (b := true) (b' := false) (d := 9) rfl ?_
        refine L_no (j := 5) (dj := 8) (b := true) (b' := false) (d := 10) rfl ?_
        refine L_yes (j := 2) (dj := 5) (b := false) (S (P_pickF rfl rfl) ?_) rfl
        refine L (S (P_pickF rfl rfl) ?_)
        refine L (S (P_move rfl) ?_)
        refine L_yes (j := 10) (dj := 13) (b := false) (S (P_move rfl) ?_) rfl
        refine L_yes (j := 10) (dj := 13) (b := false) (S (P_ge rfl rfl (decide_eq_false (by omega))) ?_) rfl
        refine L_yes (j := 10) (dj := 13) (b := false) (S (P_move rfl) ?_) rfl
        refine L_no (j := 13) (dj := 16) (b := true) (b' := false) (d := 17) rfl ?_
        refine L_no (j := 13) (dj := 16) (b := true) (b' := false) (d := 18) rfl ?_
        refine L_yes (j := 10) (dj := 13) (b := false) (S (P_pickF rfl rfl) ?_) rfl
        refine L (S (P_pickF rfl rfl) ?_)
        refine L (S (P_assign rfl) ?_)
        refine L_nil ?_
        refine then_n ?_
        refine C_ret ?_
        refine F_ret1 Tryz.results100 rfl ?_
        exact ⟨rfl, rfl⟩

theorem digit_ret (c : Nat) : Ret Tryz.prog 102 [.int .i32 (c : Int)] w fun v w' => v = .bool (digN c) ∧ w = w' := by
  refine F_enter Tryz.func102 Tryz.ntmps102 rfl rfl ?_
  by_cases h1 : 48 ≤ c
  · by_cases h2 : c ≤ 57
    · rw [show digN c = true from decide_eq_true (by omega)]
      refine C_seq ?_
      refine C_region ?_
      refine L (S (P_assign rfl) ?_)
      refine L_nil ?_
      refine then_n ?_
      refine C_seq ?_
      refine C_region ?_
      refine L (S (P_move rfl) ?_)
      refine L (S (P_ge rfl rfl (decide_eq_true (by omega))) ?_)
      refine L (S (P_move rfl) ?_)
      refine L_yes (j := 2) (dj := 5) (b := true) (S (P_move rfl) ?_) rfl
      refine L_yes (j := 2) (dj := 5) (b := true) (S (P_le rfl rfl (decide_eq_true (by omega))) ?_) rfl
      refine L (S (P_pickT rfl rfl) ?_)
      refine L (S (P_assign rfl) ?_)
      refine L_nil ?_
      refine then_n ?_
      refine C_ret ?_
      refine F_ret1 Tryz.results102 rfl ?_
      exact ⟨rfl, rfl⟩
    · rw [show digN c = false from decide_eq_false (by omega)]
      refine C_seq ?_
      refine C_region ?_
      refine L (S (P_assign rfl) ?_)
      refine L_nil ?_
      refine then_n ?_
      refine C_seq ?_
      refine C_region ?_
      refine L (S (P_move rfl) ?_)
      refine L (S (P_ge rfl rfl (decide_eq_true (by omega))) ?_)
      refine L (S (P_move rfl) ?_)
      refine L_yes (j := 2) (dj := 5) (b := true) (S (P_move rfl) ?_) rfl
      refine L_yes (j := 2) (dj := 5) (b := true) (S (P_le rfl rfl (decide_eq_false (by omega))) ?_) rfl
      refine L (S (P_pickT rfl rfl) ?_)
      refine L (S (P_assign rfl) ?_)
      refine L_nil ?_
      refine then_n ?_
      refine C_ret ?_
      refine F_ret1 Tryz.results102 rfl ?_
      exact ⟨rfl, rfl⟩
  · rw [show digN c = false from decide_eq_false (by omega)]
    refine C_seq ?_
    refine C_region ?_
    refine L (S (P_assign rfl) ?_)
    refine L_nil ?_
    refine then_n ?_
    refine C_seq ?_
    refine C_region ?_
    refine L (S (P_move rfl) ?_)
    refine L (S (P_ge rfl rfl (decide_eq_false (by omega))) ?_)
    refine L (S (P_move rfl) ?_)
    refine L_no (j := 2) (dj := 5) (b := true) (b' := false) (d := 6) rfl ?_
    refine L_no (j := 2) (dj := 5) (b := true) (b' := false) (d := 7) rfl ?_
    refine L (S (P_pickF rfl rfl) ?_)
    refine L (S (P_assign rfl) ?_)
    refine L_nil ?_
    refine then_n ?_
    refine C_ret ?_
    refine F_ret1 Tryz.results102 rfl ?_
    exact ⟨rfl, rfl⟩

theorem blank_ret (c : Nat) : Ret Tryz.prog 63 [.int .i32 (c : Int)] w fun v w' => v = .bool (blN c) ∧ w = w' := by
  refine F_enter Tryz.func63 Tryz.ntmps63 rfl rfl ?_
  by_cases h1 : c = 32
  · rw [show blN c = true from decide_eq_true (by omega)]
    refine C_seq ?_
    refine C_region ?_
    refine L (S (P_assign rfl) ?_)
    refine L_nil ?_
    refine then_n ?_
    refine C_seq ?_
    refine C_region ?_
    refine L (S (P_move rfl) ?_)
    refine L (S (P_eq rfl rfl (decide_eq_true (by omega))) ?_)
    refine L (S (P_move rfl) ?_)
    refine L_no (j := 2) (dj := 5) (b := false) (b' := true) (d := 6) rfl ?_
    refine L_no (j := 2) (dj := 5) (b := false) (b' := true) (d := 7) rfl ?_
    refine L (S (P_pickT rfl rfl) ?_)
    refine L (S (P_move rfl) ?_)
    refine L_no (j := 6) (dj := 9) (b := false) (b' := true) (d := 10) rfl ?_
    refine L_no (j := 6) (dj := 9) (b := false) (b' := true) (d := 11) rfl ?_
    refine L (S (P_pickT rfl rfl) ?_)
    refine L (S (P_move rfl) ?_)
    refine L_no (j := 10) (dj := 13) (b := false) (b' := true) (d := 14) rfl ?_
    refine L_no (j := 10) (dj := 13) (b := false) (b' := true) (d := 15) rfl ?_
    refine L (S (P_pickT rfl rfl) ?_)
    refine L (S (P_assign rfl) ?_)
    refine L_nil ?_
    refine then_n ?_
    refine C_ret ?_
    refine F_ret1 Tryz.results63 rfl ?_
    exact ⟨rfl, rfl⟩
  · by_cases h2 : c = 9
    · rw [show blN c = true from decide_eq_true (by omega)]
      refine C_seq ?_
      refine C_region ?_
      refine L (S (P_assign rfl) ?_)
      refine L_nil ?_
      refine then_n ?_
      refine C_seq ?_
      refine C_region ?_
      refine L (S (P_move rfl) ?_)
      refine L (S (P_eq rfl rfl (decide_eq_false (by omega))) ?_)
      refine L (S (P_move rfl) ?_)
      refine L_yes (j := 2) (dj := 5) (b := false) (S (P_move rfl) ?_) rfl
      refine L_yes (j := 2) (dj := 5) (b := false) (S (P_eq rfl rfl (decide_eq_true (by omega))) ?_) rfl
      refine L (S (P_pickF rfl rfl) ?_)
      refine L (S (P_move rfl) ?_)
      refine L_no (j := 6) (dj := 9) (b := false) (b' := true) (d := 10) rfl ?_
      refine L_no (j := 6) (dj := 9) (b := false) (b' := true) (d := 11) rfl ?_
      refine L (S (P_pickT rfl rfl) ?_)
      refine L (S (P_move rfl) ?_)
      refine L_no (j := 10) (dj := 13) (b := false) (b' := true) (d := 14) rfl ?_
      refine L_no (j := 10) (dj := 13) (b := false) (b' := true) (d := 15) rfl ?_
      refine L (S (P_pickT rfl rfl) ?_)
      refine L (S (P_assign rfl) ?_)
      refine L_nil ?_
      refine then_n ?_
      refine C_ret ?_
      refine F_ret1 Tryz.results63 rfl ?_
      exact ⟨rfl, rfl⟩
    · by_cases h3 : c = 10
      · rw [show blN c = true from decide_eq_true (by omega)]
        refine C_seq ?_
        refine C_region ?_
        refine L (S (P_assign rfl) ?_)
        refine L_nil ?_
        refine then_n ?_
        refine C_seq ?_
        refine C_region ?_
        refine L (S (P_move rfl) ?_)
        refine L (S (P_eq rfl rfl (decide_eq_false (by omega))) ?_)
        refine L (S (P_move rfl) ?_)
        refine L_yes (j := 2) (dj := 5) (b := false) (S (P_move rfl) ?_) rfl
        refine L_yes (j := 2) (dj := 5) (b := false) (S (P_eq rfl rfl (decide_eq_false (by omega))) ?_) rfl
        refine L (S (P_pickF rfl rfl) ?_)
        refine L (S (P_move rfl) ?_)
        refine L_yes (j := 6) (dj := 9) (b := false) (S (P_move rfl) ?_) rfl
        refine L_yes (j := 6) (dj := 9) (b := false) (S (P_eq rfl rfl (decide_eq_true (by omega))) ?_) rfl
        refine L (S (P_pickF rfl rfl) ?_)
        refine L (S (P_move rfl) ?_)
        refine L_no (j := 10) (dj := 13) (b := false) (b' := true) (d := 14) rfl ?_
        refine L_no (j := 10) (dj := 13) (b := false) (b' := true) (d := 15) rfl ?_
        refine L (S (P_pickT rfl rfl) ?_)
        refine L (S (P_assign rfl) ?_)
        refine L_nil ?_
        refine then_n ?_
        refine C_ret ?_
        refine F_ret1 Tryz.results63 rfl ?_
        exact ⟨rfl, rfl⟩
      · by_cases h4 : c = 13
        · rw [show blN c = true from decide_eq_true (by omega)]
          refine C_seq ?_
          refine C_region ?_
          refine L (S (P_assign rfl) ?_)
          refine L_nil ?_
          refine then_n ?_
          refine C_seq ?_
          refine C_region ?_
          refine L (S (P_move rfl) ?_)
          refine L (S (P_eq rfl rfl (decide_eq_false (by omega))) ?_)
          refine L (S (P_move rfl) ?_)
          refine L_yes (j := 2) (dj := 5) (b := false) (S (P_move rfl) ?_) rfl
          refine L_yes (j := 2) (dj := 5) (b := false) (S (P_eq rfl rfl (decide_eq_false (by omega))) ?_) rfl
          refine L (S (P_pickF rfl rfl) ?_)
          refine L (S (P_move rfl) ?_)
          refine L_yes (j := 6) (dj := 9) (b := false) (S (P_move rfl) ?_) rfl
          refine L_yes (j := 6) (dj := 9) (b := false) (S (P_eq rfl rfl (decide_eq_false (by omega))) ?_) rfl
          refine L (S (P_pickF rfl rfl) ?_)
          refine L (S (P_move rfl) ?_)
          refine L_yes (j := 10) (dj := 13) (b := false) (S (P_move rfl) ?_) rfl
          refine L_yes (j := 10) (dj := 13) (b := false) (S (P_eq rfl rfl (decide_eq_true (by omega))) ?_) rfl
          refine L (S (P_pickF rfl rfl) ?_)
          refine L (S (P_assign rfl) ?_)
          refine L_nil ?_
          refine then_n ?_
          refine C_ret ?_
          refine F_ret1 Tryz.results63 rfl ?_
          exact ⟨rfl, rfl⟩
        · rw [show blN c = false from decide_eq_false (by omega)]
          refine C_seq ?_
          refine C_region ?_
          refine L (S (P_assign rfl) ?_)
          refine L_nil ?_
          refine then_n ?_
          refine C_seq ?_
          refine C_region ?_
          refine L (S (P_move rfl) ?_)
          refine L (S (P_eq rfl rfl (decide_eq_false (by omega))) ?_)
          refine L (S (P_move rfl) ?_)
          refine L_yes (j := 2) (dj := 5) (b := false) (S (P_move rfl) ?_) rfl
          refine L_yes (j := 2) (dj := 5) (b := false) (S (P_eq rfl rfl (decide_eq_false (by omega))) ?_) rfl
          refine L (S (P_pickF rfl rfl) ?_)
          refine L (S (P_move rfl) ?_)
          refine L_yes (j := 6) (dj := 9) (b := false) (S (P_move rfl) ?_) rfl
          refine L_yes (j := 6) (dj := 9) (b := false) (S (P_eq rfl rfl (decide_eq_false (by omega))) ?_) rfl
          refine L (S (P_pickF rfl rfl) ?_)
          refine L (S (P_move rfl) ?_)
          refine L_yes (j := 10) (dj := 13) (b := false) (S (P_move rfl) ?_) rfl
          refine L_yes (j := 10) (dj := 13) (b := false) (S (P_eq rfl rfl (decide_eq_false (by omega))) ?_) rfl
          refine L (S (P_pickF rfl rfl) ?_)
          refine L (S (P_assign rfl) ?_)
          refine L_nil ?_
          refine then_n ?_
          refine C_ret ?_
          refine F_ret1 Tryz.results63 rfl ?_
          exact ⟨rfl, rfl⟩

theorem letdig_ret (c : Nat) : Ret Tryz.prog 101 [.int .i32 (c : Int)] w fun v w' => v = .bool (ldN c) ∧ w = w' := by
  refine F_enter Tryz.func101 Tryz.ntmps101 rfl rfl ?_
  unfold ldN
  have hl := letter_ret (w := w) c
  have hd := digit_ret (w := w) c
  cases h1 : letN c with
  | true =>
    rw [h1] at hl
    refine C_seq ?_
    refine C_region ?_
    refine L (S (P_assign rfl) ?_)
    refine L_nil ?_
    refine then_n ?_
    refine C_seq ?_
    refine C_region ?_
    refine L (S (P_move rfl) ?_)
    refine L (S_call cb_100 rfl (hl) ?_)
    rintro _ _ ⟨rfl, rfl⟩
    refine L (S (P_move rfl) ?_)
    refine L_no (j := 2) (dj := 5) (b := false) (b' := true) (d := 6) rfl ?_
    refine L_no (j := 2) (dj := 5) (b := false) (b' := true) (d := 7) rfl ?_
    refine L (S (P_pickT rfl rfl) ?_)
    refine L (S (P_assign rfl) ?_)
    refine L_nil ?_
    refine then_n ?_
    refine C_ret ?_
    refine F_ret1 Tryz.results101 rfl ?_
    exact ⟨rfl, rfl⟩
  | false =>
    rw [h1] at hl
    cases h2 : digN c with
    | true =>
      rw [h2] at hd
      refine C_seq ?_
      refine C_region ?_
      refine L (S (P_assign rfl) ?_)
      refine L_nil ?_
      refine then_n ?_
      refine C_seq ?_
      refine C_region ?_
      refine L (S (P_move rfl) ?_)
      refine L (S_call cb_100 rfl (hl) ?_)
      rintro _ _ ⟨rfl, rfl⟩
      refine L (S (P_move rfl) ?_)
      refine L_yes (j := 2) (dj := 5) (b := false) (S (P_move rfl) ?_) rfl
      refine L_yes (j := 2) (dj := 5) (b := false) (S_call cb_102 rfl (hd) ?_) rfl
      rintro _ _ ⟨rfl, rfl⟩
      refine L (S (P_pickF rfl rfl) ?_)
      refine L (S (P_assign rfl) ?_)
      refine L_nil ?_
      refine then_n ?_
      refine C_ret ?_
      refine F_ret1 Tryz.results101 rfl ?_
      exact ⟨rfl, rfl⟩
    | false =>
      rw [h2] at hd
      refine C_seq ?_
      refine C_region ?_
      refine L (S (P_assign rfl) ?_)
      refine L_nil ?_
      refine then_n ?_
      refine C_seq ?_
      refine C_region ?_
      refine L (S (P_move rfl) ?_)
      refine L (S_call cb_100 rfl (hl) ?_)
      rintro _ _ ⟨rfl, rfl⟩
      refine L (S (P_move rfl) ?_)
      refine L_yes (j := 2) (dj := 5) (b := false) (S (P_move rfl) ?_) rfl
      refine L_yes (j := 2) (dj := 5) (b := false) (S_call cb_102 rfl (hd) ?_) rfl
      rintro _ _ ⟨rfl, rfl⟩
      refine L (S (P_pickF rfl rfl) ?_)
      refine L (S (P_assign rfl) ?_)
      refine L_nil ?_
      refine then_n ?_
      refine C_ret ?_
      refine F_ret1 Tryz.results101 rfl ?_
      exact ⟨rfl, rfl⟩

theorem pred_dig : PredF Tryz.prog (.func (.func 102) #[] #[]) digN := ⟨fun c h => decide_eq_false (by omega), _, rfl, cb_102, fun w c _ => digit_ret c⟩
theorem pred_bl : PredF Tryz.prog (.func (.func 63) #[] #[]) blN := ⟨fun c h => decide_eq_false (by omega), _, rfl, cb_63, fun w c _ => blank_ret c⟩
theorem pred_ld : PredF Tryz.prog (.func (.func 101) #[] #[]) ldN := ⟨fun c h => by
  have h1 : letN c = false := decide_eq_false (by omega)
  have h2 : digN c = false := decide_eq_false (by omega)
  simp [ldN, h1, h2], _, rfl, cb_101, fun w c _ => letdig_ret c⟩

theorem span_ret {fv : Value} {p : Nat → Bool} (l : List UInt8) (hp : PredF Tryz.prog fv p) (hl : l.length < 9223372036854775808) :
    Ret Tryz.prog 62 [.string (str l), fv] w fun v w' => v = .int .i64 (spanB p l : Int) ∧ Mv No w w' := by
  have hsz := str_size l
  refine F_enter Tryz.func62 Tryz.ntmps62 rfl rfl ?_
  refine C_seq ?_
  refine C_region ?_
  refine L (S (P_assign rfl) ?_)
  refine L_nil ?_
  refine then_n ?_
  refine C_seq ?_
  refine C_seq ?_
  refine C_region ?_
  refine L (S (P_move rfl) ?_)
  refine L (S_rangeT Tryz.underlying9 rfl ?_)
  rintro b8 w1 hb1 hm1 hn1
  refine L_nil ?_
  refine then_n ?_
  refine C_block ?_
  refine C_loop (γ := Nat) (fun i => [(0, .string (str l)), (1, fv), (8, .pointer (some ⟨b8, 0, none⟩))]) (fun i wr => Itr wr b8 (str l) i ∧ i ≤ l.length ∧ (∀ j, j < i → ∀ c, l[j]? = some c → p c.toNat = true) ∧ Mv No w wr) (fun i => l.length - i) 0 (.cons rfl (.cons rfl (.cons rfl (.nil _)))) ⟨hb1, Nat.zero_le _, fun j hj => by omega, hm1⟩ ?_
  rintro i wr ⟨hi, hle, hall, hmr⟩
  rcases Nat.lt_or_ge i l.length with hlt | hge
  · obtain ⟨c, hc⟩ : ∃ c, l[i]? = some c := ⟨l[i], List.getElem?_eq_getElem hlt⟩
    rcases Nat.lt_or_ge c.toNat 128 with hlo | hhi
    · cases hpc : p c.toNat with
      | true =>
        refine C_seq ?_
        refine C_region ?_
        refine L (S_nextLo rfl hi (str_idx hc) hlo ?_)
        rintro w2 hi2 hm2
        refine L (S (P_extract rfl rfl) ?_)
        refine L_nil ?_
        refine then_n ?_
        refine C_seq ?_
        refine C_true rfl ?_
        refine C_skip ?_
        refine then_n ?_
        refine C_block ?_
        refine C_seq ?_
        refine C_region ?_
        refine L (S (P_extract rfl rfl) ?_)
        refine L (S (P_extract rfl rfl) ?_)
        refine L (S (P_assign rfl) ?_)
        refine L (S (P_assign rfl) ?_)
        refine L_nil ?_
        refine then_n ?_
        refine C_seq ?_
        refine C_region ?_
        refine L (S (P_move rfl) ?_)
        refine L (S (P_move rfl) ?_)
        refine L (S_callPred hp rfl rfl (by omega) hpc ?_)
        refine L (S (P_not rfl rfl) ?_)
        refine L_nil ?_
        refine then_n ?_
        refine C_false rfl ?_
        refine C_skip ?_
        refine blk_n ?_
        refine then_n ?_
        exact ⟨rfl, i + 1, .cons rfl (.cons rfl (.cons rfl (.nil _))), ⟨hi2, hlt, fun j hj d hd => by
          by_cases hji : j = i
          · subst hji; rw [hc] at hd; cases hd; exact hpc
          · exact hall j (by omega) d hd, hmr.new hm2 hn1⟩, by omega⟩
      | false =>
        have hs : spanB p l = i := spanB_eq p l i (by omega) hall (fun d hd => by rw [hc] at hd; cases hd; exact hpc)
        rw [hs]
        refine C_seq ?_
        refine C_region ?_
        refine L (S_nextLo rfl hi (str_idx hc) hlo ?_)
        rintro w2 hi2 hm2
        refine L (S (P_extract rfl rfl) ?_)
        refine L_nil ?_
        refine then_n ?_
        refine C_seq ?_
        refine C_true rfl ?_
        refine C_skip ?_
        refine then_n ?_
        refine C_block ?_
        refine C_seq ?_
        refine C_region ?_
        refine L (S (P_extract rfl rfl) ?_)
        refine L (S (P_extract rfl rfl) ?_)
        refine L (S (P_assign rfl) ?_)
        refine L (S (P_assign rfl) ?_)
        refine L_nil ?_
        refine then_n ?_
        refine C_seq ?_
        refine C_region ?_
        refine L (S (P_move rfl) ?_)
        refine L (S (P_move rfl) ?_)
        refine L (S_callPred hp rfl rfl (by omega) hpc ?_)
        refine L (S (P_not rfl rfl) ?_)
        refine L_nil ?_
        refine then_n ?_
        refine C_true rfl ?_
        refine C_seq ?_
        refine C_region ?_
        refine L (S (P_move rfl) ?_)
        refine L (S (P_assign rfl) ?_)
        refine L_nil ?_
        refine then_n ?_
        refine C_ret ?_
        refine blk_r ?_
        refine then_r ?_
        refine blk_r ?_
        refine then_r ?_
        refine F_ret1 Tryz.results62 rfl ?_
        exact ⟨rfl, hmr.new hm2 hn1⟩
    · have hs : spanB p l = i := spanB_eq p l i (by omega) hall (fun d hd => by rw [hc] at hd; cases hd; exact hp.1 _ hhi)
      rw [hs]
      refine C_seq ?_
      refine C_region ?_
      refine L (S_nextHi rfl hi (str_idx hc) hhi ?_)
      rintro w2 r k hr1 hr2 hi2 hm2
      refine L (S (P_extract rfl rfl) ?_)
      refine L_nil ?_
      refine then_n ?_
      refine C_seq ?_
      refine C_true rfl ?_
      refine C_skip ?_
      refine then_n ?_
      refine C_block ?_
      refine C_seq ?_
      refine C_region ?_
      refine L (S (P_extract rfl rfl) ?_)
      refine L (S (P_extract rfl rfl) ?_)
      refine L (S (P_assign rfl) ?_)
      refine L (S (P_assign rfl) ?_)
      refine L_nil ?_
      refine then_n ?_
      refine C_seq ?_
      refine C_region ?_
      refine L (S (P_move rfl) ?_)
      refine L (S (P_move rfl) ?_)
      refine L (S_callPred hp rfl rfl hr2 (hp.1 _ hr1) ?_)
      refine L (S (P_not rfl rfl) ?_)
      refine L_nil ?_
      refine then_n ?_
      refine C_true rfl ?_
      refine C_seq ?_
      refine C_region ?_
      refine L (S (P_move rfl) ?_)
      refine L (S (P_assign rfl) ?_)
      refine L_nil ?_
      refine then_n ?_
      refine C_ret ?_
      refine blk_r ?_
      refine then_r ?_
      refine blk_r ?_
      refine then_r ?_
      refine F_ret1 Tryz.results62 rfl ?_
      exact ⟨rfl, hmr.new hm2 hn1⟩
  · have hs : spanB p l = l.length := spanB_eq p l l.length (Nat.le_refl _) (fun j hj => hall j (by omega)) (fun c hc => by rw [List.getElem?_eq_none (Nat.le_refl _)] at hc; cases hc)
    rw [hs]
    refine C_seq ?_
    refine C_region ?_
    refine L (S_nextEnd rfl hi (by omega) ?_)
    refine L (S (P_extract rfl rfl) ?_)
    refine L_nil ?_
    refine then_n ?_
    refine C_seq ?_
    refine C_false rfl ?_
    refine C_exit ?_
    refine then_x ?_
    refine then_x ?_
    refine blk_x ?_
    refine then_n ?_
    refine C_seq ?_
    refine C_region ?_
    refine L (S (P_move rfl) ?_)
    refine L (S (P_lenT Tryz.underlying9 rfl) ?_)
    refine L (S (P_assign rfl) ?_)
    refine L_nil ?_
    refine then_n ?_
    refine C_ret ?_
    refine F_ret1 Tryz.results62 rfl ?_
    exact ⟨by rw [str_size], hmr⟩
end
end Go.Proofs.YtnoioimphcmeiaaGreatDoor
