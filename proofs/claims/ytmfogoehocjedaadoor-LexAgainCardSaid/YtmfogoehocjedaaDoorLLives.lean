import Derived.Test.YtmfogoehocjedaaDoorLLex
namespace Go.Proofs.YtmfogoehocjedaaDoor
open Go.RowKit
set_option maxRecDepth 20000

theorem pf0 : PF (fun _ => false) Mx (fun _ => False) := ⟨fun _ _ h hm => h.no hm, fun _ h => h, fun _ _ _ _ hT => hT.elim⟩
theorem tripTk : TripT Tryd.prog 36 (.int .i64) .str (.int .i64) := ⟨_, _, _, Tryd.underlying36, by kernel_rfl, by kernel_rfl, by kernel_rfl, by decide, ⟨rfl, rfl, rfl⟩, ⟨by kernel_rfl, by kernel_rfl, by kernel_rfl⟩, by kernel_rfl, by kernel_rfl⟩
theorem lives_lex : lexA (fun _ => false) [97, 60, 61, 49] = ([⟨1, [97], 0⟩, ⟨6, [60, 61], 1⟩, ⟨3, [49], 3⟩, ⟨0, [], 4⟩], none) := by decide +kernel
theorem lives_in : InT (fun _ => False) [97, 60, 61, 49] := fun x hx ⟨a, b, he, _⟩ => by
  have h46 : (46 : UInt8) ∈ x := by rw [he]; simp
  have h : (46 : UInt8) ∈ [97, 60, 61, 49] := hx.subset h46
  exact absurd h (by decide)
theorem eqSc_self {k s a : Nat} {l : List UInt8} : eqSc (.int .i64 (k : Int)) (.int .i64 (k : Int)) = true := by simp [eqSc]

section
variable {w : World}
theorem lives_ret (hx : Mx w) : Ret Tryd.prog 7 [] w fun v w' => v = .bool true ∧ Mv No w w' := by
  have h := lex_ok pf0 hx [97, 60, 61, 49] lives_in (by decide) (most := 9) (by decide) lives_lex
  refine F_enter Tryd.func7 Tryd.ntmps7 rfl rfl ?_
  refine C_seq ?_
  refine C_region ?_
  refine L (S (P_assign rfl) ?_)
  refine L_nil ?_
  refine then_n ?_
  refine C_seq ?_
  refine C_region ?_
  refine L (S_call cb_11 rfl (h) ?_)
  rintro _ w1 ⟨A, c, rfl, hr, hc, hm1⟩
  refine L (S (P_move rfl) ?_)
  refine L (S (P_extract rfl rfl) ?_)
  refine L (S (P_extract rfl rfl) ?_)
  refine L (S (P_extract rfl rfl) ?_)
  refine L (S (P_assign rfl) ?_)
  refine L (S (P_assign rfl) ?_)
  refine L (S (P_assign rfl) ?_)
  refine L_nil ?_
  refine then_n ?_
  refine C_seq ?_
  obtain ⟨b, o, rfl, hrow⟩ := hr.form (i := 0) (by decide)
  have hr1 : Row w1 b (o + 3) (tkC 6 [60, 61] 1) := (hrow.drop 3).take 3
  have hr3 : Row w1 b (o + 9) (tkC 0 [] 4) := (hrow.drop 9).take 3
  refine C_region ?_
  refine L (S (P_move rfl) ?_)
  refine L (S (P_eq rfl rfl (decide_eq_true rfl)) ?_)
  refine L (S (P_move rfl) ?_)
  refine L_yes (j := 2) (dj := 11) (b := true) (S (P_move rfl) ?_) rfl
  refine L_yes (j := 2) (dj := 11) (b := true) (S (P_lenS Tryd.underlying31 rfl) ?_) rfl
  refine L_yes (j := 2) (dj := 11) (b := true) (S (P_eq rfl rfl (decide_eq_true (by decide))) ?_) rfl
  refine L (S (P_pickT rfl rfl) ?_)
  refine L (S (P_move rfl) ?_)
  refine L_yes (j := 7) (dj := 16) (b := true) (S (P_move rfl) ?_) rfl
  refine L_yes (j := 7) (dj := 16) (b := true) (S (P_indexAddr Tryd.underlying31 (csz_of ti_36) rfl rfl (j := 1) rfl (by decide) (p := o + 3) (by omega)) ?_) rfl
  refine L_yes (j := 7) (dj := 16) (b := true) (S_loadS st_36 rfl hr1 rfl ?_) rfl
  refine L_yes (j := 7) (dj := 16) (b := true) (S (P_buildC (ix := [0, 1, 2]) (l := [.const (.int .i64 6), .const (.string (ByteArray.mk #[60, 61])), .const (.int .i64 1)]) bi_36_0_1_2 rfl (by simp [Value.oneCell']) rfl) ?_) rfl
  refine L_yes (j := 7) (dj := 16) (b := true) (S (P_eqTrip (β := true) tripTk rfl rfl ⟨⟨_, rfl⟩, ⟨_, rfl⟩⟩ ⟨⟨_, rfl⟩, ⟨_, rfl⟩⟩ ⟨⟨_, rfl⟩, ⟨_, rfl⟩⟩ (by decide)) ?_) rfl
  refine L (S (P_pickT rfl rfl) ?_)
  refine L (S (P_move rfl) ?_)
  refine L_yes (j := 14) (dj := 23) (b := true) (S (P_move rfl) ?_) rfl
  refine L_yes (j := 14) (dj := 23) (b := true) (S (P_indexAddr Tryd.underlying31 (csz_of ti_36) rfl rfl (j := 3) rfl (by decide) (p := o + 9) (by omega)) ?_) rfl
  refine L_yes (j := 14) (dj := 23) (b := true) (S_loadS st_36 rfl hr3 rfl ?_) rfl
  refine L_yes (j := 14) (dj := 23) (b := true) (S (P_buildC (ix := [2]) (l := [.const (.int .i64 4)]) bi_36_2 rfl (by simp [Value.oneCell']) rfl) ?_) rfl
  refine L_yes (j := 14) (dj := 23) (b := true) (S (P_eqTrip (β := true) tripTk rfl rfl ⟨⟨_, rfl⟩, ⟨_, rfl⟩⟩ ⟨⟨_, rfl⟩, ⟨_, rfl⟩⟩ ⟨⟨_, rfl⟩, ⟨_, rfl⟩⟩ (by decide)) ?_) rfl
  refine L (S (P_pickT rfl rfl) ?_)
  refine L (S (P_assign rfl) ?_)
  refine L_nil ?_
  refine then_n ?_
  refine C_ret ?_
  refine F_ret1 Tryd.results7 rfl ?_
  exact ⟨rfl, hm1⟩
end
end Go.Proofs.YtmfogoehocjedaaDoor
