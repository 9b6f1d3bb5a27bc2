import Derived.Test.YtgicoidmjfhnbaaLaws2
namespace Go.Proofs.Ytgicoidmjfhnbaa
open Go.RowKit

theorem P_eqTs {P : Program} {n : Nat} {f : Fr} {d : Nat} {x y : Operand} {t yt ty : TypeId} {pos : String} {af : Array Edge} {g : Option (Nat × Bool)} {a b : List UInt8} {β : Bool} (hx : ev f x = some (.string (str a))) (hy : ev f y = some (.string (str b))) (hβ : decide (a = b) = β) : PureV P n ⟨some d, .binOp .eql t x y yt, ty, pos, af, g⟩ f (.bool β) :=
  P_eqT hx hy (by rw [← hβ]; by_cases h : a = b
                  · simp [h]
                  · have : ¬ str a = str b := fun hh => h (str_inj hh)
                    simp [h, this])

theorem num_sl (n : Nat) (hn : n < 18446744073709551616) (w : World) :
    Ret Try.prog 11 [.int .u64 n] w fun v w' => ∃ A cap, v = .slice A (numB n).length cap ∧ SlR w' A ((numB n).map bv) ∧ w'.ownsRow w.heap.size 5 1 v (numB n).length ((numB n).map bv) ∧ Mv No w w' :=
  (num_ret n hn w).mono fun v w' ⟨ho, hm⟩ => by
    obtain ⟨A, cap, he, hs, _⟩ := own_reads ho
    exact ⟨A, cap, he, hs, ho, hm⟩

theorem wirePrefix_ret {w : World} (a b : Nat) (ha : a < 18446744073709551616) (hb : b < 18446744073709551616) :
    Ret Try.prog 4 [.int .u64 a, .int .u64 b] w fun v w' => v = .bool true ∧ Mv No w w' := by
  have hal := numB_len a ha
  have hbl := numB_len b hb
  have hap := numB_pos a
  obtain ⟨m, hm⟩ : ∃ m, m = min (numB a).length (numB b).length := ⟨_, rfl⟩
  have hpre := numB_prefix ha hb m hm
  have hsa := str_size (numB a)
  have hsb := str_size (numB b)
  refine F_enter Try.func4 Try.ntmps4 rfl rfl ?_
  refine C_seq ?_
  refine C_region ?_
  refine L (S (P_assign rfl) ?_)
  refine L_nil ?_
  refine then_n ?_
  refine C_seq ?_
  refine C_seq ?_
  refine C_region ?_
  refine L (S_call cb_10 rfl (lives_ret) ?_)
  rintro _ w1 ⟨rfl, hm1⟩
  refine L (S (P_not rfl rfl) ?_)
  refine L_nil ?_
  refine then_n ?_
  refine C_false rfl ?_
  refine C_skip ?_
  refine then_n ?_
  refine C_seq ?_
  refine C_cutg (γ := Unit) (fun _ => [(0, .int .u64 (a : Int)), (1, .int .u64 (b : Int)), (5, .string (str (numB a))), (6, .string (str (numB b)))]) (fun _ wc => Mv No w wc) ?_ ?_
  · refine C_draw 8 mixed rfl ?_
    refine A_pure (i := 0) rfl (P_move rfl) ?_ (by decide +kernel) (by decide +kernel) (by decide +kernel) (fun _ _ _ _ h => h) rfl rfl rfl
    refine A_pure (i := 3) rfl (P_move rfl) ?_ (by decide +kernel) (by decide +kernel) (by decide +kernel) (fun _ _ _ _ h => h) rfl rfl rfl
    refine A_one (i := 1) (A_op rfl (S_call cb_11 rfl (num_sl a ha _) ?_)) (by decide +kernel)
    rintro _ w2 ⟨A2, cap2, rfl, hs2, ho2, hm2⟩
    refine A_two (i := 2) (i2 := 4) (A_op rfl (S_bytesStr Try.underlying23 Try.underlying5 Try.underlying9 rfl (l := numB a) (by first | exact hs2 | exact hs2.no hm3) rfl ?_)) (A_op rfl (S_call cb_11 rfl (num_sl b hb _) ?_)) (by decide +kernel)
    · refine A_one (i := 4) (A_op rfl (S_call cb_11 rfl (num_sl b hb _) ?_)) (by decide +kernel)
      rintro _ w3 ⟨A3, cap3, rfl, hs3, ho3, hm3⟩
      refine A_pure (i := 6) rfl (P_assign rfl) ?_ (by decide +kernel) (by decide +kernel) (by decide +kernel) (fun _ _ _ _ h => h) rfl rfl rfl
      refine A_one (i := 5) (A_op rfl (S_bytesStr Try.underlying23 Try.underlying5 Try.underlying9 rfl (l := numB b) hs3 rfl ?_)) (by decide +kernel)
      refine A_pure (i := 7) rfl (P_assign rfl) ?_ (by decide +kernel) (by decide +kernel) (by decide +kernel) (fun _ _ _ _ h => h) rfl rfl rfl
      refine A_done (by decide +kernel) ?_
      refine then_n ?_
      exact ⟨rfl, (), .cons rfl (.cons rfl (.cons rfl (.cons rfl (.nil _)))), (hm1.drew.no hm2).no hm3⟩
    · rintro _ w3 ⟨A3, cap3, rfl, hs3, ho3, hm3⟩
      refine A_two (i := 2) (i2 := 5) (A_op rfl (S_bytesStr Try.underlying23 Try.underlying5 Try.underlying9 rfl (l := numB a) (by first | exact hs2 | exact hs2.no hm3) rfl ?_)) (A_op rfl (S_bytesStr Try.underlying23 Try.underlying5 Try.underlying9 rfl (l := numB b) hs3 rfl ?_)) (by decide +kernel)
      · refine A_pure (i := 6) rfl (P_assign rfl) ?_ (by decide +kernel) (by decide +kernel) (by decide +kernel) (fun _ _ _ _ h => h) rfl rfl rfl
        refine A_one (i := 5) (A_op rfl (S_bytesStr Try.underlying23 Try.underlying5 Try.underlying9 rfl (l := numB b) hs3 rfl ?_)) (by decide +kernel)
        refine A_pure (i := 7) rfl (P_assign rfl) ?_ (by decide +kernel) (by decide +kernel) (by decide +kernel) (fun _ _ _ _ h => h) rfl rfl rfl
        refine A_done (by decide +kernel) ?_
        refine then_n ?_
        exact ⟨rfl, (), .cons rfl (.cons rfl (.cons rfl (.cons rfl (.nil _)))), (hm1.drew.no hm2).no hm3⟩
      · refine A_one (i := 2) (A_op rfl (S_bytesStr Try.underlying23 Try.underlying5 Try.underlying9 rfl (l := numB a) (by first | exact hs2 | exact hs2.no hm3) rfl ?_)) (by decide +kernel)
        refine A_pure (i := 6) rfl (P_assign rfl) ?_ (by decide +kernel) (by decide +kernel) (by decide +kernel) (fun _ _ _ _ h => h) rfl rfl rfl
        refine A_pure (i := 7) rfl (P_assign rfl) ?_ (by decide +kernel) (by decide +kernel) (by decide +kernel) (fun _ _ _ _ h => h) rfl rfl rfl
        refine A_done (by decide +kernel) ?_
        refine then_n ?_
        exact ⟨rfl, (), .cons rfl (.cons rfl (.cons rfl (.cons rfl (.nil _)))), (hm1.drew.no hm2).no hm3⟩
  rintro _ w2 hm2 f' hf'
  refine C_forget hf' ?_
  have hcut1 : (str (numB a)).extract 0 m = str ((numB a).take m) := by rw [str_cut, List.drop_zero]
  have hcut2 : (str (numB b)).extract 0 m = str ((numB b).take m) := by rw [str_cut, List.drop_zero]
  have heq : (decide ((numB a).take m = (numB b).take m) == decide ((a : Int) = (b : Int))) = true := by
    by_cases h : a = b
    · simp [h]
    · have h1 : ¬ (numB a).take m = (numB b).take m := fun hh => h (hpre.1 hh)
      have h2 : ¬ (a : Int) = (b : Int) := by omega
      simp [h1, h2]
  refine C_seq ?_
  refine C_region ?_
  refine L (S (P_move rfl) ?_)
  refine L (S (P_lenT Try.underlying9 rfl) ?_)
  refine L (S (P_move rfl) ?_)
  refine L (S (P_lenT Try.underlying9 rfl) ?_)
  refine L (S (P_min rfl rfl (c := (m : Int)) (by rw [hsa, hsb]; split <;> omega)) ?_)
  refine L (S (P_assign rfl) ?_)
  refine L_nil ?_
  refine then_n ?_
  refine C_seq ?_
  by_cases hab : b < a
  · refine C_draw 34 mixed rfl ?_
    refine A_pure (i := 0) rfl (P_move rfl) ?_ (by decide +kernel) (by decide +kernel) (by decide +kernel) (fun _ _ _ _ h => h) rfl rfl rfl
    refine A_pure (i := 1) rfl (P_lenT Try.underlying9 rfl) ?_ (by decide +kernel) (by decide +kernel) (by decide +kernel) (fun _ _ _ _ h => h) rfl rfl rfl
    refine A_pure (i := 2) rfl (P_gt rfl rfl (decide_eq_true (by omega))) ?_ (by decide +kernel) (by decide +kernel) (by decide +kernel) (fun _ _ _ _ h => h) rfl rfl rfl
    refine A_pure (i := 3) rfl (P_move rfl) ?_ (by decide +kernel) (by decide +kernel) (by decide +kernel) (fun _ _ _ _ h => h) rfl rfl rfl
    refine A_pureY (i := 4) (j := 3) (dj := 24) (b := true) rfl (P_move rfl) rfl ?_ (by decide +kernel) (by decide +kernel) (by decide +kernel) (fun _ _ _ _ h => h) rfl rfl rfl rfl
    refine A_pureY (i := 5) (j := 3) (dj := 24) (b := true) rfl (P_lenT Try.underlying9 rfl) rfl ?_ (by decide +kernel) (by decide +kernel) (by decide +kernel) (fun _ _ _ _ h => h) rfl rfl rfl rfl
    refine A_pureY (i := 6) (j := 3) (dj := 24) (b := true) rfl (P_le rfl rfl (decide_eq_true (by omega))) rfl ?_ (by decide +kernel) (by decide +kernel) (by decide +kernel) (fun _ _ _ _ h => h) rfl rfl rfl rfl
    refine A_pure (i := 7) rfl (P_pickT rfl rfl) ?_ (by decide +kernel) (by decide +kernel) (by decide +kernel) (fun _ _ _ _ h => h) rfl rfl rfl
    refine A_pure (i := 8) rfl (P_move rfl) ?_ (by decide +kernel) (by decide +kernel) (by decide +kernel) (fun _ _ _ _ h => h) rfl rfl rfl
    refine A_pureY (i := 9) (j := 8) (dj := 29) (b := true) rfl (P_move rfl) rfl ?_ (by decide +kernel) (by decide +kernel) (by decide +kernel) (fun _ _ _ _ h => h) rfl rfl rfl rfl
    refine A_pureY (i := 10) (j := 8) (dj := 29) (b := true) rfl (P_move rfl) rfl ?_ (by decide +kernel) (by decide +kernel) (by decide +kernel) (fun _ _ _ _ h => h) rfl rfl rfl rfl
    refine A_pureY (i := 11) (j := 8) (dj := 29) (b := true) rfl (P_sliceT Try.underlying9 rfl bnd_none (bnd_some (j := m) rfl rfl) (by omega) (by omega) hcut1) rfl ?_ (by decide +kernel) (by decide +kernel) (by decide +kernel) (fun _ _ _ _ h => h) rfl rfl rfl rfl
    refine A_pureY (i := 12) (j := 8) (dj := 29) (b := true) rfl (P_move rfl) rfl ?_ (by decide +kernel) (by decide +kernel) (by decide +kernel) (fun _ _ _ _ h => h) rfl rfl rfl rfl
    refine A_pureY (i := 13) (j := 8) (dj := 29) (b := true) rfl (P_move rfl) rfl ?_ (by decide +kernel) (by decide +kernel) (by decide +kernel) (fun _ _ _ _ h => h) rfl rfl rfl rfl
    refine A_pureY (i := 14) (j := 8) (dj := 29) (b := true) rfl (P_sliceT Try.underlying9 rfl bnd_none (bnd_some (j := m) rfl rfl) (by omega) (by omega) hcut2) rfl ?_ (by decide +kernel) (by decide +kernel) (by decide +kernel) (fun _ _ _ _ h => h) rfl rfl rfl rfl
    refine A_pureY (i := 15) (j := 8) (dj := 29) (b := true) rfl (P_eqTs rfl rfl rfl) rfl ?_ (by decide +kernel) (by decide +kernel) (by decide +kernel) (fun _ _ _ _ h => h) rfl rfl rfl rfl
    refine A_pureY (i := 16) (j := 8) (dj := 29) (b := true) rfl (P_move rfl) rfl ?_ (by decide +kernel) (by decide +kernel) (by decide +kernel) (fun _ _ _ _ h => h) rfl rfl rfl rfl
    refine A_pureY (i := 17) (j := 8) (dj := 29) (b := true) rfl (P_move rfl) rfl ?_ (by decide +kernel) (by decide +kernel) (by decide +kernel) (fun _ _ _ _ h => h) rfl rfl rfl rfl
    refine A_pureY (i := 18) (j := 8) (dj := 29) (b := true) rfl (P_eq rfl rfl rfl) rfl ?_ (by decide +kernel) (by decide +kernel) (by decide +kernel) (fun _ _ _ _ h => h) rfl rfl rfl rfl
    refine A_pureY (i := 19) (j := 8) (dj := 29) (b := true) rfl (P_eqB (β := true) Try.underlying4 rfl rfl heq) rfl ?_ (by decide +kernel) (by decide +kernel) (by decide +kernel) (fun _ _ _ _ h => h) rfl rfl rfl rfl
    refine A_pure (i := 20) rfl (P_pickT rfl rfl) ?_ (by decide +kernel) (by decide +kernel) (by decide +kernel) (fun _ _ _ _ h => h) rfl rfl rfl
    refine A_pure (i := 21) rfl (P_move rfl) ?_ (by decide +kernel) (by decide +kernel) (by decide +kernel) (fun _ _ _ _ h => h) rfl rfl rfl
    refine A_pureY (i := 22) (j := 21) (dj := 42) (b := true) rfl (P_move rfl) rfl ?_ (by decide +kernel) (by decide +kernel) (by decide +kernel) (fun _ _ _ _ h => h) rfl rfl rfl rfl
    refine A_pureY (i := 23) (j := 21) (dj := 42) (b := true) rfl (P_move rfl) rfl ?_ (by decide +kernel) (by decide +kernel) (by decide +kernel) (fun _ _ _ _ h => h) rfl rfl rfl rfl
    refine A_pureY (i := 24) (j := 21) (dj := 42) (b := true) rfl (P_gt rfl rfl (decide_eq_true (by omega))) rfl ?_ (by decide +kernel) (by decide +kernel) (by decide +kernel) (fun _ _ _ _ h => h) rfl rfl rfl rfl
    refine A_pureY (i := 25) (j := 21) (dj := 42) (b := true) rfl (P_move rfl) rfl ?_ (by decide +kernel) (by decide +kernel) (by decide +kernel) (fun _ _ _ _ h => h) rfl rfl rfl rfl
    refine A_pureN (i := 26) (j := 25) (dj := 46) (b := false) (b' := true) rfl rfl ?_ (by decide +kernel) (by decide +kernel) (by decide +kernel) (fun _ _ _ _ h => h) rfl rfl rfl rfl rfl
    refine A_pureN (i := 27) (j := 25) (dj := 46) (b := false) (b' := true) rfl rfl ?_ (by decide +kernel) (by decide +kernel) (by decide +kernel) (fun _ _ _ _ h => h) rfl rfl rfl rfl rfl
    refine A_pureN (i := 28) (j := 25) (dj := 46) (b := false) (b' := true) rfl rfl ?_ (by decide +kernel) (by decide +kernel) (by decide +kernel) (fun _ _ _ _ h => h) rfl rfl rfl rfl rfl
    refine A_pureN (i := 29) (j := 25) (dj := 46) (b := false) (b' := true) rfl rfl ?_ (by decide +kernel) (by decide +kernel) (by decide +kernel) (fun _ _ _ _ h => h) rfl rfl rfl rfl rfl
    refine A_pureN (i := 30) (j := 25) (dj := 46) (b := false) (b' := true) rfl rfl ?_ (by decide +kernel) (by decide +kernel) (by decide +kernel) (fun _ _ _ _ h => h) rfl rfl rfl rfl rfl
    refine A_pureY (i := 31) (j := 21) (dj := 42) (b := true) rfl (P_pickT rfl rfl) rfl ?_ (by decide +kernel) (by decide +kernel) (by decide +kernel) (fun _ _ _ _ h => h) rfl rfl rfl rfl
    refine A_pure (i := 32) rfl (P_pickT rfl rfl) ?_ (by decide +kernel) (by decide +kernel) (by decide +kernel) (fun _ _ _ _ h => h) rfl rfl rfl
    refine A_pure (i := 33) rfl (P_assign rfl) ?_ (by decide +kernel) (by decide +kernel) (by decide +kernel) (fun _ _ _ _ h => h) rfl rfl rfl
    refine A_done (by decide +kernel) ?_
    refine then_n ?_
    refine C_ret ?_
    refine F_ret1 Try.results4 rfl ?_
    exact ⟨rfl, hm2.drew⟩
  · have hmono := numB_mono a b (by omega)
    refine C_draw 34 mixed rfl ?_
    refine A_pure (i := 0) rfl (P_move rfl) ?_ (by decide +kernel) (by decide +kernel) (by decide +kernel) (fun _ _ _ _ h => h) rfl rfl rfl
    refine A_pure (i := 1) rfl (P_lenT Try.underlying9 rfl) ?_ (by decide +kernel) (by decide +kernel) (by decide +kernel) (fun _ _ _ _ h => h) rfl rfl rfl
    refine A_pure (i := 2) rfl (P_gt rfl rfl (decide_eq_true (by omega))) ?_ (by decide +kernel) (by decide +kernel) (by decide +kernel) (fun _ _ _ _ h => h) rfl rfl rfl
    refine A_pure (i := 3) rfl (P_move rfl) ?_ (by decide +kernel) (by decide +kernel) (by decide +kernel) (fun _ _ _ _ h => h) rfl rfl rfl
    refine A_pureY (i := 4) (j := 3) (dj := 24) (b := true) rfl (P_move rfl) rfl ?_ (by decide +kernel) (by decide +kernel) (by decide +kernel) (fun _ _ _ _ h => h) rfl rfl rfl rfl
    refine A_pureY (i := 5) (j := 3) (dj := 24) (b := true) rfl (P_lenT Try.underlying9 rfl) rfl ?_ (by decide +kernel) (by decide +kernel) (by decide +kernel) (fun _ _ _ _ h => h) rfl rfl rfl rfl
    refine A_pureY (i := 6) (j := 3) (dj := 24) (b := true) rfl (P_le rfl rfl (decide_eq_true (by omega))) rfl ?_ (by decide +kernel) (by decide +kernel) (by decide +kernel) (fun _ _ _ _ h => h) rfl rfl rfl rfl
    refine A_pure (i := 7) rfl (P_pickT rfl rfl) ?_ (by decide +kernel) (by decide +kernel) (by decide +kernel) (fun _ _ _ _ h => h) rfl rfl rfl
    refine A_pure (i := 8) rfl (P_move rfl) ?_ (by decide +kernel) (by decide +kernel) (by decide +kernel) (fun _ _ _ _ h => h) rfl rfl rfl
    refine A_pureY (i := 9) (j := 8) (dj := 29) (b := true) rfl (P_move rfl) rfl ?_ (by decide +kernel) (by decide +kernel) (by decide +kernel) (fun _ _ _ _ h => h) rfl rfl rfl rfl
    refine A_pureY (i := 10) (j := 8) (dj := 29) (b := true) rfl (P_move rfl) rfl ?_ (by decide +kernel) (by decide +kernel) (by decide +kernel) (fun _ _ _ _ h => h) rfl rfl rfl rfl
    refine A_pureY (i := 11) (j := 8) (dj := 29) (b := true) rfl (P_sliceT Try.underlying9 rfl bnd_none (bnd_some (j := m) rfl rfl) (by omega) (by omega) hcut1) rfl ?_ (by decide +kernel) (by decide +kernel) (by decide +kernel) (fun _ _ _ _ h => h) rfl rfl rfl rfl
    refine A_pureY (i := 12) (j := 8) (dj := 29) (b := true) rfl (P_move rfl) rfl ?_ (by decide +kernel) (by decide +kernel) (by decide +kernel) (fun _ _ _ _ h => h) rfl rfl rfl rfl
    refine A_pureY (i := 13) (j := 8) (dj := 29) (b := true) rfl (P_move rfl) rfl ?_ (by decide +kernel) (by decide +kernel) (by decide +kernel) (fun _ _ _ _ h => h) rfl rfl rfl rfl
    refine A_pureY (i := 14) (j := 8) (dj := 29) (b := true) rfl (P_sliceT Try.underlying9 rfl bnd_none (bnd_some (j := m) rfl rfl) (by omega) (by omega) hcut2) rfl ?_ (by decide +kernel) (by decide +kernel) (by decide +kernel) (fun _ _ _ _ h => h) rfl rfl rfl rfl
    refine A_pureY (i := 15) (j := 8) (dj := 29) (b := true) rfl (P_eqTs rfl rfl rfl) rfl ?_ (by decide +kernel) (by decide +kernel) (by decide +kernel) (fun _ _ _ _ h => h) rfl rfl rfl rfl
    refine A_pureY (i := 16) (j := 8) (dj := 29) (b := true) rfl (P_move rfl) rfl ?_ (by decide +kernel) (by decide +kernel) (by decide +kernel) (fun _ _ _ _ h => h) rfl rfl rfl rfl
    refine A_pureY (i := 17) (j := 8) (dj := 29) (b := true) rfl (P_move rfl) rfl ?_ (by decide +kernel) (by decide +kernel) (by decide +kernel) (fun _ _ _ _ h => h) rfl rfl rfl rfl
    refine A_pureY (i := 18) (j := 8) (dj := 29) (b := true) rfl (P_eq rfl rfl rfl) rfl ?_ (by decide +kernel) (by decide +kernel) (by decide +kernel) (fun _ _ _ _ h => h) rfl rfl rfl rfl
    refine A_pureY (i := 19) (j := 8) (dj := 29) (b := true) rfl (P_eqB (β := true) Try.underlying4 rfl rfl heq) rfl ?_ (by decide +kernel) (by decide +kernel) (by decide +kernel) (fun _ _ _ _ h => h) rfl rfl rfl rfl
    refine A_pure (i := 20) rfl (P_pickT rfl rfl) ?_ (by decide +kernel) (by decide +kernel) (by decide +kernel) (fun _ _ _ _ h => h) rfl rfl rfl
    refine A_pure (i := 21) rfl (P_move rfl) ?_ (by decide +kernel) (by decide +kernel) (by decide +kernel) (fun _ _ _ _ h => h) rfl rfl rfl
    refine A_pureY (i := 22) (j := 21) (dj := 42) (b := true) rfl (P_move rfl) rfl ?_ (by decide +kernel) (by decide +kernel) (by decide +kernel) (fun _ _ _ _ h => h) rfl rfl rfl rfl
    refine A_pureY (i := 23) (j := 21) (dj := 42) (b := true) rfl (P_move rfl) rfl ?_ (by decide +kernel) (by decide +kernel) (by decide +kernel) (fun _ _ _ _ h => h) rfl rfl rfl rfl
    refine A_pureY (i := 24) (j := 21) (dj := 42) (b := true) rfl (P_gt rfl rfl (decide_eq_false (by omega))) rfl ?_ (by decide +kernel) (by decide +kernel) (by decide +kernel) (fun _ _ _ _ h => h) rfl rfl rfl rfl
    refine A_pureY (i := 25) (j := 21) (dj := 42) (b := true) rfl (P_move rfl) rfl ?_ (by decide +kernel) (by decide +kernel) (by decide +kernel) (fun _ _ _ _ h => h) rfl rfl rfl rfl
    refine A_pureY (i := 26) (j := 25) (dj := 46) (b := false) rfl (P_move rfl) rfl ?_ (by decide +kernel) (by decide +kernel) (by decide +kernel) (fun _ _ _ _ h => h) rfl rfl rfl rfl
    refine A_pureY (i := 27) (j := 25) (dj := 46) (b := false) rfl (P_lenT Try.underlying9 rfl) rfl ?_ (by decide +kernel) (by decide +kernel) (by decide +kernel) (fun _ _ _ _ h => h) rfl rfl rfl rfl
    refine A_pureY (i := 28) (j := 25) (dj := 46) (b := false) rfl (P_move rfl) rfl ?_ (by decide +kernel) (by decide +kernel) (by decide +kernel) (fun _ _ _ _ h => h) rfl rfl rfl rfl
    refine A_pureY (i := 29) (j := 25) (dj := 46) (b := false) rfl (P_lenT Try.underlying9 rfl) rfl ?_ (by decide +kernel) (by decide +kernel) (by decide +kernel) (fun _ _ _ _ h => h) rfl rfl rfl rfl
    refine A_pureY (i := 30) (j := 25) (dj := 46) (b := false) rfl (P_le rfl rfl (decide_eq_true (by omega))) rfl ?_ (by decide +kernel) (by decide +kernel) (by decide +kernel) (fun _ _ _ _ h => h) rfl rfl rfl rfl
    refine A_pureY (i := 31) (j := 21) (dj := 42) (b := true) rfl (P_pickF rfl rfl) rfl ?_ (by decide +kernel) (by decide +kernel) (by decide +kernel) (fun _ _ _ _ h => h) rfl rfl rfl rfl
    refine A_pure (i := 32) rfl (P_pickT rfl rfl) ?_ (by decide +kernel) (by decide +kernel) (by decide +kernel) (fun _ _ _ _ h => h) rfl rfl rfl
    refine A_pure (i := 33) rfl (P_assign rfl) ?_ (by decide +kernel) (by decide +kernel) (by decide +kernel) (fun _ _ _ _ h => h) rfl rfl rfl
    refine A_done (by decide +kernel) ?_
    refine then_n ?_
    refine C_ret ?_
    refine F_ret1 Try.results4 rfl ?_
    exact ⟨rfl, hm2.drew⟩

theorem wireInts_ret {w : World} (n : Int) (h0 : -9223372036854775808 ≤ n) (h9 : n < 9223372036854775808) (x : Bool) :
    Ret Try.prog 9 [.int .i64 n, .bool x] w fun v w' => v = .bool true ∧ Mv No w w' := by
  have hz := zig_lt n h0 h9
  have hnl := numB_len (zig n) hz
  have hbl : (boolB x).length = 1 := by cases x <;> rfl
  have hrI : ∀ rest, rInt (numB (zig n) ++ rest) 0 = (n, rest, 0) := fun rest => by
    simp only [rInt, rNum_numB _ hz, unzig_zig n h0 h9]
  have hrB : rBool (boolB x) 0 = (x, [], 0) := by cases x <;> rfl
  refine F_enter Try.func9 Try.ntmps9 rfl rfl ?_
  refine C_seq ?_
  refine C_region ?_
  refine L (S (P_assign rfl) ?_)
  refine L_nil ?_
  refine then_n ?_
  refine C_seq ?_
  refine C_seq ?_
  refine C_region ?_
  refine L (S_call cb_10 rfl (lives_ret) ?_)
  rintro _ w1 ⟨rfl, hm1⟩
  refine L (S (P_not rfl rfl) ?_)
  refine L_nil ?_
  refine then_n ?_
  refine C_false rfl ?_
  refine C_skip ?_
  refine then_n ?_
  refine C_seq ?_
  refine C_region ?_
  refine L (S (P_move rfl) ?_)
  refine L (S_call cb_26 rfl (int_ret n h0 h9) ?_)
  rintro v2 w2 ⟨ho2, hm2⟩
  refine L (S (P_assign rfl) ?_)
  refine L_nil ?_
  refine then_n ?_
  refine C_seq ?_
  obtain ⟨A2, cap2, rfl, hs2, hc1, hc2, hc3⟩ := own_reads ho2
  have hm02 : Mv No w w2 := hm1.no hm2
  refine C_region ?_
  refine L (S_buildSlice0 Try.underlying23 ti_5 ?_)
  rintro b3 w3 ho3 hm3 hn3
  refine L (S (P_move rfl) ?_)
  refine L (S_append Try.underlying23 ti_5 rfl (by decide) rfl ho3 rfl (hs2.no hm3) (by simp) (bv_one _) hm3.size (by unfold maxLen; omega) (by omega) ?_)
  rintro v4 w4 ho4 hm4 hf4
  have hm24 : Mv No w2 w4 := (Mv.refl w2 |>.no hm3).own hm4 ho3 (Nat.le_refl _)
  refine L (S (P_move rfl) ?_)
  refine L (S_call cb_27 rfl (bool_ret x) ?_)
  rintro _ w5 ⟨b5, rfl, hb5, hn5, hm5⟩
  have ho4' := own_no ho4 hm5
  have hm25 : Mv No w2 w5 := hm24.no hm5
  have hs5' : SlR w5 (some ⟨b5, 0, none⟩) ((boolB x).map bv) := .inr ⟨b5, 0, rfl, hb5.row⟩
  refine L (S_append Try.underlying23 ti_5 rfl (by decide) rfl ho4' rfl hs5' (by simp [hbl]) (bv_one _) (by have := hm25.size; omega) (by unfold maxLen; omega) (by omega) ?_)
  rintro v6 w6 ho6 hm6 hf6
  have hm26 : Mv No w2 w6 := hm25.own hm6 ho4' (Nat.le_refl _)
  have ho6' : w6.ownsRow w2.heap.size 5 1 v6 (numB (zig n) ++ boolB x).length ((numB (zig n) ++ boolB x).map bv) := by
    have : (numB (zig n) ++ boolB x).length = 0 + (numB (zig n)).length + 1 := by simp [hbl]
    rw [this]
    simpa using ho6
  obtain ⟨A6, cap6, rfl, hs6', hd1, hd2, hd3⟩ := own_reads ho6'
  refine L (S_call cb_12 rfl (read_ret (numB (zig n) ++ boolB x) hs6' (by simp; omega)) ?_)
  rintro _ w7 ⟨g, rfl, hR, hm7⟩
  refine L (S (P_assign rfl) ?_)
  refine L_nil ?_
  refine then_n ?_
  refine C_seq ?_
  have hs7 : SlR w7.drew A2 ((numB (zig n)).map bv) := hs2.no ((hm26.no hm7).drew)
  have hm07 : Mv No w w7.drew := ((hm02.no hm26).no hm7).drew
  have hg : w.heap.size ≤ g := Nat.le_trans (hm02.no hm26).size hR.lo
  have hR7 := hR.drew
  have hI : ∀ {w' : World}, IsR w' w6.heap.size g (numB (zig n) ++ boolB x) 0 → Ret Try.prog 23 [.pointer (some ⟨g, 0, none⟩)] w' fun v w'' => v = .int .i64 n ∧ IsR w'' w6.heap.size g (boolB x) 0 ∧ Mv (At g) w' w'' := fun h => by
    have := rint_ret h
    rw [hrI] at this
    exact this
  have hB : ∀ {w' : World}, IsR w' w6.heap.size g (boolB x) 0 → Ret Try.prog 25 [.pointer (some ⟨g, 0, none⟩)] w' fun v w'' => v = .bool x ∧ IsR w'' w6.heap.size g [] 0 ∧ Mv (At g) w' w'' := fun h => by
    have := rbool_ret h
    rw [hrB] at this
    exact this
  refine C_draw 28 mixed rfl ?_
  refine A_pure (i := 0) rfl (P_move rfl) ?_ (by decide +kernel) (by decide +kernel) (by decide +kernel) (fun _ _ _ _ h => h) rfl rfl rfl
  refine A_pure (i := 2) rfl (P_move rfl) ?_ (by decide +kernel) (by decide +kernel) (by decide +kernel) (fun _ _ _ _ h => h) rfl rfl rfl
  refine A_two (i := 1) (i2 := 3) (A_op rfl (S_bytesStr Try.underlying23 Try.underlying5 Try.underlying9 rfl (l := numB (zig n)) (by first | exact hs7 | exact hs7.no hm8) rfl ?_)) (A_op rfl (S_call cb_28 rfl (refint_ret n h0 h9) ?_)) (by decide +kernel)
  · refine A_one (i := 3) (A_op rfl (S_call cb_28 rfl (refint_ret n h0 h9) ?_)) (by decide +kernel)
    rintro _ w8 ⟨rfl, hm8⟩
    refine A_pure (i := 4) rfl (P_eqT rfl rfl (decide_eq_true rfl)) ?_ (by decide +kernel) (by decide +kernel) (by decide +kernel) (fun _ _ _ _ h => h) rfl rfl rfl
    refine A_pure (i := 5) rfl (P_move rfl) ?_ (by decide +kernel) (by decide +kernel) (by decide +kernel) (fun _ _ _ _ h => h) rfl rfl rfl
    refine A_pureY (i := 6) (j := 5) (dj := 23) (b := true) rfl (P_move rfl) rfl ?_ (by decide +kernel) (by decide +kernel) (by decide +kernel) (fun _ _ _ _ h => h) rfl rfl rfl rfl
    refine A_pureY (i := 8) (j := 5) (dj := 23) (b := true) rfl (P_move rfl) rfl ?_ (by decide +kernel) (by decide +kernel) (by decide +kernel) (fun _ _ _ _ h => h) rfl rfl rfl rfl
    refine A_one (i := 7) (A_yes (j := 5) (dj := 23) (b := true) rfl rfl (S_call cb_23 rfl (hI (hR7.no hm8)) ?_)) (by decide +kernel)
    rintro _ w9 ⟨rfl, hR9, hm9⟩
    refine A_pureY (i := 9) (j := 5) (dj := 23) (b := true) rfl (P_eq rfl rfl (decide_eq_true rfl)) rfl ?_ (by decide +kernel) (by decide +kernel) (by decide +kernel) (fun _ _ _ _ h => h) rfl rfl rfl rfl
    refine A_pure (i := 10) rfl (P_pickT rfl rfl) ?_ (by decide +kernel) (by decide +kernel) (by decide +kernel) (fun _ _ _ _ h => h) rfl rfl rfl
    refine A_pure (i := 11) rfl (P_move rfl) ?_ (by decide +kernel) (by decide +kernel) (by decide +kernel) (fun _ _ _ _ h => h) rfl rfl rfl
    refine A_pureY (i := 12) (j := 11) (dj := 29) (b := true) rfl (P_move rfl) rfl ?_ (by decide +kernel) (by decide +kernel) (by decide +kernel) (fun _ _ _ _ h => h) rfl rfl rfl rfl
    refine A_one (i := 13) (A_yes (j := 11) (dj := 29) (b := true) rfl rfl (S_call cb_15 rfl (rleft_ret hR9) ?_)) (by decide +kernel)
    rintro _ _ ⟨rfl, rfl⟩
    refine A_pureY (i := 14) (j := 11) (dj := 29) (b := true) rfl (P_eq rfl rfl (decide_eq_true (by omega))) rfl ?_ (by decide +kernel) (by decide +kernel) (by decide +kernel) (fun _ _ _ _ h => h) rfl rfl rfl rfl
    refine A_pure (i := 15) rfl (P_pickT rfl rfl) ?_ (by decide +kernel) (by decide +kernel) (by decide +kernel) (fun _ _ _ _ h => h) rfl rfl rfl
    refine A_pure (i := 16) rfl (P_move rfl) ?_ (by decide +kernel) (by decide +kernel) (by decide +kernel) (fun _ _ _ _ h => h) rfl rfl rfl
    refine A_pureY (i := 17) (j := 16) (dj := 34) (b := true) rfl (P_move rfl) rfl ?_ (by decide +kernel) (by decide +kernel) (by decide +kernel) (fun _ _ _ _ h => h) rfl rfl rfl rfl
    refine A_pureY (i := 19) (j := 16) (dj := 34) (b := true) rfl (P_move rfl) rfl ?_ (by decide +kernel) (by decide +kernel) (by decide +kernel) (fun _ _ _ _ h => h) rfl rfl rfl rfl
    refine A_one (i := 18) (A_yes (j := 16) (dj := 34) (b := true) rfl rfl (S_call cb_25 rfl (hB hR9) ?_)) (by decide +kernel)
    rintro _ w10 ⟨rfl, hR10, hm10⟩
    refine A_pureY (i := 20) (j := 16) (dj := 34) (b := true) rfl (P_eqB (β := true) Try.underlying4 rfl rfl (by simp)) rfl ?_ (by decide +kernel) (by decide +kernel) (by decide +kernel) (fun _ _ _ _ h => h) rfl rfl rfl rfl
    refine A_pure (i := 21) rfl (P_pickT rfl rfl) ?_ (by decide +kernel) (by decide +kernel) (by decide +kernel) (fun _ _ _ _ h => h) rfl rfl rfl
    refine A_pure (i := 22) rfl (P_move rfl) ?_ (by decide +kernel) (by decide +kernel) (by decide +kernel) (fun _ _ _ _ h => h) rfl rfl rfl
    refine A_pureY (i := 23) (j := 22) (dj := 40) (b := true) rfl (P_move rfl) rfl ?_ (by decide +kernel) (by decide +kernel) (by decide +kernel) (fun _ _ _ _ h => h) rfl rfl rfl rfl
    refine A_one (i := 24) (A_yes (j := 22) (dj := 40) (b := true) rfl rfl (S_call cb_20 rfl (rend_ret hR10) ?_)) (by decide +kernel)
    rintro _ w11 ⟨rfl, hR11, hm11⟩
    refine A_pureY (i := 25) (j := 22) (dj := 40) (b := true) rfl (P_eq rfl rfl (decide_eq_true (by decide))) rfl ?_ (by decide +kernel) (by decide +kernel) (by decide +kernel) (fun _ _ _ _ h => h) rfl rfl rfl rfl
    refine A_pure (i := 26) rfl (P_pickT rfl rfl) ?_ (by decide +kernel) (by decide +kernel) (by decide +kernel) (fun _ _ _ _ h => h) rfl rfl rfl
    refine A_pure (i := 27) rfl (P_assign rfl) ?_ (by decide +kernel) (by decide +kernel) (by decide +kernel) (fun _ _ _ _ h => h) rfl rfl rfl
    refine A_done (by decide +kernel) ?_
    refine then_n ?_
    refine C_ret ?_
    refine F_ret1 Try.results9 rfl ?_
    exact ⟨rfl, (((hm07.no hm8).new hm9 hg).new hm10 hg).new hm11 hg⟩
  · rintro _ w8 ⟨rfl, hm8⟩
    refine A_one (i := 1) (A_op rfl (S_bytesStr Try.underlying23 Try.underlying5 Try.underlying9 rfl (l := numB (zig n)) (by first | exact hs7 | exact hs7.no hm8) rfl ?_)) (by decide +kernel)
    refine A_pure (i := 4) rfl (P_eqT rfl rfl (decide_eq_true rfl)) ?_ (by decide +kernel) (by decide +kernel) (by decide +kernel) (fun _ _ _ _ h => h) rfl rfl rfl
    refine A_pure (i := 5) rfl (P_move rfl) ?_ (by decide +kernel) (by decide +kernel) (by decide +kernel) (fun _ _ _ _ h => h) rfl rfl rfl
    refine A_pureY (i := 6) (j := 5) (dj := 23) (b := true) rfl (P_move rfl) rfl ?_ (by decide +kernel) (by decide +kernel) (by decide +kernel) (fun _ _ _ _ h => h) rfl rfl rfl rfl
    refine A_pureY (i := 8) (j := 5) (dj := 23) (b := true) rfl (P_move rfl) rfl ?_ (by decide +kernel) (by decide +kernel) (by decide +kernel) (fun _ _ _ _ h => h) rfl rfl rfl rfl
    refine A_one (i := 7) (A_yes (j := 5) (dj := 23) (b := true) rfl rfl (S_call cb_23 rfl (hI (hR7.no hm8)) ?_)) (by decide +kernel)
    rintro _ w9 ⟨rfl, hR9, hm9⟩
    refine A_pureY (i := 9) (j := 5) (dj := 23) (b := true) rfl (P_eq rfl rfl (decide_eq_true rfl)) rfl ?_ (by decide +kernel) (by decide +kernel) (by decide +kernel) (fun _ _ _ _ h => h) rfl rfl rfl rfl
    refine A_pure (i := 10) rfl (P_pickT rfl rfl) ?_ (by decide +kernel) (by decide +kernel) (by decide +kernel) (fun _ _ _ _ h => h) rfl rfl rfl
    refine A_pure (i := 11) rfl (P_move rfl) ?_ (by decide +kernel) (by decide +kernel) (by decide +kernel) (fun _ _ _ _ h => h) rfl rfl rfl
    refine A_pureY (i := 12) (j := 11) (dj := 29) (b := true) rfl (P_move rfl) rfl ?_ (by decide +kernel) (by decide +kernel) (by decide +kernel) (fun _ _ _ _ h => h) rfl rfl rfl rfl
    refine A_one (i := 13) (A_yes (j := 11) (dj := 29) (b := true) rfl rfl (S_call cb_15 rfl (rleft_ret hR9) ?_)) (by decide +kernel)
    rintro _ _ ⟨rfl, rfl⟩
    refine A_pureY (i := 14) (j := 11) (dj := 29) (b := true) rfl (P_eq rfl rfl (decide_eq_true (by omega))) rfl ?_ (by decide +kernel) (by decide +kernel) (by decide +kernel) (fun _ _ _ _ h => h) rfl rfl rfl rfl
    refine A_pure (i := 15) rfl (P_pickT rfl rfl) ?_ (by decide +kernel) (by decide +kernel) (by decide +kernel) (fun _ _ _ _ h => h) rfl rfl rfl
    refine A_pure (i := 16) rfl (P_move rfl) ?_ (by decide +kernel) (by decide +kernel) (by decide +kernel) (fun _ _ _ _ h => h) rfl rfl rfl
    refine A_pureY (i := 17) (j := 16) (dj := 34) (b := true) rfl (P_move rfl) rfl ?_ (by decide +kernel) (by decide +kernel) (by decide +kernel) (fun _ _ _ _ h => h) rfl rfl rfl rfl
    refine A_pureY (i := 19) (j := 16) (dj := 34) (b := true) rfl (P_move rfl) rfl ?_ (by decide +kernel) (by decide +kernel) (by decide +kernel) (fun _ _ _ _ h => h) rfl rfl rfl rfl
    refine A_one (i := 18) (A_yes (j := 16) (dj := 34) (b := true) rfl rfl (S_call cb_25 rfl (hB hR9) ?_)) (by decide +kernel)
    rintro _ w10 ⟨rfl, hR10, hm10⟩
    refine A_pureY (i := 20) (j := 16) (dj := 34) (b := true) rfl (P_eqB (β := true) Try.underlying4 rfl rfl (by simp)) rfl ?_ (by decide +kernel) (by decide +kernel) (by decide +kernel) (fun _ _ _ _ h => h) rfl rfl rfl rfl
    refine A_pure (i := 21) rfl (P_pickT rfl rfl) ?_ (by decide +kernel) (by decide +kernel) (by decide +kernel) (fun _ _ _ _ h => h) rfl rfl rfl
    refine A_pure (i := 22) rfl (P_move rfl) ?_ (by decide +kernel) (by decide +kernel) (by decide +kernel) (fun _ _ _ _ h => h) rfl rfl rfl
    refine A_pureY (i := 23) (j := 22) (dj := 40) (b := true) rfl (P_move rfl) rfl ?_ (by decide +kernel) (by decide +kernel) (by decide +kernel) (fun _ _ _ _ h => h) rfl rfl rfl rfl
    refine A_one (i := 24) (A_yes (j := 22) (dj := 40) (b := true) rfl rfl (S_call cb_20 rfl (rend_ret hR10) ?_)) (by decide +kernel)
    rintro _ w11 ⟨rfl, hR11, hm11⟩
    refine A_pureY (i := 25) (j := 22) (dj := 40) (b := true) rfl (P_eq rfl rfl (decide_eq_true (by decide))) rfl ?_ (by decide +kernel) (by decide +kernel) (by decide +kernel) (fun _ _ _ _ h => h) rfl rfl rfl rfl
    refine A_pure (i := 26) rfl (P_pickT rfl rfl) ?_ (by decide +kernel) (by decide +kernel) (by decide +kernel) (fun _ _ _ _ h => h) rfl rfl rfl
    refine A_pure (i := 27) rfl (P_assign rfl) ?_ (by decide +kernel) (by decide +kernel) (by decide +kernel) (fun _ _ _ _ h => h) rfl rfl rfl
    refine A_done (by decide +kernel) ?_
    refine then_n ?_
    refine C_ret ?_
    refine F_ret1 Try.results9 rfl ?_
    exact ⟨rfl, (((hm07.no hm8).new hm9 hg).new hm10 hg).new hm11 hg⟩

end Go.Proofs.Ytgicoidmjfhnbaa
