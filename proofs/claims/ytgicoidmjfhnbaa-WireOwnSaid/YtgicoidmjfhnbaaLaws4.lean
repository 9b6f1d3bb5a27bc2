import Derived.Test.YtgicoidmjfhnbaaLaws3
namespace Go.Proofs.Ytgicoidmjfhnbaa
open Go.RowKit

theorem text_sl (l : List UInt8) (hl : l.length ≤ 140737488355300) (w : World) :
    Ret Try.prog 17 [.string (str l)] w fun v w' => ∃ A cap, v = .slice A (numB l.length ++ l).length cap ∧ SlR w' A ((numB l.length ++ l).map bv) ∧ w'.ownsRow w.heap.size 5 1 v (numB l.length ++ l).length ((numB l.length ++ l).map bv) ∧ Mv No w w' :=
  (text_ret l hl).mono fun v w' ⟨ho, hm⟩ => by
    obtain ⟨A, cap, he, hs, _⟩ := own_reads ho
    exact ⟨A, cap, he, hs, ho, hm⟩

theorem wireTexts_ret {w : World} (l : List UInt8) (hl : l.length ≤ 140737488351232) (most : Int) (h0 : -9223372036854775808 ≤ most) (h9 : most < 9223372036854775808) :
    Ret Try.prog 5 [.string (str l), .int .i64 most] w fun v w' => v = .bool true ∧ Mv No w w' := by
  have hsz := str_size l
  refine F_enter Try.func5 Try.ntmps5 rfl rfl ?_
  refine C_seq ?_
  refine C_region ?_
  refine L (S (P_assign rfl) ?_)
  refine L_nil ?_
  refine then_n ?_
  refine C_seq ?_
  refine C_seq ?_
  by_cases hbig : 1000 < l.length
  · refine C_region ?_
    refine L (S_call cb_10 rfl (lives_ret) ?_)
    rintro _ w1 ⟨rfl, hm1⟩
    refine L (S (P_not rfl rfl) ?_)
    refine L (S (P_move rfl) ?_)
    refine L_yes (j := 2) (dj := 10) (b := false) (S (P_move rfl) ?_) rfl
    refine L_yes (j := 2) (dj := 10) (b := false) (S (P_lenT Try.underlying9 rfl) ?_) rfl
    refine L_yes (j := 2) (dj := 10) (b := false) (S (P_gt rfl rfl (decide_eq_true (by omega))) ?_) rfl
    refine L (S (P_pickF rfl rfl) ?_)
    refine L_nil ?_
    refine then_n ?_
    refine C_true rfl ?_
    refine C_seq ?_
    refine C_region ?_
    refine L (S_call cb_10 rfl (lives_ret) ?_)
    rintro _ w2 ⟨rfl, hm2⟩
    refine L (S (P_assign rfl) ?_)
    refine L_nil ?_
    refine then_n ?_
    refine C_ret ?_
    refine then_r ?_
    refine F_ret1 Try.results5 rfl ?_
    exact ⟨rfl, hm1.no hm2⟩
  · have hnl := numB_len l.length (by omega)
    refine C_region ?_
    refine L (S_call cb_10 rfl (lives_ret) ?_)
    rintro _ w1 ⟨rfl, hm1⟩
    refine L (S (P_not rfl rfl) ?_)
    refine L (S (P_move rfl) ?_)
    refine L_yes (j := 2) (dj := 10) (b := false) (S (P_move rfl) ?_) rfl
    refine L_yes (j := 2) (dj := 10) (b := false) (S (P_lenT Try.underlying9 rfl) ?_) rfl
    refine L_yes (j := 2) (dj := 10) (b := false) (S (P_gt rfl rfl (decide_eq_false (by omega))) ?_) rfl
    refine L (S (P_pickF rfl rfl) ?_)
    refine L_nil ?_
    refine then_n ?_
    refine C_false rfl ?_
    refine C_skip ?_
    refine then_n ?_
    refine C_seq ?_
    refine C_region ?_
    refine L (S (P_move rfl) ?_)
    refine L (S_call cb_17 rfl (text_sl l (by omega) _) ?_)
    rintro _ w2 ⟨A2, cap2, rfl, hs2, ho2, hm2⟩
    refine L (S (P_assign rfl) ?_)
    refine L_nil ?_
    refine then_n ?_
    refine C_seq ?_
    refine C_region ?_
    refine L (S (P_move rfl) ?_)
    refine L (S_call cb_12 rfl (read_ret (numB l.length ++ l) hs2 (by simp; omega)) ?_)
    rintro _ w3 ⟨g, rfl, hR, hm3⟩
    refine L (S (P_assign rfl) ?_)
    refine L_nil ?_
    refine then_n ?_
    refine C_seq ?_
    refine C_region ?_
    refine L (S (P_move rfl) ?_)
    refine L (S (P_move rfl) ?_)
    refine L (S_call cb_18 rfl (rtext_ret most h0 h9 hR) ?_)
    rintro _ w4 ⟨rfl, hR4, hm4⟩
    refine L (S (P_assign rfl) ?_)
    refine L_nil ?_
    refine then_n ?_
    refine C_seq ?_
    refine C_seq ?_
    have hm02 : Mv No w w2 := hm1.no hm2
    have hg : w.heap.size ≤ g := Nat.le_trans hm02.size hR.lo
    have hm04 : Mv No w w4 := (hm02.no hm3).new hm4 hg
    have hs4 : SlR w4.drew A2 ((numB l.length ++ l).map bv) := hs2.no (((Mv.refl w2).no hm3 |>.new hm4 hR.lo).drew)
    refine C_cutg (γ := Unit) (fun _ => [(0, .string (str l)), (1, .int .i64 most), (5, .slice A2 (numB l.length ++ l).length cap2), (6, .pointer (some ⟨g, 0, none⟩)), (7, .string (str (rText (numB l.length ++ l) 0 most).1)), (27, .bool false)]) (fun _ wc => Mv No w wc ∧ IsR wc w2.heap.size g (rText (numB l.length ++ l) 0 most).2.1 (rText (numB l.length ++ l) 0 most).2.2) ?_ ?_
    · refine C_draw 5 mixed rfl ?_
      refine A_pure (i := 0) rfl (P_move rfl) ?_ (by decide +kernel) (by decide +kernel) (by decide +kernel) (fun _ _ _ _ h => h) rfl rfl rfl
      refine A_pure (i := 2) rfl (P_move rfl) ?_ (by decide +kernel) (by decide +kernel) (by decide +kernel) (fun _ _ _ _ h => h) rfl rfl rfl
      refine A_two (i := 1) (i2 := 3) (A_op rfl (S_bytesStr Try.underlying23 Try.underlying5 Try.underlying9 rfl (l := numB l.length ++ l) (by first | exact hs4 | exact hs4.no hm5) rfl ?_)) (A_op rfl (S_call cb_19 rfl (reftext_ret l (by omega)) ?_)) (by decide +kernel)
      · refine A_one (i := 3) (A_op rfl (S_call cb_19 rfl (reftext_ret l (by omega)) ?_)) (by decide +kernel)
        rintro _ w5 ⟨rfl, hm5⟩
        refine A_pure (i := 4) rfl (P_neT rfl rfl (decide_eq_false (by simp))) ?_ (by decide +kernel) (by decide +kernel) (by decide +kernel) (fun _ _ _ _ h => h) rfl rfl rfl
        refine A_done (by decide +kernel) ?_
        refine then_n ?_
        exact ⟨rfl, (), .cons rfl (.cons rfl (.cons rfl (.cons rfl (.cons rfl (.cons rfl (.nil _)))))), hm04.drew.no hm5, hR4.drew.no hm5⟩
      · rintro _ w5 ⟨rfl, hm5⟩
        refine A_one (i := 1) (A_op rfl (S_bytesStr Try.underlying23 Try.underlying5 Try.underlying9 rfl (l := numB l.length ++ l) (by first | exact hs4 | exact hs4.no hm5) rfl ?_)) (by decide +kernel)
        refine A_pure (i := 4) rfl (P_neT rfl rfl (decide_eq_false (by simp))) ?_ (by decide +kernel) (by decide +kernel) (by decide +kernel) (fun _ _ _ _ h => h) rfl rfl rfl
        refine A_done (by decide +kernel) ?_
        refine then_n ?_
        exact ⟨rfl, (), .cons rfl (.cons rfl (.cons rfl (.cons rfl (.cons rfl (.cons rfl (.nil _)))))), hm04.drew.no hm5, hR4.drew.no hm5⟩
    rintro _ w5 ⟨hm05, hR5⟩ f' hf'
    refine C_forget hf' ?_
    refine C_false rfl ?_
    refine C_skip ?_
    refine then_n ?_
    refine C_seq ?_
    refine C_seq ?_
    by_cases hlt : most < (l.length : Int)
    · have hT := rText_many l l (by omega) most hlt
      rw [hT] at hR5 ⊢
      dsimp only at hR5 ⊢
      refine C_region ?_
      refine L (S (P_move rfl) ?_)
      refine L (S (P_move rfl) ?_)
      refine L (S (P_lenT Try.underlying9 rfl) ?_)
      refine L (S (P_lt rfl rfl (decide_eq_true (by omega))) ?_)
      refine L_nil ?_
      refine then_n ?_
      refine C_true rfl ?_
      refine C_seq ?_
      refine C_region ?_
      refine L (S (P_move rfl) ?_)
      refine L (S (P_eqT rfl rfl (decide_eq_true rfl)) ?_)
      refine L (S (P_move rfl) ?_)
      refine L_yes (j := 2) (dj := 34) (b := true) (S (P_move rfl) ?_) rfl
      refine L_yes (j := 2) (dj := 34) (b := true) (S_call cb_16 rfl (rerr_ret hR5) ?_) rfl
      rintro _ _ ⟨rfl, rfl⟩
      refine L_yes (j := 2) (dj := 34) (b := true) (S (P_eq rfl rfl (decide_eq_true (by decide))) ?_) rfl
      refine L (S (P_pickT rfl rfl) ?_)
      refine L (S (P_move rfl) ?_)
      refine L_yes (j := 7) (dj := 39) (b := true) (S (P_move rfl) ?_) rfl
      refine L_yes (j := 7) (dj := 39) (b := true) (S_call cb_15 rfl (rleft_ret hR5) ?_) rfl
      rintro _ _ ⟨rfl, rfl⟩
      refine L_yes (j := 7) (dj := 39) (b := true) (S (P_move rfl) ?_) rfl
      refine L_yes (j := 7) (dj := 39) (b := true) (S (P_lenS Try.underlying23 rfl) ?_) rfl
      refine L_yes (j := 7) (dj := 39) (b := true) (S (P_eq rfl rfl (decide_eq_true rfl)) ?_) rfl
      refine L (S (P_pickT rfl rfl) ?_)
      refine L (S (P_assign rfl) ?_)
      refine L_nil ?_
      refine then_n ?_
      refine C_ret ?_
      refine then_r ?_
      refine F_ret1 Try.results5 rfl ?_
      exact ⟨rfl, hm05⟩
    · have hT := rText_ok l [] (by omega) most (by omega)
      rw [List.append_nil] at hT
      rw [hT] at hR5 ⊢
      dsimp only at hR5 ⊢
      refine C_region ?_
      refine L (S (P_move rfl) ?_)
      refine L (S (P_move rfl) ?_)
      refine L (S (P_lenT Try.underlying9 rfl) ?_)
      refine L (S (P_lt rfl rfl (decide_eq_false (by omega))) ?_)
      refine L_nil ?_
      refine then_n ?_
      refine C_false rfl ?_
      refine C_skip ?_
      refine then_n ?_
      refine C_seq ?_
      refine C_region ?_
      refine L (S (P_move rfl) ?_)
      refine L (S (P_move rfl) ?_)
      refine L (S (P_eqT rfl rfl (decide_eq_true rfl)) ?_)
      refine L (S (P_move rfl) ?_)
      refine L_yes (j := 3) (dj := 49) (b := true) (S (P_move rfl) ?_) rfl
      refine L_yes (j := 3) (dj := 49) (b := true) (S_call cb_20 rfl (rend_ret hR5) ?_) rfl
      rintro _ w6 ⟨rfl, hR6, hm6⟩
      refine L_yes (j := 3) (dj := 49) (b := true) (S (P_eq rfl rfl (decide_eq_true (by decide))) ?_) rfl
      refine L (S (P_pickT rfl rfl) ?_)
      refine L (S (P_assign rfl) ?_)
      refine L_nil ?_
      refine then_n ?_
      refine C_ret ?_
      refine F_ret1 Try.results5 rfl ?_
      exact ⟨rfl, hm05.new hm6 hg⟩

end Go.Proofs.Ytgicoidmjfhnbaa
