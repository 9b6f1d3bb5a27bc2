import Derived.Test.YtnoioimphcmeiaaGreatDoorLRefB
namespace Go.Proofs.YtnoioimphcmeiaaGreatDoor
open Go.RowKit
set_option maxRecDepth 20000

theorem drop_cons {l : List UInt8} {i : Nat} {c : UInt8} (hc : l[i]? = some c) : l.drop i = c :: l.drop (i + 1) := by
  obtain ⟨h2, h3⟩ := List.getElem?_eq_some_iff.1 hc
  rw [List.drop_eq_getElem_cons h2, h3]
section
variable {w : World}
set_option maxHeartbeats 2000000 in
theorem reftext_ret (l : List UInt8) (hl : l.length ≤ 100000) (at_ : Nat) (ha : at_ < l.length) :
    Ret Tryz.prog 110 [.string (str l), .int .i64 (at_ : Int)] w fun v w' => (match textF (l.drop (at_ + 1)) with
      | some (s, n) => v = .tuple #[.agg (tkC 5 s at_).toArray, .int .i64 ((at_ + (n + 1) : Nat) : Int), .int .i64 0]
      | none => ∃ k s, v = .tuple #[.agg (tkC k s at_).toArray, .int .i64 (at_ : Int), .int .i64 10]) ∧ Mv No w w' := by
  have hsz := str_size l
  refine F_enter Tryz.func110 Tryz.ntmps110 rfl rfl ?_
  refine C_seq ?_
  refine C_region ?_
  refine L (S_alloc (zs := [(.int .i64 0), (.string (ByteArray.mk #[])), (.int .i64 0)]) ti_71 rfl ?_)
  rintro b4 w1 hb4 hm1 hn1
  refine L (S (P_assign rfl) ?_)
  refine L (S (P_assign rfl) ?_)
  refine L_nil ?_
  refine then_n ?_
  refine C_seq ?_
  have hb4' : Blk w1 b4 (tkC 0 [] 0) 71 := hb4
  clear hb4
  refine C_region ?_
  refine L (S (P_move rfl) ?_)
  refine L (S (P_buildC (ix := [0, 2]) (l := [.const (.int .i64 5), .tmp 9]) bi_71_0_2 rfl (by simp [Value.oneCell']) rfl) ?_)
  refine L (S_alloc (zs := [(.int .i64 0), (.string (ByteArray.mk #[])), (.int .i64 0)]) ti_71 rfl ?_)
  rintro b8 w2 hb8 hm2 hn2
  refine L (S_storeS ti_71 rfl rfl (tk_one 5 [] at_) rfl hb8 (by exact Nat.le_refl 3) ?_)
  rintro w3 hb8' hm3
  refine L_nil ?_
  refine then_n ?_
  refine C_seq ?_
  refine C_seq ?_
  refine C_region ?_
  refine L (S (P_move rfl) ?_)
  refine L (S (P_add rfl rfl (wI64 (c := ((at_ + 1 : Nat) : Int)) (by omega))) ?_)
  refine L (S (P_assign rfl) ?_)
  refine L_nil ?_
  refine then_n ?_
  refine C_block ?_
  have hb83 : Blk w3 b8 (tkC 5 [] at_) 71 := hb8'
  have hn8 : w.heap.size ≤ b8 := Nat.le_trans hm1.size hn2
  have hm03 : Mv No w w3 := (hm1.no hm2).new hm3 hn8
  have h48 : ¬ b4 = b8 := fun he => by have := hb4'.lt; omega
  have hb43 := (hb4'.no hm2).mv hm3 h48
  clear hb8 hb8' hb4'
  refine C_loop (γ := Nat × List UInt8) (fun q => [(0, .string (str l)), (1, .int .i64 (at_ : Int)), (4, .pointer (some ⟨b4, 0, none⟩)), (7, .pointer (some ⟨b8, 0, none⟩)), (8, .int .i64 (q.1 : Int))]) (fun q wr => Blk wr b8 (tkC 5 q.2 at_) 71 ∧ Blk wr b4 (tkC 0 [] 0) 71 ∧ at_ + 1 ≤ q.1 ∧ q.1 ≤ l.length ∧ q.2.length ≤ q.1 ∧ textF (l.drop (at_ + 1)) = (textF (l.drop q.1)).map (fun x => (q.2 ++ x.1, x.2 + (q.1 - (at_ + 1)))) ∧ Mv No w wr) (fun q => l.length - q.1) (at_ + 1, []) (.cons rfl (.cons rfl (.cons rfl (.cons rfl (.cons rfl (.nil _)))))) ⟨hb83, hb43, Nat.le_refl _, ha, Nat.zero_le _, by
    dsimp only
    rw [Nat.sub_self]
    cases textF (l.drop (at_ + 1)) <;> rfl, hm03⟩ ?_
  rintro ⟨i, acc⟩ wr ⟨hb8r, hb4r, hi1, hil, hacc, hgo, hmr⟩
  dsimp only at hb8r hi1 hil hacc hgo
  dsimp only
  have hsa := str_size acc
  rcases Nat.lt_or_ge i l.length with hlt | hge
  · obtain ⟨c, hc⟩ : ∃ c, l[i]? = some c := ⟨l[i], List.getElem?_eq_getElem hlt⟩
    have hdrop := drop_cons hc
    rw [hdrop] at hgo
    by_cases hq : c.toNat = 39
    · have hce : c = 39 := UInt8.toNat_inj.1 hq
      subst hce
      by_cases hend : i + 1 = l.length
      · have hn : l.drop (i + 1) = [] := List.drop_eq_nil_of_le (by omega)
        rw [hn] at hgo
        have he : textF (l.drop (at_ + 1)) = some (acc, i - at_) := by
          rw [hgo]
          simp only [textF, if_pos, Option.map_some, List.append_nil]
          congr 2
          omega
        rw [he]
        dsimp only
        rw [show at_ + (i - at_ + 1) = i + 1 by omega]
        refine C_seq ?_
        refine C_seq ?_
        refine C_region ?_
        refine L (S (P_move rfl) ?_)
        refine L (S (P_move rfl) ?_)
        refine L (S (P_lenT Tryz.underlying9 rfl) ?_)
        refine L (S (P_lt rfl rfl (decide_eq_true (by omega))) ?_)
        refine L_nil ?_
        refine then_n ?_
        refine C_true rfl ?_
        refine C_skip ?_
        refine then_n ?_
        refine C_seq ?_
        refine C_block ?_
        refine C_seq ?_
        refine C_seq ?_
        refine C_region ?_
        refine L (S (P_move rfl) ?_)
        refine L (S (P_move rfl) ?_)
        refine L (S (P_indexT Tryz.underlying9 rfl rfl (j := i) rfl (str_idx hc)) ?_)
        refine L (S (P_ne rfl rfl (decide_eq_false (by omega))) ?_)
        refine L_nil ?_
        refine then_n ?_
        refine C_false rfl ?_
        refine C_skip ?_
        refine then_n ?_
        refine C_seq ?_
        refine C_seq ?_
        refine C_region ?_
        refine L (S (P_move rfl) ?_)
        refine L (S (P_add rfl rfl (wI64 (c := ((i + 1 : Nat) : Int)) (by omega))) ?_)
        refine L (S (P_move rfl) ?_)
        refine L (S (P_lenT Tryz.underlying9 rfl) ?_)
        refine L (S (P_eq rfl rfl (decide_eq_true (by omega))) ?_)
        refine L (S (P_move rfl) ?_)
        refine L_no (j := 5) (dj := 37) (b := false) (b' := true) (d := 38) rfl ?_
        refine L_no (j := 5) (dj := 37) (b := false) (b' := true) (d := 39) rfl ?_
        refine L_no (j := 5) (dj := 37) (b := false) (b' := true) (d := 40) rfl ?_
        refine L_no (j := 5) (dj := 37) (b := false) (b' := true) (d := 41) rfl ?_
        refine L_no (j := 5) (dj := 37) (b := false) (b' := true) (d := 42) rfl ?_
        refine L (S (P_pickT rfl rfl) ?_)
        refine L_nil ?_
        refine then_n ?_
        refine C_true rfl ?_
        refine C_seq ?_
        refine C_region ?_
        refine L (S_loadS st_71 rfl hb8r.row rfl ?_)
        refine L (S (P_move rfl) ?_)
        refine L (S (P_add rfl rfl (wI64 (c := ((i + 1 : Nat) : Int)) (by omega))) ?_)
        refine L (S_storeS ti_71 rfl rfl (tk_one 5 acc at_) rfl hb4r (by exact Nat.le_refl 3) ?_)
        rintro w4 hb4 hm4
        refine L (S (P_assign rfl) ?_)
        refine L (S (P_assign rfl) ?_)
        refine L_nil ?_
        refine then_n ?_
        refine C_ret ?_
        refine then_r ?_
        refine blk_r ?_
        refine then_r ?_
        refine then_r ?_
        refine blk_r ?_
        refine then_r ?_
        have hb4' : Blk w4 b4 (tkC 5 acc at_) 71 := hb4
        refine F_ret (rs := [.cell 4 71, .tmp 5, .tmp 6]) [.agg (tkC 5 acc at_).toArray, .int .i64 ((i + 1 : Nat) : Int), .int .i64 0] Tryz.results110 ?_ ?_
        · exact ⟨⟨_, rfl, finTk hb4'⟩, rfl, rfl, trivial⟩
        · exact ⟨rfl, hmr.new hm4 hn1⟩
      · obtain ⟨d, hd⟩ : ∃ d, l[i + 1]? = some d := ⟨l[i + 1], List.getElem?_eq_getElem (by omega)⟩
        have hdrop2 := drop_cons hd
        rw [hdrop2] at hgo
        by_cases hq2 : d.toNat = 39
        · have hde : d = 39 := UInt8.toNat_inj.1 hq2
          subst hde
          simp only [textF, if_pos] at hgo
          refine C_seq ?_
          refine C_seq ?_
          refine C_region ?_
          refine L (S (P_move rfl) ?_)
          refine L (S (P_move rfl) ?_)
          refine L (S (P_lenT Tryz.underlying9 rfl) ?_)
          refine L (S (P_lt rfl rfl (decide_eq_true (by omega))) ?_)
          refine L_nil ?_
          refine then_n ?_
          refine C_true rfl ?_
          refine C_skip ?_
          refine then_n ?_
          refine C_seq ?_
          refine C_block ?_
          refine C_seq ?_
          refine C_seq ?_
          refine C_region ?_
          refine L (S (P_move rfl) ?_)
          refine L (S (P_move rfl) ?_)
          refine L (S (P_indexT Tryz.underlying9 rfl rfl (j := i) rfl (str_idx hc)) ?_)
          refine L (S (P_ne rfl rfl (decide_eq_false (by omega))) ?_)
          refine L_nil ?_
          refine then_n ?_
          refine C_false rfl ?_
          refine C_skip ?_
          refine then_n ?_
          refine C_seq ?_
          refine C_seq ?_
          refine C_region ?_
          refine L (S (P_move rfl) ?_)
          refine L (S (P_add rfl rfl (wI64 (c := ((i + 1 : Nat) : Int)) (by omega))) ?_)
          refine L (S (P_move rfl) ?_)
          refine L (S (P_lenT Tryz.underlying9 rfl) ?_)
          refine L (S (P_eq rfl rfl (decide_eq_false (by omega))) ?_)
          refine L (S (P_move rfl) ?_)
          refine L_yes (j := 5) (dj := 37) (b := false) (S (P_move rfl) ?_) rfl
          refine L_yes (j := 5) (dj := 37) (b := false) (S (P_move rfl) ?_) rfl
          refine L_yes (j := 5) (dj := 37) (b := false) (S (P_add rfl rfl (wI64 (c := ((i + 1 : Nat) : Int)) (by omega))) ?_) rfl
          refine L_yes (j := 5) (dj := 37) (b := false) (S (P_indexT Tryz.underlying9 rfl rfl (j := i + 1) rfl (str_idx hd)) ?_) rfl
          refine L_yes (j := 5) (dj := 37) (b := false) (S (P_ne rfl rfl (decide_eq_false (by omega))) ?_) rfl
          refine L (S (P_pickF rfl rfl) ?_)
          refine L_nil ?_
          refine then_n ?_
          refine C_false rfl ?_
          refine C_skip ?_
          refine then_n ?_
          refine C_seq ?_
          refine C_region ?_
          refine L (S (P_fieldAddr fo_71_1 rfl) ?_)
          refine L (S_load sc_9 rfl (hb8r.cell (i := 1) rfl) ?_)
          refine L (S (P_addT rfl rfl (by rw [hsa]; show acc.length + 1 ≤ _; omega)) ?_)
          refine L (S (P_fieldAddr fo_71_1 rfl) ?_)
          refine L (S_store ti_9 rfl rfl rfl hb8r (by show 1 < 3; omega) ?_)
          rintro w4 hb84 hm4
          refine L_nil ?_
          refine then_n ?_
          refine C_region ?_
          refine L (S (P_move rfl) ?_)
          refine L (S (P_add rfl rfl (wI64 (c := ((i + 1 : Nat) : Int)) (by omega))) ?_)
          refine L (S (P_assign rfl) ?_)
          refine L_nil ?_
          refine blk_n ?_
          refine then_n ?_
          refine C_region ?_
          refine L (S (P_move rfl) ?_)
          refine L (S (P_add rfl rfl (wI64 (c := ((i + 2 : Nat) : Int)) (by omega))) ?_)
          refine L (S (P_assign rfl) ?_)
          refine L_nil ?_
          refine then_n ?_
          have hb84' : Blk w4 b8 (tkC 5 (acc ++ [39]) at_) 71 := by
            have e : tkC 5 (acc ++ [39]) at_ = [.int .i64 5, .string (str acc ++ str [39]), .int .i64 (at_ : Int)] := by rw [str_append]; rfl
            rw [e]
            exact hb84
          exact ⟨rfl, (i + 2, acc ++ [39]), (.cons rfl (.cons rfl (.cons rfl (.cons rfl (.cons rfl (.nil _)))))), ⟨hb84', hb4r.mv hm4 h48, by dsimp only; omega, by dsimp only; omega, by simp; omega, by
            rw [hgo]
            cases textF (l.drop (i + 1 + 1)) with
            | none => rfl
            | some x => simp only [Option.map_some, List.append_assoc, List.cons_append, List.nil_append]; congr 2; omega, hmr.new hm4 hn8⟩, by dsimp only; omega⟩
        · have hd39 : d ≠ 39 := fun he => hq2 (by rw [he]; rfl)
          have he : textF (l.drop (at_ + 1)) = some (acc, i - at_) := by
            rw [hgo]
            simp only [textF, if_pos, if_neg hd39, Option.map_some, List.append_nil]
            congr 2
            omega
          rw [he]
          dsimp only
          rw [show at_ + (i - at_ + 1) = i + 1 by omega]
          refine C_seq ?_
          refine C_seq ?_
          refine C_region ?_
          refine L (S (P_move rfl) ?_)
          refine L (S (P_move rfl) ?_)
          refine L (S (P_lenT Tryz.underlying9 rfl) ?_)
          refine L (S (P_lt rfl rfl (decide_eq_true (by omega))) ?_)
          refine L_nil ?_
          refine then_n ?_
          refine C_true rfl ?_
          refine C_skip ?_
          refine then_n ?_
          refine C_seq ?_
          refine C_block ?_
          refine C_seq ?_
          refine C_seq ?_
          refine C_region ?_
          refine L (S (P_move rfl) ?_)
          refine L (S (P_move rfl) ?_)
          refine L (S (P_indexT Tryz.underlying9 rfl rfl (j := i) rfl (str_idx hc)) ?_)
          refine L (S (P_ne rfl rfl (decide_eq_false (by omega))) ?_)
          refine L_nil ?_
          refine then_n ?_
          refine C_false rfl ?_
          refine C_skip ?_
          refine then_n ?_
          refine C_seq ?_
          refine C_seq ?_
          refine C_region ?_
          refine L (S (P_move rfl) ?_)
          refine L (S (P_add rfl rfl (wI64 (c := ((i + 1 : Nat) : Int)) (by omega))) ?_)
          refine L (S (P_move rfl) ?_)
          refine L (S (P_lenT Tryz.underlying9 rfl) ?_)
          refine L (S (P_eq rfl rfl (decide_eq_false (by omega))) ?_)
          refine L (S (P_move rfl) ?_)
          refine L_yes (j := 5) (dj := 37) (b := false) (S (P_move rfl) ?_) rfl
          refine L_yes (j := 5) (dj := 37) (b := false) (S (P_move rfl) ?_) rfl
          refine L_yes (j := 5) (dj := 37) (b := false) (S (P_add rfl rfl (wI64 (c := ((i + 1 : Nat) : Int)) (by omega))) ?_) rfl
          refine L_yes (j := 5) (dj := 37) (b := false) (S (P_indexT Tryz.underlying9 rfl rfl (j := i + 1) rfl (str_idx hd)) ?_) rfl
          refine L_yes (j := 5) (dj := 37) (b := false) (S (P_ne rfl rfl (decide_eq_true (by omega))) ?_) rfl
          refine L (S (P_pickF rfl rfl) ?_)
          refine L_nil ?_
          refine then_n ?_
          refine C_true rfl ?_
          refine C_seq ?_
          refine C_region ?_
          refine L (S_loadS st_71 rfl hb8r.row rfl ?_)
          refine L (S (P_move rfl) ?_)
          refine L (S (P_add rfl rfl (wI64 (c := ((i + 1 : Nat) : Int)) (by omega))) ?_)
          refine L (S_storeS ti_71 rfl rfl (tk_one 5 acc at_) rfl hb4r (by exact Nat.le_refl 3) ?_)
          rintro w4 hb4 hm4
          refine L (S (P_assign rfl) ?_)
          refine L (S (P_assign rfl) ?_)
          refine L_nil ?_
          refine then_n ?_
          refine C_ret ?_
          refine then_r ?_
          refine blk_r ?_
          refine then_r ?_
          refine then_r ?_
          refine blk_r ?_
          refine then_r ?_
          have hb4' : Blk w4 b4 (tkC 5 acc at_) 71 := hb4
          refine F_ret (rs := [.cell 4 71, .tmp 5, .tmp 6]) [.agg (tkC 5 acc at_).toArray, .int .i64 ((i + 1 : Nat) : Int), .int .i64 0] Tryz.results110 ?_ ?_
          · exact ⟨⟨_, rfl, finTk hb4'⟩, rfl, rfl, trivial⟩
          · exact ⟨rfl, hmr.new hm4 hn1⟩
    · have hc39 : c ≠ 39 := fun he => hq (by rw [he]; rfl)
      rw [textF_step hc39] at hgo
      have hcut : (str l).extract i (i + 1) = str [c] := by
        rw [cut_str, Nat.add_sub_cancel_left, hdrop]
        rfl
      refine C_seq ?_
      refine C_seq ?_
      refine C_region ?_
      refine L (S (P_move rfl) ?_)
      refine L (S (P_move rfl) ?_)
      refine L (S (P_lenT Tryz.underlying9 rfl) ?_)
      refine L (S (P_lt rfl rfl (decide_eq_true (by omega))) ?_)
      refine L_nil ?_
      refine then_n ?_
      refine C_true rfl ?_
      refine C_skip ?_
      refine then_n ?_
      refine C_seq ?_
      refine C_block ?_
      refine C_seq ?_
      refine C_seq ?_
      refine C_region ?_
      refine L (S (P_move rfl) ?_)
      refine L (S (P_move rfl) ?_)
      refine L (S (P_indexT Tryz.underlying9 rfl rfl (j := i) rfl (str_idx hc)) ?_)
      refine L (S (P_ne rfl rfl (decide_eq_true (by omega))) ?_)
      refine L_nil ?_
      refine then_n ?_
      refine C_true rfl ?_
      refine C_seq ?_
      refine C_draw 10 mixed rfl ?_
      refine A_pure (i := 0) rfl (P_fieldAddr fo_71_1 rfl) ?_ (by decide +kernel) (by decide +kernel) (by decide +kernel) (fun _ _ _ _ h => h) rfl rfl rfl
      refine A_pure (i := 2) rfl (P_move rfl) ?_ (by decide +kernel) (by decide +kernel) (by decide +kernel) (fun _ _ _ _ h => h) rfl rfl rfl
      refine A_pure (i := 3) rfl (P_move rfl) ?_ (by decide +kernel) (by decide +kernel) (by decide +kernel) (fun _ _ _ _ h => h) rfl rfl rfl
      refine A_pure (i := 4) rfl (P_move rfl) ?_ (by decide +kernel) (by decide +kernel) (by decide +kernel) (fun _ _ _ _ h => h) rfl rfl rfl
      refine A_pure (i := 5) rfl (P_add rfl rfl (wI64 (c := ((i + 1 : Nat) : Int)) (by omega))) ?_ (by decide +kernel) (by decide +kernel) (by decide +kernel) (fun _ _ _ _ h => h) rfl rfl rfl
      refine A_pure (i := 6) rfl (P_sliceT Tryz.underlying9 rfl (bnd_some (j := i) rfl rfl) (bnd_some (j := i + 1) rfl rfl) (by omega) (by omega) hcut) ?_ (by decide +kernel) (by decide +kernel) (by decide +kernel) (fun _ _ _ _ h => h) rfl rfl rfl
      refine A_one (i := 1) (A_op rfl (S_load sc_9 rfl ((hb8r.no (Mv.refl _).drew).cell (i := 1) rfl) ?_)) (by decide +kernel)
      refine A_pure (i := 7) rfl (P_addT rfl rfl (by rw [hsa]; show acc.length + 1 ≤ _; omega)) ?_ (by decide +kernel) (by decide +kernel) (by decide +kernel) (fun _ _ _ _ h => h) rfl rfl rfl
      refine A_pure (i := 8) rfl (P_fieldAddr fo_71_1 rfl) ?_ (by decide +kernel) (by decide +kernel) (by decide +kernel) (fun _ _ _ _ h => h) rfl rfl rfl
      refine A_one (i := 9) (A_op rfl (S_store ti_9 rfl rfl rfl (hb8r.no (Mv.refl _).drew) (by show 1 < 3; omega) ?_)) (by decide +kernel)
      rintro w4 hb84 hm4
      refine A_done (by decide +kernel) ?_
      refine then_n ?_
      refine C_exit ?_
      refine then_x ?_
      refine blk_x ?_
      refine then_n ?_
      refine C_region ?_
      refine L (S (P_move rfl) ?_)
      refine L (S (P_add rfl rfl (wI64 (c := ((i + 1 : Nat) : Int)) (by omega))) ?_)
      refine L (S (P_assign rfl) ?_)
      refine L_nil ?_
      refine then_n ?_
      have hm4' : Mv (At b8) wr w4 := (Mv.refl (S := At b8) wr).drew.trans hm4 fun _ _ h => h
      have hb84' : Blk w4 b8 (tkC 5 (acc ++ [c]) at_) 71 := by
        have e : tkC 5 (acc ++ [c]) at_ = [.int .i64 5, .string (str acc ++ str [c]), .int .i64 (at_ : Int)] := by rw [str_append]; rfl
        rw [e]
        exact hb84
      exact ⟨rfl, (i + 1, acc ++ [c]), (.cons rfl (.cons rfl (.cons rfl (.cons rfl (.cons rfl (.nil _)))))), ⟨hb84', hb4r.mv hm4' h48, by dsimp only; omega, by dsimp only; omega, by simp; omega, by
        rw [hgo]
        cases textF (l.drop (i + 1)) with
        | none => rfl
        | some x => simp only [Option.map_some, List.append_assoc, List.cons_append, List.nil_append]; congr 2; omega, hmr.new hm4' hn8⟩, by dsimp only; omega⟩
  · have hn : l.drop i = [] := List.drop_eq_nil_of_le hge
    rw [hn] at hgo
    have he : textF (l.drop (at_ + 1)) = none := by rw [hgo]; simp [textF]
    rw [he]
    refine C_seq ?_
    refine C_seq ?_
    refine C_region ?_
    refine L (S (P_move rfl) ?_)
    refine L (S (P_move rfl) ?_)
    refine L (S (P_lenT Tryz.underlying9 rfl) ?_)
    refine L (S (P_lt rfl rfl (decide_eq_false (by omega))) ?_)
    refine L_nil ?_
    refine then_n ?_
    refine C_false rfl ?_
    refine C_exit ?_
    refine then_x ?_
    refine then_x ?_
    refine blk_x ?_
    refine then_n ?_
    refine C_seq ?_
    refine C_region ?_
    refine L (S_loadS st_71 rfl hb8r.row rfl ?_)
    refine L (S (P_move rfl) ?_)
    refine L (S_storeS ti_71 rfl rfl (tk_one 5 acc at_) rfl hb4r (by exact Nat.le_refl 3) ?_)
    rintro w4 hb4 hm4
    refine L (S (P_assign rfl) ?_)
    refine L (S (P_assign rfl) ?_)
    refine L_nil ?_
    refine then_n ?_
    refine C_ret ?_
    have hb4' : Blk w4 b4 (tkC 5 acc at_) 71 := hb4
    refine F_ret (rs := [.cell 4 71, .tmp 5, .tmp 6]) [.agg (tkC 5 acc at_).toArray, .int .i64 (at_ : Int), .int .i64 10] Tryz.results110 ?_ ?_
    · exact ⟨⟨_, rfl, finTk hb4'⟩, rfl, rfl, trivial⟩
    · exact ⟨⟨_, _, rfl⟩, hmr.new hm4 hn1⟩
end
end Go.Proofs.YtnoioimphcmeiaaGreatDoor
