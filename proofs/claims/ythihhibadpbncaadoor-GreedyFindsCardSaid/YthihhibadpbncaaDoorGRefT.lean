import Derived.Test.YthihhibadpbncaaDoorGRefS
namespace Go.Proofs.YthihhibadpbncaaDoor
open Go.RowKit

theorem pb2C_one {A A2 : Option Addr} {n c n2 c2 : Nat} {bud : Int} : ∀ v ∈ pb2C A n c bud A2 n2 c2, v.oneCell' = true := by simp [pb2C, Value.oneCell']
theorem finP {w3 : World} {b : Nat} {A A2 : Option Addr} {n c n2 c2 : Nat} {bud : Int} (h : Blk w3 b (pb2C A n c bud A2 n2 c2) 37) : (loadVar 37 ⟨b, 0, none⟩).run Tryd.prog w3 = .ok (pbV A n c bud A2 n2 c2) w3 := run_loadVar_struct st_37 h.row rfl
section
variable {w : World} {v : Value} {A A5 A6 : Option Addr} {cap c5 c6 : Nat} {bud m k bs : Int} {sz off two : List Int}
theorem problem_ret (hc : IsCase w v A cap bud m k bs A5 c5 A6 c6 sz off two) (hf : FitsC sz off two) :
    Ret Tryd.prog 14 [v] w fun r w' => ∃ A2 c2, r = pbV A sz.length cap bud A2 (2 ^ sz.length) c2 ∧ SlR w' A2 ((List.range (2 ^ sz.length)).map fun x => iv (priceF bs off two x sz.length)) ∧ Mv No w w' := by
  obtain ⟨hf1, hf2, hf3⟩ := hf
  have hv : v = caseV A sz.length cap bud m k bs A5 off.length c5 A6 two.length c6 := hc.eq
  subst hv
  have hpow : 2 ^ sz.length ≤ 1024 := by
    have := Nat.pow_le_pow_right (n := 2) (by omega) hf1
    simpa using this
  have hpow1 : 0 < 2 ^ sz.length := Nat.two_pow_pos _
  refine F_enter Tryd.func14 Tryd.ntmps14 rfl rfl ?_
  refine C_seq ?_
  refine C_region ?_
  refine L (S_box rfl ?_)
  rintro b1 w1 hb1 hm1 hn1
  refine L (S_alloc (zs := [(.slice none 0 0), (.int .i64 0), (.slice none 0 0)]) ti_37 rfl ?_)
  rintro b2 w2 hb2 hm2 hn2
  refine L_nil ?_
  refine then_n ?_
  refine C_seq ?_
  have h1 : Blk w2 b1 (caseC A sz.length cap bud m k bs A5 off.length c5 A6 two.length c6) 25 := hb1.no hm2
  have h2 : Blk w2 b2 (pb2C none 0 0 0 none 0 0) 37 := hb2
  have hm02 : Mv No w w2 := hm1.no hm2
  refine C_region ?_
  refine L (S (P_fieldAddr fo_25_0 rfl) ?_)
  refine L (S_load sc_22 rfl (h1.cell (i := 0) rfl) ?_)
  refine L (S (P_fieldAddr fo_25_1 rfl) ?_)
  refine L (S_load sc_2 rfl (h1.cell (i := 1) rfl) ?_)
  refine L (S (P_buildC (ix := [0, 1]) (l := [.tmp 6, .tmp 8]) bi_37_0_1 rfl (by simp [Value.oneCell']) rfl) ?_)
  refine L (S_alloc (zs := [(.slice none 0 0), (.int .i64 0), (.slice none 0 0)]) ti_37 rfl ?_)
  rintro b3 w3 hb3 hm3 hn3
  refine L (S_storeS ti_37 rfl rfl (pb2C_one (A := A) (n := sz.length) (c := cap) (bud := bud) (A2 := none) (n2 := 0) (c2 := 0)) rfl hb3 (by exact Nat.le_refl 3) ?_)
  rintro w4 hb4 hm4
  refine L_nil ?_
  refine then_n ?_
  refine C_seq ?_
  refine C_seq ?_
  have hl1 := h1.lt
  have hl2 := h2.lt
  have hn13 : b1 ≠ b3 := by omega
  have hn23 : b2 ≠ b3 := by omega
  have h1a := (h1.no hm3).ne hm4 hn13
  have h2a := (h2.no hm3).ne hm4 hn23
  have h3a : Blk w4 b3 (pb2C A sz.length cap bud none 0 0) 37 := hb4
  have hw3 : w.heap.size ≤ b3 := Nat.le_trans hm02.size hn3
  have hm04 : Mv No w w4 := (hm02.no hm3).new hm4 hw3
  clear hb1 hb2 hb3 hb4
  refine C_region ?_
  refine L (S (P_fieldAddr fo_25_0 rfl) ?_)
  refine L (S_load sc_22 rfl (h1a.cell (i := 0) rfl) ?_)
  refine L (S (P_lenS Tryd.underlying22 rfl) ?_)
  refine L (S (P_shl rfl rfl (by omega) (shlI64 (s := sz.length) rfl (by omega) rfl)) ?_)
  refine L (S (P_move rfl) ?_)
  refine L_nil ?_
  refine then_n ?_
  refine C_block ?_
  refine C_loop (γ := Nat × Option Addr × Nat) (fun q => [(1, .pointer (some ⟨b1, 0, none⟩)), (2, .pointer (some ⟨b2, 0, none⟩)), (3, .pointer (some ⟨b3, 0, none⟩)), (13, .int .i64 ((2 ^ sz.length : Nat) : Int)), (14, .int .i64 (q.1 : Int))]) (fun q wr => q.1 ≤ 2 ^ sz.length ∧ Blk wr b1 (caseC A sz.length cap bud m k bs A5 off.length c5 A6 two.length c6) 25 ∧ Blk wr b2 (pb2C none 0 0 0 none 0 0) 37 ∧ Blk wr b3 (pb2C A sz.length cap bud q.2.1 q.1 q.2.2) 37 ∧ wr.ownsRow w4.heap.size 2 1 (.slice q.2.1 q.1 q.2.2) q.1 ((List.range q.1).map fun x => iv (priceF bs off two x sz.length)) ∧ w4.heap.size ≤ wr.heap.size ∧ Mv No w wr) (fun q => 2 ^ sz.length - q.1) (0, none, 0) (.cons rfl (.cons rfl (.cons rfl (.cons rfl (.cons rfl (.nil _)))))) ⟨by omega, h1a, h2a, h3a, own_nil, Nat.le_refl _, hm04⟩ ?_
  rintro ⟨x, Ap, cp⟩ wr ⟨hx, h1r, h2r, h3r, hor, hge4, hmr⟩
  dsimp only at hx h1r h2r h3r hor hge4 hmr
  dsimp only
  refine C_seq ?_
  refine C_region ?_
  refine L (S (P_lt rfl rfl rfl) ?_)
  refine L_nil ?_
  refine then_n ?_
  refine C_seq ?_
  refine C_ifp rfl rfl (fun hlt => ?_) (fun hge => ?_)
  · have hxl : x < 2 ^ sz.length := by omega
    have hcr := hc.no hmr.drew
    have hlo := hc.lo
    have hlt' := hc.lt
    unfold maxLen at hlo hlt'
    have h1d := h1r.no (Mv.refl wr).drew
    have h3d := h3r.no (Mv.refl wr).drew
    have hod := own_no hor (Mv.refl wr).drew
    have hb4 := h3a.lt
    have hwr4 : w4.heap.size ≤ wr.heap.size := hge4
    have hsz4 := hmr.size
    have hpc := price_ret (w := wr.drew) (A := A) (cap := cap) (c5 := c5) (c6 := c6) sz.length bud m k bs off two x (by omega) (by omega) hcr.o hcr.t hc.ro hc.rt (by omega) (by omega)
    refine C_skip ?_
    refine then_n ?_
    refine C_seq ?_
    refine C_block ?_
    refine C_seq ?_
    refine C_region ?_
    refine L (S (P_move rfl) ?_)
    refine L (S (P_assign rfl) ?_)
    refine L_nil ?_
    refine then_n ?_
    refine C_draw 10 mixed rfl ?_
    refine A_pure (i := 0) rfl (P_fieldAddr fo_37_2 rfl) ?_ (by decide +kernel) (by decide +kernel) (by decide +kernel) (fun _ _ _ _ h => h) rfl rfl rfl
    refine A_pure (i := 3) rfl (P_move rfl) ?_ (by decide +kernel) (by decide +kernel) (by decide +kernel) (fun _ _ _ _ h => h) rfl rfl rfl
    refine A_pure (i := 4) rfl (P_conv Tryd.underlying3 Tryd.underlying28 rfl (wU32 (c := (x : Int)) (by omega))) ?_ (by decide +kernel) (by decide +kernel) (by decide +kernel) (fun _ _ _ _ h => h) rfl rfl rfl
    refine A_two (i := 1) (i2 := 2) (A_op rfl (S_load sc_22 rfl (by first | exact h3d.cell (i := 2) rfl | exact (h3d.no hm5).cell (i := 2) rfl | exact ((h3d.no hm5).no hm6).cell (i := 2) rfl) ?_)) (A_op rfl (S_loadS st_25 rfl h1d.row rfl ?_)) (by decide +kernel)
    · refine A_one (i := 2) (A_op rfl (S_loadS st_25 rfl h1d.row rfl ?_)) (by decide +kernel)
      refine A_one (i := 5) (A_op rfl (S_call cb_10 rfl (hpc) ?_)) (by decide +kernel)
      rintro _ w5 ⟨rfl, hm5⟩
      refine A_one (i := 6) (A_op rfl (S_buildSlice1 Tryd.underlying22 ti_2 rfl rfl rfl ?_)) (by decide +kernel)
      rintro b6 w6 hb6 hm6 hn6
      refine A_one (i := 7) (A_op rfl (S_appendV Tryd.underlying22 ti_2 rfl (by decide) rfl (own_no (own_no hod hm5) hm6) rfl (.inr ⟨b6, 0, rfl, hb6.row⟩) (by simp) (by simp [Value.oneCell']) (Nat.le_trans hwr4 (Nat.le_trans hm5.size hm6.size)) (by unfold maxLen; omega) (by omega) ?_)) (by decide +kernel)
      rintro A7 c7 w7 ho7 hm7
      refine A_pure (i := 8) rfl (P_fieldAddr fo_37_2 rfl) ?_ (by decide +kernel) (by decide +kernel) (by decide +kernel) (fun _ _ _ _ h => h) rfl rfl rfl
      refine A_one (i := 9) (A_op rfl (S_store ti_22 rfl rfl rfl (((h3d.no hm5).no hm6).mv hm7 (fun he => by have := (own_lt hod he).1; omega)) (by simp [pb2C]) ?_)) (by decide +kernel)
      rintro w8 hb8 hm8
      refine A_done (by decide +kernel) ?_
      refine blk_n ?_
      refine then_n ?_
      refine C_region ?_
      refine L (S (P_add rfl rfl (wI64 (c := ((x + 1 : Nat) : Int)) (by omega))) ?_)
      refine L (S (P_move rfl) ?_)
      refine L_nil ?_
      refine then_n ?_
      have hnb1 : ¬ OwnOf (.slice Ap x cp) b1 := fun he => by have := (own_lt hod he).1; have := h1a.lt; omega
      have hnb2 : ¬ OwnOf (.slice Ap x cp) b2 := fun he => by have := (own_lt hod he).1; have := h2a.lt; omega
      have ho8 := own_mv ho7 hm8 (fun j hj he => by have := (own_lt ho7 hj).1; have : j = b3 := he; omega)
      have hm8' : Mv No w w8 := (Mv.own ((hmr.drew.no hm5).no hm6) hm7 (own_no (own_no hod hm5) hm6) hm04.size).new hm8 hw3
      exact ⟨rfl, (x + 1, A7, c7), .cons rfl (.cons rfl (.cons rfl (.cons rfl (.cons rfl (.nil _))))), ⟨hxl, (((h1d.no hm5).no hm6).mv hm7 hnb1).ne hm8 hn13, ((((h2r.no (Mv.refl wr).drew).no hm5).no hm6).mv hm7 hnb2).ne hm8 hn23, hb8, by dsimp only; rw [List.range_succ, List.map_append]; exact ho8, Nat.le_trans hwr4 (Nat.le_trans hm5.size (Nat.le_trans hm6.size (Nat.le_trans hm7.size hm8.size))), hm8'⟩, by dsimp only; omega⟩
    · refine A_two (i := 1) (i2 := 5) (A_op rfl (S_load sc_22 rfl (by first | exact h3d.cell (i := 2) rfl | exact (h3d.no hm5).cell (i := 2) rfl | exact ((h3d.no hm5).no hm6).cell (i := 2) rfl) ?_)) (A_op rfl (S_call cb_10 rfl (hpc) ?_)) (by decide +kernel)
      · refine A_one (i := 5) (A_op rfl (S_call cb_10 rfl (hpc) ?_)) (by decide +kernel)
        rintro _ w5 ⟨rfl, hm5⟩
        refine A_one (i := 6) (A_op rfl (S_buildSlice1 Tryd.underlying22 ti_2 rfl rfl rfl ?_)) (by decide +kernel)
        rintro b6 w6 hb6 hm6 hn6
        refine A_one (i := 7) (A_op rfl (S_appendV Tryd.underlying22 ti_2 rfl (by decide) rfl (own_no (own_no hod hm5) hm6) rfl (.inr ⟨b6, 0, rfl, hb6.row⟩) (by simp) (by simp [Value.oneCell']) (Nat.le_trans hwr4 (Nat.le_trans hm5.size hm6.size)) (by unfold maxLen; omega) (by omega) ?_)) (by decide +kernel)
        rintro A7 c7 w7 ho7 hm7
        refine A_pure (i := 8) rfl (P_fieldAddr fo_37_2 rfl) ?_ (by decide +kernel) (by decide +kernel) (by decide +kernel) (fun _ _ _ _ h => h) rfl rfl rfl
        refine A_one (i := 9) (A_op rfl (S_store ti_22 rfl rfl rfl (((h3d.no hm5).no hm6).mv hm7 (fun he => by have := (own_lt hod he).1; omega)) (by simp [pb2C]) ?_)) (by decide +kernel)
        rintro w8 hb8 hm8
        refine A_done (by decide +kernel) ?_
        refine blk_n ?_
        refine then_n ?_
        refine C_region ?_
        refine L (S (P_add rfl rfl (wI64 (c := ((x + 1 : Nat) : Int)) (by omega))) ?_)
        refine L (S (P_move rfl) ?_)
        refine L_nil ?_
        refine then_n ?_
        have hnb1 : ¬ OwnOf (.slice Ap x cp) b1 := fun he => by have := (own_lt hod he).1; have := h1a.lt; omega
        have hnb2 : ¬ OwnOf (.slice Ap x cp) b2 := fun he => by have := (own_lt hod he).1; have := h2a.lt; omega
        have ho8 := own_mv ho7 hm8 (fun j hj he => by have := (own_lt ho7 hj).1; have : j = b3 := he; omega)
        have hm8' : Mv No w w8 := (Mv.own ((hmr.drew.no hm5).no hm6) hm7 (own_no (own_no hod hm5) hm6) hm04.size).new hm8 hw3
        exact ⟨rfl, (x + 1, A7, c7), .cons rfl (.cons rfl (.cons rfl (.cons rfl (.cons rfl (.nil _))))), ⟨hxl, (((h1d.no hm5).no hm6).mv hm7 hnb1).ne hm8 hn13, ((((h2r.no (Mv.refl wr).drew).no hm5).no hm6).mv hm7 hnb2).ne hm8 hn23, hb8, by dsimp only; rw [List.range_succ, List.map_append]; exact ho8, Nat.le_trans hwr4 (Nat.le_trans hm5.size (Nat.le_trans hm6.size (Nat.le_trans hm7.size hm8.size))), hm8'⟩, by dsimp only; omega⟩
      · rintro _ w5 ⟨rfl, hm5⟩
        refine A_two (i := 1) (i2 := 6) (A_op rfl (S_load sc_22 rfl (by first | exact h3d.cell (i := 2) rfl | exact (h3d.no hm5).cell (i := 2) rfl | exact ((h3d.no hm5).no hm6).cell (i := 2) rfl) ?_)) (A_op rfl (S_buildSlice1 Tryd.underlying22 ti_2 rfl rfl rfl ?_)) (by decide +kernel)
        · refine A_one (i := 6) (A_op rfl (S_buildSlice1 Tryd.underlying22 ti_2 rfl rfl rfl ?_)) (by decide +kernel)
          rintro b6 w6 hb6 hm6 hn6
          refine A_one (i := 7) (A_op rfl (S_appendV Tryd.underlying22 ti_2 rfl (by decide) rfl (own_no (own_no hod hm5) hm6) rfl (.inr ⟨b6, 0, rfl, hb6.row⟩) (by simp) (by simp [Value.oneCell']) (Nat.le_trans hwr4 (Nat.le_trans hm5.size hm6.size)) (by unfold maxLen; omega) (by omega) ?_)) (by decide +kernel)
          rintro A7 c7 w7 ho7 hm7
          refine A_pure (i := 8) rfl (P_fieldAddr fo_37_2 rfl) ?_ (by decide +kernel) (by decide +kernel) (by decide +kernel) (fun _ _ _ _ h => h) rfl rfl rfl
          refine A_one (i := 9) (A_op rfl (S_store ti_22 rfl rfl rfl (((h3d.no hm5).no hm6).mv hm7 (fun he => by have := (own_lt hod he).1; omega)) (by simp [pb2C]) ?_)) (by decide +kernel)
          rintro w8 hb8 hm8
          refine A_done (by decide +kernel) ?_
          refine blk_n ?_
          refine then_n ?_
          refine C_region ?_
          refine L (S (P_add rfl rfl (wI64 (c := ((x + 1 : Nat) : Int)) (by omega))) ?_)
          refine L (S (P_move rfl) ?_)
          refine L_nil ?_
          refine then_n ?_
          have hnb1 : ¬ OwnOf (.slice Ap x cp) b1 := fun he => by have := (own_lt hod he).1; have := h1a.lt; omega
          have hnb2 : ¬ OwnOf (.slice Ap x cp) b2 := fun he => by have := (own_lt hod he).1; have := h2a.lt; omega
          have ho8 := own_mv ho7 hm8 (fun j hj he => by have := (own_lt ho7 hj).1; have : j = b3 := he; omega)
          have hm8' : Mv No w w8 := (Mv.own ((hmr.drew.no hm5).no hm6) hm7 (own_no (own_no hod hm5) hm6) hm04.size).new hm8 hw3
          exact ⟨rfl, (x + 1, A7, c7), .cons rfl (.cons rfl (.cons rfl (.cons rfl (.cons rfl (.nil _))))), ⟨hxl, (((h1d.no hm5).no hm6).mv hm7 hnb1).ne hm8 hn13, ((((h2r.no (Mv.refl wr).drew).no hm5).no hm6).mv hm7 hnb2).ne hm8 hn23, hb8, by dsimp only; rw [List.range_succ, List.map_append]; exact ho8, Nat.le_trans hwr4 (Nat.le_trans hm5.size (Nat.le_trans hm6.size (Nat.le_trans hm7.size hm8.size))), hm8'⟩, by dsimp only; omega⟩
        · rintro b6 w6 hb6 hm6 hn6
          refine A_one (i := 1) (A_op rfl (S_load sc_22 rfl (by first | exact h3d.cell (i := 2) rfl | exact (h3d.no hm5).cell (i := 2) rfl | exact ((h3d.no hm5).no hm6).cell (i := 2) rfl) ?_)) (by decide +kernel)
          refine A_one (i := 7) (A_op rfl (S_appendV Tryd.underlying22 ti_2 rfl (by decide) rfl (own_no (own_no hod hm5) hm6) rfl (.inr ⟨b6, 0, rfl, hb6.row⟩) (by simp) (by simp [Value.oneCell']) (Nat.le_trans hwr4 (Nat.le_trans hm5.size hm6.size)) (by unfold maxLen; omega) (by omega) ?_)) (by decide +kernel)
          rintro A7 c7 w7 ho7 hm7
          refine A_pure (i := 8) rfl (P_fieldAddr fo_37_2 rfl) ?_ (by decide +kernel) (by decide +kernel) (by decide +kernel) (fun _ _ _ _ h => h) rfl rfl rfl
          refine A_one (i := 9) (A_op rfl (S_store ti_22 rfl rfl rfl (((h3d.no hm5).no hm6).mv hm7 (fun he => by have := (own_lt hod he).1; omega)) (by simp [pb2C]) ?_)) (by decide +kernel)
          rintro w8 hb8 hm8
          refine A_done (by decide +kernel) ?_
          refine blk_n ?_
          refine then_n ?_
          refine C_region ?_
          refine L (S (P_add rfl rfl (wI64 (c := ((x + 1 : Nat) : Int)) (by omega))) ?_)
          refine L (S (P_move rfl) ?_)
          refine L_nil ?_
          refine then_n ?_
          have hnb1 : ¬ OwnOf (.slice Ap x cp) b1 := fun he => by have := (own_lt hod he).1; have := h1a.lt; omega
          have hnb2 : ¬ OwnOf (.slice Ap x cp) b2 := fun he => by have := (own_lt hod he).1; have := h2a.lt; omega
          have ho8 := own_mv ho7 hm8 (fun j hj he => by have := (own_lt ho7 hj).1; have : j = b3 := he; omega)
          have hm8' : Mv No w w8 := (Mv.own ((hmr.drew.no hm5).no hm6) hm7 (own_no (own_no hod hm5) hm6) hm04.size).new hm8 hw3
          exact ⟨rfl, (x + 1, A7, c7), .cons rfl (.cons rfl (.cons rfl (.cons rfl (.cons rfl (.nil _))))), ⟨hxl, (((h1d.no hm5).no hm6).mv hm7 hnb1).ne hm8 hn13, ((((h2r.no (Mv.refl wr).drew).no hm5).no hm6).mv hm7 hnb2).ne hm8 hn23, hb8, by dsimp only; rw [List.range_succ, List.map_append]; exact ho8, Nat.le_trans hwr4 (Nat.le_trans hm5.size (Nat.le_trans hm6.size (Nat.le_trans hm7.size hm8.size))), hm8'⟩, by dsimp only; omega⟩
  · have hxe : x = 2 ^ sz.length := by omega
    subst hxe
    obtain ⟨_, _, he, hsl, _, _, hob⟩ := own_reads hor
    cases he
    refine C_exit ?_
    refine then_x ?_
    refine then_x ?_
    refine blk_x ?_
    refine then_n ?_
    refine C_seq ?_
    refine C_region ?_
    refine L (S_loadS st_37 rfl h3r.row rfl ?_)
    refine L (S_storeS ti_37 rfl rfl pb2C_one rfl h2r (by exact Nat.le_refl 3) ?_)
    rintro w9 hb9 hm9
    refine L_nil ?_
    refine then_n ?_
    refine C_ret ?_
    refine F_ret (rs := [.cell 2 37]) [pbV A sz.length cap bud Ap (2 ^ sz.length) cp] Tryd.results14 ?_ ?_
    · exact ⟨⟨_, rfl, finP hb9⟩, trivial⟩
    · exact ⟨Ap, cp, rfl, hsl.mv hm9 (fun a ha he => by have h1 := (own_lt hor (hob a ha)).1; have h2 := h2a.lt; have : a.block = b2 := he; omega), hmr.new hm9 (Nat.le_trans hm1.size hn2)⟩
end
end Go.Proofs.YthihhibadpbncaaDoor
