import Derived.Test.YtgicoidmjfhnbaaRef3
namespace Go.Proofs.Ytgicoidmjfhnbaa
open Go.RowKit

theorem rCount_spec (bs : List UInt8) (err most : Int) : (rCount bs err most).2.2 = 0 → 0 ≤ (rCount bs err most).1 ∧ (rCount bs err most).1 < 18446744073709551616 ∧ (rCount bs err most).1 ≤ most := by
  have hlt := rNum_lt bs err
  simp only [rCount]
  split
  · rename_i h; intro h'; exact absurd h' h
  · split
    · intro h; simp at h
    · rename_i h
      intro h'
      dsimp only at h' ⊢
      rw [if_pos h'] 
      refine ⟨by omega, by omega, ?_⟩
      have := fun hh => h ⟨h', hh⟩
      omega
theorem rCount_drop (bs : List UInt8) (err most : Int) : ∃ k, k ≤ bs.length ∧ (rCount bs err most).2.1 = bs.drop k := by
  simp only [rCount]
  split
  · exact ⟨0, by simp, by simp⟩
  · split
    · exact ⟨0, by simp, by simp⟩
    · exact rNum_drop bs err

theorem reftaketext_ret {w : World} (bs : List UInt8) (err most : Int) (hm0 : -9223372036854775808 ≤ most) (hm9 : most < 9223372036854775808) (hl : bs.length < 140737488355328) :
    Ret Try.prog 33 [rdV bs err, .int .i64 most] w fun v w' => v = .tuple #[rdV (rText bs err most).2.1 (rText bs err most).2.2, .string (str (rText bs err most).1)] ∧ Mv No w w' := by
  have hsp := rCount_spec bs err most
  have he0 : err ≠ 0 → (rCount bs err most).2 = (bs, err) := fun h => by simp [rCount, h]
  have hR : rText bs err most = (if (rCount bs err most).2.2 ≠ 0 then ([], (rCount bs err most).2) else if ((rCount bs err most).2.1.length : Int) < (rCount bs err most).1 then ([], bs, 10) else ((rCount bs err most).2.1.take (rCount bs err most).1.toNat, (rCount bs err most).2.1.drop (rCount bs err most).1.toNat, 0)) := by
    simp only [rText]
    split
    · rename_i h
      have := he0 h
      rw [this, if_pos h]
    · rfl
  rw [hR]
  have hN := fun w => refcount_ret (w := w) bs err most hm0 hm9 hl
  have hdr := rCount_drop bs err most
  generalize (rCount bs err most) = x at *
  obtain ⟨n, rest, e'⟩ := x
  dsimp only at *
  have hrl : rest.length ≤ bs.length := by obtain ⟨k, hk, rfl⟩ := hdr; simp
  clear he0 hR hdr
  refine F_enter Try.func33 Try.ntmps33 rfl rfl ?_
  refine C_seq ?_
  refine C_region ?_
  refine L (S_box rfl ?_)
  rintro b1 w1 hb1 hm1 hn1
  refine L (S_alloc (zs := [(.string (ByteArray.mk #[])), (.int .i64 0)]) ti_42 rfl ?_)
  rintro b2 w2 hb2 hm2 hn2
  refine L (S (P_assign rfl) ?_)
  refine L_nil ?_
  refine then_n ?_
  refine C_seq ?_
  have h1 : Blk w2 b1 (rdC bs err) 42 := hb1.no hm2
  have h2 : Blk w2 b2 [.string ByteArray.empty, .int .i64 0] 42 := hb2
  have hm : Mv No w w2 := hm1.no hm2
  have hold : w.heap.size ≤ b2 := Nat.le_trans hm1.size hn2
  refine C_region ?_
  refine L (S_loadS st_42 rfl h1.row rfl ?_)
  refine L (S (P_move rfl) ?_)
  refine L (S_call cb_32 rfl (hN _) ?_)
  rintro _ w3 ⟨rfl, hm3⟩
  refine L (S (P_move rfl) ?_)
  refine L (S (P_extract rfl rfl) ?_)
  refine L (S (P_extract rfl rfl) ?_)
  refine L (S_alloc (zs := [(.string (ByteArray.mk #[])), (.int .i64 0)]) ti_42 rfl ?_)
  rintro b4 w4 hb4 hm4 hn4
  refine L (S_storeS ti_42 rfl rfl (rdC_one rest e') rfl hb4 (by simp [rdC]) ?_)
  rintro w5 hb5 hm5
  refine L (S (P_assign rfl) ?_)
  refine L_nil ?_
  refine then_n ?_
  refine C_seq ?_
  refine C_seq ?_
  have h4 : Blk w5 b4 (rdC rest e') 42 := hb5
  have hne : b2 ≠ b4 := by have := h2.lt; have := hm3.size; omega
  have hne1 : b1 ≠ b4 := by have := h1.lt; have := hm3.size; omega
  have h2' : Blk w5 b2 [.string ByteArray.empty, .int .i64 0] 42 := ((h2.no hm3).no hm4).ne hm5 hne
  have h1' : Blk w5 b1 (rdC bs err) 42 := ((h1.no hm3).no hm4).ne hm5 hne1
  have hm' : Mv No w w5 := ((hm.no hm3).no hm4).new hm5 (by have := hm3.size; have := hm.size; omega)
  clear hb1 hb2 hb5 h1 h2 hm hb4
  by_cases he' : e' = 0
  · obtain ⟨hn0, hn1', hn2'⟩ := hsp he'
    rw [if_neg (by simpa using he')]
    by_cases hbig : (rest.length : Int) < n
    · rw [if_pos hbig]
      refine C_region ?_
      refine L (S (P_fieldAddr fo_42_1 rfl) ?_)
      refine L (S_load sc_3 rfl (h4.cell (i := 1) rfl) ?_)
      refine L (S (P_ne rfl rfl (decide_eq_false (by simpa using he'))) ?_)
      refine L_nil ?_
      refine then_n ?_
      refine C_false rfl ?_
      refine C_skip ?_
      refine then_n ?_
      refine C_seq ?_
      refine C_seq ?_
      refine C_region ?_
      refine L (S (P_move rfl) ?_)
      refine L (S (P_fieldAddr fo_42_0 rfl) ?_)
      refine L (S_load sc_9 rfl (h4.cell (i := 0) rfl) ?_)
      refine L (S (P_lenT Try.underlying9 rfl) ?_)
      refine L (S (P_gt rfl rfl (decide_eq_true (by rw [str_size]; omega))) ?_)
      refine L_nil ?_
      refine then_n ?_
      refine C_true rfl ?_
      refine C_seq ?_
      refine C_region ?_
      refine L (S (P_fieldAddr fo_42_0 rfl) ?_)
      refine L (S_load sc_9 rfl (h1'.cell (i := 0) rfl) ?_)
      refine L (S (P_buildC (ix := [0, 1]) (l := [.tmp 24, .const (.int .i64 10)]) bi_42_0_1 rfl (by simp [Value.oneCell']) rfl) ?_)
      refine L (S_storeS ti_42 rfl rfl (rdC_one bs 10) rfl h2' (by simp [setAll]) ?_)
      rintro w6 hb6 hm6
      refine L (S (P_assign rfl) ?_)
      refine L_nil ?_
      refine then_n ?_
      refine C_ret ?_
      refine then_r ?_
      refine F_ret (rs := [.cell 4 42, .tmp 5]) [rdV bs 10, .string (str [])] Try.results33 ?_ ?_
      · exact ⟨⟨_, rfl, finR (bs' := bs) (e' := 10) hb6⟩, rfl, trivial⟩
      · exact ⟨rfl, hm'.new hm6 hold⟩
    · rw [if_neg hbig]
      obtain ⟨k, rfl⟩ : ∃ k : Nat, n = (k : Int) := ⟨n.toNat, by omega⟩
      have hk : k ≤ rest.length := by omega
      have hcut1 : (str rest).extract k (str rest).size = str (rest.drop k) := by rw [str_cut, str_size, List.take_length]
      have hcut2 : (str rest).extract 0 k = str (rest.take k) := by rw [str_cut, List.drop_zero]
      have hne2 : b4 ≠ b2 := hne.symm
      have h4d : Blk w5.drew b4 (rdC rest e') 42 := h4
      have h2d : Blk w5.drew b2 [.string ByteArray.empty, .int .i64 0] 42 := h2'
      simp only [Int.toNat_natCast]
      refine C_region ?_
      refine L (S (P_fieldAddr fo_42_1 rfl) ?_)
      refine L (S_load sc_3 rfl (h4.cell (i := 1) rfl) ?_)
      refine L (S (P_ne rfl rfl (decide_eq_false (by simpa using he'))) ?_)
      refine L_nil ?_
      refine then_n ?_
      refine C_false rfl ?_
      refine C_skip ?_
      refine then_n ?_
      refine C_seq ?_
      refine C_seq ?_
      refine C_region ?_
      refine L (S (P_move rfl) ?_)
      refine L (S (P_fieldAddr fo_42_0 rfl) ?_)
      refine L (S_load sc_9 rfl (h4.cell (i := 0) rfl) ?_)
      refine L (S (P_lenT Try.underlying9 rfl) ?_)
      refine L (S (P_gt rfl rfl (decide_eq_false (by rw [str_size]; omega))) ?_)
      refine L_nil ?_
      refine then_n ?_
      refine C_false rfl ?_
      refine C_skip ?_
      refine then_n ?_
      refine C_seq ?_
      refine C_draw 11 mixed rfl ?_
      refine A_pure (i := 0) rfl (P_fieldAddr fo_42_0 rfl) ?_ (by decide +kernel) (by decide +kernel) (by decide +kernel) (fun _ _ _ _ h => h) rfl rfl rfl
      refine A_pure (i := 2) rfl (P_move rfl) ?_ (by decide +kernel) (by decide +kernel) (by decide +kernel) (fun _ _ _ _ h => h) rfl rfl rfl
      refine A_pure (i := 5) rfl (P_fieldAddr fo_42_0 rfl) ?_ (by decide +kernel) (by decide +kernel) (by decide +kernel) (fun _ _ _ _ h => h) rfl rfl rfl
      refine A_pure (i := 7) rfl (P_move rfl) ?_ (by decide +kernel) (by decide +kernel) (by decide +kernel) (fun _ _ _ _ h => h) rfl rfl rfl
      refine A_two (i := 1) (i2 := 6) (A_op rfl (S_load sc_9 rfl (by first | exact (h4d.cell (i := 0) rfl) | exact ((h4d.ne hm6 hne2).cell (i := 0) rfl)) ?_)) (A_op rfl (S_load sc_9 rfl (by first | exact (h4d.cell (i := 0) rfl) | exact ((h4d.ne hm6 hne2).cell (i := 0) rfl)) ?_)) (by decide +kernel)
      · refine A_pure (i := 3) rfl (P_sliceT Try.underlying9 rfl (bnd_some (j := k) rfl rfl) bnd_none (by rw [str_size]; omega) (Nat.le_refl _) hcut1) ?_ (by decide +kernel) (by decide +kernel) (by decide +kernel) (fun _ _ _ _ h => h) rfl rfl rfl
        refine A_pure (i := 4) rfl (P_buildC (ix := [0, 1]) (l := [.tmp 29, .const (.int .i64 0)]) bi_42_0_1 rfl (by simp [Value.oneCell']) rfl) ?_ (by decide +kernel) (by decide +kernel) (by decide +kernel) (fun _ _ _ _ h => h) rfl rfl rfl
        refine A_two (i := 6) (i2 := 9) (A_op rfl (S_load sc_9 rfl (by first | exact (h4d.cell (i := 0) rfl) | exact ((h4d.ne hm6 hne2).cell (i := 0) rfl)) ?_)) (A_op rfl (S_storeS ti_42 rfl rfl (rdC_one (rest.drop k) 0) rfl h2d (by simp [setAll]) ?_)) (by decide +kernel)
        · refine A_pure (i := 8) rfl (P_sliceT Try.underlying9 rfl bnd_none (bnd_some (j := k) rfl rfl) (by omega) (by rw [str_size]; omega) hcut2) ?_ (by decide +kernel) (by decide +kernel) (by decide +kernel) (fun _ _ _ _ h => h) rfl rfl rfl
          refine A_one (i := 9) (A_op rfl (S_storeS ti_42 rfl rfl (rdC_one (rest.drop k) 0) rfl h2d (by simp [setAll]) ?_)) (by decide +kernel)
          rintro w6 hb6 hm6
          refine A_pure (i := 10) rfl (P_assign rfl) ?_ (by decide +kernel) (by decide +kernel) (by decide +kernel) (fun _ _ _ _ h => h) rfl rfl rfl
          refine A_done (by decide +kernel) ?_
          refine then_n ?_
          refine C_ret ?_
          refine F_ret (rs := [.cell 4 42, .tmp 5]) [rdV (rest.drop k) 0, .string (str (rest.take k))] Try.results33 ?_ ?_
          · exact ⟨⟨_, rfl, finR (bs' := rest.drop k) (e' := 0) hb6⟩, rfl, trivial⟩
          · exact ⟨rfl, hm'.drew.new hm6 hold⟩
        · rintro w6 hb6 hm6
          refine A_one (i := 6) (A_op rfl (S_load sc_9 rfl (by first | exact (h4d.cell (i := 0) rfl) | exact ((h4d.ne hm6 hne2).cell (i := 0) rfl)) ?_)) (by decide +kernel)
          refine A_pure (i := 8) rfl (P_sliceT Try.underlying9 rfl bnd_none (bnd_some (j := k) rfl rfl) (by omega) (by rw [str_size]; omega) hcut2) ?_ (by decide +kernel) (by decide +kernel) (by decide +kernel) (fun _ _ _ _ h => h) rfl rfl rfl
          refine A_pure (i := 10) rfl (P_assign rfl) ?_ (by decide +kernel) (by decide +kernel) (by decide +kernel) (fun _ _ _ _ h => h) rfl rfl rfl
          refine A_done (by decide +kernel) ?_
          refine then_n ?_
          refine C_ret ?_
          refine F_ret (rs := [.cell 4 42, .tmp 5]) [rdV (rest.drop k) 0, .string (str (rest.take k))] Try.results33 ?_ ?_
          · exact ⟨⟨_, rfl, finR (bs' := rest.drop k) (e' := 0) hb6⟩, rfl, trivial⟩
          · exact ⟨rfl, hm'.drew.new hm6 hold⟩
      · refine A_pure (i := 8) rfl (P_sliceT Try.underlying9 rfl bnd_none (bnd_some (j := k) rfl rfl) (by omega) (by rw [str_size]; omega) hcut2) ?_ (by decide +kernel) (by decide +kernel) (by decide +kernel) (fun _ _ _ _ h => h) rfl rfl rfl
        refine A_one (i := 1) (A_op rfl (S_load sc_9 rfl (by first | exact (h4d.cell (i := 0) rfl) | exact ((h4d.ne hm6 hne2).cell (i := 0) rfl)) ?_)) (by decide +kernel)
        refine A_pure (i := 3) rfl (P_sliceT Try.underlying9 rfl (bnd_some (j := k) rfl rfl) bnd_none (by rw [str_size]; omega) (Nat.le_refl _) hcut1) ?_ (by decide +kernel) (by decide +kernel) (by decide +kernel) (fun _ _ _ _ h => h) rfl rfl rfl
        refine A_pure (i := 4) rfl (P_buildC (ix := [0, 1]) (l := [.tmp 29, .const (.int .i64 0)]) bi_42_0_1 rfl (by simp [Value.oneCell']) rfl) ?_ (by decide +kernel) (by decide +kernel) (by decide +kernel) (fun _ _ _ _ h => h) rfl rfl rfl
        refine A_one (i := 9) (A_op rfl (S_storeS ti_42 rfl rfl (rdC_one (rest.drop k) 0) rfl h2d (by simp [setAll]) ?_)) (by decide +kernel)
        rintro w6 hb6 hm6
        refine A_pure (i := 10) rfl (P_assign rfl) ?_ (by decide +kernel) (by decide +kernel) (by decide +kernel) (fun _ _ _ _ h => h) rfl rfl rfl
        refine A_done (by decide +kernel) ?_
        refine then_n ?_
        refine C_ret ?_
        refine F_ret (rs := [.cell 4 42, .tmp 5]) [rdV (rest.drop k) 0, .string (str (rest.take k))] Try.results33 ?_ ?_
        · exact ⟨⟨_, rfl, finR (bs' := rest.drop k) (e' := 0) hb6⟩, rfl, trivial⟩
        · exact ⟨rfl, hm'.drew.new hm6 hold⟩
  · rw [if_pos he']
    refine C_region ?_
    refine L (S (P_fieldAddr fo_42_1 rfl) ?_)
    refine L (S_load sc_3 rfl (h4.cell (i := 1) rfl) ?_)
    refine L (S (P_ne rfl rfl (decide_eq_true he')) ?_)
    refine L_nil ?_
    refine then_n ?_
    refine C_true rfl ?_
    refine C_seq ?_
    refine C_region ?_
    refine L (S_loadS st_42 rfl h4.row rfl ?_)
    refine L (S_storeS ti_42 rfl rfl (rdC_one rest e') rfl h2' (by simp [rdC]) ?_)
    rintro w6 hb6 hm6
    refine L (S (P_assign rfl) ?_)
    refine L_nil ?_
    refine then_n ?_
    refine C_ret ?_
    refine then_r ?_
    refine F_ret (rs := [.cell 4 42, .tmp 5]) [rdV rest e', .string (str [])] Try.results33 ?_ ?_
    · exact ⟨⟨_, rfl, finR hb6⟩, rfl, trivial⟩
    · exact ⟨rfl, hm'.new hm6 hold⟩

theorem reftakebool_ret {w : World} (bs : List UInt8) (err : Int) (hl : bs.length < 140737488355328) :
    Ret Try.prog 34 [rdV bs err] w fun v w' => v = .tuple #[rdV (rBool bs err).2.1 (rBool bs err).2.2, .bool (rBool bs err).1] ∧ Mv No w w' := by
  refine F_enter Try.func34 Try.ntmps34 rfl rfl ?_
  refine C_seq ?_
  refine C_region ?_
  refine L (S_box rfl ?_)
  rintro b1 w1 hb1 hm1 hn1
  refine L (S_alloc (zs := [(.string (ByteArray.mk #[])), (.int .i64 0)]) ti_42 rfl ?_)
  rintro b2 w2 hb2 hm2 hn2
  refine L (S (P_assign rfl) ?_)
  refine L_nil ?_
  refine then_n ?_
  refine C_seq ?_
  refine C_seq ?_
  have h1 : Blk w2 b1 (rdC bs err) 42 := hb1.no hm2
  have h2 : Blk w2 b2 [.string ByteArray.empty, .int .i64 0] 42 := hb2
  have hm : Mv No w w2 := hm1.no hm2
  have hold : w.heap.size ≤ b2 := Nat.le_trans hm1.size hn2
  have hne : b1 ≠ b2 := by have := hb1.lt; omega
  clear hb1 hb2
  by_cases he : err = 0
  · cases bs with
    | nil =>
      have hR : rBool [] err = (false, [], 10) := by simp [rBool, he]
      rw [hR]
      refine C_region ?_
      refine L (S (P_fieldAddr fo_42_1 rfl) ?_)
      refine L (S_load sc_3 rfl (h1.cell (i := 1) rfl) ?_)
      refine L (S (P_ne rfl rfl (decide_eq_false (by simpa using he))) ?_)
      refine L_nil ?_
      refine then_n ?_
      refine C_false rfl ?_
      refine C_skip ?_
      refine then_n ?_
      refine C_seq ?_
      refine C_seq ?_
      refine C_region ?_
      refine L (S (P_fieldAddr fo_42_0 rfl) ?_)
      refine L (S_load sc_9 rfl (h1.cell (i := 0) rfl) ?_)
      refine L (S (P_eqT rfl rfl (decide_eq_true rfl)) ?_)
      refine L_nil ?_
      refine then_n ?_
      refine C_true rfl ?_
      refine C_seq ?_
      refine C_region ?_
      refine L (S (P_fieldAddr fo_42_0 rfl) ?_)
      refine L (S_load sc_9 rfl (h1.cell (i := 0) rfl) ?_)
      refine L (S (P_buildC (ix := [0, 1]) (l := [.tmp 12, .const (.int .i64 10)]) bi_42_0_1 rfl (by simp [Value.oneCell']) rfl) ?_)
      refine L (S_storeS ti_42 rfl rfl (rdC_one [] 10) rfl h2 (by simp [setAll]) ?_)
      rintro w3 hb3 hm3
      refine L (S (P_assign rfl) ?_)
      refine L_nil ?_
      refine then_n ?_
      refine C_ret ?_
      refine then_r ?_
      refine F_ret (rs := [.cell 2 42, .tmp 3]) [rdV [] 10, .bool false] Try.results34 ?_ ?_
      · exact ⟨⟨_, rfl, finR (bs' := []) (e' := 10) hb3⟩, rfl, trivial⟩
      · exact ⟨rfl, hm.new hm3 hold⟩
    | cons c r =>
      have hnz : ¬ (str (c :: r) = (⟨#[]⟩ : ByteArray)) := by simp [str]
      have hsz : (str (c :: r)).size = r.length + 1 := by rw [str_size]; rfl
      have hci : (str (c :: r)).data.toList[0]? = some c := str_idx rfl
      by_cases h1c : 1 < c.toNat
      · have hR : rBool (c :: r) err = (false, c :: r, 7) := by simp [rBool, he, h1c]
        rw [hR]
        refine C_region ?_
        refine L (S (P_fieldAddr fo_42_1 rfl) ?_)
        refine L (S_load sc_3 rfl (h1.cell (i := 1) rfl) ?_)
        refine L (S (P_ne rfl rfl (decide_eq_false (by simpa using he))) ?_)
        refine L_nil ?_
        refine then_n ?_
        refine C_false rfl ?_
        refine C_skip ?_
        refine then_n ?_
        refine C_seq ?_
        refine C_seq ?_
        refine C_region ?_
        refine L (S (P_fieldAddr fo_42_0 rfl) ?_)
        refine L (S_load sc_9 rfl (h1.cell (i := 0) rfl) ?_)
        refine L (S (P_eqT rfl rfl (decide_eq_false hnz)) ?_)
        refine L_nil ?_
        refine then_n ?_
        refine C_false rfl ?_
        refine C_skip ?_
        refine then_n ?_
        refine C_seq ?_
        refine C_seq ?_
        refine C_region ?_
        refine L (S (P_fieldAddr fo_42_0 rfl) ?_)
        refine L (S_load sc_9 rfl (h1.cell (i := 0) rfl) ?_)
        refine L (S (P_indexT Try.underlying9 rfl rfl (j := 0) rfl hci) ?_)
        refine L (S (P_gt rfl rfl (decide_eq_true (by omega))) ?_)
        refine L_nil ?_
        refine then_n ?_
        refine C_true rfl ?_
        refine C_seq ?_
        refine C_region ?_
        refine L (S (P_fieldAddr fo_42_0 rfl) ?_)
        refine L (S_load sc_9 rfl (h1.cell (i := 0) rfl) ?_)
        refine L (S (P_buildC (ix := [0, 1]) (l := [.tmp 19, .const (.int .i64 7)]) bi_42_0_1 rfl (by simp [Value.oneCell']) rfl) ?_)
        refine L (S_storeS ti_42 rfl rfl (rdC_one (c :: r) 7) rfl h2 (by simp [setAll]) ?_)
        rintro w3 hb3 hm3
        refine L (S (P_assign rfl) ?_)
        refine L_nil ?_
        refine then_n ?_
        refine C_ret ?_
        refine then_r ?_
        refine F_ret (rs := [.cell 2 42, .tmp 3]) [rdV (c :: r) 7, .bool false] Try.results34 ?_ ?_
        · exact ⟨⟨_, rfl, finR (bs' := c :: r) (e' := 7) hb3⟩, rfl, trivial⟩
        · exact ⟨rfl, hm.new hm3 hold⟩
      · have hR : rBool (c :: r) err = (decide (c.toNat = 1), r, 0) := by simp [rBool, he, h1c]
        rw [hR]
        have hcut : (str (c :: r)).extract 1 (str (c :: r)).size = str r := by rw [str_cut, str_size, List.take_length]; rfl
        have hdec : decide ((c.toNat : Int) = 1) = decide (c.toNat = 1) := by
          have : ((c.toNat : Int) = 1) ↔ c.toNat = 1 := by omega
          simp only [this]
        have h1d : Blk w2.drew b1 (rdC (c :: r) err) 42 := h1
        have h2d : Blk w2.drew b2 [.string ByteArray.empty, .int .i64 0] 42 := h2
        refine C_region ?_
        refine L (S (P_fieldAddr fo_42_1 rfl) ?_)
        refine L (S_load sc_3 rfl (h1.cell (i := 1) rfl) ?_)
        refine L (S (P_ne rfl rfl (decide_eq_false (by simpa using he))) ?_)
        refine L_nil ?_
        refine then_n ?_
        refine C_false rfl ?_
        refine C_skip ?_
        refine then_n ?_
        refine C_seq ?_
        refine C_seq ?_
        refine C_region ?_
        refine L (S (P_fieldAddr fo_42_0 rfl) ?_)
        refine L (S_load sc_9 rfl (h1.cell (i := 0) rfl) ?_)
        refine L (S (P_eqT rfl rfl (decide_eq_false hnz)) ?_)
        refine L_nil ?_
        refine then_n ?_
        refine C_false rfl ?_
        refine C_skip ?_
        refine then_n ?_
        refine C_seq ?_
        refine C_seq ?_
        refine C_region ?_
        refine L (S (P_fieldAddr fo_42_0 rfl) ?_)
        refine L (S_load sc_9 rfl (h1.cell (i := 0) rfl) ?_)
        refine L (S (P_indexT Try.underlying9 rfl rfl (j := 0) rfl hci) ?_)
        refine L (S (P_gt rfl rfl (decide_eq_false (by omega))) ?_)
        refine L_nil ?_
        refine then_n ?_
        refine C_false rfl ?_
        refine C_skip ?_
        refine then_n ?_
        refine C_seq ?_
        refine C_draw 10 mixed rfl ?_
        refine A_pure (i := 0) rfl (P_fieldAddr fo_42_0 rfl) ?_ (by decide +kernel) (by decide +kernel) (by decide +kernel) (fun _ _ _ _ h => h) rfl rfl rfl
        refine A_pure (i := 4) rfl (P_fieldAddr fo_42_0 rfl) ?_ (by decide +kernel) (by decide +kernel) (by decide +kernel) (fun _ _ _ _ h => h) rfl rfl rfl
        refine A_two (i := 1) (i2 := 5) (A_op rfl (S_load sc_9 rfl (by first | exact (h1d.cell (i := 0) rfl) | exact ((h1d.ne hm3 hne).cell (i := 0) rfl)) ?_)) (A_op rfl (S_load sc_9 rfl (by first | exact (h1d.cell (i := 0) rfl) | exact ((h1d.ne hm3 hne).cell (i := 0) rfl)) ?_)) (by decide +kernel)
        · refine A_pure (i := 2) rfl (P_sliceT Try.underlying9 rfl (bnd_some (j := 1) rfl rfl) bnd_none (by omega) (Nat.le_refl _) hcut) ?_ (by decide +kernel) (by decide +kernel) (by decide +kernel) (fun _ _ _ _ h => h) rfl rfl rfl
          refine A_pure (i := 3) rfl (P_buildC (ix := [0, 1]) (l := [.tmp 23, .const (.int .i64 0)]) bi_42_0_1 rfl (by simp [Value.oneCell']) rfl) ?_ (by decide +kernel) (by decide +kernel) (by decide +kernel) (fun _ _ _ _ h => h) rfl rfl rfl
          refine A_two (i := 5) (i2 := 8) (A_op rfl (S_load sc_9 rfl (by first | exact (h1d.cell (i := 0) rfl) | exact ((h1d.ne hm3 hne).cell (i := 0) rfl)) ?_)) (A_op rfl (S_storeS ti_42 rfl rfl (rdC_one r 0) rfl h2d (by simp [setAll]) ?_)) (by decide +kernel)
          · refine A_pure (i := 6) rfl (P_indexT Try.underlying9 rfl rfl (j := 0) rfl hci) ?_ (by decide +kernel) (by decide +kernel) (by decide +kernel) (fun _ _ _ _ h => h) rfl rfl rfl
            refine A_pure (i := 7) rfl (P_eq rfl rfl hdec) ?_ (by decide +kernel) (by decide +kernel) (by decide +kernel) (fun _ _ _ _ h => h) rfl rfl rfl
            refine A_one (i := 8) (A_op rfl (S_storeS ti_42 rfl rfl (rdC_one r 0) rfl h2d (by simp [setAll]) ?_)) (by decide +kernel)
            rintro w3 hb3 hm3
            refine A_pure (i := 9) rfl (P_assign rfl) ?_ (by decide +kernel) (by decide +kernel) (by decide +kernel) (fun _ _ _ _ h => h) rfl rfl rfl
            refine A_done (by decide +kernel) ?_
            refine then_n ?_
            refine C_ret ?_
            refine F_ret (rs := [.cell 2 42, .tmp 3]) [rdV r 0, .bool (decide (c.toNat = 1))] Try.results34 ?_ ?_
            · exact ⟨⟨_, rfl, finR (bs' := r) (e' := 0) hb3⟩, rfl, trivial⟩
            · exact ⟨rfl, hm.drew.new hm3 hold⟩
          · rintro w3 hb3 hm3
            refine A_one (i := 5) (A_op rfl (S_load sc_9 rfl (by first | exact (h1d.cell (i := 0) rfl) | exact ((h1d.ne hm3 hne).cell (i := 0) rfl)) ?_)) (by decide +kernel)
            refine A_pure (i := 6) rfl (P_indexT Try.underlying9 rfl rfl (j := 0) rfl hci) ?_ (by decide +kernel) (by decide +kernel) (by decide +kernel) (fun _ _ _ _ h => h) rfl rfl rfl
            refine A_pure (i := 7) rfl (P_eq rfl rfl hdec) ?_ (by decide +kernel) (by decide +kernel) (by decide +kernel) (fun _ _ _ _ h => h) rfl rfl rfl
            refine A_pure (i := 9) rfl (P_assign rfl) ?_ (by decide +kernel) (by decide +kernel) (by decide +kernel) (fun _ _ _ _ h => h) rfl rfl rfl
            refine A_done (by decide +kernel) ?_
            refine then_n ?_
            refine C_ret ?_
            refine F_ret (rs := [.cell 2 42, .tmp 3]) [rdV r 0, .bool (decide (c.toNat = 1))] Try.results34 ?_ ?_
            · exact ⟨⟨_, rfl, finR (bs' := r) (e' := 0) hb3⟩, rfl, trivial⟩
            · exact ⟨rfl, hm.drew.new hm3 hold⟩
        · refine A_pure (i := 6) rfl (P_indexT Try.underlying9 rfl rfl (j := 0) rfl hci) ?_ (by decide +kernel) (by decide +kernel) (by decide +kernel) (fun _ _ _ _ h => h) rfl rfl rfl
          refine A_pure (i := 7) rfl (P_eq rfl rfl hdec) ?_ (by decide +kernel) (by decide +kernel) (by decide +kernel) (fun _ _ _ _ h => h) rfl rfl rfl
          refine A_one (i := 1) (A_op rfl (S_load sc_9 rfl (by first | exact (h1d.cell (i := 0) rfl) | exact ((h1d.ne hm3 hne).cell (i := 0) rfl)) ?_)) (by decide +kernel)
          refine A_pure (i := 2) rfl (P_sliceT Try.underlying9 rfl (bnd_some (j := 1) rfl rfl) bnd_none (by omega) (Nat.le_refl _) hcut) ?_ (by decide +kernel) (by decide +kernel) (by decide +kernel) (fun _ _ _ _ h => h) rfl rfl rfl
          refine A_pure (i := 3) rfl (P_buildC (ix := [0, 1]) (l := [.tmp 23, .const (.int .i64 0)]) bi_42_0_1 rfl (by simp [Value.oneCell']) rfl) ?_ (by decide +kernel) (by decide +kernel) (by decide +kernel) (fun _ _ _ _ h => h) rfl rfl rfl
          refine A_one (i := 8) (A_op rfl (S_storeS ti_42 rfl rfl (rdC_one r 0) rfl h2d (by simp [setAll]) ?_)) (by decide +kernel)
          rintro w3 hb3 hm3
          refine A_pure (i := 9) rfl (P_assign rfl) ?_ (by decide +kernel) (by decide +kernel) (by decide +kernel) (fun _ _ _ _ h => h) rfl rfl rfl
          refine A_done (by decide +kernel) ?_
          refine then_n ?_
          refine C_ret ?_
          refine F_ret (rs := [.cell 2 42, .tmp 3]) [rdV r 0, .bool (decide (c.toNat = 1))] Try.results34 ?_ ?_
          · exact ⟨⟨_, rfl, finR (bs' := r) (e' := 0) hb3⟩, rfl, trivial⟩
          · exact ⟨rfl, hm.drew.new hm3 hold⟩
  · have hR : rBool bs err = (false, bs, err) := by simp [rBool, he]
    rw [hR]
    refine C_region ?_
    refine L (S (P_fieldAddr fo_42_1 rfl) ?_)
    refine L (S_load sc_3 rfl (h1.cell (i := 1) rfl) ?_)
    refine L (S (P_ne rfl rfl (decide_eq_true he)) ?_)
    refine L_nil ?_
    refine then_n ?_
    refine C_true rfl ?_
    refine C_seq ?_
    refine C_region ?_
    refine L (S_loadS st_42 rfl h1.row rfl ?_)
    refine L (S_storeS ti_42 rfl rfl (rdC_one bs err) rfl h2 (by simp [rdC]) ?_)
    rintro w3 hb3 hm3
    refine L (S (P_assign rfl) ?_)
    refine L_nil ?_
    refine then_n ?_
    refine C_ret ?_
    refine then_r ?_
    refine F_ret (rs := [.cell 2 42, .tmp 3]) [rdV bs err, .bool false] Try.results34 ?_ ?_
    · exact ⟨⟨_, rfl, finR hb3⟩, rfl, trivial⟩
    · exact ⟨rfl, hm.new hm3 hold⟩

end Go.Proofs.Ytgicoidmjfhnbaa
