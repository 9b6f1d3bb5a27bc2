import Derived.Test.YtnoioimphcmeiaaGreatDoorSClone
namespace Go.Proofs.YtnoioimphcmeiaaGreatDoor
open Go.RowKit
set_option maxRecDepth 20000
set_option maxHeartbeats 1000000

def sch0 : Sch := ⟨[], none, 0, [], none, 0⟩
/-- A schema that is being made, in a block of its own. -/
structure Mk (w0 wc : World) (b : Nat) (o : Sch) (ts : List Tab) (is : List Idx) : Prop where
  mv : Mv No w0 wc
  blk : Blk wc b (schC o) 37
  new : w0.heap.size ≤ b
  own : SchOwn w0.heap.size wc o
  td : o.tabs.map Tab.d = ts.map Tab.d
  id : o.idxs.map Idx.d_ = is.map Idx.d_
variable {w0 wc w6 w8 w9 : World} {b : Nat} {o : Sch} {ts : List Tab} {is : List Idx}
theorem own0 {base : Nat} {w : World} : SchOwn base w sch0 := ⟨own_nil, fun _ h => by simp [sch0] at h, own_nil, fun _ h => by simp [sch0] at h⟩
theorem Mk.keep (h : Mk w0 wc b o ts is) (hm : Mv No wc w6) : Mk w0 w6 b o ts is := ⟨h.mv.no hm, h.blk.no hm, h.new, h.own.no hm, h.td, h.id⟩
theorem Mk.addT (h : Mk w0 wc b o ts is) {t t' : Tab} {base : Nat} (ht : TabOwn base wc t') (hb : w0.heap.size ≤ base) (hd : t'.d = t.d) {A : Option Addr} {c : Nat}
    (hm8 : Mv (OwnOf (.slice o.A o.tabs.length o.c)) wc w8) (ho8 : w8.ownsRow w0.heap.size 27 5 (.slice A (o.tabs.length + 1) c) (o.tabs.length + 1) (cellsL tabC o.tabs ++ tabC t'))
    (hb9 : Blk w9 b ((schC o).set 0 (.slice A (o.tabs.length + 1) c)) 37) (hm9 : Mv (At b) w8 w9) : Mk w0 w9 b { o with tabs := o.tabs ++ [t'], A := A, c := c } (ts ++ [t]) is := by
  have hl : (o.tabs ++ [t']).length = o.tabs.length + 1 := by simp
  have hb8 : Blk w8 b (schC o) 37 := h.blk.mv hm8 (blk_sep h.blk h.own.tsl (by decide))
  have hcol : ∀ {base : Nat} {t : Tab}, TabOwn base wc t → TabOwn base w9 t := fun {base t} ht => by
    have h1 : TabOwn base w8 t := own_mv ht hm8 (own_sep ht h.own.tsl (by decide))
    exact own_mv h1 hm9 (fun k hk hk2 => by unfold At at hk2; subst hk2; exact blk_sep hb8 h1 (by decide) hk)
  have hint : ∀ {base : Nat} {t : Idx}, IdxOwn base wc t → IdxOwn base w9 t := fun {base t} ht => by
    have h1 : IdxOwn base w8 t := own_mv ht hm8 (own_sep ht h.own.tsl (by decide))
    exact own_mv h1 hm9 (fun k hk hk2 => by unfold At at hk2; subst hk2; exact blk_sep hb8 h1 (by decide) hk)
  refine ⟨(h.mv.own hm8 h.own.tsl (Nat.le_refl _)).new hm9 h.new, by unfold schC; dsimp only; rw [hl]; exact hb9, h.new, ⟨?_, fun x hx => ?_, ?_, fun x hx => hint (h.own.idx x hx)⟩, by simp [h.td, hd], h.id⟩
  · dsimp only
    rw [hl, cellsL_app, cellsL_one]
    exact own_mv ho8 hm9 (fun k hk hk2 => by unfold At at hk2; subst hk2; exact blk_sep hb8 ho8 (by decide) hk)
  · rcases List.mem_append.1 hx with hx | hx
    · exact hcol (h.own.tab x hx)
    · have : x = t' := by simpa using hx
      subst this
      exact own_base (hcol ht) hb
  · have h1 := own_mv h.own.isl hm8 (own_sep h.own.isl h.own.tsl (by decide))
    exact own_mv h1 hm9 (fun k hk hk2 => by unfold At at hk2; subst hk2; exact blk_sep hb8 h1 (by decide) hk)
theorem Mk.addI (h : Mk w0 wc b o ts is) {t t' : Idx} {base : Nat} (ht : IdxOwn base wc t') (hb : w0.heap.size ≤ base) (hd : t'.d_ = t.d_) {A : Option Addr} {c : Nat}
    (hm8 : Mv (OwnOf (.slice o.B o.idxs.length o.d)) wc w8) (ho8 : w8.ownsRow w0.heap.size 30 6 (.slice A (o.idxs.length + 1) c) (o.idxs.length + 1) (cellsL idxC o.idxs ++ idxC t'))
    (hb9 : Blk w9 b ((schC o).set 1 (.slice A (o.idxs.length + 1) c)) 37) (hm9 : Mv (At b) w8 w9) : Mk w0 w9 b { o with idxs := o.idxs ++ [t'], B := A, d := c } ts (is ++ [t]) := by
  have hl : (o.idxs ++ [t']).length = o.idxs.length + 1 := by simp
  have hb8 : Blk w8 b (schC o) 37 := h.blk.mv hm8 (blk_sep h.blk h.own.isl (by decide))
  have hcol : ∀ {base : Nat} {t : Tab}, TabOwn base wc t → TabOwn base w9 t := fun {base t} ht => by
    have h1 : TabOwn base w8 t := own_mv ht hm8 (own_sep ht h.own.isl (by decide))
    exact own_mv h1 hm9 (fun k hk hk2 => by unfold At at hk2; subst hk2; exact blk_sep hb8 h1 (by decide) hk)
  have hint : ∀ {base : Nat} {t : Idx}, IdxOwn base wc t → IdxOwn base w9 t := fun {base t} ht => by
    have h1 : IdxOwn base w8 t := own_mv ht hm8 (own_sep ht h.own.isl (by decide))
    exact own_mv h1 hm9 (fun k hk hk2 => by unfold At at hk2; subst hk2; exact blk_sep hb8 h1 (by decide) hk)
  refine ⟨(h.mv.own hm8 h.own.isl (Nat.le_refl _)).new hm9 h.new, by unfold schC; dsimp only; rw [hl]; exact hb9, h.new, ⟨?_, fun x hx => hcol (h.own.tab x hx), ?_, fun x hx => ?_⟩, h.td, by simp [h.id, hd]⟩
  · have h1 := own_mv h.own.tsl hm8 (own_sep h.own.tsl h.own.isl (by decide))
    exact own_mv h1 hm9 (fun k hk hk2 => by unfold At at hk2; subst hk2; exact blk_sep hb8 h1 (by decide) hk)
  · dsimp only
    rw [hl, cellsL_app, cellsL_one]
    exact own_mv ho8 hm9 (fun k hk hk2 => by unfold At at hk2; subst hk2; exact blk_sep hb8 ho8 (by decide) hk)
  · rcases List.mem_append.1 hx with hx | hx
    · exact hint (h.own.idx x hx)
    · have : x = t' := by simpa using hx
      subst this
      exact own_base (hint ht) hb
/-- Another block of a schema's stays. -/
theorem Mk.other (h : Mk w0 wc b o ts is) {b1 : Nat} {cs : List Value} {v : Value} {n m e : Nat} {xs : List Value} (h1 : Blk wc b1 cs 37) (ho : wc.ownsRow w0.heap.size e m v n xs) (he : 37 ≠ e) (hm8 : Mv (OwnOf v) wc w8) (hm9 : Mv (At b) w8 w9) (hne : b1 ≠ b) : Blk w9 b1 cs 37 :=
  (h1.mv hm8 (blk_sep h1 ho he)).ne hm9 hne
section
variable {w : World}
theorem Clone_ret {s : Sch} (hs : SchOk w s) (hlt : s.tabs.length ≤ 100000) (hli : s.idxs.length ≤ 100000) (hlc : ∀ t ∈ s.tabs, t.cols.length ≤ 1000000) (hld : ∀ t ∈ s.idxs, t.cols.length ≤ 1000000) : Ret Tryz.prog 13 [.agg (schC s).toArray] w fun v w' => ∃ o, v = .agg (schC o).toArray ∧ SchOwn w.heap.size w' o ∧ o.tabs.map Tab.d = s.tabs.map Tab.d ∧ o.idxs.map Idx.d_ = s.idxs.map Idx.d_ ∧ Mv No w w' := by
  refine F_enter Tryz.func13 Tryz.ntmps13 rfl rfl ?_
  refine C_seq ?_
  refine C_region ?_
  refine L (S_box rfl ?_)
  rintro b1 w1 hb1 hm1 hn1
  refine L (S_alloc (zs := [(.slice none 0 0), (.slice none 0 0)]) ti_37 rfl ?_)
  rintro b2 w2 hb2 hm2 hn2
  refine L_nil ?_
  refine then_n ?_
  refine C_seq ?_
  refine C_region ?_
  refine L (S_alloc (zs := [(.slice none 0 0), (.slice none 0 0)]) ti_37 rfl ?_)
  rintro b3 w3 hb3 hm3 hn3
  refine L_nil ?_
  refine then_n ?_
  refine C_seq ?_
  refine C_seq ?_
  have l1 := hb1.lt
  have l2 := hb2.lt
  have hb1' := (hb1.no hm2).no hm3
  have hb2' := hb2.no hm3
  have hm03 := (hm1.no hm2).no hm3
  have s1 := hm1.size
  have s2 := hm2.size
  have hk3 : Mk w w3 b3 sch0 [] [] := ⟨hm03, hb3, by omega, own0, rfl, rfl⟩
  have n12 : b1 ≠ b3 := by omega
  have n23 : b2 ≠ b3 := by omega
  have hs3 := hs.no hm03
  refine C_region ?_
  refine L (S (P_fieldAddr fo_37_0 rfl) ?_)
  refine L (S_load sc_34 rfl (hb1'.cell (i := 0) rfl) ?_)
  refine L (S (P_lenS Tryz.underlying34 rfl) ?_)
  refine L (S (P_move rfl) ?_)
  refine L_nil ?_
  refine then_n ?_
  refine C_cutg (γ := Sch) (fun _ => [(1, .pointer (some ⟨b1, 0, none⟩)), (2, .pointer (some ⟨b2, 0, none⟩)), (3, .pointer (some ⟨b3, 0, none⟩))]) (fun o wc => Mk w wc b3 o s.tabs [] ∧ o.idxs = [] ∧ Blk wc b1 (schC s) 37 ∧ Blk wc b2 (schC sch0) 37) ?_ ?_
  · refine C_block ?_
    refine C_loop (γ := Nat × Sch) (fun q => [(1, .pointer (some ⟨b1, 0, none⟩)), (2, .pointer (some ⟨b2, 0, none⟩)), (3, .pointer (some ⟨b3, 0, none⟩)), (9, .slice s.A s.tabs.length s.c), (10, .int .i64 (s.tabs.length : Int)), (11, .int .i64 (q.1 : Int))]) (fun q wr => q.1 ≤ s.tabs.length ∧ Mk w wr b3 q.2 (s.tabs.take q.1) [] ∧ q.2.idxs = [] ∧ Blk wr b1 (schC s) 37 ∧ Blk wr b2 (schC sch0) 37) (fun q => s.tabs.length - q.1) (0, sch0) (.cons rfl (.cons rfl (.cons rfl (.cons rfl (.cons rfl (.cons rfl (.nil _))))))) ⟨Nat.zero_le _, hk3, rfl, hb1', hb2'⟩ ?_
    rintro ⟨i, o⟩ wr ⟨hi, hk, hoi, hr1, hr2⟩
    dsimp only at hi hk hoi
    dsimp only
    by_cases hc : i < s.tabs.length
    · have ha := List.getElem?_eq_getElem hc
      generalize s.tabs[i] = x at ha
      have hxm := List.mem_of_getElem? ha
      have hsr := hs.no hk.mv
      obtain ⟨ba, oa, hAe, -, hrow⟩ := cellsL_at tabC_len (by decide) hsr.tsl ha
      rw [hAe]
      have hol : o.tabs.length = i := by
        have := congrArg List.length hk.td
        rw [List.length_map, List.length_map, List.length_take] at this
        omega
      refine C_seq ?_
      refine C_region ?_
      refine L (S (P_lt rfl rfl (decide_eq_true (by omega))) ?_)
      refine L_nil ?_
      refine then_n ?_
      refine C_seq ?_
      refine C_true rfl ?_
      refine C_skip ?_
      refine then_n ?_
      refine C_seq ?_
      refine C_block ?_
      refine C_seq ?_
      refine C_region ?_
      refine L (S (P_indexAddr Tryz.underlying34 (csz_of ti_27) rfl rfl (j := i) rfl (by omega) (p := oa + i * 5) (by omega)) ?_)
      refine L (S_loadS st_27 rfl hrow rfl ?_)
      refine L (S_alloc (zs := [(.string (ByteArray.mk #[])), (.slice none 0 0), (.int .i64 0), (.int .i64 0), (.int .i64 0)]) ti_27 rfl ?_)
      rintro b5 w4 hb4 hm4 hn4
      refine L (S_storeS ti_27 rfl rfl (tabC_one x) rfl hb4 (by exact Nat.le_refl 5) ?_)
      rintro w5 hb5 hm5
      refine L_nil ?_
      refine then_n ?_
      have hb5' : Blk w5 b5 (tabC x) 27 := hb5
      have hm45 : Mv No wr w5 := hm4.new hm5 hn4
      have hk5 := hk.keep hm45
      have hsl : ∀ wq, Mv No w5 wq → wq.cell? ⟨b3, 0, none⟩ = some (.slice o.A o.tabs.length o.c) := fun wq h => (hk5.blk.no h).cell (i := 0) rfl
      have hcl := fun wq (h : Mv No w5 wq) => clone_ret (t := x) (((hsr.tab x hxm).no hm45).no h) (hlc x hxm)
      have hsz5 := hk5.mv.size
      refine C_draw 8 mixed rfl ?_
      refine A_pure (i := 0) rfl (P_fieldAddr fo_37_0 rfl) ?_ (by decide +kernel) (by decide +kernel) (by decide +kernel) (fun _ _ _ _ h => h) rfl rfl rfl
      refine A_two (i := 1) (i2 := 2) (A_op rfl (S_load sc_34 rfl (by first | exact hsl _ (Mv.refl _).drew | exact hsl _ ((Mv.refl _).drew.no hm6) | exact hsl _ (((Mv.refl _).drew.no hm6).no hm7)) ?_)) (A_op rfl (S_loadS st_27 rfl (hb5'.no (Mv.refl _).drew).row rfl ?_)) (by decide +kernel)
      · refine A_one (i := 2) (A_op rfl (S_loadS st_27 rfl (hb5'.no (Mv.refl _).drew).row rfl ?_)) (by decide +kernel)
        refine A_one (i := 3) (A_op rfl (S_call cb_40 rfl ((hcl _ (Mv.refl _).drew)) ?_)) (by decide +kernel)
        rintro _ w6 ⟨A6, c6, rfl, ho6, hm6⟩
        refine A_one (i := 4) (A_op rfl (S_buildSliceS (l := [.tmp 18]) (vss := [tabC { x with A := A6, cap := c6 }]) Tryz.underlying34 ti_27 (by decide) rfl (by simp [tabC, idxC, colC]) rfl (by decide) (by decide) ?_)) (by decide +kernel)
        rintro b7 w7 hb7 hm7 hn7
        refine A_one (i := 5) (A_op rfl (S_appendV Tryz.underlying34 ti_27 rfl (by decide) rfl (own_no hk5.own.tsl (((Mv.refl _).drew.no hm6).no hm7)) rfl (.inr ⟨b7, 0, rfl, hb7.row⟩) rfl (tabC_one _) (by have := ((Mv.refl w5 (S := No)).drew.no hm6).size; have := hm7.size; omega) (by rw [hol]; unfold maxLen; omega) (by rw [hol]; omega) ?_)) (by decide +kernel)
        rintro A8 c8 w8 ho8 hm8
        refine A_pure (i := 6) rfl (P_fieldAddr fo_37_0 rfl) ?_ (by decide +kernel) (by decide +kernel) (by decide +kernel) (fun _ _ _ _ h => h) rfl rfl rfl
        refine A_one (i := 7) (A_op rfl (S_store ti_34 rfl rfl rfl ((hk5.blk.no (((Mv.refl _).drew.no hm6).no hm7)).mv hm8 (blk_sep (hk5.blk.no (((Mv.refl _).drew.no hm6).no hm7)) (own_no hk5.own.tsl (((Mv.refl _).drew.no hm6).no hm7)) (by decide))) (by show 0 < 2; decide) ?_)) (by decide +kernel)
        rintro w9 hb9 hm9
        refine A_done (by decide +kernel) ?_
        refine blk_n ?_
        refine then_n ?_
        refine C_region ?_
        refine L (S (P_add rfl rfl (wI64 (c := ((i + 1 : Nat) : Int)) (by omega))) ?_)
        refine L (S (P_move rfl) ?_)
        refine L_nil ?_
        refine then_n ?_
        have hm57 : Mv No w5 w7 := ((Mv.refl _).drew.no hm6).no hm7
        have hk7 := hk5.keep hm57
        refine ⟨rfl, (i + 1, { o with tabs := o.tabs ++ [{ x with A := A6, cap := c6 }], A := A8, c := c8 }), (.cons rfl (.cons rfl (.cons rfl (.cons rfl (.cons rfl (.cons rfl (.nil _))))))), ⟨by dsimp only; omega, ?_, hoi, hk7.other (hr1.no (hm45.no hm57)) hk7.own.tsl (by decide) hm8 hm9 n12, hk7.other (hr2.no (hm45.no hm57)) hk7.own.tsl (by decide) hm8 hm9 n23⟩, by dsimp only; omega⟩
        dsimp only
        rw [take_at ha]
        exact hk7.addT (t := x) (own_no ho6 hm7) hsz5 rfl hm8 ho8 hb9 hm9
      · refine A_two (i := 1) (i2 := 3) (A_op rfl (S_load sc_34 rfl (by first | exact hsl _ (Mv.refl _).drew | exact hsl _ ((Mv.refl _).drew.no hm6) | exact hsl _ (((Mv.refl _).drew.no hm6).no hm7)) ?_)) (A_op rfl (S_call cb_40 rfl ((hcl _ (Mv.refl _).drew)) ?_)) (by decide +kernel)
        · refine A_one (i := 3) (A_op rfl (S_call cb_40 rfl ((hcl _ (Mv.refl _).drew)) ?_)) (by decide +kernel)
          rintro _ w6 ⟨A6, c6, rfl, ho6, hm6⟩
          refine A_one (i := 4) (A_op rfl (S_buildSliceS (l := [.tmp 18]) (vss := [tabC { x with A := A6, cap := c6 }]) Tryz.underlying34 ti_27 (by decide) rfl (by simp [tabC, idxC, colC]) rfl (by decide) (by decide) ?_)) (by decide +kernel)
          rintro b7 w7 hb7 hm7 hn7
          refine A_one (i := 5) (A_op rfl (S_appendV Tryz.underlying34 ti_27 rfl (by decide) rfl (own_no hk5.own.tsl (((Mv.refl _).drew.no hm6).no hm7)) rfl (.inr ⟨b7, 0, rfl, hb7.row⟩) rfl (tabC_one _) (by have := ((Mv.refl w5 (S := No)).drew.no hm6).size; have := hm7.size; omega) (by rw [hol]; unfold maxLen; omega) (by rw [hol]; omega) ?_)) (by decide +kernel)
          rintro A8 c8 w8 ho8 hm8
          refine A_pure (i := 6) rfl (P_fieldAddr fo_37_0 rfl) ?_ (by decide +kernel) (by decide +kernel) (by decide +kernel) (fun _ _ _ _ h => h) rfl rfl rfl
          refine A_one (i := 7) (A_op rfl (S_store ti_34 rfl rfl rfl ((hk5.blk.no (((Mv.refl _).drew.no hm6).no hm7)).mv hm8 (blk_sep (hk5.blk.no (((Mv.refl _).drew.no hm6).no hm7)) (own_no hk5.own.tsl (((Mv.refl _).drew.no hm6).no hm7)) (by decide))) (by show 0 < 2; decide) ?_)) (by decide +kernel)
          rintro w9 hb9 hm9
          refine A_done (by decide +kernel) ?_
          refine blk_n ?_
          refine then_n ?_
          refine C_region ?_
          refine L (S (P_add rfl rfl (wI64 (c := ((i + 1 : Nat) : Int)) (by omega))) ?_)
          refine L (S (P_move rfl) ?_)
          refine L_nil ?_
          refine then_n ?_
          have hm57 : Mv No w5 w7 := ((Mv.refl _).drew.no hm6).no hm7
          have hk7 := hk5.keep hm57
          refine ⟨rfl, (i + 1, { o with tabs := o.tabs ++ [{ x with A := A6, cap := c6 }], A := A8, c := c8 }), (.cons rfl (.cons rfl (.cons rfl (.cons rfl (.cons rfl (.cons rfl (.nil _))))))), ⟨by dsimp only; omega, ?_, hoi, hk7.other (hr1.no (hm45.no hm57)) hk7.own.tsl (by decide) hm8 hm9 n12, hk7.other (hr2.no (hm45.no hm57)) hk7.own.tsl (by decide) hm8 hm9 n23⟩, by dsimp only; omega⟩
          dsimp only
          rw [take_at ha]
          exact hk7.addT (t := x) (own_no ho6 hm7) hsz5 rfl hm8 ho8 hb9 hm9
        · rintro _ w6 ⟨A6, c6, rfl, ho6, hm6⟩
          refine A_two (i := 1) (i2 := 4) (A_op rfl (S_load sc_34 rfl (by first | exact hsl _ (Mv.refl _).drew | exact hsl _ ((Mv.refl _).drew.no hm6) | exact hsl _ (((Mv.refl _).drew.no hm6).no hm7)) ?_)) (A_op rfl (S_buildSliceS (l := [.tmp 18]) (vss := [tabC { x with A := A6, cap := c6 }]) Tryz.underlying34 ti_27 (by decide) rfl (by simp [tabC, idxC, colC]) rfl (by decide) (by decide) ?_)) (by decide +kernel)
          · refine A_one (i := 4) (A_op rfl (S_buildSliceS (l := [.tmp 18]) (vss := [tabC { x with A := A6, cap := c6 }]) Tryz.underlying34 ti_27 (by decide) rfl (by simp [tabC, idxC, colC]) rfl (by decide) (by decide) ?_)) (by decide +kernel)
            rintro b7 w7 hb7 hm7 hn7
            refine A_one (i := 5) (A_op rfl (S_appendV Tryz.underlying34 ti_27 rfl (by decide) rfl (own_no hk5.own.tsl (((Mv.refl _).drew.no hm6).no hm7)) rfl (.inr ⟨b7, 0, rfl, hb7.row⟩) rfl (tabC_one _) (by have := ((Mv.refl w5 (S := No)).drew.no hm6).size; have := hm7.size; omega) (by rw [hol]; unfold maxLen; omega) (by rw [hol]; omega) ?_)) (by decide +kernel)
            rintro A8 c8 w8 ho8 hm8
            refine A_pure (i := 6) rfl (P_fieldAddr fo_37_0 rfl) ?_ (by decide +kernel) (by decide +kernel) (by decide +kernel) (fun _ _ _ _ h => h) rfl rfl rfl
            refine A_one (i := 7) (A_op rfl (S_store ti_34 rfl rfl rfl ((hk5.blk.no (((Mv.refl _).drew.no hm6).no hm7)).mv hm8 (blk_sep (hk5.blk.no (((Mv.refl _).drew.no hm6).no hm7)) (own_no hk5.own.tsl (((Mv.refl _).drew.no hm6).no hm7)) (by decide))) (by show 0 < 2; decide) ?_)) (by decide +kernel)
            rintro w9 hb9 hm9
            refine A_done (by decide +kernel) ?_
            refine blk_n ?_
            refine then_n ?_
            refine C_region ?_
            refine L (S (P_add rfl rfl (wI64 (c := ((i + 1 : Nat) : Int)) (by omega))) ?_)
            refine L (S (P_move rfl) ?_)
            refine L_nil ?_
            refine then_n ?_
            have hm57 : Mv No w5 w7 := ((Mv.refl _).drew.no hm6).no hm7
            have hk7 := hk5.keep hm57
            refine ⟨rfl, (i + 1, { o with tabs := o.tabs ++ [{ x with A := A6, cap := c6 }], A := A8, c := c8 }), (.cons rfl (.cons rfl (.cons rfl (.cons rfl (.cons rfl (.cons rfl (.nil _))))))), ⟨by dsimp only; omega, ?_, hoi, hk7.other (hr1.no (hm45.no hm57)) hk7.own.tsl (by decide) hm8 hm9 n12, hk7.other (hr2.no (hm45.no hm57)) hk7.own.tsl (by decide) hm8 hm9 n23⟩, by dsimp only; omega⟩
            dsimp only
            rw [take_at ha]
            exact hk7.addT (t := x) (own_no ho6 hm7) hsz5 rfl hm8 ho8 hb9 hm9
          · rintro b7 w7 hb7 hm7 hn7
            refine A_one (i := 1) (A_op rfl (S_load sc_34 rfl (by first | exact hsl _ (Mv.refl _).drew | exact hsl _ ((Mv.refl _).drew.no hm6) | exact hsl _ (((Mv.refl _).drew.no hm6).no hm7)) ?_)) (by decide +kernel)
            refine A_one (i := 5) (A_op rfl (S_appendV Tryz.underlying34 ti_27 rfl (by decide) rfl (own_no hk5.own.tsl (((Mv.refl _).drew.no hm6).no hm7)) rfl (.inr ⟨b7, 0, rfl, hb7.row⟩) rfl (tabC_one _) (by have := ((Mv.refl w5 (S := No)).drew.no hm6).size; have := hm7.size; omega) (by rw [hol]; unfold maxLen; omega) (by rw [hol]; omega) ?_)) (by decide +kernel)
            rintro A8 c8 w8 ho8 hm8
            refine A_pure (i := 6) rfl (P_fieldAddr fo_37_0 rfl) ?_ (by decide +kernel) (by decide +kernel) (by decide +kernel) (fun _ _ _ _ h => h) rfl rfl rfl
            refine A_one (i := 7) (A_op rfl (S_store ti_34 rfl rfl rfl ((hk5.blk.no (((Mv.refl _).drew.no hm6).no hm7)).mv hm8 (blk_sep (hk5.blk.no (((Mv.refl _).drew.no hm6).no hm7)) (own_no hk5.own.tsl (((Mv.refl _).drew.no hm6).no hm7)) (by decide))) (by show 0 < 2; decide) ?_)) (by decide +kernel)
            rintro w9 hb9 hm9
            refine A_done (by decide +kernel) ?_
            refine blk_n ?_
            refine then_n ?_
            refine C_region ?_
            refine L (S (P_add rfl rfl (wI64 (c := ((i + 1 : Nat) : Int)) (by omega))) ?_)
            refine L (S (P_move rfl) ?_)
            refine L_nil ?_
            refine then_n ?_
            have hm57 : Mv No w5 w7 := ((Mv.refl _).drew.no hm6).no hm7
            have hk7 := hk5.keep hm57
            refine ⟨rfl, (i + 1, { o with tabs := o.tabs ++ [{ x with A := A6, cap := c6 }], A := A8, c := c8 }), (.cons rfl (.cons rfl (.cons rfl (.cons rfl (.cons rfl (.cons rfl (.nil _))))))), ⟨by dsimp only; omega, ?_, hoi, hk7.other (hr1.no (hm45.no hm57)) hk7.own.tsl (by decide) hm8 hm9 n12, hk7.other (hr2.no (hm45.no hm57)) hk7.own.tsl (by decide) hm8 hm9 n23⟩, by dsimp only; omega⟩
            dsimp only
            rw [take_at ha]
            exact hk7.addT (t := x) (own_no ho6 hm7) hsz5 rfl hm8 ho8 hb9 hm9
    · have e : s.tabs.take i = s.tabs := List.take_of_length_le (by omega)
      rw [e] at hk
      refine C_seq ?_
      refine C_region ?_
      refine L (S (P_lt rfl rfl (decide_eq_false (by omega))) ?_)
      refine L_nil ?_
      refine then_n ?_
      refine C_seq ?_
      refine C_false rfl ?_
      refine C_exit ?_
      refine then_x ?_
      refine then_x ?_
      refine blk_x ?_
      refine then_n ?_
      exact ⟨rfl, o, (.cons rfl (.cons rfl (.cons rfl (.nil _)))), hk, hoi, hr1, hr2⟩
  rintro o w4 ⟨hk4, hoi, hc1, hc2⟩ f' hf'
  refine C_forget hf' ?_
  clear hf' f'
  refine C_seq ?_
  refine C_seq ?_
  refine C_region ?_
  refine L (S (P_fieldAddr fo_37_1 rfl) ?_)
  refine L (S_load sc_35 rfl (hc1.cell (i := 1) rfl) ?_)
  refine L (S (P_lenS Tryz.underlying35 rfl) ?_)
  refine L (S (P_move rfl) ?_)
  refine L_nil ?_
  refine then_n ?_
  refine C_cutg (γ := Sch) (fun _ => [(2, .pointer (some ⟨b2, 0, none⟩)), (3, .pointer (some ⟨b3, 0, none⟩))]) (fun p wc => Mk w wc b3 p s.tabs s.idxs ∧ Blk wc b2 (schC sch0) 37) ?_ ?_
  · refine C_block ?_
    refine C_loop (γ := Nat × Sch) (fun q => [(2, .pointer (some ⟨b2, 0, none⟩)), (3, .pointer (some ⟨b3, 0, none⟩)), (24, .slice s.B s.idxs.length s.d), (25, .int .i64 (s.idxs.length : Int)), (26, .int .i64 (q.1 : Int))]) (fun q wr => q.1 ≤ s.idxs.length ∧ Mk w wr b3 q.2 s.tabs (s.idxs.take q.1) ∧ Blk wr b2 (schC sch0) 37) (fun q => s.idxs.length - q.1) (0, o) (.cons rfl (.cons rfl (.cons rfl (.cons rfl (.cons rfl (.nil _)))))) ⟨Nat.zero_le _, hk4, hc2⟩ ?_
    rintro ⟨i, p⟩ wr ⟨hi, hk, hr2⟩
    dsimp only at hi hk
    dsimp only
    by_cases hc : i < s.idxs.length
    · have ha := List.getElem?_eq_getElem hc
      generalize s.idxs[i] = x at ha
      have hxm := List.mem_of_getElem? ha
      have hsr := hs.no hk.mv
      obtain ⟨ba, oa, hAe, -, hrow⟩ := cellsL_at idxC_len (by decide) hsr.isl ha
      rw [hAe]
      have hol : p.idxs.length = i := by
        have := congrArg List.length hk.id
        rw [List.length_map, List.length_map, List.length_take] at this
        omega
      refine C_seq ?_
      refine C_region ?_
      refine L (S (P_lt rfl rfl (decide_eq_true (by omega))) ?_)
      refine L_nil ?_
      refine then_n ?_
      refine C_seq ?_
      refine C_true rfl ?_
      refine C_skip ?_
      refine then_n ?_
      refine C_seq ?_
      refine C_block ?_
      refine C_seq ?_
      refine C_region ?_
      refine L (S (P_indexAddr Tryz.underlying35 (csz_of ti_30) rfl rfl (j := i) rfl (by omega) (p := oa + i * 6) (by omega)) ?_)
      refine L (S_loadS st_30 rfl hrow rfl ?_)
      refine L (S_alloc (zs := [(.string (ByteArray.mk #[])), (.string (ByteArray.mk #[])), (.slice none 0 0), (.int .i64 0), (.int .i64 0), (.int .i64 0)]) ti_30 rfl ?_)
      rintro b5 w4 hb4 hm4 hn4
      refine L (S_storeS ti_30 rfl rfl (idxC_one x) rfl hb4 (by exact Nat.le_refl 6) ?_)
      rintro w5 hb5 hm5
      refine L_nil ?_
      refine then_n ?_
      have hb5' : Blk w5 b5 (idxC x) 30 := hb5
      have hm45 : Mv No wr w5 := hm4.new hm5 hn4
      have hk5 := hk.keep hm45
      have hsl : ∀ wq, Mv No w5 wq → wq.cell? ⟨b3, 1, none⟩ = some (.slice p.B p.idxs.length p.d) := fun wq h => (hk5.blk.no h).cell (i := 1) rfl
      have hcl := fun wq (h : Mv No w5 wq) => cloneIdx_ret (t := x) (((hsr.idx x hxm).no hm45).no h) (hld x hxm)
      have hsz5 := hk5.mv.size
      refine C_draw 8 mixed rfl ?_
      refine A_pure (i := 0) rfl (P_fieldAddr fo_37_1 rfl) ?_ (by decide +kernel) (by decide +kernel) (by decide +kernel) (fun _ _ _ _ h => h) rfl rfl rfl
      refine A_two (i := 1) (i2 := 2) (A_op rfl (S_load sc_35 rfl (by first | exact hsl _ (Mv.refl _).drew | exact hsl _ ((Mv.refl _).drew.no hm6) | exact hsl _ (((Mv.refl _).drew.no hm6).no hm7)) ?_)) (A_op rfl (S_loadS st_30 rfl (hb5'.no (Mv.refl _).drew).row rfl ?_)) (by decide +kernel)
      · refine A_one (i := 2) (A_op rfl (S_loadS st_30 rfl (hb5'.no (Mv.refl _).drew).row rfl ?_)) (by decide +kernel)
        refine A_one (i := 3) (A_op rfl (S_call cb_41 rfl ((hcl _ (Mv.refl _).drew)) ?_)) (by decide +kernel)
        rintro _ w6 ⟨A6, c6, rfl, ho6, hm6⟩
        refine A_one (i := 4) (A_op rfl (S_buildSliceS (l := [.tmp 33]) (vss := [idxC { x with A := A6, cap := c6 }]) Tryz.underlying35 ti_30 (by decide) rfl (by simp [tabC, idxC, colC]) rfl (by decide) (by decide) ?_)) (by decide +kernel)
        rintro b7 w7 hb7 hm7 hn7
        refine A_one (i := 5) (A_op rfl (S_appendV Tryz.underlying35 ti_30 rfl (by decide) rfl (own_no hk5.own.isl (((Mv.refl _).drew.no hm6).no hm7)) rfl (.inr ⟨b7, 0, rfl, hb7.row⟩) rfl (idxC_one _) (by have := ((Mv.refl w5 (S := No)).drew.no hm6).size; have := hm7.size; omega) (by rw [hol]; unfold maxLen; omega) (by rw [hol]; omega) ?_)) (by decide +kernel)
        rintro A8 c8 w8 ho8 hm8
        refine A_pure (i := 6) rfl (P_fieldAddr fo_37_1 rfl) ?_ (by decide +kernel) (by decide +kernel) (by decide +kernel) (fun _ _ _ _ h => h) rfl rfl rfl
        refine A_one (i := 7) (A_op rfl (S_store ti_35 rfl rfl rfl ((hk5.blk.no (((Mv.refl _).drew.no hm6).no hm7)).mv hm8 (blk_sep (hk5.blk.no (((Mv.refl _).drew.no hm6).no hm7)) (own_no hk5.own.isl (((Mv.refl _).drew.no hm6).no hm7)) (by decide))) (by show 1 < 2; decide) ?_)) (by decide +kernel)
        rintro w9 hb9 hm9
        refine A_done (by decide +kernel) ?_
        refine blk_n ?_
        refine then_n ?_
        refine C_region ?_
        refine L (S (P_add rfl rfl (wI64 (c := ((i + 1 : Nat) : Int)) (by omega))) ?_)
        refine L (S (P_move rfl) ?_)
        refine L_nil ?_
        refine then_n ?_
        have hm57 : Mv No w5 w7 := ((Mv.refl _).drew.no hm6).no hm7
        have hk7 := hk5.keep hm57
        refine ⟨rfl, (i + 1, { p with idxs := p.idxs ++ [{ x with A := A6, cap := c6 }], B := A8, d := c8 }), (.cons rfl (.cons rfl (.cons rfl (.cons rfl (.cons rfl (.nil _)))))), ⟨by dsimp only; omega, ?_, hk7.other (hr2.no (hm45.no hm57)) hk7.own.isl (by decide) hm8 hm9 n23⟩, by dsimp only; omega⟩
        dsimp only
        rw [take_at ha]
        exact hk7.addI (t := x) (own_no ho6 hm7) hsz5 rfl hm8 ho8 hb9 hm9
      · refine A_two (i := 1) (i2 := 3) (A_op rfl (S_load sc_35 rfl (by first | exact hsl _ (Mv.refl _).drew | exact hsl _ ((Mv.refl _).drew.no hm6) | exact hsl _ (((Mv.refl _).drew.no hm6).no hm7)) ?_)) (A_op rfl (S_call cb_41 rfl ((hcl _ (Mv.refl _).drew)) ?_)) (by decide +kernel)
        · refine A_one (i := 3) (A_op rfl (S_call cb_41 rfl ((hcl _ (Mv.refl _).drew)) ?_)) (by decide +kernel)
          rintro _ w6 ⟨A6, c6, rfl, ho6, hm6⟩
          refine A_one (i := 4) (A_op rfl (S_buildSliceS (l := [.tmp 33]) (vss := [idxC { x with A := A6, cap := c6 }]) Tryz.underlying35 ti_30 (by decide) rfl (by simp [tabC, idxC, colC]) rfl (by decide) (by decide) ?_)) (by decide +kernel)
          rintro b7 w7 hb7 hm7 hn7
          refine A_one (i := 5) (A_op rfl (S_appendV Tryz.underlying35 ti_30 rfl (by decide) rfl (own_no hk5.own.isl (((Mv.refl _).drew.no hm6).no hm7)) rfl (.inr ⟨b7, 0, rfl, hb7.row⟩) rfl (idxC_one _) (by have := ((Mv.refl w5 (S := No)).drew.no hm6).size; have := hm7.size; omega) (by rw [hol]; unfold maxLen; omega) (by rw [hol]; omega) ?_)) (by decide +kernel)
          rintro A8 c8 w8 ho8 hm8
          refine A_pure (i := 6) rfl (P_fieldAddr fo_37_1 rfl) ?_ (by decide +kernel) (by decide +kernel) (by decide +kernel) (fun _ _ _ _ h => h) rfl rfl rfl
          refine A_one (i := 7) (A_op rfl (S_store ti_35 rfl rfl rfl ((hk5.blk.no (((Mv.refl _).drew.no hm6).no hm7)).mv hm8 (blk_sep (hk5.blk.no (((Mv.refl _).drew.no hm6).no hm7)) (own_no hk5.own.isl (((Mv.refl _).drew.no hm6).no hm7)) (by decide))) (by show 1 < 2; decide) ?_)) (by decide +kernel)
          rintro w9 hb9 hm9
          refine A_done (by decide +kernel) ?_
          refine blk_n ?_
          refine then_n ?_
          refine C_region ?_
          refine L (S (P_add rfl rfl (wI64 (c := ((i + 1 : Nat) : Int)) (by omega))) ?_)
          refine L (S (P_move rfl) ?_)
          refine L_nil ?_
          refine then_n ?_
          have hm57 : Mv No w5 w7 := ((Mv.refl _).drew.no hm6).no hm7
          have hk7 := hk5.keep hm57
          refine ⟨rfl, (i + 1, { p with idxs := p.idxs ++ [{ x with A := A6, cap := c6 }], B := A8, d := c8 }), (.cons rfl (.cons rfl (.cons rfl (.cons rfl (.cons rfl (.nil _)))))), ⟨by dsimp only; omega, ?_, hk7.other (hr2.no (hm45.no hm57)) hk7.own.isl (by decide) hm8 hm9 n23⟩, by dsimp only; omega⟩
          dsimp only
          rw [take_at ha]
          exact hk7.addI (t := x) (own_no ho6 hm7) hsz5 rfl hm8 ho8 hb9 hm9
        · rintro _ w6 ⟨A6, c6, rfl, ho6, hm6⟩
          refine A_two (i := 1) (i2 := 4) (A_op rfl (S_load sc_35 rfl (by first | exact hsl _ (Mv.refl _).drew | exact hsl _ ((Mv.refl _).drew.no hm6) | exact hsl _ (((Mv.refl _).drew.no hm6).no hm7)) ?_)) (A_op rfl (S_buildSliceS (l := [.tmp 33]) (vss := [idxC { x with A := A6, cap := c6 }]) Tryz.underlying35 ti_30 (by decide) rfl (by simp [tabC, idxC, colC]) rfl (by decide) (by decide) ?_)) (by decide +kernel)
          · refine A_one (i := 4) (A_op rfl (S_buildSliceS (l := [.tmp 33]) (vss := [idxC { x with A := A6, cap := c6 }]) Tryz.underlying35 ti_30 (by decide) rfl (by simp [tabC, idxC, colC]) rfl (by decide) (by decide) ?_)) (by decide +kernel)
            rintro b7 w7 hb7 hm7 hn7
            refine A_one (i := 5) (A_op rfl (S_appendV Tryz.underlying35 ti_30 rfl (by decide) rfl (own_no hk5.own.isl (((Mv.refl _).drew.no hm6).no hm7)) rfl (.inr ⟨b7, 0, rfl, hb7.row⟩) rfl (idxC_one _) (by have := ((Mv.refl w5 (S := No)).drew.no hm6).size; have := hm7.size; omega) (by rw [hol]; unfold maxLen; omega) (by rw [hol]; omega) ?_)) (by decide +kernel)
            rintro A8 c8 w8 ho8 hm8
            refine A_pure (i := 6) rfl (P_fieldAddr fo_37_1 rfl) ?_ (by decide +kernel) (by decide +kernel) (by decide +kernel) (fun _ _ _ _ h => h) rfl rfl rfl
            refine A_one (i := 7) (A_op rfl (S_store ti_35 rfl rfl rfl ((hk5.blk.no (((Mv.refl _).drew.no hm6).no hm7)).mv hm8 (blk_sep (hk5.blk.no (((Mv.refl _).drew.no hm6).no hm7)) (own_no hk5.own.isl (((Mv.refl _).drew.no hm6).no hm7)) (by decide))) (by show 1 < 2; decide) ?_)) (by decide +kernel)
            rintro w9 hb9 hm9
            refine A_done (by decide +kernel) ?_
            refine blk_n ?_
            refine then_n ?_
            refine C_region ?_
            refine L (S (P_add rfl rfl (wI64 (c := ((i + 1 : Nat) : Int)) (by omega))) ?_)
            refine L (S (P_move rfl) ?_)
            refine L_nil ?_
            refine then_n ?_
            have hm57 : Mv No w5 w7 := ((Mv.refl _).drew.no hm6).no hm7
            have hk7 := hk5.keep hm57
            refine ⟨rfl, (i + 1, { p with idxs := p.idxs ++ [{ x with A := A6, cap := c6 }], B := A8, d := c8 }), (.cons rfl (.cons rfl (.cons rfl (.cons rfl (.cons rfl (.nil _)))))), ⟨by dsimp only; omega, ?_, hk7.other (hr2.no (hm45.no hm57)) hk7.own.isl (by decide) hm8 hm9 n23⟩, by dsimp only; omega⟩
            dsimp only
            rw [take_at ha]
            exact hk7.addI (t := x) (own_no ho6 hm7) hsz5 rfl hm8 ho8 hb9 hm9
          · rintro b7 w7 hb7 hm7 hn7
            refine A_one (i := 1) (A_op rfl (S_load sc_35 rfl (by first | exact hsl _ (Mv.refl _).drew | exact hsl _ ((Mv.refl _).drew.no hm6) | exact hsl _ (((Mv.refl _).drew.no hm6).no hm7)) ?_)) (by decide +kernel)
            refine A_one (i := 5) (A_op rfl (S_appendV Tryz.underlying35 ti_30 rfl (by decide) rfl (own_no hk5.own.isl (((Mv.refl _).drew.no hm6).no hm7)) rfl (.inr ⟨b7, 0, rfl, hb7.row⟩) rfl (idxC_one _) (by have := ((Mv.refl w5 (S := No)).drew.no hm6).size; have := hm7.size; omega) (by rw [hol]; unfold maxLen; omega) (by rw [hol]; omega) ?_)) (by decide +kernel)
            rintro A8 c8 w8 ho8 hm8
            refine A_pure (i := 6) rfl (P_fieldAddr fo_37_1 rfl) ?_ (by decide +kernel) (by decide +kernel) (by decide +kernel) (fun _ _ _ _ h => h) rfl rfl rfl
            refine A_one (i := 7) (A_op rfl (S_store ti_35 rfl rfl rfl ((hk5.blk.no (((Mv.refl _).drew.no hm6).no hm7)).mv hm8 (blk_sep (hk5.blk.no (((Mv.refl _).drew.no hm6).no hm7)) (own_no hk5.own.isl (((Mv.refl _).drew.no hm6).no hm7)) (by decide))) (by show 1 < 2; decide) ?_)) (by decide +kernel)
            rintro w9 hb9 hm9
            refine A_done (by decide +kernel) ?_
            refine blk_n ?_
            refine then_n ?_
            refine C_region ?_
            refine L (S (P_add rfl rfl (wI64 (c := ((i + 1 : Nat) : Int)) (by omega))) ?_)
            refine L (S (P_move rfl) ?_)
            refine L_nil ?_
            refine then_n ?_
            have hm57 : Mv No w5 w7 := ((Mv.refl _).drew.no hm6).no hm7
            have hk7 := hk5.keep hm57
            refine ⟨rfl, (i + 1, { p with idxs := p.idxs ++ [{ x with A := A6, cap := c6 }], B := A8, d := c8 }), (.cons rfl (.cons rfl (.cons rfl (.cons rfl (.cons rfl (.nil _)))))), ⟨by dsimp only; omega, ?_, hk7.other (hr2.no (hm45.no hm57)) hk7.own.isl (by decide) hm8 hm9 n23⟩, by dsimp only; omega⟩
            dsimp only
            rw [take_at ha]
            exact hk7.addI (t := x) (own_no ho6 hm7) hsz5 rfl hm8 ho8 hb9 hm9
    · have e : s.idxs.take i = s.idxs := List.take_of_length_le (by omega)
      rw [e] at hk
      refine C_seq ?_
      refine C_region ?_
      refine L (S (P_lt rfl rfl (decide_eq_false (by omega))) ?_)
      refine L_nil ?_
      refine then_n ?_
      refine C_seq ?_
      refine C_false rfl ?_
      refine C_exit ?_
      refine then_x ?_
      refine then_x ?_
      refine blk_x ?_
      refine then_n ?_
      exact ⟨rfl, p, (.cons rfl (.cons rfl (.nil _))), hk, hr2⟩
  rintro p w5 ⟨hk5, hd2⟩ f' hf'
  refine C_forget hf' ?_
  clear hf' f'
  refine C_seq ?_
  refine C_region ?_
  refine L (S_loadS st_37 rfl hk5.blk.row rfl ?_)
  refine L (S_storeS ti_37 rfl rfl (schC_one p) rfl hd2 (by exact Nat.le_refl 2) ?_)
  rintro w6 hb6 hm6
  refine L_nil ?_
  refine then_n ?_
  refine C_ret ?_
  have hb6' : Blk w6 b2 (schC p) 37 := hb6
  refine F_ret (rs := [.cell 2 37]) [.agg (schC p).toArray] Tryz.results13 ?_ ?_
  · exact ⟨⟨_, rfl, run_loadVar_struct st_37 hb6'.row rfl⟩, trivial⟩
  refine ⟨p, rfl, ?_, hk5.td, hk5.id, hk5.mv.new hm6 (by omega)⟩
  have hsep : ∀ {m n e base : Nat} {v : Value} {xs : List Value}, w5.ownsRow base e m v n xs → 37 ≠ e → w6.ownsRow base e m v n xs := fun h he => own_mv h hm6 (fun k hk hk2 => by unfold At at hk2; subst hk2; exact blk_sep hd2 h he hk)
  exact ⟨hsep hk5.own.tsl (by decide), fun t ht => hsep (hk5.own.tab t ht) (by decide), hsep hk5.own.isl (by decide), fun t ht => hsep (hk5.own.idx t ht) (by decide)⟩
end
end Go.Proofs.YtnoioimphcmeiaaGreatDoor
