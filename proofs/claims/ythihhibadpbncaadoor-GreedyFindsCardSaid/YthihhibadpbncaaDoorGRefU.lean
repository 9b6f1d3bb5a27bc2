import Derived.Test.YthihhibadpbncaaDoorGRefT
namespace Go.Proofs.YthihhibadpbncaaDoor
open Go.RowKit
section
variable {n : Nat} {sz : List Int} {bud : Int} {pr : Nat → Int} {A1 A2 : Option Addr} {c1 c2 : Nat} {w : World}
set_option maxHeartbeats 1000000 in
theorem refsearch_ret (m k : Int) (hp : IsPb w n sz bud pr A1 A2) (hm0 : 0 ≤ m) (hm3 : m ≤ 3) (hk0 : 0 ≤ k) (hk9 : k < 9223372036854775808) :
    Ret Tryd.prog 13 [pbV A1 n c1 bud A2 (2 ^ n) c2, .int .i64 m, .int .i64 k] w fun v w' => ∃ A l c, v = .slice A l.length c ∧ SlR w' A (l.map ni) ∧ Rep n l (searchF sz bud pr m k) ∧ Mv No w w' := by
  have hlen := hp.len
  have hle := hp.le
  obtain ⟨M, hM⟩ : ∃ M : Nat, min m k = (M : Int) := ⟨(min m k).toNat, by omega⟩
  have hseed := seeds_eq (sz := sz) (bud := bud) (pr := pr) (m := min m k) (M := M) (by omega) hM
  rw [hlen] at hseed
  refine F_enter Tryd.func13 Tryd.ntmps13 rfl rfl ?_
  refine C_seq ?_
  refine C_region ?_
  refine L (S_box rfl ?_)
  rintro b3 w1 hb3 hm1 hn1
  refine L (S (P_assign rfl) ?_)
  refine L_nil ?_
  refine then_n ?_
  refine C_seq ?_
  have h3 : Blk w1 b3 (pb2C A1 n c1 bud A2 (2 ^ n) c2) 37 := hb3
  refine C_region ?_
  refine L (S (P_assign rfl) ?_)
  refine L_nil ?_
  refine then_n ?_
  refine C_seq ?_
  refine C_seq ?_
  refine C_region ?_
  refine L (S (P_assign rfl) ?_)
  refine L_nil ?_
  refine then_n ?_
  refine C_block ?_
  refine C_loop (γ := Nat × List Nat × Option Addr × Nat) (fun q => [(1, .int .i64 m), (2, .int .i64 k), (3, .pointer (some ⟨b3, 0, none⟩)), (7, .slice q.2.2.1 q.2.1.length q.2.2.2), (8, .int .i64 ((q.1 + 1 : Nat) : Int))]) (fun q wr => q.1 ≤ M ∧ SlR wr q.2.2.1 (q.2.1.map ni) ∧ Rep n q.2.1 (seedsR n (fun s => fitsF sz bud s 0) pr q.1) ∧ Mv No w1 wr) (fun q => M - q.1) (0, [], none, 0) (.cons rfl (.cons rfl (.cons rfl (.cons rfl (.cons rfl (.nil _)))))) ⟨Nat.zero_le _, .inl rfl, Rep.nil, Mv.refl _⟩ ?_
  rintro ⟨x, lx, Ax, cx⟩ wr ⟨hx, hsx, hrx, hmr⟩
  dsimp only at hx hsx hrx hmr
  have h3r := h3.no hmr
  have hmw : Mv No w wr := hm1.no hmr
  refine C_seq ?_
  refine C_seq ?_
  refine C_cutg (γ := Unit) (fun _ => [(1, .int .i64 m), (2, .int .i64 k), (3, .pointer (some ⟨b3, 0, none⟩)), (7, .slice Ax lx.length cx), (8, .int .i64 ((x + 1 : Nat) : Int)), (19, .bool (decide (x + 1 ≤ M)))]) (fun _ wc => wc = wr) ?_ ?_
  · by_cases h1 : ((x + 1 : Nat) : Int) ≤ m
    · have e : decide (x + 1 ≤ M) = decide (((x + 1 : Nat) : Int) ≤ k) := decide_eq_decide.2 (by omega)
      rw [e]
      refine C_region ?_
      refine L (S (P_move rfl) ?_)
      refine L (S (P_move rfl) ?_)
      refine L (S (P_le rfl rfl (decide_eq_true h1)) ?_)
      refine L (S (P_move rfl) ?_)
      refine L_yes (j := 3) (dj := 15) (b := true) (S (P_move rfl) ?_) rfl
      refine L_yes (j := 3) (dj := 15) (b := true) (S (P_move rfl) ?_) rfl
      refine L_yes (j := 3) (dj := 15) (b := true) (S (P_le rfl rfl rfl) ?_) rfl
      refine L (S (P_pickT rfl rfl) ?_)
      refine L_nil ?_
      refine then_n ?_
      exact ⟨rfl, (), .cons rfl (.cons rfl (.cons rfl (.cons rfl (.cons rfl (.cons rfl (.nil _)))))), rfl⟩
    · have e : decide (x + 1 ≤ M) = false := decide_eq_false (by omega)
      rw [e]
      refine C_region ?_
      refine L (S (P_move rfl) ?_)
      refine L (S (P_move rfl) ?_)
      refine L (S (P_le rfl rfl (decide_eq_false h1)) ?_)
      refine L (S (P_move rfl) ?_)
      refine L_no (j := 3) (dj := 15) (b := true) (b' := false) (d := 16) rfl ?_
      refine L_no (j := 3) (dj := 15) (b := true) (b' := false) (d := 17) rfl ?_
      refine L_no (j := 3) (dj := 15) (b := true) (b' := false) (d := 18) rfl ?_
      refine L (S (P_pickF rfl rfl) ?_)
      refine L_nil ?_
      refine then_n ?_
      exact ⟨rfl, (), .cons rfl (.cons rfl (.cons rfl (.cons rfl (.cons rfl (.cons rfl (.nil _)))))), rfl⟩
  rintro _ wz rfl f' hf'
  refine C_forget hf' ?_
  refine C_ifp rfl rfl (fun hgo => ?_) (fun hstop => ?_)
  · refine C_skip ?_
    refine then_n ?_
    refine C_seq ?_
    refine C_block ?_
    refine C_region ?_
    refine L (S_loadS st_37 rfl h3r.row rfl ?_)
    refine L (S (P_move rfl) ?_)
    refine L (S (P_move rfl) ?_)
    refine L (S_call cb_21 rfl (refseed_ret (x + 1) wz none Ax 0 cx 0 [] lx 0 _ (hp.no hmw) (.inl rfl) hsx Rep.nil hrx (Nat.zero_le _) (by simp) (by omega)) ?_)
    rintro _ w4 ⟨A4, l4, c4, rfl, hs4, hr4, hm4⟩
    refine L (S (P_assign rfl) ?_)
    refine L_nil ?_
    refine blk_n ?_
    refine then_n ?_
    refine C_region ?_
    refine L (S (P_move rfl) ?_)
    refine L (S (P_add rfl rfl (wI64 (c := ((x + 1 + 1 : Nat) : Int)) (by omega))) ?_)
    refine L (S (P_assign rfl) ?_)
    refine L_nil ?_
    refine then_n ?_
    exact ⟨rfl, (x + 1, l4, A4, c4), .cons rfl (.cons rfl (.cons rfl (.cons rfl (.cons rfl (.nil _))))), ⟨hgo, hs4, hr4, hmr.no hm4⟩, by dsimp only; omega⟩
  · have hxM : x = M := by omega
    subst hxM
    rw [hseed] at hrx
    have hpr0 := seedF_pr sz bud pr (min m k) (2 ^ n - 1)
    have hgoal : searchF sz bud pr m k = (growF sz bud pr k n (seedF sz bud pr (min m k) (2 ^ n - 1))).1 := by unfold searchF; rw [hlen]
    rw [hgoal]
    clear hgoal hseed
    generalize seedF sz bud pr (min m k) (2 ^ n - 1) = B at *
    have hpow : 2 ^ n ≤ 1024 := by
      have := Nat.pow_le_pow_right (n := 2) (by omega) hle
      simpa using this
    obtain ⟨pb, po, hA2, hcell⟩ := hp.cell
    subst hA2
    refine C_exit ?_
    refine then_x ?_
    refine then_x ?_
    refine blk_x ?_
    refine then_n ?_
    refine C_seq ?_
    refine C_block ?_
    refine C_loop (γ := Nat × (Nat × Int) × List Nat × Option Addr × Nat) (fun q => [(2, .int .i64 k), (3, .pointer (some ⟨b3, 0, none⟩)), (7, .slice q.2.2.2.1 q.2.2.1.length q.2.2.2.2)]) (fun q wr => growF sz bud pr k q.1 q.2.1 = growF sz bud pr k n B ∧ n ≤ q.1 + pop q.2.1.1 ∧ Rep n q.2.2.1 q.2.1.1 ∧ q.2.1.2 = pr q.2.1.1 ∧ SlR wr q.2.2.2.1 (q.2.2.1.map ni) ∧ Mv No w1 wr) (fun q => q.1) (n, B, lx, Ax, cx) (.cons rfl (.cons rfl (.cons rfl (.nil _)))) ⟨rfl, by dsimp only; omega, hrx, hpr0, hsx, hmr⟩ ?_
    rintro ⟨fu, ⟨b, bp⟩, l, A, c⟩ wr ⟨hg, hfu, hr, hbp, hs, hmr2⟩
    dsimp only at hg hfu hr hbp hs hmr2
    subst hbp
    have hpl := hr.len (by omega)
    have hpb := pop_lt (by omega) hr.lt
    have hmw2 : Mv No w wr := hm1.no hmr2
    dsimp only
    refine C_seq ?_
    refine C_seq ?_
    refine C_region ?_
    refine L (S (P_move rfl) ?_)
    refine L (S (P_lenS Tryd.underlying34 rfl) ?_)
    refine L (S (P_move rfl) ?_)
    refine L (S (P_lt rfl rfl rfl) ?_)
    refine L_nil ?_
    refine then_n ?_
    refine C_ifp rfl rfl (fun hlt => ?_) (fun hge => ?_)
    · have hk : (pop b : Int) < k := by omega
      refine C_skip ?_
      refine then_n ?_
      refine C_block ?_
      refine C_seq ?_
      refine C_region ?_
      refine L (S (P_move rfl) ?_)
      refine L (S (P_assign rfl) ?_)
      refine L_nil ?_
      refine then_n ?_
      refine C_seq ?_
      refine C_seq ?_
      refine C_region ?_
      refine L (S (P_assign rfl) ?_)
      refine L_nil ?_
      refine then_n ?_
      refine C_block ?_
      refine C_loop (γ := Nat × List Nat × Option Addr × Nat) (fun q => [(2, .int .i64 k), (3, .pointer (some ⟨b3, 0, none⟩)), (7, .slice A l.length c), (9, .slice q.2.2.1 q.2.1.length q.2.2.2), (10, .int .i64 (q.1 : Int))]) (fun q wq => q.1 ≤ n ∧ Rep n q.2.1 (addF sz bud pr (b, pr b) q.1).1 ∧ (addF sz bud pr (b, pr b) q.1).2 = pr (addF sz bud pr (b, pr b) q.1).1 ∧ SlR wq q.2.2.1 (q.2.1.map ni) ∧ Mv No wr wq) (fun q => n - q.1) (0, l, A, c) (.cons rfl (.cons rfl (.cons rfl (.cons rfl (.cons rfl (.nil _)))))) ⟨Nat.zero_le _, hr, rfl, hs, Mv.refl _⟩ ?_
      rintro ⟨i, ln, An, cn⟩ wq ⟨hi, hrn, hnp, hsn, hmq⟩
      dsimp only at hi hrn hnp hsn hmq
      have h3q := h3.no (hmr2.no hmq)
      have hmwq : Mv No w wq := hmw2.no hmq
      dsimp only
      refine C_seq ?_
      refine C_seq ?_
      refine C_region ?_
      refine L (S (P_move rfl) ?_)
      refine L (S (P_fieldAddr fo_37_0 rfl) ?_)
      refine L (S_load sc_22 rfl (h3q.cell (i := 0) rfl) ?_)
      refine L (S (P_lenS Tryd.underlying22 rfl) ?_)
      refine L (S (P_lt rfl rfl rfl) ?_)
      refine L_nil ?_
      refine then_n ?_
      refine C_ifp rfl rfl (fun hlt2 => ?_) (fun hge2 => ?_)
      · have hin : i < n := by omega
        have hae : addF sz bud pr (b, pr b) (i + 1) = addStep sz bud pr (b, pr b) (addF sz bud pr (b, pr b) i) i := rfl
        generalize addF sz bud pr (b, pr b) i = nx at *
        obtain ⟨ns, np⟩ := nx
        dsimp only at hrn hnp
        subst hnp
        simp only [addStep] at hae
        have hsq := hs.no hmq
        refine C_skip ?_
        refine then_n ?_
        refine C_seq ?_
        refine C_block ?_
        refine C_seq ?_
        refine C_region ?_
        refine L (S_buildSlice0 Tryd.underlying34 ti_3 ?_)
        rintro b6 w2 ho2 hm2 hn2
        refine L (S (P_move rfl) ?_)
        refine L (S_append Tryd.underlying34 ti_3 rfl (by decide) rfl ho2 rfl (hsq.no hm2) (by simp) (ni_one _) hm2.size (by unfold maxLen; omega) (by omega) ?_)
        rintro v3 w3 ho3 hm3 hf3
        refine L (S (P_assign rfl) ?_)
        refine L_nil ?_
        refine then_n ?_
        refine C_seq ?_
        refine C_region ?_
        refine L (S (P_move rfl) ?_)
        refine L (S (P_move rfl) ?_)
        refine L (S_buildSlice1 Tryd.underlying34 ti_3 rfl rfl rfl ?_)
        rintro b7 w4 hb7 hm4 hn4
        refine L (S_append Tryd.underlying34 ti_3 rfl (by decide) rfl (own_no ho3 hm4) rfl (.inr ⟨b7, 0, rfl, hb7.row⟩) (by simp) (by simp [Value.oneCell']) ((Mv.own hm2 hm3 ho2 (Nat.le_refl _)).no hm4).size (by unfold maxLen; simp; omega) (by simp; omega) ?_)
        rintro v5 w5 ho5 hm5 hf5
        refine L (S (P_assign rfl) ?_)
        refine L_nil ?_
        refine then_n ?_
        refine C_seq ?_
        have hm25 : Mv No wq w5 := Mv.own ((Mv.own hm2 hm3 ho2 (Nat.le_refl _)).no hm4) hm5 (own_no ho3 hm4) (Nat.le_refl _)
        have ho5' : w5.ownsRow wq.heap.size 3 1 v5 (l ++ [i]).length ((l ++ [i]).map ni) := by simpa [ni] using ho5
        obtain ⟨A5, c5, rfl, hr5, -⟩ := own_reads ho5'
        clear ho2 ho3 ho5 ho5' hm2 hm3 hm4 hm5 hb7 hf3 hf5
        have hmw5 : Mv No w w5 := hmwq.no hm25
        have h35 := h3q.no hm25
        have hln := hrn.len (by omega)
        have hnl := pop_lt (by omega) hrn.lt
        have hHas := fun w' (hm : Mv No w5 w') => refhas_ret (w := w') (A := A) (cap := c) l i ((hsq.no hm25).no hm) (by omega)
        have hS2 := fun w' (hm : Mv No w5 w') => refset_ret (w := w') (A := An) (cap := cn) ln ((hsn.no hm25).no hm) (fun x hx => by have := hrn.bnd x hx; omega) (by omega)
        rw [hr.has i] at hHas
        rw [hrn.set] at hS2
        have hnlt := hrn.lt
        have hblt := hr.lt
        refine C_cutg (γ := Bool) (fun β => [(2, .int .i64 k), (3, .pointer (some ⟨b3, 0, none⟩)), (7, .slice A l.length c), (9, .slice An ln.length cn), (10, .int .i64 (i : Int)), (11, .slice A5 (l ++ [i]).length c5), (68, .bool β)]) (fun β wc => Mv No w5 wc ∧ addF sz bud pr (b, pr b) (i + 1) = (if β = true then (b ||| 2 ^ i, pr (b ||| 2 ^ i)) else (ns, pr ns)) ∧ (β = true → b.testBit i = false)) ?_ ?_
        · cases hbi : b.testBit i with
          | true =>
            rw [hbi] at hHas
            have e1 : b ||| 2 ^ i = b := Nat.eq_of_testBit_eq fun j => by
              rw [Nat.testBit_or, Nat.testBit_two_pow]
              by_cases hj : i = j
              · subst hj; simp [hbi]
              · simp [hj]
            refine C_drawQ 24 mixed rfl (fun hH => ?_)
            refine H_pure (i := 0) rfl (PureV.toS (P_move rfl)) ?_ (by assumption) (by decide +kernel) (by decide +kernel) (by decide +kernel) (fun _ _ _ _ h => h) rfl rfl rfl
            refine H_pure (i := 1) rfl (PureV.toS (P_move rfl)) ?_ (by assumption) (by decide +kernel) (by decide +kernel) (by decide +kernel) (fun _ _ _ _ h => h) rfl rfl rfl
            refine H_one (i := 2) (H_op rfl (S_call cb_22 rfl (hHas _ hH) ?_)) (by decide +kernel)
            rintro _ w6 ⟨rfl, rfl⟩
            refine and_keep (by first | assumption | exact Mv.no (by assumption) (by assumption)) (fun hH => ?_)
            refine H_pure (i := 3) rfl (PureV.toS (P_not rfl rfl)) ?_ (by assumption) (by decide +kernel) (by decide +kernel) (by decide +kernel) (fun _ _ _ _ h => h) rfl rfl rfl
            refine H_pure (i := 4) rfl (PureV.toS (P_move rfl)) ?_ (by assumption) (by decide +kernel) (by decide +kernel) (by decide +kernel) (fun _ _ _ _ h => h) rfl rfl rfl
            refine H_pureN (i := 5) (j := 4) (dj := 49) (b := true) (b' := false) rfl rfl ?_ (by assumption) (by decide +kernel) (by decide +kernel) (by decide +kernel) (fun _ _ _ _ h => h) rfl rfl rfl rfl rfl
            refine H_pureN (i := 6) (j := 4) (dj := 49) (b := true) (b' := false) rfl rfl ?_ (by assumption) (by decide +kernel) (by decide +kernel) (by decide +kernel) (fun _ _ _ _ h => h) rfl rfl rfl rfl rfl
            refine H_pureN (i := 7) (j := 4) (dj := 49) (b := true) (b' := false) rfl rfl ?_ (by assumption) (by decide +kernel) (by decide +kernel) (by decide +kernel) (fun _ _ _ _ h => h) rfl rfl rfl rfl rfl
            refine H_pure (i := 8) rfl (PureV.toS (P_pickF rfl rfl)) ?_ (by assumption) (by decide +kernel) (by decide +kernel) (by decide +kernel) (fun _ _ _ _ h => h) rfl rfl rfl
            refine H_pure (i := 9) rfl (PureV.toS (P_move rfl)) ?_ (by assumption) (by decide +kernel) (by decide +kernel) (by decide +kernel) (fun _ _ _ _ h => h) rfl rfl rfl
            refine H_pureN (i := 10) (j := 9) (dj := 54) (b := true) (b' := false) rfl rfl ?_ (by assumption) (by decide +kernel) (by decide +kernel) (by decide +kernel) (fun _ _ _ _ h => h) rfl rfl rfl rfl rfl
            refine H_pureN (i := 11) (j := 9) (dj := 54) (b := true) (b' := false) rfl rfl ?_ (by assumption) (by decide +kernel) (by decide +kernel) (by decide +kernel) (fun _ _ _ _ h => h) rfl rfl rfl rfl rfl
            refine H_pureN (i := 12) (j := 9) (dj := 54) (b := true) (b' := false) rfl rfl ?_ (by assumption) (by decide +kernel) (by decide +kernel) (by decide +kernel) (fun _ _ _ _ h => h) rfl rfl rfl rfl rfl
            refine H_pureN (i := 13) (j := 9) (dj := 54) (b := true) (b' := false) rfl rfl ?_ (by assumption) (by decide +kernel) (by decide +kernel) (by decide +kernel) (fun _ _ _ _ h => h) rfl rfl rfl rfl rfl
            refine H_pureN (i := 14) (j := 9) (dj := 54) (b := true) (b' := false) rfl rfl ?_ (by assumption) (by decide +kernel) (by decide +kernel) (by decide +kernel) (fun _ _ _ _ h => h) rfl rfl rfl rfl rfl
            refine H_pureN (i := 15) (j := 9) (dj := 54) (b := true) (b' := false) rfl rfl ?_ (by assumption) (by decide +kernel) (by decide +kernel) (by decide +kernel) (fun _ _ _ _ h => h) rfl rfl rfl rfl rfl
            refine H_pureN (i := 16) (j := 9) (dj := 54) (b := true) (b' := false) rfl rfl ?_ (by assumption) (by decide +kernel) (by decide +kernel) (by decide +kernel) (fun _ _ _ _ h => h) rfl rfl rfl rfl rfl
            refine H_pureN (i := 17) (j := 9) (dj := 54) (b := true) (b' := false) rfl rfl ?_ (by assumption) (by decide +kernel) (by decide +kernel) (by decide +kernel) (fun _ _ _ _ h => h) rfl rfl rfl rfl rfl
            refine H_pureN (i := 18) (j := 9) (dj := 54) (b := true) (b' := false) rfl rfl ?_ (by assumption) (by decide +kernel) (by decide +kernel) (by decide +kernel) (fun _ _ _ _ h => h) rfl rfl rfl rfl rfl
            refine H_pureN (i := 19) (j := 9) (dj := 54) (b := true) (b' := false) rfl rfl ?_ (by assumption) (by decide +kernel) (by decide +kernel) (by decide +kernel) (fun _ _ _ _ h => h) rfl rfl rfl rfl rfl
            refine H_pureN (i := 20) (j := 9) (dj := 54) (b := true) (b' := false) rfl rfl ?_ (by assumption) (by decide +kernel) (by decide +kernel) (by decide +kernel) (fun _ _ _ _ h => h) rfl rfl rfl rfl rfl
            refine H_pureN (i := 21) (j := 9) (dj := 54) (b := true) (b' := false) rfl rfl ?_ (by assumption) (by decide +kernel) (by decide +kernel) (by decide +kernel) (fun _ _ _ _ h => h) rfl rfl rfl rfl rfl
            refine H_pureN (i := 22) (j := 9) (dj := 54) (b := true) (b' := false) rfl rfl ?_ (by assumption) (by decide +kernel) (by decide +kernel) (by decide +kernel) (fun _ _ _ _ h => h) rfl rfl rfl rfl rfl
            refine H_pure (i := 23) rfl (PureV.toS (P_pickF rfl rfl)) ?_ (by assumption) (by decide +kernel) (by decide +kernel) (by decide +kernel) (fun _ _ _ _ h => h) rfl rfl rfl
            refine H_done (by decide +kernel) ?_
            refine then_n ?_
            exact ⟨rfl, false, .cons rfl (.cons rfl (.cons rfl (.cons rfl (.cons rfl (.cons rfl (.cons rfl (.nil _))))))), hH, by rw [hae, if_pos e1]; rfl, fun h => by cases h⟩
          | false =>
            rw [hbi] at hHas
            have e1 : ¬ b ||| 2 ^ i = b := fun he => by
              have h2 : (b ||| 2 ^ i).testBit i = true := by simp [Nat.testBit_or, Nat.testBit_two_pow]
              rw [he, hbi] at h2
              cases h2
            rw [if_neg e1] at hae
            have hrl := hr.snoc hin hbi
            have hll := hrl.len (by omega)
            have hlt3 := hrl.lt
            have hpl2 := pop_lt (by omega) hrl.lt
            have hF := fun w' (hm : Mv No w5 w') => reffits_ret (w := w') (A1 := A1) (A2 := some ⟨pb, po, none⟩) (A := A5) (c1 := c1) (c2 := c2) (n2 := 2 ^ n) (cap := c5) sz bud (l ++ [i]) ((hp.no hmw5).s.no hm) hp.r (hr5.no hm) hp.b0 hp.b9 (by rw [hlen]; exact hrl.bnd) (by omega) (by omega)
            have hS1 := fun w' (hm : Mv No w5 w') => refset_ret (w := w') (A := A5) (cap := c5) (l ++ [i]) (hr5.no hm) (fun x hx => by have := hrl.bnd x hx; omega) (by omega)
            rw [hrl.fit hlen hp.b0, hlen] at hF
            rw [hrl.set] at hS1
            generalize b ||| 2 ^ i = t at *
            cases hft : fitsF sz bud t 0 with
            | false =>
              rw [hft] at hF hae
              refine C_drawQ 24 mixed rfl (fun hH => ?_)
              refine H_pure (i := 0) rfl (PureV.toS (P_move rfl)) ?_ (by assumption) (by decide +kernel) (by decide +kernel) (by decide +kernel) (fun _ _ _ _ h => h) rfl rfl rfl
              refine H_pure (i := 1) rfl (PureV.toS (P_move rfl)) ?_ (by assumption) (by decide +kernel) (by decide +kernel) (by decide +kernel) (fun _ _ _ _ h => h) rfl rfl rfl
              refine H_one (i := 2) (H_op rfl (S_call cb_22 rfl (hHas _ hH) ?_)) (by decide +kernel)
              rintro _ w6 ⟨rfl, rfl⟩
              refine and_keep (by first | assumption | exact Mv.no (by assumption) (by assumption)) (fun hH => ?_)
              refine H_pure (i := 3) rfl (PureV.toS (P_not rfl rfl)) ?_ (by assumption) (by decide +kernel) (by decide +kernel) (by decide +kernel) (fun _ _ _ _ h => h) rfl rfl rfl
              refine H_pure (i := 4) rfl (PureV.toS (P_move rfl)) ?_ (by assumption) (by decide +kernel) (by decide +kernel) (by decide +kernel) (fun _ _ _ _ h => h) rfl rfl rfl
              refine H_pureY (i := 5) (j := 4) (dj := 49) (b := true) rfl (PS_loadS st_37 rfl (fun _ h => (h35.no h).row) rfl) rfl ?_ (by assumption) (by decide +kernel) (by decide +kernel) (by decide +kernel) (fun _ _ _ _ h => h) rfl rfl rfl rfl
              refine H_pureY (i := 6) (j := 4) (dj := 49) (b := true) rfl (PureV.toS (P_move rfl)) rfl ?_ (by assumption) (by decide +kernel) (by decide +kernel) (by decide +kernel) (fun _ _ _ _ h => h) rfl rfl rfl rfl
              refine H_one (i := 7) (H_yes (j := 4) (dj := 49) (b := true) rfl rfl (S_call cb_23 rfl (hF _ hH) ?_)) (by decide +kernel)
              rintro _ w7 ⟨rfl, hm7⟩
              refine and_keep (by first | assumption | exact Mv.no (by assumption) (by assumption)) (fun hH => ?_)
              refine H_pure (i := 8) rfl (PureV.toS (P_pickT rfl rfl)) ?_ (by assumption) (by decide +kernel) (by decide +kernel) (by decide +kernel) (fun _ _ _ _ h => h) rfl rfl rfl
              refine H_pure (i := 9) rfl (PureV.toS (P_move rfl)) ?_ (by assumption) (by decide +kernel) (by decide +kernel) (by decide +kernel) (fun _ _ _ _ h => h) rfl rfl rfl
              refine H_pureN (i := 10) (j := 9) (dj := 54) (b := true) (b' := false) rfl rfl ?_ (by assumption) (by decide +kernel) (by decide +kernel) (by decide +kernel) (fun _ _ _ _ h => h) rfl rfl rfl rfl rfl
              refine H_pureN (i := 11) (j := 9) (dj := 54) (b := true) (b' := false) rfl rfl ?_ (by assumption) (by decide +kernel) (by decide +kernel) (by decide +kernel) (fun _ _ _ _ h => h) rfl rfl rfl rfl rfl
              refine H_pureN (i := 12) (j := 9) (dj := 54) (b := true) (b' := false) rfl rfl ?_ (by assumption) (by decide +kernel) (by decide +kernel) (by decide +kernel) (fun _ _ _ _ h => h) rfl rfl rfl rfl rfl
              refine H_pureN (i := 13) (j := 9) (dj := 54) (b := true) (b' := false) rfl rfl ?_ (by assumption) (by decide +kernel) (by decide +kernel) (by decide +kernel) (fun _ _ _ _ h => h) rfl rfl rfl rfl rfl
              refine H_pureN (i := 14) (j := 9) (dj := 54) (b := true) (b' := false) rfl rfl ?_ (by assumption) (by decide +kernel) (by decide +kernel) (by decide +kernel) (fun _ _ _ _ h => h) rfl rfl rfl rfl rfl
              refine H_pureN (i := 15) (j := 9) (dj := 54) (b := true) (b' := false) rfl rfl ?_ (by assumption) (by decide +kernel) (by decide +kernel) (by decide +kernel) (fun _ _ _ _ h => h) rfl rfl rfl rfl rfl
              refine H_pureN (i := 16) (j := 9) (dj := 54) (b := true) (b' := false) rfl rfl ?_ (by assumption) (by decide +kernel) (by decide +kernel) (by decide +kernel) (fun _ _ _ _ h => h) rfl rfl rfl rfl rfl
              refine H_pureN (i := 17) (j := 9) (dj := 54) (b := true) (b' := false) rfl rfl ?_ (by assumption) (by decide +kernel) (by decide +kernel) (by decide +kernel) (fun _ _ _ _ h => h) rfl rfl rfl rfl rfl
              refine H_pureN (i := 18) (j := 9) (dj := 54) (b := true) (b' := false) rfl rfl ?_ (by assumption) (by decide +kernel) (by decide +kernel) (by decide +kernel) (fun _ _ _ _ h => h) rfl rfl rfl rfl rfl
              refine H_pureN (i := 19) (j := 9) (dj := 54) (b := true) (b' := false) rfl rfl ?_ (by assumption) (by decide +kernel) (by decide +kernel) (by decide +kernel) (fun _ _ _ _ h => h) rfl rfl rfl rfl rfl
              refine H_pureN (i := 20) (j := 9) (dj := 54) (b := true) (b' := false) rfl rfl ?_ (by assumption) (by decide +kernel) (by decide +kernel) (by decide +kernel) (fun _ _ _ _ h => h) rfl rfl rfl rfl rfl
              refine H_pureN (i := 21) (j := 9) (dj := 54) (b := true) (b' := false) rfl rfl ?_ (by assumption) (by decide +kernel) (by decide +kernel) (by decide +kernel) (fun _ _ _ _ h => h) rfl rfl rfl rfl rfl
              refine H_pureN (i := 22) (j := 9) (dj := 54) (b := true) (b' := false) rfl rfl ?_ (by assumption) (by decide +kernel) (by decide +kernel) (by decide +kernel) (fun _ _ _ _ h => h) rfl rfl rfl rfl rfl
              refine H_pure (i := 23) rfl (PureV.toS (P_pickF rfl rfl)) ?_ (by assumption) (by decide +kernel) (by decide +kernel) (by decide +kernel) (fun _ _ _ _ h => h) rfl rfl rfl
              refine H_done (by decide +kernel) ?_
              refine then_n ?_
              exact ⟨rfl, false, .cons rfl (.cons rfl (.cons rfl (.cons rfl (.cons rfl (.cons rfl (.cons rfl (.nil _))))))), hH, by rw [hae, if_pos rfl]; rfl, fun h => by cases h⟩
            | true =>
              rw [hft] at hF hae
              rw [if_neg (by decide)] at hae
              by_cases hless : pr t < pr ns
              · rw [if_pos hless] at hae
                refine C_drawQ 24 mixed rfl (fun hH => ?_)
                refine H_pure (i := 0) rfl (PureV.toS (P_move rfl)) ?_ (by assumption) (by decide +kernel) (by decide +kernel) (by decide +kernel) (fun _ _ _ _ h => h) rfl rfl rfl
                refine H_pure (i := 1) rfl (PureV.toS (P_move rfl)) ?_ (by assumption) (by decide +kernel) (by decide +kernel) (by decide +kernel) (fun _ _ _ _ h => h) rfl rfl rfl
                refine H_one (i := 2) (H_op rfl (S_call cb_22 rfl (hHas _ hH) ?_)) (by decide +kernel)
                rintro _ w6 ⟨rfl, rfl⟩
                refine and_keep (by first | assumption | exact Mv.no (by assumption) (by assumption)) (fun hH => ?_)
                refine H_pure (i := 3) rfl (PureV.toS (P_not rfl rfl)) ?_ (by assumption) (by decide +kernel) (by decide +kernel) (by decide +kernel) (fun _ _ _ _ h => h) rfl rfl rfl
                refine H_pure (i := 4) rfl (PureV.toS (P_move rfl)) ?_ (by assumption) (by decide +kernel) (by decide +kernel) (by decide +kernel) (fun _ _ _ _ h => h) rfl rfl rfl
                refine H_pureY (i := 5) (j := 4) (dj := 49) (b := true) rfl (PS_loadS st_37 rfl (fun _ h => (h35.no h).row) rfl) rfl ?_ (by assumption) (by decide +kernel) (by decide +kernel) (by decide +kernel) (fun _ _ _ _ h => h) rfl rfl rfl rfl
                refine H_pureY (i := 6) (j := 4) (dj := 49) (b := true) rfl (PureV.toS (P_move rfl)) rfl ?_ (by assumption) (by decide +kernel) (by decide +kernel) (by decide +kernel) (fun _ _ _ _ h => h) rfl rfl rfl rfl
                refine H_one (i := 7) (H_yes (j := 4) (dj := 49) (b := true) rfl rfl (S_call cb_23 rfl (hF _ hH) ?_)) (by decide +kernel)
                rintro _ w7 ⟨rfl, hm7⟩
                refine and_keep (by first | assumption | exact Mv.no (by assumption) (by assumption)) (fun hH => ?_)
                refine H_pure (i := 8) rfl (PureV.toS (P_pickT rfl rfl)) ?_ (by assumption) (by decide +kernel) (by decide +kernel) (by decide +kernel) (fun _ _ _ _ h => h) rfl rfl rfl
                refine H_pure (i := 9) rfl (PureV.toS (P_move rfl)) ?_ (by assumption) (by decide +kernel) (by decide +kernel) (by decide +kernel) (fun _ _ _ _ h => h) rfl rfl rfl
                refine H_pureY (i := 10) (j := 9) (dj := 54) (b := true) rfl (PureV.toS (P_fieldAddr fo_37_2 rfl)) rfl ?_ (by assumption) (by decide +kernel) (by decide +kernel) (by decide +kernel) (fun _ _ _ _ h => h) rfl rfl rfl rfl
                refine H_pureY (i := 11) (j := 9) (dj := 54) (b := true) rfl (PS_load sc_22 rfl (fun _ h => (h35.no h).cell (i := 2) rfl)) rfl ?_ (by assumption) (by decide +kernel) (by decide +kernel) (by decide +kernel) (fun _ _ _ _ h => h) rfl rfl rfl rfl
                refine H_pureY (i := 12) (j := 9) (dj := 54) (b := true) rfl (PureV.toS (P_move rfl)) rfl ?_ (by assumption) (by decide +kernel) (by decide +kernel) (by decide +kernel) (fun _ _ _ _ h => h) rfl rfl rfl rfl
                refine H_pureY (i := 16) (j := 9) (dj := 54) (b := true) rfl (PureV.toS (P_fieldAddr fo_37_2 rfl)) rfl ?_ (by assumption) (by decide +kernel) (by decide +kernel) (by decide +kernel) (fun _ _ _ _ h => h) rfl rfl rfl rfl
                refine H_pureY (i := 17) (j := 9) (dj := 54) (b := true) rfl (PS_load sc_22 rfl (fun _ h => (h35.no h).cell (i := 2) rfl)) rfl ?_ (by assumption) (by decide +kernel) (by decide +kernel) (by decide +kernel) (fun _ _ _ _ h => h) rfl rfl rfl rfl
                refine H_pureY (i := 18) (j := 9) (dj := 54) (b := true) rfl (PureV.toS (P_move rfl)) rfl ?_ (by assumption) (by decide +kernel) (by decide +kernel) (by decide +kernel) (fun _ _ _ _ h => h) rfl rfl rfl rfl
                refine H_one (i := 13) (H_yes (j := 9) (dj := 54) (b := true) rfl rfl (S_call cb_12 rfl (hS1 _ hH) ?_)) (by decide +kernel)
                rintro _ w8 ⟨rfl, rfl⟩
                refine and_keep (by first | assumption | exact Mv.no (by assumption) (by assumption)) (fun hH => ?_)
                refine H_pureY (i := 14) (j := 9) (dj := 54) (b := true) rfl (PureV.toS (P_indexAddr Tryd.underlying22 (csz_of ti_2) rfl rfl (j := t) rfl hlt3 (p := po + t) (by omega))) rfl ?_ (by assumption) (by decide +kernel) (by decide +kernel) (by decide +kernel) (fun _ _ _ _ h => h) rfl rfl rfl rfl
                refine H_pureY (i := 15) (j := 9) (dj := 54) (b := true) rfl (PS_load sc_2 rfl (fun _ h => hcell _ (hmw5.no h) t hlt3)) rfl ?_ (by assumption) (by decide +kernel) (by decide +kernel) (by decide +kernel) (fun _ _ _ _ h => h) rfl rfl rfl rfl
                refine H_one (i := 19) (H_yes (j := 9) (dj := 54) (b := true) rfl rfl (S_call cb_12 rfl (hS2 _ hH) ?_)) (by decide +kernel)
                rintro _ w9 ⟨rfl, rfl⟩
                refine and_keep (by first | assumption | exact Mv.no (by assumption) (by assumption)) (fun hH => ?_)
                refine H_pureY (i := 20) (j := 9) (dj := 54) (b := true) rfl (PureV.toS (P_indexAddr Tryd.underlying22 (csz_of ti_2) rfl rfl (j := ns) rfl hnlt (p := po + ns) (by omega))) rfl ?_ (by assumption) (by decide +kernel) (by decide +kernel) (by decide +kernel) (fun _ _ _ _ h => h) rfl rfl rfl rfl
                refine H_pureY (i := 21) (j := 9) (dj := 54) (b := true) rfl (PS_load sc_2 rfl (fun _ h => hcell _ (hmw5.no h) ns hnlt)) rfl ?_ (by assumption) (by decide +kernel) (by decide +kernel) (by decide +kernel) (fun _ _ _ _ h => h) rfl rfl rfl rfl
                refine H_pureY (i := 22) (j := 9) (dj := 54) (b := true) rfl (PureV.toS (P_lt rfl rfl (decide_eq_true hless))) rfl ?_ (by assumption) (by decide +kernel) (by decide +kernel) (by decide +kernel) (fun _ _ _ _ h => h) rfl rfl rfl rfl
                refine H_pure (i := 23) rfl (PureV.toS (P_pickT rfl rfl)) ?_ (by assumption) (by decide +kernel) (by decide +kernel) (by decide +kernel) (fun _ _ _ _ h => h) rfl rfl rfl
                refine H_done (by decide +kernel) ?_
                refine then_n ?_
                exact ⟨rfl, true, .cons rfl (.cons rfl (.cons rfl (.cons rfl (.cons rfl (.cons rfl (.cons rfl (.nil _))))))), hH, by rw [hae]; rfl, fun _ => rfl⟩
              · rw [if_neg hless] at hae
                refine C_drawQ 24 mixed rfl (fun hH => ?_)
                refine H_pure (i := 0) rfl (PureV.toS (P_move rfl)) ?_ (by assumption) (by decide +kernel) (by decide +kernel) (by decide +kernel) (fun _ _ _ _ h => h) rfl rfl rfl
                refine H_pure (i := 1) rfl (PureV.toS (P_move rfl)) ?_ (by assumption) (by decide +kernel) (by decide +kernel) (by decide +kernel) (fun _ _ _ _ h => h) rfl rfl rfl
                refine H_one (i := 2) (H_op rfl (S_call cb_22 rfl (hHas _ hH) ?_)) (by decide +kernel)
                rintro _ w6 ⟨rfl, rfl⟩
                refine and_keep (by first | assumption | exact Mv.no (by assumption) (by assumption)) (fun hH => ?_)
                refine H_pure (i := 3) rfl (PureV.toS (P_not rfl rfl)) ?_ (by assumption) (by decide +kernel) (by decide +kernel) (by decide +kernel) (fun _ _ _ _ h => h) rfl rfl rfl
                refine H_pure (i := 4) rfl (PureV.toS (P_move rfl)) ?_ (by assumption) (by decide +kernel) (by decide +kernel) (by decide +kernel) (fun _ _ _ _ h => h) rfl rfl rfl
                refine H_pureY (i := 5) (j := 4) (dj := 49) (b := true) rfl (PS_loadS st_37 rfl (fun _ h => (h35.no h).row) rfl) rfl ?_ (by assumption) (by decide +kernel) (by decide +kernel) (by decide +kernel) (fun _ _ _ _ h => h) rfl rfl rfl rfl
                refine H_pureY (i := 6) (j := 4) (dj := 49) (b := true) rfl (PureV.toS (P_move rfl)) rfl ?_ (by assumption) (by decide +kernel) (by decide +kernel) (by decide +kernel) (fun _ _ _ _ h => h) rfl rfl rfl rfl
                refine H_one (i := 7) (H_yes (j := 4) (dj := 49) (b := true) rfl rfl (S_call cb_23 rfl (hF _ hH) ?_)) (by decide +kernel)
                rintro _ w7 ⟨rfl, hm7⟩
                refine and_keep (by first | assumption | exact Mv.no (by assumption) (by assumption)) (fun hH => ?_)
                refine H_pure (i := 8) rfl (PureV.toS (P_pickT rfl rfl)) ?_ (by assumption) (by decide +kernel) (by decide +kernel) (by decide +kernel) (fun _ _ _ _ h => h) rfl rfl rfl
                refine H_pure (i := 9) rfl (PureV.toS (P_move rfl)) ?_ (by assumption) (by decide +kernel) (by decide +kernel) (by decide +kernel) (fun _ _ _ _ h => h) rfl rfl rfl
                refine H_pureY (i := 10) (j := 9) (dj := 54) (b := true) rfl (PureV.toS (P_fieldAddr fo_37_2 rfl)) rfl ?_ (by assumption) (by decide +kernel) (by decide +kernel) (by decide +kernel) (fun _ _ _ _ h => h) rfl rfl rfl rfl
                refine H_pureY (i := 11) (j := 9) (dj := 54) (b := true) rfl (PS_load sc_22 rfl (fun _ h => (h35.no h).cell (i := 2) rfl)) rfl ?_ (by assumption) (by decide +kernel) (by decide +kernel) (by decide +kernel) (fun _ _ _ _ h => h) rfl rfl rfl rfl
                refine H_pureY (i := 12) (j := 9) (dj := 54) (b := true) rfl (PureV.toS (P_move rfl)) rfl ?_ (by assumption) (by decide +kernel) (by decide +kernel) (by decide +kernel) (fun _ _ _ _ h => h) rfl rfl rfl rfl
                refine H_pureY (i := 16) (j := 9) (dj := 54) (b := true) rfl (PureV.toS (P_fieldAddr fo_37_2 rfl)) rfl ?_ (by assumption) (by decide +kernel) (by decide +kernel) (by decide +kernel) (fun _ _ _ _ h => h) rfl rfl rfl rfl
                refine H_pureY (i := 17) (j := 9) (dj := 54) (b := true) rfl (PS_load sc_22 rfl (fun _ h => (h35.no h).cell (i := 2) rfl)) rfl ?_ (by assumption) (by decide +kernel) (by decide +kernel) (by decide +kernel) (fun _ _ _ _ h => h) rfl rfl rfl rfl
                refine H_pureY (i := 18) (j := 9) (dj := 54) (b := true) rfl (PureV.toS (P_move rfl)) rfl ?_ (by assumption) (by decide +kernel) (by decide +kernel) (by decide +kernel) (fun _ _ _ _ h => h) rfl rfl rfl rfl
                refine H_one (i := 13) (H_yes (j := 9) (dj := 54) (b := true) rfl rfl (S_call cb_12 rfl (hS1 _ hH) ?_)) (by decide +kernel)
                rintro _ w8 ⟨rfl, rfl⟩
                refine and_keep (by first | assumption | exact Mv.no (by assumption) (by assumption)) (fun hH => ?_)
                refine H_pureY (i := 14) (j := 9) (dj := 54) (b := true) rfl (PureV.toS (P_indexAddr Tryd.underlying22 (csz_of ti_2) rfl rfl (j := t) rfl hlt3 (p := po + t) (by omega))) rfl ?_ (by assumption) (by decide +kernel) (by decide +kernel) (by decide +kernel) (fun _ _ _ _ h => h) rfl rfl rfl rfl
                refine H_pureY (i := 15) (j := 9) (dj := 54) (b := true) rfl (PS_load sc_2 rfl (fun _ h => hcell _ (hmw5.no h) t hlt3)) rfl ?_ (by assumption) (by decide +kernel) (by decide +kernel) (by decide +kernel) (fun _ _ _ _ h => h) rfl rfl rfl rfl
                refine H_one (i := 19) (H_yes (j := 9) (dj := 54) (b := true) rfl rfl (S_call cb_12 rfl (hS2 _ hH) ?_)) (by decide +kernel)
                rintro _ w9 ⟨rfl, rfl⟩
                refine and_keep (by first | assumption | exact Mv.no (by assumption) (by assumption)) (fun hH => ?_)
                refine H_pureY (i := 20) (j := 9) (dj := 54) (b := true) rfl (PureV.toS (P_indexAddr Tryd.underlying22 (csz_of ti_2) rfl rfl (j := ns) rfl hnlt (p := po + ns) (by omega))) rfl ?_ (by assumption) (by decide +kernel) (by decide +kernel) (by decide +kernel) (fun _ _ _ _ h => h) rfl rfl rfl rfl
                refine H_pureY (i := 21) (j := 9) (dj := 54) (b := true) rfl (PS_load sc_2 rfl (fun _ h => hcell _ (hmw5.no h) ns hnlt)) rfl ?_ (by assumption) (by decide +kernel) (by decide +kernel) (by decide +kernel) (fun _ _ _ _ h => h) rfl rfl rfl rfl
                refine H_pureY (i := 22) (j := 9) (dj := 54) (b := true) rfl (PureV.toS (P_lt rfl rfl (decide_eq_false hless))) rfl ?_ (by assumption) (by decide +kernel) (by decide +kernel) (by decide +kernel) (fun _ _ _ _ h => h) rfl rfl rfl rfl
                refine H_pure (i := 23) rfl (PureV.toS (P_pickT rfl rfl)) ?_ (by assumption) (by decide +kernel) (by decide +kernel) (by decide +kernel) (fun _ _ _ _ h => h) rfl rfl rfl
                refine H_done (by decide +kernel) ?_
                refine then_n ?_
                exact ⟨rfl, false, .cons rfl (.cons rfl (.cons rfl (.cons rfl (.cons rfl (.cons rfl (.cons rfl (.nil _))))))), hH, by rw [hae]; rfl, fun h => by cases h⟩
        rintro β wz ⟨hmz, hβ, hβb⟩ f' hf'
        refine C_forget hf' ?_
        cases β with
        | true =>
          rw [if_pos rfl] at hβ
          refine C_true rfl ?_
          refine C_region ?_
          refine L (S (P_move rfl) ?_)
          refine L (S (P_assign rfl) ?_)
          refine L_nil ?_
          refine blk_n ?_
          refine then_n ?_
          refine C_region ?_
          refine L (S (P_move rfl) ?_)
          refine L (S (P_add rfl rfl (wI64 (c := ((i + 1 : Nat) : Int)) (by omega))) ?_)
          refine L (S (P_assign rfl) ?_)
          refine L_nil ?_
          refine then_n ?_
          exact ⟨rfl, (i + 1, l ++ [i], A5, c5), .cons rfl (.cons rfl (.cons rfl (.cons rfl (.cons rfl (.nil _))))), ⟨hin, by rw [hβ]; exact hr.snoc hin (hβb rfl), by rw [hβ], hr5.no hmz, (hmq.no hm25).no hmz⟩, by dsimp only; omega⟩
        | false =>
          rw [if_neg (by decide)] at hβ
          refine C_false rfl ?_
          refine C_skip ?_
          refine blk_n ?_
          refine then_n ?_
          refine C_region ?_
          refine L (S (P_move rfl) ?_)
          refine L (S (P_add rfl rfl (wI64 (c := ((i + 1 : Nat) : Int)) (by omega))) ?_)
          refine L (S (P_assign rfl) ?_)
          refine L_nil ?_
          refine then_n ?_
          exact ⟨rfl, (i + 1, ln, An, cn), .cons rfl (.cons rfl (.cons rfl (.cons rfl (.cons rfl (.nil _))))), ⟨hin, by rw [hβ]; exact hrn, by rw [hβ], (hsn.no hm25).no hmz, (hmq.no hm25).no hmz⟩, by dsimp only; omega⟩
      · have hin : i = n := by omega
        rw [hin] at hrn hnp
        have hln := hrn.len (by omega)
        by_cases hnx : addF sz bud pr (b, pr b) n = (b, pr b)
        · have hgb : growF sz bud pr k fu (b, pr b) = (b, pr b) := by
            cases fu with
            | zero => rfl
            | succ fu => simp only [growF]; rw [if_pos hk, hlen, if_pos hnx]
          rw [hnx] at hln
          dsimp only at hln
          rw [← hg, hgb]
          refine C_exit ?_
          refine then_x ?_
          refine then_x ?_
          refine blk_x ?_
          refine then_n ?_
          refine C_seq ?_
          refine C_seq ?_
          refine C_region ?_
          refine L (S (P_move rfl) ?_)
          refine L (S (P_lenS Tryd.underlying34 rfl) ?_)
          refine L (S (P_move rfl) ?_)
          refine L (S (P_lenS Tryd.underlying34 rfl) ?_)
          refine L (S (P_eq rfl rfl (decide_eq_true (by omega))) ?_)
          refine L_nil ?_
          refine then_n ?_
          refine C_true rfl ?_
          refine C_seq ?_
          refine C_region ?_
          refine L (S (P_move rfl) ?_)
          refine L (S (P_assign rfl) ?_)
          refine L_nil ?_
          refine then_n ?_
          refine C_ret ?_
          refine then_r ?_
          refine blk_r ?_
          refine then_r ?_
          refine blk_r ?_
          refine then_r ?_
          refine F_ret1 Tryd.results13 rfl ?_
          exact ⟨_, l, _, rfl, hs.no hmq, hr, hmwq⟩
        · obtain ⟨j, hj, hbit, hne2⟩ : ∃ j, j < n ∧ b.testBit j = false ∧ addF sz bud pr (b, pr b) n = (b ||| 2 ^ j, pr (b ||| 2 ^ j)) := by
            rcases addF_form sz bud pr (b, pr b) n with h | h
            · exact absurd h hnx
            · exact h
          have hpop := pop_or (b := b) (i := j) (by omega) hbit
          have hple := pop_lt (by omega) (or_bit_lt hr.lt hj)
          rw [hpop] at hple
          obtain ⟨fu', rfl⟩ : ∃ f', fu = f' + 1 := ⟨fu - 1, by omega⟩
          have hgs : growF sz bud pr k (fu' + 1) (b, pr b) = growF sz bud pr k fu' (b ||| 2 ^ j, pr (b ||| 2 ^ j)) := by
            rw [growF, if_pos hk, hlen, if_neg hnx, hne2]
          rw [hne2] at hrn hln
          dsimp only at hrn hln
          refine C_exit ?_
          refine then_x ?_
          refine then_x ?_
          refine blk_x ?_
          refine then_n ?_
          refine C_seq ?_
          refine C_seq ?_
          refine C_region ?_
          refine L (S (P_move rfl) ?_)
          refine L (S (P_lenS Tryd.underlying34 rfl) ?_)
          refine L (S (P_move rfl) ?_)
          refine L (S (P_lenS Tryd.underlying34 rfl) ?_)
          refine L (S (P_eq rfl rfl (decide_eq_false (by omega))) ?_)
          refine L_nil ?_
          refine then_n ?_
          refine C_false rfl ?_
          refine C_skip ?_
          refine then_n ?_
          refine C_region ?_
          refine L (S (P_move rfl) ?_)
          refine L (S (P_assign rfl) ?_)
          refine L_nil ?_
          refine blk_n ?_
          refine then_n ?_
          exact ⟨rfl, (fu', (b ||| 2 ^ j, pr (b ||| 2 ^ j)), ln, An, cn), .cons rfl (.cons rfl (.cons rfl (.nil _))), ⟨by dsimp only; rw [← hgs]; exact hg, by dsimp only; omega, hrn, rfl, hsn, hmr2.no hmq⟩, by dsimp only; omega⟩
    · have hgb : growF sz bud pr k fu (b, pr b) = (b, pr b) := by
        cases fu with
        | zero => rfl
        | succ fu => simp only [growF]; rw [if_neg (by omega)]
      rw [← hg, hgb]
      refine C_exit ?_
      refine then_x ?_
      refine then_x ?_
      refine blk_x ?_
      refine then_n ?_
      refine C_seq ?_
      refine C_region ?_
      refine L (S (P_move rfl) ?_)
      refine L (S (P_assign rfl) ?_)
      refine L_nil ?_
      refine then_n ?_
      refine C_ret ?_
      refine F_ret1 Tryd.results13 rfl ?_
      exact ⟨_, l, _, rfl, hs, hr, hmw2⟩
end
end Go.Proofs.YthihhibadpbncaaDoor
