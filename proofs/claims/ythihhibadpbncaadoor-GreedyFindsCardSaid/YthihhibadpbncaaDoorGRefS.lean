import Derived.Test.YthihhibadpbncaaDoorGRep
namespace Go.Proofs.YthihhibadpbncaaDoor
open Go.RowKit

theorem ni_one (l : List Nat) : ∀ v ∈ l.map ni, v.oneCell' = true := by
  intro v hv
  obtain ⟨n, _, rfl⟩ := List.mem_map.1 hv
  rfl
section
variable {n : Nat} {sz : List Int} {bud : Int} {pr : Nat → Int} {A1 A2 : Option Addr} {c1 c2 : Nat}
/-- What the reference's problem holds. -/
structure IsPb (w : World) (n : Nat) (sz : List Int) (bud : Int) (pr : Nat → Int) (A1 A2 : Option Addr) : Prop where
  len : sz.length = n
  le : n ≤ 10
  s : SlR w A1 (sz.map iv)
  r : Inr sz
  b0 : 0 ≤ bud
  b9 : bud < 9223372036854775808
  p : SlR w A2 ((List.range (2 ^ n)).map fun x => iv (pr x))
theorem IsPb.no {w w' : World} (h : IsPb w n sz bud pr A1 A2) (hm : Mv No w w') : IsPb w' n sz bud pr A1 A2 := { h with s := h.s.no hm, p := h.p.no hm }
theorem IsPb.cell {w : World} (h : IsPb w n sz bud pr A1 A2) : ∃ b o, A2 = some ⟨b, o, none⟩ ∧ ∀ w', Mv No w w' → ∀ x, x < 2 ^ n → w'.cell? ⟨b, o + x, none⟩ = some (.int .i64 (pr x)) := by
  obtain ⟨b, o, he, hrow⟩ := h.p.form (i := 0) (by simp; exact Nat.two_pow_pos _)
  refine ⟨b, o, he, fun w' hm x hx => ?_⟩
  exact (hrow.no hm) x _ (by rw [List.getElem?_map, List.getElem?_range hx]; rfl)

set_option maxHeartbeats 1000000 in
theorem refseed_ret : ∀ (many : Nat) (w : World) (At Ab : Option Addr) (ct cb fr : Nat) (lt lb : List Nat) (t b : Nat), IsPb w n sz bud pr A1 A2 → SlR w At (lt.map ni) → SlR w Ab (lb.map ni) → Rep n lt t → Rep n lb b → fr ≤ n → t < 2 ^ fr → many ≤ 10 →
    Ret Tryd.prog 21 [pbV A1 n c1 bud A2 (2 ^ n) c2, .slice At lt.length ct, .int .i64 (fr : Int), .int .i64 (many : Int), .slice Ab lb.length cb] w fun v w' => ∃ A l c, v = .slice A l.length c ∧ SlR w' A (l.map ni) ∧ Rep n l (seedR n (fun s => fitsF sz bud s 0) pr many (n - fr) t b) ∧ Mv No w w'
  | 0, w, At, Ab, ct, cb, fr, lt, lb, t, b, hp, ht, hb, hrt, hrb, hfr, htf, hmany => by
    have hlen := hp.len
    have hle := hp.le
    have hl1 := hrt.len (by omega)
    have hl2 := hrb.len (by omega)
    have hp1 := pop_lt (by omega) hrt.lt
    have hp2 := pop_lt (by omega) hrb.lt
    have hpow : 2 ^ n ≤ 1024 := by
      have := Nat.pow_le_pow_right (n := 2) (by omega) hle
      simpa using this
    have hF := fun w' (hm : Mv No w w') => reffits_ret (w := w') (A1 := A1) (A2 := A2) (A := At) (c1 := c1) (c2 := c2) (n2 := 2 ^ n) (cap := ct) sz bud lt (hp.s.no hm) hp.r (ht.no hm) hp.b0 hp.b9 (by rw [hlen]; exact hrt.bnd) (by omega) (by omega)
    have hS1 := fun w' (hm : Mv No w w') => refset_ret (w := w') (A := At) (cap := ct) lt (ht.no hm) (fun x hx => by have := hrt.bnd x hx; omega) (by omega)
    have hS2 := fun w' (hm : Mv No w w') => refset_ret (w := w') (A := Ab) (cap := cb) lb (hb.no hm) (fun x hx => by have := hrb.bnd x hx; omega) (by omega)
    rw [hrt.set] at hS1
    rw [hrb.set] at hS2
    rw [hrt.fit hlen hp.b0, hlen] at hF
    obtain ⟨pb, po, hA2, hcell⟩ := hp.cell
    subst hA2
    have h1t := hrt.lt
    have h1b := hrb.lt
    refine F_enter Tryd.func21 Tryd.ntmps21 rfl rfl ?_
    refine C_seq ?_
    refine C_region ?_
    refine L (S_box rfl ?_)
    rintro b5 w1 hb5 hm1 hn1
    refine L (S (P_assign rfl) ?_)
    refine L_nil ?_
    refine then_n ?_
    refine C_seq ?_
    refine C_seq ?_
    have h5 : Blk w1 b5 (pb2C A1 n c1 bud (some ⟨pb, po, none⟩) (2 ^ n) c2) 37 := hb5
    refine C_region ?_
    refine L (S (P_move rfl) ?_)
    refine L (S (P_eq rfl rfl (decide_eq_true rfl)) ?_)
    refine L_nil ?_
    refine then_n ?_
    refine C_true rfl ?_
    refine C_seq ?_
    refine C_seq ?_
    by_cases hf : fitsF sz bud t 0 = true
    · rw [hf] at hF
      by_cases hless : pr t < pr b
      · have hR : seedR n (fun s => fitsF sz bud s 0) pr 0 (n - fr) t b = t := by simp only [seedR]; rw [if_pos ⟨hf, hless⟩]
        rw [hR]
        refine C_cutg (γ := Unit) (fun _ => [(1, .slice At lt.length ct), (4, .slice Ab lb.length cb), (32, .bool true)]) (fun _ wc => Mv No w1 wc) ?_ ?_
        · refine C_drawQ 18 mixed rfl (fun hH => ?_)
          refine H_pure (i := 0) rfl (PS_loadS st_37 rfl (fun _ h => (h5.no h).row) rfl) ?_ (by assumption) (by decide +kernel) (by decide +kernel) (by decide +kernel) (fun _ _ _ _ h => h) rfl rfl rfl
          refine H_pure (i := 1) rfl (PureV.toS (P_move rfl)) ?_ (by assumption) (by decide +kernel) (by decide +kernel) (by decide +kernel) (fun _ _ _ _ h => h) rfl rfl rfl
          refine H_one (i := 2) (H_op rfl (S_call cb_23 rfl (hF _ (hm1.no hH)) ?_)) (by decide +kernel)
          rintro _ w3 ⟨rfl, hm3⟩
          refine and_keep (by first | assumption | exact Mv.no (by assumption) (by assumption)) (fun hH => ?_)
          refine H_pure (i := 3) rfl (PureV.toS (P_move rfl)) ?_ (by assumption) (by decide +kernel) (by decide +kernel) (by decide +kernel) (fun _ _ _ _ h => h) rfl rfl rfl
          refine H_pureY (i := 4) (j := 3) (dj := 18) (b := true) rfl (PureV.toS (P_fieldAddr fo_37_2 rfl)) rfl ?_ (by assumption) (by decide +kernel) (by decide +kernel) (by decide +kernel) (fun _ _ _ _ h => h) rfl rfl rfl rfl
          refine H_pureY (i := 5) (j := 3) (dj := 18) (b := true) rfl (PS_load sc_22 rfl (fun _ h => (h5.no h).cell (i := 2) rfl)) rfl ?_ (by assumption) (by decide +kernel) (by decide +kernel) (by decide +kernel) (fun _ _ _ _ h => h) rfl rfl rfl rfl
          refine H_pureY (i := 6) (j := 3) (dj := 18) (b := true) rfl (PureV.toS (P_move rfl)) rfl ?_ (by assumption) (by decide +kernel) (by decide +kernel) (by decide +kernel) (fun _ _ _ _ h => h) rfl rfl rfl rfl
          refine H_pureY (i := 10) (j := 3) (dj := 18) (b := true) rfl (PureV.toS (P_fieldAddr fo_37_2 rfl)) rfl ?_ (by assumption) (by decide +kernel) (by decide +kernel) (by decide +kernel) (fun _ _ _ _ h => h) rfl rfl rfl rfl
          refine H_pureY (i := 11) (j := 3) (dj := 18) (b := true) rfl (PS_load sc_22 rfl (fun _ h => (h5.no h).cell (i := 2) rfl)) rfl ?_ (by assumption) (by decide +kernel) (by decide +kernel) (by decide +kernel) (fun _ _ _ _ h => h) rfl rfl rfl rfl
          refine H_pureY (i := 12) (j := 3) (dj := 18) (b := true) rfl (PureV.toS (P_move rfl)) rfl ?_ (by assumption) (by decide +kernel) (by decide +kernel) (by decide +kernel) (fun _ _ _ _ h => h) rfl rfl rfl rfl
          refine H_one (i := 7) (H_yes (j := 3) (dj := 18) (b := true) rfl rfl (S_call cb_12 rfl (hS1 _ (hm1.no hH)) ?_)) (by decide +kernel)
          rintro _ w4 ⟨rfl, rfl⟩
          refine and_keep (by first | assumption | exact Mv.no (by assumption) (by assumption)) (fun hH => ?_)
          refine H_pureY (i := 8) (j := 3) (dj := 18) (b := true) rfl (PureV.toS (P_indexAddr Tryd.underlying22 (csz_of ti_2) rfl rfl (j := t) rfl h1t (p := po + t) (by omega))) rfl ?_ (by assumption) (by decide +kernel) (by decide +kernel) (by decide +kernel) (fun _ _ _ _ h => h) rfl rfl rfl rfl
          refine H_pureY (i := 9) (j := 3) (dj := 18) (b := true) rfl (PS_load sc_2 rfl (fun _ h => hcell _ (hm1.no h) t h1t)) rfl ?_ (by assumption) (by decide +kernel) (by decide +kernel) (by decide +kernel) (fun _ _ _ _ h => h) rfl rfl rfl rfl
          refine H_one (i := 13) (H_yes (j := 3) (dj := 18) (b := true) rfl rfl (S_call cb_12 rfl (hS2 _ (hm1.no hH)) ?_)) (by decide +kernel)
          rintro _ w5 ⟨rfl, rfl⟩
          refine and_keep (by first | assumption | exact Mv.no (by assumption) (by assumption)) (fun hH => ?_)
          refine H_pureY (i := 14) (j := 3) (dj := 18) (b := true) rfl (PureV.toS (P_indexAddr Tryd.underlying22 (csz_of ti_2) rfl rfl (j := b) rfl h1b (p := po + b) (by omega))) rfl ?_ (by assumption) (by decide +kernel) (by decide +kernel) (by decide +kernel) (fun _ _ _ _ h => h) rfl rfl rfl rfl
          refine H_pureY (i := 15) (j := 3) (dj := 18) (b := true) rfl (PS_load sc_2 rfl (fun _ h => hcell _ (hm1.no h) b h1b)) rfl ?_ (by assumption) (by decide +kernel) (by decide +kernel) (by decide +kernel) (fun _ _ _ _ h => h) rfl rfl rfl rfl
          refine H_pureY (i := 16) (j := 3) (dj := 18) (b := true) rfl (PureV.toS (P_lt rfl rfl (decide_eq_true hless))) rfl ?_ (by assumption) (by decide +kernel) (by decide +kernel) (by decide +kernel) (fun _ _ _ _ h => h) rfl rfl rfl rfl
          refine H_pure (i := 17) rfl (PureV.toS (P_pickT rfl rfl)) ?_ (by assumption) (by decide +kernel) (by decide +kernel) (by decide +kernel) (fun _ _ _ _ h => h) rfl rfl rfl
          refine H_done (by decide +kernel) ?_
          refine then_n ?_
          exact ⟨rfl, (), .cons rfl (.cons rfl (.cons rfl (.nil _))), hH⟩
        rintro _ wc hmc f' hf'
        refine C_forget hf' ?_
        refine C_true rfl ?_
        refine C_seq ?_
        refine C_region ?_
        refine L (S (P_move rfl) ?_)
        refine L (S (P_assign rfl) ?_)
        refine L_nil ?_
        refine then_n ?_
        refine C_ret ?_
        refine then_r ?_
        refine then_r ?_
        refine F_ret1 Tryd.results21 rfl ?_
        exact ⟨_, lt, _, rfl, ht.no (hm1.no hmc), hrt, hm1.no hmc⟩
      · have hR : seedR n (fun s => fitsF sz bud s 0) pr 0 (n - fr) t b = b := by simp only [seedR]; rw [if_neg (fun h => hless h.2)]
        rw [hR]
        refine C_cutg (γ := Unit) (fun _ => [(1, .slice At lt.length ct), (4, .slice Ab lb.length cb), (32, .bool false)]) (fun _ wc => Mv No w1 wc) ?_ ?_
        · refine C_drawQ 18 mixed rfl (fun hH => ?_)
          refine H_pure (i := 0) rfl (PS_loadS st_37 rfl (fun _ h => (h5.no h).row) rfl) ?_ (by assumption) (by decide +kernel) (by decide +kernel) (by decide +kernel) (fun _ _ _ _ h => h) rfl rfl rfl
          refine H_pure (i := 1) rfl (PureV.toS (P_move rfl)) ?_ (by assumption) (by decide +kernel) (by decide +kernel) (by decide +kernel) (fun _ _ _ _ h => h) rfl rfl rfl
          refine H_one (i := 2) (H_op rfl (S_call cb_23 rfl (hF _ (hm1.no hH)) ?_)) (by decide +kernel)
          rintro _ w3 ⟨rfl, hm3⟩
          refine and_keep (by first | assumption | exact Mv.no (by assumption) (by assumption)) (fun hH => ?_)
          refine H_pure (i := 3) rfl (PureV.toS (P_move rfl)) ?_ (by assumption) (by decide +kernel) (by decide +kernel) (by decide +kernel) (fun _ _ _ _ h => h) rfl rfl rfl
          refine H_pureY (i := 4) (j := 3) (dj := 18) (b := true) rfl (PureV.toS (P_fieldAddr fo_37_2 rfl)) rfl ?_ (by assumption) (by decide +kernel) (by decide +kernel) (by decide +kernel) (fun _ _ _ _ h => h) rfl rfl rfl rfl
          refine H_pureY (i := 5) (j := 3) (dj := 18) (b := true) rfl (PS_load sc_22 rfl (fun _ h => (h5.no h).cell (i := 2) rfl)) rfl ?_ (by assumption) (by decide +kernel) (by decide +kernel) (by decide +kernel) (fun _ _ _ _ h => h) rfl rfl rfl rfl
          refine H_pureY (i := 6) (j := 3) (dj := 18) (b := true) rfl (PureV.toS (P_move rfl)) rfl ?_ (by assumption) (by decide +kernel) (by decide +kernel) (by decide +kernel) (fun _ _ _ _ h => h) rfl rfl rfl rfl
          refine H_pureY (i := 10) (j := 3) (dj := 18) (b := true) rfl (PureV.toS (P_fieldAddr fo_37_2 rfl)) rfl ?_ (by assumption) (by decide +kernel) (by decide +kernel) (by decide +kernel) (fun _ _ _ _ h => h) rfl rfl rfl rfl
          refine H_pureY (i := 11) (j := 3) (dj := 18) (b := true) rfl (PS_load sc_22 rfl (fun _ h => (h5.no h).cell (i := 2) rfl)) rfl ?_ (by assumption) (by decide +kernel) (by decide +kernel) (by decide +kernel) (fun _ _ _ _ h => h) rfl rfl rfl rfl
          refine H_pureY (i := 12) (j := 3) (dj := 18) (b := true) rfl (PureV.toS (P_move rfl)) rfl ?_ (by assumption) (by decide +kernel) (by decide +kernel) (by decide +kernel) (fun _ _ _ _ h => h) rfl rfl rfl rfl
          refine H_one (i := 7) (H_yes (j := 3) (dj := 18) (b := true) rfl rfl (S_call cb_12 rfl (hS1 _ (hm1.no hH)) ?_)) (by decide +kernel)
          rintro _ w4 ⟨rfl, rfl⟩
          refine and_keep (by first | assumption | exact Mv.no (by assumption) (by assumption)) (fun hH => ?_)
          refine H_pureY (i := 8) (j := 3) (dj := 18) (b := true) rfl (PureV.toS (P_indexAddr Tryd.underlying22 (csz_of ti_2) rfl rfl (j := t) rfl h1t (p := po + t) (by omega))) rfl ?_ (by assumption) (by decide +kernel) (by decide +kernel) (by decide +kernel) (fun _ _ _ _ h => h) rfl rfl rfl rfl
          refine H_pureY (i := 9) (j := 3) (dj := 18) (b := true) rfl (PS_load sc_2 rfl (fun _ h => hcell _ (hm1.no h) t h1t)) rfl ?_ (by assumption) (by decide +kernel) (by decide +kernel) (by decide +kernel) (fun _ _ _ _ h => h) rfl rfl rfl rfl
          refine H_one (i := 13) (H_yes (j := 3) (dj := 18) (b := true) rfl rfl (S_call cb_12 rfl (hS2 _ (hm1.no hH)) ?_)) (by decide +kernel)
          rintro _ w5 ⟨rfl, rfl⟩
          refine and_keep (by first | assumption | exact Mv.no (by assumption) (by assumption)) (fun hH => ?_)
          refine H_pureY (i := 14) (j := 3) (dj := 18) (b := true) rfl (PureV.toS (P_indexAddr Tryd.underlying22 (csz_of ti_2) rfl rfl (j := b) rfl h1b (p := po + b) (by omega))) rfl ?_ (by assumption) (by decide +kernel) (by decide +kernel) (by decide +kernel) (fun _ _ _ _ h => h) rfl rfl rfl rfl
          refine H_pureY (i := 15) (j := 3) (dj := 18) (b := true) rfl (PS_load sc_2 rfl (fun _ h => hcell _ (hm1.no h) b h1b)) rfl ?_ (by assumption) (by decide +kernel) (by decide +kernel) (by decide +kernel) (fun _ _ _ _ h => h) rfl rfl rfl rfl
          refine H_pureY (i := 16) (j := 3) (dj := 18) (b := true) rfl (PureV.toS (P_lt rfl rfl (decide_eq_false hless))) rfl ?_ (by assumption) (by decide +kernel) (by decide +kernel) (by decide +kernel) (fun _ _ _ _ h => h) rfl rfl rfl rfl
          refine H_pure (i := 17) rfl (PureV.toS (P_pickT rfl rfl)) ?_ (by assumption) (by decide +kernel) (by decide +kernel) (by decide +kernel) (fun _ _ _ _ h => h) rfl rfl rfl
          refine H_done (by decide +kernel) ?_
          refine then_n ?_
          exact ⟨rfl, (), .cons rfl (.cons rfl (.cons rfl (.nil _))), hH⟩
        rintro _ wc hmc f' hf'
        refine C_forget hf' ?_
        refine C_false rfl ?_
        refine C_skip ?_
        refine then_n ?_
        refine C_seq ?_
        refine C_region ?_
        refine L (S (P_move rfl) ?_)
        refine L (S (P_assign rfl) ?_)
        refine L_nil ?_
        refine then_n ?_
        refine C_ret ?_
        refine then_r ?_
        refine F_ret1 Tryd.results21 rfl ?_
        exact ⟨_, lb, _, rfl, hb.no (hm1.no hmc), hrb, hm1.no hmc⟩
    · have hf2 : fitsF sz bud t 0 = false := by simpa using hf
      rw [hf2] at hF
      have hR : seedR n (fun s => fitsF sz bud s 0) pr 0 (n - fr) t b = b := by simp only [seedR]; rw [if_neg (fun h => hf h.1)]
      rw [hR]
      refine C_cutg (γ := Unit) (fun _ => [(1, .slice At lt.length ct), (4, .slice Ab lb.length cb), (32, .bool false)]) (fun _ wc => Mv No w1 wc) ?_ ?_
      · refine C_drawQ 18 mixed rfl (fun hH => ?_)
        refine H_pure (i := 0) rfl (PS_loadS st_37 rfl (fun _ h => (h5.no h).row) rfl) ?_ (by assumption) (by decide +kernel) (by decide +kernel) (by decide +kernel) (fun _ _ _ _ h => h) rfl rfl rfl
        refine H_pure (i := 1) rfl (PureV.toS (P_move rfl)) ?_ (by assumption) (by decide +kernel) (by decide +kernel) (by decide +kernel) (fun _ _ _ _ h => h) rfl rfl rfl
        refine H_one (i := 2) (H_op rfl (S_call cb_23 rfl (hF _ (hm1.no hH)) ?_)) (by decide +kernel)
        rintro _ w3 ⟨rfl, hm3⟩
        refine and_keep (by first | assumption | exact Mv.no (by assumption) (by assumption)) (fun hH => ?_)
        refine H_pure (i := 3) rfl (PureV.toS (P_move rfl)) ?_ (by assumption) (by decide +kernel) (by decide +kernel) (by decide +kernel) (fun _ _ _ _ h => h) rfl rfl rfl
        refine H_pureN (i := 4) (j := 3) (dj := 18) (b := true) (b' := false) rfl rfl ?_ (by assumption) (by decide +kernel) (by decide +kernel) (by decide +kernel) (fun _ _ _ _ h => h) rfl rfl rfl rfl rfl
        refine H_pureN (i := 5) (j := 3) (dj := 18) (b := true) (b' := false) rfl rfl ?_ (by assumption) (by decide +kernel) (by decide +kernel) (by decide +kernel) (fun _ _ _ _ h => h) rfl rfl rfl rfl rfl
        refine H_pureN (i := 6) (j := 3) (dj := 18) (b := true) (b' := false) rfl rfl ?_ (by assumption) (by decide +kernel) (by decide +kernel) (by decide +kernel) (fun _ _ _ _ h => h) rfl rfl rfl rfl rfl
        refine H_pureN (i := 7) (j := 3) (dj := 18) (b := true) (b' := false) rfl rfl ?_ (by assumption) (by decide +kernel) (by decide +kernel) (by decide +kernel) (fun _ _ _ _ h => h) rfl rfl rfl rfl rfl
        refine H_pureN (i := 8) (j := 3) (dj := 18) (b := true) (b' := false) rfl rfl ?_ (by assumption) (by decide +kernel) (by decide +kernel) (by decide +kernel) (fun _ _ _ _ h => h) rfl rfl rfl rfl rfl
        refine H_pureN (i := 9) (j := 3) (dj := 18) (b := true) (b' := false) rfl rfl ?_ (by assumption) (by decide +kernel) (by decide +kernel) (by decide +kernel) (fun _ _ _ _ h => h) rfl rfl rfl rfl rfl
        refine H_pureN (i := 10) (j := 3) (dj := 18) (b := true) (b' := false) rfl rfl ?_ (by assumption) (by decide +kernel) (by decide +kernel) (by decide +kernel) (fun _ _ _ _ h => h) rfl rfl rfl rfl rfl
        refine H_pureN (i := 11) (j := 3) (dj := 18) (b := true) (b' := false) rfl rfl ?_ (by assumption) (by decide +kernel) (by decide +kernel) (by decide +kernel) (fun _ _ _ _ h => h) rfl rfl rfl rfl rfl
        refine H_pureN (i := 12) (j := 3) (dj := 18) (b := true) (b' := false) rfl rfl ?_ (by assumption) (by decide +kernel) (by decide +kernel) (by decide +kernel) (fun _ _ _ _ h => h) rfl rfl rfl rfl rfl
        refine H_pureN (i := 13) (j := 3) (dj := 18) (b := true) (b' := false) rfl rfl ?_ (by assumption) (by decide +kernel) (by decide +kernel) (by decide +kernel) (fun _ _ _ _ h => h) rfl rfl rfl rfl rfl
        refine H_pureN (i := 14) (j := 3) (dj := 18) (b := true) (b' := false) rfl rfl ?_ (by assumption) (by decide +kernel) (by decide +kernel) (by decide +kernel) (fun _ _ _ _ h => h) rfl rfl rfl rfl rfl
        refine H_pureN (i := 15) (j := 3) (dj := 18) (b := true) (b' := false) rfl rfl ?_ (by assumption) (by decide +kernel) (by decide +kernel) (by decide +kernel) (fun _ _ _ _ h => h) rfl rfl rfl rfl rfl
        refine H_pureN (i := 16) (j := 3) (dj := 18) (b := true) (b' := false) rfl rfl ?_ (by assumption) (by decide +kernel) (by decide +kernel) (by decide +kernel) (fun _ _ _ _ h => h) rfl rfl rfl rfl rfl
        refine H_pure (i := 17) rfl (PureV.toS (P_pickF rfl rfl)) ?_ (by assumption) (by decide +kernel) (by decide +kernel) (by decide +kernel) (fun _ _ _ _ h => h) rfl rfl rfl
        refine H_done (by decide +kernel) ?_
        refine then_n ?_
        exact ⟨rfl, (), .cons rfl (.cons rfl (.cons rfl (.nil _))), hH⟩
      rintro _ wc hmc f' hf'
      refine C_forget hf' ?_
      refine C_false rfl ?_
      refine C_skip ?_
      refine then_n ?_
      refine C_seq ?_
      refine C_region ?_
      refine L (S (P_move rfl) ?_)
      refine L (S (P_assign rfl) ?_)
      refine L_nil ?_
      refine then_n ?_
      refine C_ret ?_
      refine then_r ?_
      refine F_ret1 Tryd.results21 rfl ?_
      exact ⟨_, lb, _, rfl, hb.no (hm1.no hmc), hrb, hm1.no hmc⟩
  | many + 1, w, At, Ab, ct, cb, fr, lt, lb, t, b, hp, ht, hb, hrt, hrb, hfr, htf, hmany => by
    have hlen := hp.len
    have hle := hp.le
    have hl1 := hrt.len (by omega)
    have hp1 := pop_lt (by omega) hrt.lt
    refine F_enter Tryd.func21 Tryd.ntmps21 rfl rfl ?_
    refine C_seq ?_
    refine C_region ?_
    refine L (S_box rfl ?_)
    rintro b5 w1 hb5 hm1 hn1
    refine L (S (P_assign rfl) ?_)
    refine L_nil ?_
    refine then_n ?_
    refine C_seq ?_
    refine C_seq ?_
    have h5 : Blk w1 b5 (pb2C A1 n c1 bud A2 (2 ^ n) c2) 37 := hb5
    refine C_region ?_
    refine L (S (P_move rfl) ?_)
    refine L (S (P_eq rfl rfl (decide_eq_false (by omega))) ?_)
    refine L_nil ?_
    refine then_n ?_
    refine C_false rfl ?_
    refine C_skip ?_
    refine then_n ?_
    refine C_seq ?_
    refine C_seq ?_
    refine C_region ?_
    refine L (S (P_move rfl) ?_)
    refine L (S (P_assign rfl) ?_)
    refine L_nil ?_
    refine then_n ?_
    refine C_block ?_
    refine C_loop (γ := Nat × List Nat × Option Addr × Nat × Nat) (fun q => [(1, .slice At lt.length ct), (3, .int .i64 ((many + 1 : Nat) : Int)), (4, .slice q.2.2.1 q.2.1.length q.2.2.2.1), (5, .pointer (some ⟨b5, 0, none⟩)), (11, .int .i64 (q.1 : Int))]) (fun q wr => q.1 ≤ n ∧ fr ≤ q.1 ∧ SlR wr q.2.2.1 (q.2.1.map ni) ∧ Rep n q.2.1 q.2.2.2.2 ∧ seedR n (fun s => fitsF sz bud s 0) pr (many + 1) (n - q.1) t q.2.2.2.2 = seedR n (fun s => fitsF sz bud s 0) pr (many + 1) (n - fr) t b ∧ Mv No w1 wr) (fun q => n - q.1) (fr, lb, Ab, cb, b) (.cons rfl (.cons rfl (.cons rfl (.cons rfl (.cons rfl (.nil _)))))) ⟨hfr, Nat.le_refl _, hb.no hm1, hrb, rfl, Mv.refl _⟩ ?_
    rintro ⟨i, lx, Ax, cx, bx⟩ wr ⟨hi, hfi, hsx, hrx, hinv, hmr⟩
    dsimp only at hi hfi hsx hrx hinv hmr
    have h5r := h5.no hmr
    have hmw : Mv No w wr := hm1.no hmr
    dsimp only
    refine C_seq ?_
    refine C_seq ?_
    refine C_region ?_
    refine L (S (P_move rfl) ?_)
    refine L (S (P_fieldAddr fo_37_0 rfl) ?_)
    refine L (S_load sc_22 rfl (h5r.cell (i := 0) rfl) ?_)
    refine L (S (P_lenS Tryd.underlying22 rfl) ?_)
    refine L (S (P_lt rfl rfl rfl) ?_)
    refine L_nil ?_
    refine then_n ?_
    refine C_ifp rfl rfl (fun hlt => ?_) (fun hge => ?_)
    · have hin : i < n := by omega
      have htb : t.testBit i = false := Nat.testBit_lt_two_pow (Nat.lt_of_lt_of_le htf (Nat.pow_le_pow_right (by omega) hfi))
      have hrt' := hrt.snoc hin htb
      have ht' : t ||| 2 ^ i < 2 ^ (i + 1) := or_bit_lt (Nat.lt_of_lt_of_le htf (Nat.pow_le_pow_right (by omega) (by omega))) (by omega)
      have hstep : seedR n (fun s => fitsF sz bud s 0) pr (many + 1) (n - i) t bx = seedR n (fun s => fitsF sz bud s 0) pr (many + 1) (n - (i + 1)) t (seedR n (fun s => fitsF sz bud s 0) pr many (n - (i + 1)) (t ||| 2 ^ i) bx) := by
        have e : n - i = (n - (i + 1)) + 1 := by omega
        rw [e, seedR, show n - (n - (i + 1) + 1) = i by omega]
      rw [hstep] at hinv
      have hrec : ∀ (w' : World) (v5 : Value) (base len : Nat) (xs : List Value), Mv No wr w' → w'.ownsRow base 3 1 v5 len xs → len = (lt ++ [i]).length → xs = (lt ++ [i]).map ni → Ret Tryd.prog 21 [pbV A1 n c1 bud A2 (2 ^ n) c2, v5, .int .i64 ((i + 1 : Nat) : Int), .int .i64 (many : Int), .slice Ax lx.length cx] w' (fun v w'' => ∃ A l c, v = .slice A l.length c ∧ SlR w'' A (l.map ni) ∧ Rep n l (seedR n (fun s => fitsF sz bud s 0) pr many (n - (i + 1)) (t ||| 2 ^ i) bx) ∧ Mv No w' w'') := by
        intro w' v5 base len xs hmm hown e1 e2
        obtain ⟨A5, cap5, rfl, hr5, _⟩ := own_reads hown
        subst e1 e2
        exact refseed_ret many w' A5 Ax cap5 cx (i + 1) (lt ++ [i]) lx (t ||| 2 ^ i) bx (hp.no (hmw.no hmm)) hr5 (hsx.no hmm) hrt' hrx (by omega) ht' (by omega)
      refine C_skip ?_
      refine then_n ?_
      refine C_seq ?_
      refine C_block ?_
      refine C_seq ?_
      refine C_region ?_
      refine L (S_buildSlice0 Tryd.underlying34 ti_3 ?_)
      rintro b6 w2 ho2 hm2 hn2
      refine L (S (P_move rfl) ?_)
      refine L (S_append Tryd.underlying34 ti_3 rfl (by decide) rfl ho2 rfl (ht.no (hmw.no hm2)) (by simp) (ni_one _) hm2.size (by unfold maxLen; omega) (by omega) ?_)
      rintro v3 w3 ho3 hm3 hf3
      refine L (S (P_assign rfl) ?_)
      refine L_nil ?_
      refine then_n ?_
      have hm13 : Mv No wr w3 := Mv.own hm2 hm3 ho2 (Nat.le_refl _)
      have ho3d := own_no ho3 (Mv.refl w3).drew
      have h5d := h5r.no hm13.drew
      refine C_draw 12 mixed rfl ?_
      refine A_pure (i := 1) rfl (P_move rfl) ?_ (by decide +kernel) (by decide +kernel) (by decide +kernel) (fun _ _ _ _ h => h) rfl rfl rfl
      refine A_pure (i := 2) rfl (P_move rfl) ?_ (by decide +kernel) (by decide +kernel) (by decide +kernel) (fun _ _ _ _ h => h) rfl rfl rfl
      refine A_pure (i := 5) rfl (P_move rfl) ?_ (by decide +kernel) (by decide +kernel) (by decide +kernel) (fun _ _ _ _ h => h) rfl rfl rfl
      refine A_pure (i := 6) rfl (P_add rfl rfl (wI64 (c := ((i + 1 : Nat) : Int)) (by omega))) ?_ (by decide +kernel) (by decide +kernel) (by decide +kernel) (fun _ _ _ _ h => h) rfl rfl rfl
      refine A_pure (i := 7) rfl (P_move rfl) ?_ (by decide +kernel) (by decide +kernel) (by decide +kernel) (fun _ _ _ _ h => h) rfl rfl rfl
      refine A_pure (i := 8) rfl (P_sub rfl rfl (wI64 (c := (many : Int)) (by omega))) ?_ (by decide +kernel) (by decide +kernel) (by decide +kernel) (fun _ _ _ _ h => h) rfl rfl rfl
      refine A_pure (i := 9) rfl (P_move rfl) ?_ (by decide +kernel) (by decide +kernel) (by decide +kernel) (fun _ _ _ _ h => h) rfl rfl rfl
      refine A_two (i := 0) (i2 := 3) (A_op rfl (S_loadS st_37 rfl (by first | exact h5d.row | exact (h5d.no hm4).row | exact ((h5d.no hm4).mv hm5 (fun he => by have := (own_lt ho3 he).1; have := h5r.lt; omega)).row) rfl ?_)) (A_op rfl (S_buildSlice1 Tryd.underlying34 ti_3 rfl rfl rfl ?_)) (by decide +kernel)
      · refine A_one (i := 3) (A_op rfl (S_buildSlice1 Tryd.underlying34 ti_3 rfl rfl rfl ?_)) (by decide +kernel)
        rintro b7 w4 hb7 hm4 hn4
        refine A_one (i := 4) (A_op rfl (S_append Tryd.underlying34 ti_3 rfl (by decide) rfl (own_no ho3d hm4) rfl (.inr ⟨b7, 0, rfl, hb7.row⟩) (by simp) (by simp [Value.oneCell']) (hm13.drew.no hm4).size (by unfold maxLen; omega) (by omega) ?_)) (by decide +kernel)
        rintro v5 w5 ho5 hm5 hf5
        refine A_one (i := 10) (A_op rfl (S_call cb_21 rfl (hrec _ _ _ _ _ (Mv.own (hm13.drew.no hm4) hm5 (own_no ho3d hm4) (Nat.le_refl _)) ho5 (by simp) (by simp [ni])) ?_)) (by decide +kernel)
        rintro _ w6 ⟨A6, l6, c6, rfl, hs6, hr6, hm6⟩
        refine A_pure (i := 11) rfl (P_assign rfl) ?_ (by decide +kernel) (by decide +kernel) (by decide +kernel) (fun _ _ _ _ h => h) rfl rfl rfl
        refine A_done (by decide +kernel) ?_
        refine blk_n ?_
        refine then_n ?_
        refine C_region ?_
        refine L (S (P_move rfl) ?_)
        refine L (S (P_add rfl rfl (wI64 (c := ((i + 1 : Nat) : Int)) (by omega))) ?_)
        refine L (S (P_assign rfl) ?_)
        refine L_nil ?_
        refine then_n ?_
        exact ⟨rfl, (i + 1, l6, A6, c6, _), .cons rfl (.cons rfl (.cons rfl (.cons rfl (.cons rfl (.nil _))))), ⟨hin, by dsimp only; omega, hs6, hr6, hinv, (hmr.no (Mv.own (hm13.drew.no hm4) hm5 (own_no ho3d hm4) (Nat.le_refl _))).no hm6⟩, by dsimp only; omega⟩
      · rintro b7 w4 hb7 hm4 hn4
        refine A_two (i := 0) (i2 := 4) (A_op rfl (S_loadS st_37 rfl (by first | exact h5d.row | exact (h5d.no hm4).row | exact ((h5d.no hm4).mv hm5 (fun he => by have := (own_lt ho3 he).1; have := h5r.lt; omega)).row) rfl ?_)) (A_op rfl (S_append Tryd.underlying34 ti_3 rfl (by decide) rfl (own_no ho3d hm4) rfl (.inr ⟨b7, 0, rfl, hb7.row⟩) (by simp) (by simp [Value.oneCell']) (hm13.drew.no hm4).size (by unfold maxLen; omega) (by omega) ?_)) (by decide +kernel)
        · refine A_one (i := 4) (A_op rfl (S_append Tryd.underlying34 ti_3 rfl (by decide) rfl (own_no ho3d hm4) rfl (.inr ⟨b7, 0, rfl, hb7.row⟩) (by simp) (by simp [Value.oneCell']) (hm13.drew.no hm4).size (by unfold maxLen; omega) (by omega) ?_)) (by decide +kernel)
          rintro v5 w5 ho5 hm5 hf5
          refine A_one (i := 10) (A_op rfl (S_call cb_21 rfl (hrec _ _ _ _ _ (Mv.own (hm13.drew.no hm4) hm5 (own_no ho3d hm4) (Nat.le_refl _)) ho5 (by simp) (by simp [ni])) ?_)) (by decide +kernel)
          rintro _ w6 ⟨A6, l6, c6, rfl, hs6, hr6, hm6⟩
          refine A_pure (i := 11) rfl (P_assign rfl) ?_ (by decide +kernel) (by decide +kernel) (by decide +kernel) (fun _ _ _ _ h => h) rfl rfl rfl
          refine A_done (by decide +kernel) ?_
          refine blk_n ?_
          refine then_n ?_
          refine C_region ?_
          refine L (S (P_move rfl) ?_)
          refine L (S (P_add rfl rfl (wI64 (c := ((i + 1 : Nat) : Int)) (by omega))) ?_)
          refine L (S (P_assign rfl) ?_)
          refine L_nil ?_
          refine then_n ?_
          exact ⟨rfl, (i + 1, l6, A6, c6, _), .cons rfl (.cons rfl (.cons rfl (.cons rfl (.cons rfl (.nil _))))), ⟨hin, by dsimp only; omega, hs6, hr6, hinv, (hmr.no (Mv.own (hm13.drew.no hm4) hm5 (own_no ho3d hm4) (Nat.le_refl _))).no hm6⟩, by dsimp only; omega⟩
        · rintro v5 w5 ho5 hm5 hf5
          refine A_one (i := 0) (A_op rfl (S_loadS st_37 rfl (by first | exact h5d.row | exact (h5d.no hm4).row | exact ((h5d.no hm4).mv hm5 (fun he => by have := (own_lt ho3 he).1; have := h5r.lt; omega)).row) rfl ?_)) (by decide +kernel)
          refine A_one (i := 10) (A_op rfl (S_call cb_21 rfl (hrec _ _ _ _ _ (Mv.own (hm13.drew.no hm4) hm5 (own_no ho3d hm4) (Nat.le_refl _)) ho5 (by simp) (by simp [ni])) ?_)) (by decide +kernel)
          rintro _ w6 ⟨A6, l6, c6, rfl, hs6, hr6, hm6⟩
          refine A_pure (i := 11) rfl (P_assign rfl) ?_ (by decide +kernel) (by decide +kernel) (by decide +kernel) (fun _ _ _ _ h => h) rfl rfl rfl
          refine A_done (by decide +kernel) ?_
          refine blk_n ?_
          refine then_n ?_
          refine C_region ?_
          refine L (S (P_move rfl) ?_)
          refine L (S (P_add rfl rfl (wI64 (c := ((i + 1 : Nat) : Int)) (by omega))) ?_)
          refine L (S (P_assign rfl) ?_)
          refine L_nil ?_
          refine then_n ?_
          exact ⟨rfl, (i + 1, l6, A6, c6, _), .cons rfl (.cons rfl (.cons rfl (.cons rfl (.cons rfl (.nil _))))), ⟨hin, by dsimp only; omega, hs6, hr6, hinv, (hmr.no (Mv.own (hm13.drew.no hm4) hm5 (own_no ho3d hm4) (Nat.le_refl _))).no hm6⟩, by dsimp only; omega⟩
    · have hin : i = n := by omega
      subst hin
      refine C_exit ?_
      refine then_x ?_
      refine then_x ?_
      refine blk_x ?_
      refine then_n ?_
      refine C_seq ?_
      refine C_region ?_
      refine L (S (P_move rfl) ?_)
      refine L (S (P_assign rfl) ?_)
      refine L_nil ?_
      refine then_n ?_
      refine C_ret ?_
      refine F_ret1 Tryd.results21 rfl ?_
      refine ⟨_, lx, _, rfl, hsx, ?_, hmw⟩
      rw [← hinv, Nat.sub_self, seedR]
      exact hrx
end
end Go.Proofs.YthihhibadpbncaaDoor
