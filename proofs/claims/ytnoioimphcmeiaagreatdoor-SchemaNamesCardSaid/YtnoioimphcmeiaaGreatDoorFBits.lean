import Derived.Test.YtnoioimphcmeiaaGreatDoorFSet
namespace Go.Proofs.YtnoioimphcmeiaaGreatDoor
open Go.RowKit
set_option maxRecDepth 20000
set_option maxHeartbeats 1000000

section
variable {P : Program} {n : Nat} {Q : Post} {f : Fr} {ds : List Deferred} {w : World}
theorem C_scopeL {c : Code} (J : Nat → Fr → World → Prop) (hf : ∀ l f w, J l f w → (findLabel c l).isSome = true) (first : wpF P n c (jumpF J ds Q) f ds w) (pass : ∀ l f w, J l f w → wpF P n ((findLabel c l).getD .skip) (scopeF Q) f ds w) : wpF P n (.scope c) Q f ds w :=
  C_scopeG J (fun l => (findLabel c l).getD .skip) (fun l f w h => by
    have := hf l f w h
    cases hc : findLabel c l with
    | none => rw [hc] at this; cases this
    | some r => rfl) first pass
end
def ptN (p : Nat) : Nat := if 9 ≤ p then 27 else powtabL[p]?.getD 0
theorem ptN_small : ∀ p, p < 9 → powtabL[p]? = some (ptN p) ∧ 1 ≤ ptN p ∧ ptN p ≤ 26 ∧ (1 ≤ p → 3 ≤ ptN p) := by decide
theorem ptN_bd (p : Nat) : 1 ≤ ptN p ∧ ptN p ≤ 27 ∧ (1 ≤ p → 3 ≤ ptN p) := by
  by_cases h : 9 ≤ p
  · have : ptN p = 27 := by unfold ptN; rw [if_pos h]
    omega
  · have := ptN_small p (by omega)
    omega
def fb1 : Nat → Dc → Int → Dc × Int
  | 0, D, e => (D, e)
  | f + 1, D, e => if 0 < D.dp then fb1 f (shR (ptN D.dp.toNat) D) (e + ptN D.dp.toNat) else (D, e)
def fb2 : Nat → Dc → Int → Dc × Int
  | 0, D, e => (D, e)
  | f + 1, D, e => if D.dp < 0 ∨ (D.dp = 0 ∧ dg D 0 < 5) then fb2 f (lsF (ptN (-D.dp).toNat) D) (e - ptN (-D.dp).toNat) else (D, e)
def outF (m : Nat) (e : Int) : Nat := (e + 1023).toNat * 4503599627370496 + m % 4503599627370496
def ovf : Nat × Bool := (9218868437227405312, true)
def fb5 (D : Dc) (e : Int) : Nat × Bool :=
  if 2047 ≤ e + 1023 then ovf else
  if riF (lsF 53 D) = 9007199254740992 then (if 2047 ≤ e + 1 + 1023 then ovf else (outF 4503599627370496 (e + 1), false))
  else (outF (riF (lsF 53 D)) (if (riF (lsF 53 D)).testBit 52 = true then e else -1023), false)
def fb4 (D : Dc) (e : Int) : Nat × Bool := if e - 1 < -1022 then fb5 (shR (-1022 - (e - 1)).toNat D) (-1022) else fb5 D (e - 1)
def fbF (D : Dc) : Nat × Bool :=
  if 310 < D.dp then ovf else if D.dp < -330 then (outF 0 (-1023), false) else
  fb4 (fb2 14000 (fb1 700 D 0).1 (fb1 700 D 0).2).1 (fb2 14000 (fb1 700 D 0).1 (fb1 700 D 0).2).2
def mu1 (D : Dc) : Nat := (2 * D.dp + (if 2 ≤ dg D 0 then 1 else 0)).toNat
def mu2 (D : Dc) : Nat := (10 * (-D.dp) + 10 - (dg D 0 : Int)).toNat
theorem Wf.h9 {D : Dc} (h : Wf D) : dg D 0 ≤ 9 := by
  obtain ⟨c, _, _, h9⟩ := h.dig.dg (j := 0) h.n1
  exact h9
theorem mu1_step {D : Dc} (h : Wf D) (hp : 0 < D.dp) : Wf (shR (ptN D.dp.toNat) D) ∧ (shR (ptN D.dp.toNat) D).dp ≤ D.dp ∧ D.dp - 1300 ≤ (shR (ptN D.dp.toNat) D).dp ∧ mu1 (shR (ptN D.dp.toNat) D) < mu1 D := by
  obtain ⟨p1, p2, p3⟩ := ptN_bd D.dp.toNat
  have hk3 := p3 (by omega)
  unfold shR
  obtain ⟨a1, a2, a3, a4⟩ := srF_wf (ptN D.dp.toNat) (ptN D.dp.toNat) D h p1 (by omega)
  refine ⟨a1, a2, by omega, ?_⟩
  unfold mu1
  by_cases heq : (srF (ptN D.dp.toNat) (ptN D.dp.toNat) D).dp = D.dp
  · obtain ⟨b1, b2⟩ := a4 (by omega) heq
    have h8 : 2 ^ 3 ≤ 2 ^ ptN D.dp.toNat := Nat.pow_le_pow_right (by omega) hk3
    have h9 := h.h9
    have hlt : dg D 0 / 2 ^ ptN D.dp.toNat < 2 := by
      rw [Nat.div_lt_iff_lt_mul (Nat.two_pow_pos _)]
      omega
    rw [heq, b1, if_neg (by omega), if_pos (by omega)]
    omega
  · split <;> split <;> omega
theorem mu2_step {D : Dc} (h : Wf D) (hp : D.dp ≤ 0) : Wf (lsF (ptN (-D.dp).toNat) D) ∧ (lsF (ptN (-D.dp).toNat) D).dp ≤ D.dp + 19 ∧ D.dp ≤ (lsF (ptN (-D.dp).toNat) D).dp ∧ mu2 (lsF (ptN (-D.dp).toNat) D) < mu2 D := by
  obtain ⟨p1, p2, p3⟩ := ptN_bd (-D.dp).toNat
  obtain ⟨_, a1, a2, a3, a4⟩ := lsF_wf p1 (by omega) h
  refine ⟨a1, a3, a2, ?_⟩
  have h9 := h.h9
  have h1 := h.hd
  have h9' := a1.h9
  unfold mu2
  by_cases heq : (lsF (ptN (-D.dp).toNat) D).dp = D.dp
  · have := a4 heq
    omega
  · omega
def VB (w : World) (b : Nat) : Prop := ∀ w', Mv (At b) w w' → Vr w'
theorem VB.mv {w w' : World} {b : Nat} (h : VB w b) (hm : Mv (At b) w w') : VB w' b := fun w'' hm' => h w'' (hm.trans hm' fun _ _ h => h)
theorem VB.vr {w : World} {b : Nat} (h : VB w b) : Vr w := h w (Mv.refl w)
theorem and2047 {x : Nat} (h : x < 2048) : bitsOp .and .i64 (x : Int) 2047 = (x : Int) := by
  have : ∀ s : Fin 2048, bitsOp .and .i64 ((s.val : Nat) : Int) 2047 = ((s.val : Nat) : Int) := by decide +kernel
  exact this ⟨x, h⟩
def fJ (w : World) (b : Nat) (D : Dc) : Nat → Fr → World → Prop := fun l f w' =>
  (∃ E, DB w' b E) ∧ Mv (At b) w w' ∧
  ((l = 0 ∧ ∃ (m : Nat) (e : Int), Sub [(0, .pointer (some ⟨b, 0, none⟩)), (1, .pointer (some ⟨5, 0, none⟩)), (5, .bool false), (6, .int .i64 e), (7, .int .u64 (m : Int))] f ∧ m < 18446744073709551616 ∧ -1023 ≤ e ∧ e ≤ 1024 ∧ (outF m e, false) = fbF D) ∨
   (l = 1 ∧ Sub [(0, .pointer (some ⟨b, 0, none⟩)), (1, .pointer (some ⟨5, 0, none⟩))] f ∧ fbF D = ovf))
section
variable {w : World}
set_option maxHeartbeats 4000000 in
theorem floatBits_ret {b : Nat} {D : Dc} (hvb : VB w b) (hD : DB w b D) (h : Wf D) (hdp : -1000000 ≤ D.dp ∧ D.dp ≤ 1000000) : Ret Tryz.prog 165 [.pointer (some ⟨b, 0, none⟩), .pointer (some ⟨5, 0, none⟩)] w fun v w' => v = .tuple #[.int .u64 ((fbF D).1 : Int), .bool (fbF D).2] ∧ Mv (At b) w w' := by
  have hi0 : ∀ w', Mv (At b) w w' → w'.cell? ⟨5, 0, none⟩ = some (.int .u64 52) := fun w' hm => (hvb w' hm).info 0 _ rfl
  have hi1 : ∀ w', Mv (At b) w w' → w'.cell? ⟨5, 1, none⟩ = some (.int .u64 11) := fun w' hm => (hvb w' hm).info 1 _ rfl
  have hi2 : ∀ w', Mv (At b) w w' → w'.cell? ⟨5, 2, none⟩ = some (.int .i64 (-1023)) := fun w' hm => (hvb w' hm).info 2 _ rfl
  refine F_enter Tryz.func165 Tryz.ntmps165 rfl rfl ?_
  refine C_seq ?_
  refine C_region ?_
  refine L (S (P_assign rfl) ?_)
  refine L (S (P_assign rfl) ?_)
  refine L_nil ?_
  refine then_n ?_
  refine C_scopeL (fJ w b D) ?_ ?_ ?_
  · rintro l f w' ⟨_, _, ⟨rfl, _⟩ | ⟨rfl, _⟩⟩ <;> rfl
  · have hdp0 : ∀ w', w' = w → w'.cell? ⟨b, 801, none⟩ = some (.int .i64 D.dp) := fun w' h => by rw [h]; exact hD.c_dp
    have hn1 := h.n1
    by_cases hA : 310 < D.dp
    · have hres : fbF D = ovf := by unfold fbF; rw [if_pos hA]
      refine C_seq ?_
      refine C_region ?_
      refine L (S (P_assign rfl) ?_)
      refine L_nil ?_
      refine then_n ?_
      refine C_seq ?_
      refine C_region ?_
      refine L (S (P_assign rfl) ?_)
      refine L_nil ?_
      refine then_n ?_
      refine C_seq ?_
      refine C_seq ?_
      refine C_region ?_
      refine L (S (P_move rfl) ?_)
      refine L (S (P_nilCheck rfl) ?_)
      refine L (S (P_fieldAddr fo_217_1 rfl) ?_)
      refine L (S_load sc_3 rfl hD.c_nd ?_)
      refine L (S (P_eq rfl rfl (decide_eq_false (by omega))) ?_)
      refine L_nil ?_
      refine then_n ?_
      refine C_false rfl ?_
      refine C_skip ?_
      refine then_n ?_
      refine C_seq ?_
      refine C_seq ?_
      refine C_region ?_
      refine L (S (P_move rfl) ?_)
      refine L (S (P_nilCheck rfl) ?_)
      refine L (S (P_fieldAddr fo_217_2 rfl) ?_)
      refine L (S_load sc_3 rfl hD.c_dp ?_)
      refine L (S (P_gt rfl rfl (decide_eq_true (by omega))) ?_)
      refine L_nil ?_
      refine then_n ?_
      refine C_true rfl ?_
      refine C_goto ?_
      refine then_g ?_
      refine jump_g ?_
      exact ⟨⟨D, hD⟩, Mv.refl w, .inr ⟨rfl, (.cons rfl (.cons rfl (.nil _))), hres⟩⟩
    by_cases hB : D.dp < -330
    · have hres : fbF D = (outF 0 (-1023), false) := by unfold fbF; rw [if_neg hA, if_pos hB]
      refine C_seq ?_
      refine C_region ?_
      refine L (S (P_assign rfl) ?_)
      refine L_nil ?_
      refine then_n ?_
      refine C_seq ?_
      refine C_region ?_
      refine L (S (P_assign rfl) ?_)
      refine L_nil ?_
      refine then_n ?_
      refine C_seq ?_
      refine C_seq ?_
      refine C_region ?_
      refine L (S (P_move rfl) ?_)
      refine L (S (P_nilCheck rfl) ?_)
      refine L (S (P_fieldAddr fo_217_1 rfl) ?_)
      refine L (S_load sc_3 rfl hD.c_nd ?_)
      refine L (S (P_eq rfl rfl (decide_eq_false (by omega))) ?_)
      refine L_nil ?_
      refine then_n ?_
      refine C_false rfl ?_
      refine C_skip ?_
      refine then_n ?_
      refine C_seq ?_
      refine C_seq ?_
      refine C_region ?_
      refine L (S (P_move rfl) ?_)
      refine L (S (P_nilCheck rfl) ?_)
      refine L (S (P_fieldAddr fo_217_2 rfl) ?_)
      refine L (S_load sc_3 rfl hD.c_dp ?_)
      refine L (S (P_gt rfl rfl (decide_eq_false (by omega))) ?_)
      refine L_nil ?_
      refine then_n ?_
      refine C_false rfl ?_
      refine C_skip ?_
      refine then_n ?_
      refine C_seq ?_
      refine C_seq ?_
      refine C_region ?_
      refine L (S (P_move rfl) ?_)
      refine L (S (P_nilCheck rfl) ?_)
      refine L (S (P_fieldAddr fo_217_2 rfl) ?_)
      refine L (S_load sc_3 rfl hD.c_dp ?_)
      refine L (S (P_lt rfl rfl (decide_eq_true (by omega))) ?_)
      refine L_nil ?_
      refine then_n ?_
      refine C_true rfl ?_
      refine C_seq ?_
      refine C_region ?_
      refine L (S (P_assign rfl) ?_)
      refine L_nil ?_
      refine then_n ?_
      refine C_seq ?_
      refine C_region ?_
      refine L (S (P_move rfl) ?_)
      refine L (S (P_nilCheck rfl) ?_)
      refine L (S (P_fieldAddr fo_208_2 rfl) ?_)
      refine L (S_load sc_3 rfl (hi2 _ (Mv.refl w)) ?_)
      refine L (S (P_assign rfl) ?_)
      refine L_nil ?_
      refine then_n ?_
      refine C_goto ?_
      refine then_g ?_
      refine jump_g ?_
      exact ⟨⟨D, hD⟩, Mv.refl w, .inl ⟨rfl, 0, -1023, (.cons rfl (.cons rfl (.cons rfl (.cons rfl (.cons rfl (.nil _)))))), by omega, by omega, by omega, hres.symm⟩⟩
    have hfb : fbF D = fb4 (fb2 14000 (fb1 700 D 0).1 (fb1 700 D 0).2).1 (fb2 14000 (fb1 700 D 0).1 (fb1 700 D 0).2).2 := by unfold fbF; rw [if_neg hA, if_neg hB]
    refine C_seq ?_
    refine C_region ?_
    refine L (S (P_assign rfl) ?_)
    refine L_nil ?_
    refine then_n ?_
    refine C_seq ?_
    refine C_region ?_
    refine L (S (P_assign rfl) ?_)
    refine L_nil ?_
    refine then_n ?_
    refine C_seq ?_
    refine C_seq ?_
    refine C_region ?_
    refine L (S (P_move rfl) ?_)
    refine L (S (P_nilCheck rfl) ?_)
    refine L (S (P_fieldAddr fo_217_1 rfl) ?_)
    refine L (S_load sc_3 rfl hD.c_nd ?_)
    refine L (S (P_eq rfl rfl (decide_eq_false (by omega))) ?_)
    refine L_nil ?_
    refine then_n ?_
    refine C_false rfl ?_
    refine C_skip ?_
    refine then_n ?_
    refine C_seq ?_
    refine C_seq ?_
    refine C_region ?_
    refine L (S (P_move rfl) ?_)
    refine L (S (P_nilCheck rfl) ?_)
    refine L (S (P_fieldAddr fo_217_2 rfl) ?_)
    refine L (S_load sc_3 rfl hD.c_dp ?_)
    refine L (S (P_gt rfl rfl (decide_eq_false (by omega))) ?_)
    refine L_nil ?_
    refine then_n ?_
    refine C_false rfl ?_
    refine C_skip ?_
    refine then_n ?_
    refine C_seq ?_
    refine C_seq ?_
    refine C_region ?_
    refine L (S (P_move rfl) ?_)
    refine L (S (P_nilCheck rfl) ?_)
    refine L (S (P_fieldAddr fo_217_2 rfl) ?_)
    refine L (S_load sc_3 rfl hD.c_dp ?_)
    refine L (S (P_lt rfl rfl (decide_eq_false (by omega))) ?_)
    refine L_nil ?_
    refine then_n ?_
    refine C_false rfl ?_
    refine C_skip ?_
    refine then_n ?_
    refine C_seq ?_
    refine C_region ?_
    refine L (S (P_assign rfl) ?_)
    refine L_nil ?_
    refine then_n ?_
    refine C_seq ?_
    refine C_block ?_
    refine C_loop (γ := Nat × Dc × Int) (fun q => [(0, .pointer (some ⟨b, 0, none⟩)), (1, .pointer (some ⟨5, 0, none⟩)), (5, .bool false), (6, .int .i64 q.2.2)]) (fun q wr => DB wr b q.2.1 ∧ Mv (At b) w wr ∧ Wf q.2.1 ∧ mu1 q.2.1 ≤ q.1 ∧ q.2.1.dp ≤ 310 ∧ -1300 ≤ q.2.1.dp ∧ 0 ≤ q.2.2 ∧ q.2.2 ≤ 27 * (700 - (q.1 : Int)) ∧ q.1 ≤ 700 ∧ fb1 q.1 q.2.1 q.2.2 = fb1 700 D 0) (fun q => q.1) (700, D, 0) (.cons rfl (.cons rfl (.cons rfl (.cons rfl (.nil _))))) ⟨hD, Mv.refl w, h, by unfold mu1; dsimp only; split <;> omega, by dsimp only; omega, by dsimp only; omega, by dsimp only; omega, by dsimp only; omega, by dsimp only; omega, rfl⟩ ?_
    rintro ⟨f, E, e⟩ wr ⟨hE, hmr, hwf, hmu, hd1, hd2, he1, he2, hf, hfb1⟩
    dsimp only at hE hwf hmu hd1 hd2 he1 he2 hf hfb1
    dsimp only
    obtain ⟨bp, op, cp, hp1, hp2⟩ := (hvb wr hmr).ptb
    have hpt : ∀ w', Mv No wr w' → w'.cell? ⟨7, 0, none⟩ = some (.slice (some ⟨bp, op, none⟩) 9 cp) := fun w' h => cell_no hp1 h
    have hcd : ∀ w', Mv No wr w' → w'.cell? ⟨b, 801, none⟩ = some (.int .i64 E.dp) := fun w' h => (hE.no h).c_dp
    by_cases hpos : 0 < E.dp
    · obtain ⟨g, rfl⟩ : ∃ g, f = g + 1 := ⟨f - 1, by unfold mu1 at hmu; split at hmu <;> omega⟩
      obtain ⟨s1, s2, s3, s4⟩ := mu1_step hwf hpos
      obtain ⟨p1, p2, p3⟩ := ptN_bd E.dp.toNat
      have hst : fb1 g (shR (ptN E.dp.toNat) E) (e + ptN E.dp.toNat) = fb1 700 D 0 := by
        rw [← hfb1]
        show _ = if _ then _ else _
        rw [if_pos hpos]
      have hsm := ptN_small E.dp.toNat
      have hpn : 9 ≤ E.dp.toNat → ptN E.dp.toNat = 27 := fun h => by unfold ptN; rw [if_pos h]
      generalize hk : ptN E.dp.toNat = k at *
      by_cases h9 : 9 ≤ E.dp
      · obtain rfl : k = 27 := hpn (by omega)
        refine C_seq ?_
        refine C_seq ?_
        refine C_region ?_
        refine L (S (P_move rfl) ?_)
        refine L (S (P_nilCheck rfl) ?_)
        refine L (S (P_fieldAddr fo_217_2 rfl) ?_)
        refine L (S_load sc_3 rfl hE.c_dp ?_)
        refine L (S (P_gt rfl rfl (decide_eq_true (by omega))) ?_)
        refine L_nil ?_
        refine then_n ?_
        refine C_true rfl ?_
        refine C_skip ?_
        refine then_n ?_
        refine C_block ?_
        refine C_seq ?_
        refine C_region ?_
        refine L (S (P_assign rfl) ?_)
        refine L_nil ?_
        refine then_n ?_
        refine C_seq ?_
        refine C_seq ?_
        refine C_drawQ 7 mixed rfl (fun hH => ?_)
        refine H_pure (i := 0) rfl (PureV.toS (P_move rfl)) ?_ (by assumption) (by decide +kernel) (by decide +kernel) (by decide +kernel) (fun _ _ _ _ h => h) rfl rfl rfl
        refine H_pure (i := 1) rfl (PureV.toS (P_nilCheck rfl)) ?_ (by assumption) (by decide +kernel) (by decide +kernel) (by decide +kernel) (fun _ _ _ _ h => h) rfl rfl rfl
        refine H_pure (i := 2) rfl (PureV.toS (P_fieldAddr fo_217_2 rfl)) ?_ (by assumption) (by decide +kernel) (by decide +kernel) (by decide +kernel) (fun _ _ _ _ h => h) rfl rfl rfl
        refine H_pure (i := 3) rfl (PS_load sc_3 rfl (fun _ h => hcd _ h)) ?_ (by assumption) (by decide +kernel) (by decide +kernel) (by decide +kernel) (fun _ _ _ _ h => h) rfl rfl rfl
        refine H_pure (i := 4) rfl (PS_load sc_28 rfl (fun _ h => hpt _ h)) ?_ (by assumption) (by decide +kernel) (by decide +kernel) (by decide +kernel) (fun _ _ _ _ h => h) rfl rfl rfl
        refine H_pure (i := 5) rfl (PureV.toS (P_lenS Tryz.underlying28 rfl)) ?_ (by assumption) (by decide +kernel) (by decide +kernel) (by decide +kernel) (fun _ _ _ _ h => h) rfl rfl rfl
        refine H_pure (i := 6) rfl (PureV.toS (P_ge rfl rfl (decide_eq_true (by omega)))) ?_ (by assumption) (by decide +kernel) (by decide +kernel) (by decide +kernel) (fun _ _ _ _ h => h) rfl rfl rfl
        refine H_done (by decide +kernel) ?_
        refine then_n ?_
        refine C_true rfl ?_
        refine C_region ?_
        refine L (S (P_assign rfl) ?_)
        refine L_nil ?_
        refine then_n ?_
        refine C_seq ?_
        have hE2 := hE.no hH
        have hS := shiftR_ret hE2 hwf (m := 27) (by omega) (by omega) (by omega) (km := -27) (by omega)
        refine C_region ?_
        refine L (S (P_move rfl) ?_)
        refine L (S (P_move rfl) ?_)
        refine L (S (P_neg rfl (wI64 (c := -27) (by omega))) ?_)
        refine L (S_call cb_184 rfl (hS) ?_)
        rintro _ w3 ⟨hD3, hm3⟩
        refine L_nil ?_
        refine then_n ?_
        refine C_region ?_
        refine L (S (P_move rfl) ?_)
        refine L (S (P_move rfl) ?_)
        refine L (S (P_add rfl rfl (wI64 (c := e + 27) (by omega))) ?_)
        refine L (S (P_assign rfl) ?_)
        refine L_nil ?_
        refine blk_n ?_
        refine then_n ?_
        exact ⟨rfl, (g, shR 27 E, e + 27), (.cons rfl (.cons rfl (.cons rfl (.cons rfl (.nil _))))), ⟨hD3, (hmr.no hH).trans hm3 fun _ _ h => h, s1, by dsimp only; omega, by dsimp only; omega, by dsimp only; omega, by dsimp only; omega, by dsimp only; omega, by dsimp only; omega, hst⟩, by dsimp only; omega⟩
      · have hpe := (hsm (by omega)).1
        refine C_seq ?_
        refine C_seq ?_
        refine C_region ?_
        refine L (S (P_move rfl) ?_)
        refine L (S (P_nilCheck rfl) ?_)
        refine L (S (P_fieldAddr fo_217_2 rfl) ?_)
        refine L (S_load sc_3 rfl hE.c_dp ?_)
        refine L (S (P_gt rfl rfl (decide_eq_true (by omega))) ?_)
        refine L_nil ?_
        refine then_n ?_
        refine C_true rfl ?_
        refine C_skip ?_
        refine then_n ?_
        refine C_block ?_
        refine C_seq ?_
        refine C_region ?_
        refine L (S (P_assign rfl) ?_)
        refine L_nil ?_
        refine then_n ?_
        refine C_seq ?_
        refine C_seq ?_
        refine C_drawQ 7 mixed rfl (fun hH => ?_)
        refine H_pure (i := 0) rfl (PureV.toS (P_move rfl)) ?_ (by assumption) (by decide +kernel) (by decide +kernel) (by decide +kernel) (fun _ _ _ _ h => h) rfl rfl rfl
        refine H_pure (i := 1) rfl (PureV.toS (P_nilCheck rfl)) ?_ (by assumption) (by decide +kernel) (by decide +kernel) (by decide +kernel) (fun _ _ _ _ h => h) rfl rfl rfl
        refine H_pure (i := 2) rfl (PureV.toS (P_fieldAddr fo_217_2 rfl)) ?_ (by assumption) (by decide +kernel) (by decide +kernel) (by decide +kernel) (fun _ _ _ _ h => h) rfl rfl rfl
        refine H_pure (i := 3) rfl (PS_load sc_3 rfl (fun _ h => hcd _ h)) ?_ (by assumption) (by decide +kernel) (by decide +kernel) (by decide +kernel) (fun _ _ _ _ h => h) rfl rfl rfl
        refine H_pure (i := 4) rfl (PS_load sc_28 rfl (fun _ h => hpt _ h)) ?_ (by assumption) (by decide +kernel) (by decide +kernel) (by decide +kernel) (fun _ _ _ _ h => h) rfl rfl rfl
        refine H_pure (i := 5) rfl (PureV.toS (P_lenS Tryz.underlying28 rfl)) ?_ (by assumption) (by decide +kernel) (by decide +kernel) (by decide +kernel) (fun _ _ _ _ h => h) rfl rfl rfl
        refine H_pure (i := 6) rfl (PureV.toS (P_ge rfl rfl (decide_eq_false (by omega)))) ?_ (by assumption) (by decide +kernel) (by decide +kernel) (by decide +kernel) (fun _ _ _ _ h => h) rfl rfl rfl
        refine H_done (by decide +kernel) ?_
        refine then_n ?_
        refine C_false rfl ?_
        have hq := hH
        refine C_drawQ 8 mixed rfl (fun hH => ?_)
        refine H_pure (i := 0) rfl (PS_load sc_28 rfl (fun _ h => hpt _ (hq.no h))) ?_ (by assumption) (by decide +kernel) (by decide +kernel) (by decide +kernel) (fun _ _ _ _ h => h) rfl rfl rfl
        refine H_pure (i := 1) rfl (PureV.toS (P_move rfl)) ?_ (by assumption) (by decide +kernel) (by decide +kernel) (by decide +kernel) (fun _ _ _ _ h => h) rfl rfl rfl
        refine H_pure (i := 2) rfl (PureV.toS (P_nilCheck rfl)) ?_ (by assumption) (by decide +kernel) (by decide +kernel) (by decide +kernel) (fun _ _ _ _ h => h) rfl rfl rfl
        refine H_pure (i := 3) rfl (PureV.toS (P_fieldAddr fo_217_2 rfl)) ?_ (by assumption) (by decide +kernel) (by decide +kernel) (by decide +kernel) (fun _ _ _ _ h => h) rfl rfl rfl
        refine H_pure (i := 4) rfl (PS_load sc_3 rfl (fun _ h => hcd _ (hq.no h))) ?_ (by assumption) (by decide +kernel) (by decide +kernel) (by decide +kernel) (fun _ _ _ _ h => h) rfl rfl rfl
        refine H_pure (i := 5) rfl (PureV.toS (P_indexAddr Tryz.underlying28 (csz_of ti_3) rfl rfl (j := E.dp.toNat) (by omega) (by omega) (p := op + E.dp.toNat) (by omega))) ?_ (by assumption) (by decide +kernel) (by decide +kernel) (by decide +kernel) (fun _ _ _ _ h => h) rfl rfl rfl
        refine H_pure (i := 6) rfl (PS_load sc_3 rfl (fun _ h => (hp2.no (hq.no h)) _ _ (by rw [List.getElem?_map, hpe]; rfl))) ?_ (by assumption) (by decide +kernel) (by decide +kernel) (by decide +kernel) (fun _ _ _ _ h => h) rfl rfl rfl
        refine H_pure (i := 7) rfl (PureV.toS (P_assign rfl)) ?_ (by assumption) (by decide +kernel) (by decide +kernel) (by decide +kernel) (fun _ _ _ _ h => h) rfl rfl rfl
        refine H_done (by decide +kernel) ?_
        refine then_n ?_
        refine C_seq ?_
        have hE2 := hE.no (hq.no hH)
        have hS := shiftR_ret hE2 hwf (m := k) (by omega) (by omega) (by omega) (km := -(k : Int)) rfl
        refine C_region ?_
        refine L (S (P_move rfl) ?_)
        refine L (S (P_move rfl) ?_)
        refine L (S (P_neg rfl (wI64 (c := -(k : Int)) (by omega))) ?_)
        refine L (S_call cb_184 rfl (hS) ?_)
        rintro _ w3 ⟨hD3, hm3⟩
        refine L_nil ?_
        refine then_n ?_
        refine C_region ?_
        refine L (S (P_move rfl) ?_)
        refine L (S (P_move rfl) ?_)
        refine L (S (P_add rfl rfl (wI64 (c := e + (k : Int)) (by omega))) ?_)
        refine L (S (P_assign rfl) ?_)
        refine L_nil ?_
        refine blk_n ?_
        refine then_n ?_
        exact ⟨rfl, (g, shR k E, e + (k : Int)), (.cons rfl (.cons rfl (.cons rfl (.cons rfl (.nil _))))), ⟨hD3, (hmr.no (hq.no hH)).trans hm3 fun _ _ h => h, s1, by dsimp only; omega, by dsimp only; omega, by dsimp only; omega, by dsimp only; omega, by dsimp only; omega, by dsimp only; omega, hst⟩, by dsimp only; omega⟩
    have hend : fb1 700 D 0 = (E, e) := by
      rw [← hfb1]
      cases f with
      | zero => rfl
      | succ f => show (if _ then _ else _) = _; rw [if_neg hpos]
    rw [hend] at hfb
    dsimp only at hfb
    clear hfb1 hend hpt hp1 hp2
    refine C_seq ?_
    refine C_seq ?_
    refine C_region ?_
    refine L (S (P_move rfl) ?_)
    refine L (S (P_nilCheck rfl) ?_)
    refine L (S (P_fieldAddr fo_217_2 rfl) ?_)
    refine L (S_load sc_3 rfl hE.c_dp ?_)
    refine L (S (P_gt rfl rfl (decide_eq_false (by omega))) ?_)
    refine L_nil ?_
    refine then_n ?_
    refine C_false rfl ?_
    refine C_exit ?_
    refine then_x ?_
    refine then_x ?_
    refine blk_x ?_
    refine then_n ?_
    refine C_seq ?_
    refine C_cutg (γ := Dc × Int) (fun q => [(0, .pointer (some ⟨b, 0, none⟩)), (1, .pointer (some ⟨5, 0, none⟩)), (5, .bool false), (6, .int .i64 q.2)]) (fun q wc => DB wc b q.1 ∧ Mv (At b) w wc ∧ Wf q.1 ∧ q.1.dp ≤ 19 ∧ -1300 ≤ q.1.dp ∧ -378000 ≤ q.2 ∧ q.2 ≤ 18900 ∧ fb2 14000 E e = q) ?_ ?_
    · refine C_block ?_
      refine C_loop (γ := Nat × Dc × Int) (fun q => [(0, .pointer (some ⟨b, 0, none⟩)), (1, .pointer (some ⟨5, 0, none⟩)), (5, .bool false), (6, .int .i64 q.2.2)]) (fun q wr => DB wr b q.2.1 ∧ Mv (At b) w wr ∧ Wf q.2.1 ∧ mu2 q.2.1 ≤ q.1 ∧ q.2.1.dp ≤ 19 ∧ -1300 ≤ q.2.1.dp ∧ -27 * (14000 - (q.1 : Int)) ≤ q.2.2 ∧ q.2.2 ≤ 18900 ∧ q.1 ≤ 14000 ∧ fb2 q.1 q.2.1 q.2.2 = fb2 14000 E e) (fun q => q.1) (14000, E, e) (.cons rfl (.cons rfl (.cons rfl (.cons rfl (.nil _))))) ⟨hE, hmr, hwf, by unfold mu2; dsimp only; omega, by dsimp only; omega, by dsimp only; omega, by dsimp only; omega, by dsimp only; omega, by dsimp only; omega, rfl⟩ ?_
      rintro ⟨f, F, x⟩ wq ⟨hF, hmq, hwF, hmu, hd1, hd2, he1, he2, hf, hfb2⟩
      dsimp only at hF hwF hmu hd1 hd2 he1 he2 hf hfb2
      dsimp only
      obtain ⟨bp, op, cp, hp1, hp2⟩ := (hvb wq hmq).ptb
      have hpt : ∀ w', Mv No wq w' → w'.cell? ⟨7, 0, none⟩ = some (.slice (some ⟨bp, op, none⟩) 9 cp) := fun w' h => cell_no hp1 h
      have hcd : ∀ w', Mv No wq w' → w'.cell? ⟨b, 801, none⟩ = some (.int .i64 F.dp) := fun w' h => (hF.no h).c_dp
      obtain ⟨c, hc, hc1, hc2⟩ := hwF.dig.dg (j := 0) hwF.n1
      by_cases hgo : F.dp < 0 ∨ (F.dp = 0 ∧ dg F 0 < 5)
      · obtain ⟨g, rfl⟩ : ∃ g, f = g + 1 := ⟨f - 1, by unfold mu2 at hmu; omega⟩
        obtain ⟨s1, s2, s3, s4⟩ := mu2_step hwF (by omega)
        obtain ⟨p1, p2, p3⟩ := ptN_bd (-F.dp).toNat
        have hst : fb2 g (lsF (ptN (-F.dp).toNat) F) (x - ptN (-F.dp).toNat) = fb2 14000 E e := by
          rw [← hfb2]
          show _ = if _ then _ else _
          rw [if_pos hgo]
        have hsm := ptN_small (-F.dp).toNat
        have hpn : 9 ≤ (-F.dp).toNat → ptN (-F.dp).toNat = 27 := fun h => by unfold ptN; rw [if_pos h]
        generalize hk : ptN (-F.dp).toNat = k at *
        by_cases h9 : 9 ≤ -F.dp
        · obtain rfl : k = 27 := hpn (by omega)
          refine C_seq ?_
          refine C_seq ?_
          refine C_region ?_
          refine L (S (P_move rfl) ?_)
          refine L (S (P_nilCheck rfl) ?_)
          refine L (S (P_fieldAddr fo_217_2 rfl) ?_)
          refine L (S_load sc_3 rfl hF.c_dp ?_)
          refine L (S (P_lt rfl rfl (decide_eq_true (by omega))) ?_)
          refine L (S (P_move rfl) ?_)
          refine L_no (j := 5) (dj := 66) (b := false) (b' := true) (d := 67) rfl ?_
          refine L_no (j := 5) (dj := 66) (b := false) (b' := true) (d := 68) rfl ?_
          refine L_no (j := 5) (dj := 66) (b := false) (b' := true) (d := 69) rfl ?_
          refine L_no (j := 5) (dj := 66) (b := false) (b' := true) (d := 70) rfl ?_
          refine L_no (j := 5) (dj := 66) (b := false) (b' := true) (d := 71) rfl ?_
          refine L_no (j := 5) (dj := 66) (b := false) (b' := true) (d := 72) rfl ?_
          refine L_nou (j := 11) (dj := 72) (b := true) (d := 73) rfl ?_
          refine L_nou (j := 11) (dj := 72) (b := true) (d := 74) rfl ?_
          refine L_nou (j := 11) (dj := 72) (b := true) (d := 75) rfl ?_
          refine L_nou (j := 11) (dj := 72) (b := true) (d := 76) rfl ?_
          refine L_nou (j := 11) (dj := 72) (b := true) (d := 77) rfl ?_
          refine L_nou (j := 11) (dj := 72) (b := true) (d := 78) rfl ?_
          refine L_no (j := 5) (dj := 66) (b := false) (b' := true) (d := 79) rfl ?_
          refine L (S (P_pickT rfl rfl) ?_)
          refine L_nil ?_
          refine then_n ?_
          refine C_true rfl ?_
          refine C_skip ?_
          refine then_n ?_
          refine C_block ?_
          refine C_seq ?_
          refine C_region ?_
          refine L (S (P_assign rfl) ?_)
          refine L_nil ?_
          refine then_n ?_
          refine C_seq ?_
          refine C_seq ?_
          refine C_drawQ 8 mixed rfl (fun hH => ?_)
          refine H_pure (i := 0) rfl (PureV.toS (P_move rfl)) ?_ (by assumption) (by decide +kernel) (by decide +kernel) (by decide +kernel) (fun _ _ _ _ h => h) rfl rfl rfl
          refine H_pure (i := 1) rfl (PureV.toS (P_nilCheck rfl)) ?_ (by assumption) (by decide +kernel) (by decide +kernel) (by decide +kernel) (fun _ _ _ _ h => h) rfl rfl rfl
          refine H_pure (i := 2) rfl (PureV.toS (P_fieldAddr fo_217_2 rfl)) ?_ (by assumption) (by decide +kernel) (by decide +kernel) (by decide +kernel) (fun _ _ _ _ h => h) rfl rfl rfl
          refine H_pure (i := 3) rfl (PS_load sc_3 rfl (fun _ h => hcd _ h)) ?_ (by assumption) (by decide +kernel) (by decide +kernel) (by decide +kernel) (fun _ _ _ _ h => h) rfl rfl rfl
          refine H_pure (i := 4) rfl (PureV.toS (P_neg rfl (wI64 (c := -F.dp) (by omega)))) ?_ (by assumption) (by decide +kernel) (by decide +kernel) (by decide +kernel) (fun _ _ _ _ h => h) rfl rfl rfl
          refine H_pure (i := 5) rfl (PS_load sc_28 rfl (fun _ h => hpt _ h)) ?_ (by assumption) (by decide +kernel) (by decide +kernel) (by decide +kernel) (fun _ _ _ _ h => h) rfl rfl rfl
          refine H_pure (i := 6) rfl (PureV.toS (P_lenS Tryz.underlying28 rfl)) ?_ (by assumption) (by decide +kernel) (by decide +kernel) (by decide +kernel) (fun _ _ _ _ h => h) rfl rfl rfl
          refine H_pure (i := 7) rfl (PureV.toS (P_ge rfl rfl (decide_eq_true (by omega)))) ?_ (by assumption) (by decide +kernel) (by decide +kernel) (by decide +kernel) (fun _ _ _ _ h => h) rfl rfl rfl
          refine H_done (by decide +kernel) ?_
          refine then_n ?_
          refine C_true rfl ?_
          refine C_region ?_
          refine L (S (P_assign rfl) ?_)
          refine L_nil ?_
          refine then_n ?_
          refine C_seq ?_
          have hF2 := hF.no hH
          have hS := shiftL_ret ((hvb.mv hmq).vr.no hH) hF2 hwF (k := 27) (by omega) (by omega) (by omega)
          refine C_region ?_
          refine L (S (P_move rfl) ?_)
          refine L (S (P_move rfl) ?_)
          refine L (S_call cb_184 rfl (hS) ?_)
          rintro _ w3 ⟨hD3, hm3⟩
          refine L_nil ?_
          refine then_n ?_
          refine C_region ?_
          refine L (S (P_move rfl) ?_)
          refine L (S (P_move rfl) ?_)
          refine L (S (P_sub rfl rfl (wI64 (c := x - 27) (by omega))) ?_)
          refine L (S (P_assign rfl) ?_)
          refine L_nil ?_
          refine blk_n ?_
          refine then_n ?_
          exact ⟨rfl, (g, lsF 27 F, x - 27), (.cons rfl (.cons rfl (.cons rfl (.cons rfl (.nil _))))), ⟨hD3, (hmq.no hH).trans hm3 fun _ _ h => h, s1, by dsimp only; omega, by dsimp only; omega, by dsimp only; omega, by dsimp only; omega, by dsimp only; omega, by dsimp only; omega, hst⟩, by dsimp only; omega⟩
        · have hpe := (hsm (by omega)).1
          by_cases hneg : F.dp < 0
          · refine C_seq ?_
            refine C_seq ?_
            refine C_region ?_
            refine L (S (P_move rfl) ?_)
            refine L (S (P_nilCheck rfl) ?_)
            refine L (S (P_fieldAddr fo_217_2 rfl) ?_)
            refine L (S_load sc_3 rfl hF.c_dp ?_)
            refine L (S (P_lt rfl rfl (decide_eq_true (by omega))) ?_)
            refine L (S (P_move rfl) ?_)
            refine L_no (j := 5) (dj := 66) (b := false) (b' := true) (d := 67) rfl ?_
            refine L_no (j := 5) (dj := 66) (b := false) (b' := true) (d := 68) rfl ?_
            refine L_no (j := 5) (dj := 66) (b := false) (b' := true) (d := 69) rfl ?_
            refine L_no (j := 5) (dj := 66) (b := false) (b' := true) (d := 70) rfl ?_
            refine L_no (j := 5) (dj := 66) (b := false) (b' := true) (d := 71) rfl ?_
            refine L_no (j := 5) (dj := 66) (b := false) (b' := true) (d := 72) rfl ?_
            refine L_nou (j := 11) (dj := 72) (b := true) (d := 73) rfl ?_
            refine L_nou (j := 11) (dj := 72) (b := true) (d := 74) rfl ?_
            refine L_nou (j := 11) (dj := 72) (b := true) (d := 75) rfl ?_
            refine L_nou (j := 11) (dj := 72) (b := true) (d := 76) rfl ?_
            refine L_nou (j := 11) (dj := 72) (b := true) (d := 77) rfl ?_
            refine L_nou (j := 11) (dj := 72) (b := true) (d := 78) rfl ?_
            refine L_no (j := 5) (dj := 66) (b := false) (b' := true) (d := 79) rfl ?_
            refine L (S (P_pickT rfl rfl) ?_)
            refine L_nil ?_
            refine then_n ?_
            refine C_true rfl ?_
            refine C_skip ?_
            refine then_n ?_
            refine C_block ?_
            refine C_seq ?_
            refine C_region ?_
            refine L (S (P_assign rfl) ?_)
            refine L_nil ?_
            refine then_n ?_
            refine C_seq ?_
            refine C_seq ?_
            refine C_drawQ 8 mixed rfl (fun hH => ?_)
            refine H_pure (i := 0) rfl (PureV.toS (P_move rfl)) ?_ (by assumption) (by decide +kernel) (by decide +kernel) (by decide +kernel) (fun _ _ _ _ h => h) rfl rfl rfl
            refine H_pure (i := 1) rfl (PureV.toS (P_nilCheck rfl)) ?_ (by assumption) (by decide +kernel) (by decide +kernel) (by decide +kernel) (fun _ _ _ _ h => h) rfl rfl rfl
            refine H_pure (i := 2) rfl (PureV.toS (P_fieldAddr fo_217_2 rfl)) ?_ (by assumption) (by decide +kernel) (by decide +kernel) (by decide +kernel) (fun _ _ _ _ h => h) rfl rfl rfl
            refine H_pure (i := 3) rfl (PS_load sc_3 rfl (fun _ h => hcd _ h)) ?_ (by assumption) (by decide +kernel) (by decide +kernel) (by decide +kernel) (fun _ _ _ _ h => h) rfl rfl rfl
            refine H_pure (i := 4) rfl (PureV.toS (P_neg rfl (wI64 (c := -F.dp) (by omega)))) ?_ (by assumption) (by decide +kernel) (by decide +kernel) (by decide +kernel) (fun _ _ _ _ h => h) rfl rfl rfl
            refine H_pure (i := 5) rfl (PS_load sc_28 rfl (fun _ h => hpt _ h)) ?_ (by assumption) (by decide +kernel) (by decide +kernel) (by decide +kernel) (fun _ _ _ _ h => h) rfl rfl rfl
            refine H_pure (i := 6) rfl (PureV.toS (P_lenS Tryz.underlying28 rfl)) ?_ (by assumption) (by decide +kernel) (by decide +kernel) (by decide +kernel) (fun _ _ _ _ h => h) rfl rfl rfl
            refine H_pure (i := 7) rfl (PureV.toS (P_ge rfl rfl (decide_eq_false (by omega)))) ?_ (by assumption) (by decide +kernel) (by decide +kernel) (by decide +kernel) (fun _ _ _ _ h => h) rfl rfl rfl
            refine H_done (by decide +kernel) ?_
            refine then_n ?_
            refine C_false rfl ?_
            have hq := hH
            refine C_drawQ 9 mixed rfl (fun hH => ?_)
            refine H_pure (i := 0) rfl (PS_load sc_28 rfl (fun _ h => hpt _ (hq.no h))) ?_ (by assumption) (by decide +kernel) (by decide +kernel) (by decide +kernel) (fun _ _ _ _ h => h) rfl rfl rfl
            refine H_pure (i := 1) rfl (PureV.toS (P_move rfl)) ?_ (by assumption) (by decide +kernel) (by decide +kernel) (by decide +kernel) (fun _ _ _ _ h => h) rfl rfl rfl
            refine H_pure (i := 2) rfl (PureV.toS (P_nilCheck rfl)) ?_ (by assumption) (by decide +kernel) (by decide +kernel) (by decide +kernel) (fun _ _ _ _ h => h) rfl rfl rfl
            refine H_pure (i := 3) rfl (PureV.toS (P_fieldAddr fo_217_2 rfl)) ?_ (by assumption) (by decide +kernel) (by decide +kernel) (by decide +kernel) (fun _ _ _ _ h => h) rfl rfl rfl
            refine H_pure (i := 4) rfl (PS_load sc_3 rfl (fun _ h => hcd _ (hq.no h))) ?_ (by assumption) (by decide +kernel) (by decide +kernel) (by decide +kernel) (fun _ _ _ _ h => h) rfl rfl rfl
            refine H_pure (i := 5) rfl (PureV.toS (P_neg rfl (wI64 (c := -F.dp) (by omega)))) ?_ (by assumption) (by decide +kernel) (by decide +kernel) (by decide +kernel) (fun _ _ _ _ h => h) rfl rfl rfl
            refine H_pure (i := 6) rfl (PureV.toS (P_indexAddr Tryz.underlying28 (csz_of ti_3) rfl rfl (j := (-F.dp).toNat) (by omega) (by omega) (p := op + (-F.dp).toNat) (by omega))) ?_ (by assumption) (by decide +kernel) (by decide +kernel) (by decide +kernel) (fun _ _ _ _ h => h) rfl rfl rfl
            refine H_pure (i := 7) rfl (PS_load sc_3 rfl (fun _ h => (hp2.no (hq.no h)) _ _ (by rw [List.getElem?_map, hpe]; rfl))) ?_ (by assumption) (by decide +kernel) (by decide +kernel) (by decide +kernel) (fun _ _ _ _ h => h) rfl rfl rfl
            refine H_pure (i := 8) rfl (PureV.toS (P_assign rfl)) ?_ (by assumption) (by decide +kernel) (by decide +kernel) (by decide +kernel) (fun _ _ _ _ h => h) rfl rfl rfl
            refine H_done (by decide +kernel) ?_
            refine then_n ?_
            refine C_seq ?_
            have hF2 := hF.no (hq.no hH)
            have hS := shiftL_ret ((hvb.mv hmq).vr.no (hq.no hH)) hF2 hwF (k := k) (by omega) (by omega) (by omega)
            refine C_region ?_
            refine L (S (P_move rfl) ?_)
            refine L (S (P_move rfl) ?_)
            refine L (S_call cb_184 rfl (hS) ?_)
            rintro _ w3 ⟨hD3, hm3⟩
            refine L_nil ?_
            refine then_n ?_
            refine C_region ?_
            refine L (S (P_move rfl) ?_)
            refine L (S (P_move rfl) ?_)
            refine L (S (P_sub rfl rfl (wI64 (c := x - (k : Int)) (by omega))) ?_)
            refine L (S (P_assign rfl) ?_)
            refine L_nil ?_
            refine blk_n ?_
            refine then_n ?_
            exact ⟨rfl, (g, lsF k F, x - (k : Int)), (.cons rfl (.cons rfl (.cons rfl (.cons rfl (.nil _))))), ⟨hD3, (hmq.no (hq.no hH)).trans hm3 fun _ _ h => h, s1, by dsimp only; omega, by dsimp only; omega, by dsimp only; omega, by dsimp only; omega, by dsimp only; omega, by dsimp only; omega, hst⟩, by dsimp only; omega⟩
          · refine C_seq ?_
            refine C_seq ?_
            refine C_region ?_
            refine L (S (P_move rfl) ?_)
            refine L (S (P_nilCheck rfl) ?_)
            refine L (S (P_fieldAddr fo_217_2 rfl) ?_)
            refine L (S_load sc_3 rfl hF.c_dp ?_)
            refine L (S (P_lt rfl rfl (decide_eq_false (by omega))) ?_)
            refine L (S (P_move rfl) ?_)
            refine L_yes (j := 5) (dj := 66) (b := false) (S (P_move rfl) ?_) rfl
            refine L_yes (j := 5) (dj := 66) (b := false) (S (P_nilCheck rfl) ?_) rfl
            refine L_yes (j := 5) (dj := 66) (b := false) (S (P_fieldAddr fo_217_2 rfl) ?_) rfl
            refine L_yes (j := 5) (dj := 66) (b := false) (S_load sc_3 rfl hF.c_dp ?_) rfl
            refine L_yes (j := 5) (dj := 66) (b := false) (S (P_eq rfl rfl (decide_eq_true (by omega))) ?_) rfl
            refine L_yes (j := 5) (dj := 66) (b := false) (S (P_move rfl) ?_) rfl
            refine L_yes (j := 11) (dj := 72) (b := true) (S (P_move rfl) ?_) rfl
            refine L_yes (j := 11) (dj := 72) (b := true) (S (P_nilCheck rfl) ?_) rfl
            refine L_yes (j := 11) (dj := 72) (b := true) (S (P_fieldAddr fo_217_0 rfl) ?_) rfl
            refine L_yes (j := 11) (dj := 72) (b := true) (S (P_indexAddrA Tryz.underlying215 (csz_of ti_5) rfl rfl (j := 0) rfl (by omega) (q := 0) (by omega)) ?_) rfl
            refine L_yes (j := 11) (dj := 72) (b := true) (S_load sc_5 rfl (hF.c_dig hc) ?_) rfl
            refine L_yes (j := 11) (dj := 72) (b := true) (S (P_lt rfl rfl (decide_eq_true (by omega))) ?_) rfl
            refine L_yes (j := 5) (dj := 66) (b := false) (S (P_pickT rfl rfl) ?_) rfl
            refine L (S (P_pickF rfl rfl) ?_)
            refine L_nil ?_
            refine then_n ?_
            refine C_true rfl ?_
            refine C_skip ?_
            refine then_n ?_
            refine C_block ?_
            refine C_seq ?_
            refine C_region ?_
            refine L (S (P_assign rfl) ?_)
            refine L_nil ?_
            refine then_n ?_
            refine C_seq ?_
            refine C_seq ?_
            refine C_drawQ 8 mixed rfl (fun hH => ?_)
            refine H_pure (i := 0) rfl (PureV.toS (P_move rfl)) ?_ (by assumption) (by decide +kernel) (by decide +kernel) (by decide +kernel) (fun _ _ _ _ h => h) rfl rfl rfl
            refine H_pure (i := 1) rfl (PureV.toS (P_nilCheck rfl)) ?_ (by assumption) (by decide +kernel) (by decide +kernel) (by decide +kernel) (fun _ _ _ _ h => h) rfl rfl rfl
            refine H_pure (i := 2) rfl (PureV.toS (P_fieldAddr fo_217_2 rfl)) ?_ (by assumption) (by decide +kernel) (by decide +kernel) (by decide +kernel) (fun _ _ _ _ h => h) rfl rfl rfl
            refine H_pure (i := 3) rfl (PS_load sc_3 rfl (fun _ h => hcd _ h)) ?_ (by assumption) (by decide +kernel) (by decide +kernel) (by decide +kernel) (fun _ _ _ _ h => h) rfl rfl rfl
            refine H_pure (i := 4) rfl (PureV.toS (P_neg rfl (wI64 (c := -F.dp) (by omega)))) ?_ (by assumption) (by decide +kernel) (by decide +kernel) (by decide +kernel) (fun _ _ _ _ h => h) rfl rfl rfl
            refine H_pure (i := 5) rfl (PS_load sc_28 rfl (fun _ h => hpt _ h)) ?_ (by assumption) (by decide +kernel) (by decide +kernel) (by decide +kernel) (fun _ _ _ _ h => h) rfl rfl rfl
            refine H_pure (i := 6) rfl (PureV.toS (P_lenS Tryz.underlying28 rfl)) ?_ (by assumption) (by decide +kernel) (by decide +kernel) (by decide +kernel) (fun _ _ _ _ h => h) rfl rfl rfl
            refine H_pure (i := 7) rfl (PureV.toS (P_ge rfl rfl (decide_eq_false (by omega)))) ?_ (by assumption) (by decide +kernel) (by decide +kernel) (by decide +kernel) (fun _ _ _ _ h => h) rfl rfl rfl
            refine H_done (by decide +kernel) ?_
            refine then_n ?_
            refine C_false rfl ?_
            have hq := hH
            refine C_drawQ 9 mixed rfl (fun hH => ?_)
            refine H_pure (i := 0) rfl (PS_load sc_28 rfl (fun _ h => hpt _ (hq.no h))) ?_ (by assumption) (by decide +kernel) (by decide +kernel) (by decide +kernel) (fun _ _ _ _ h => h) rfl rfl rfl
            refine H_pure (i := 1) rfl (PureV.toS (P_move rfl)) ?_ (by assumption) (by decide +kernel) (by decide +kernel) (by decide +kernel) (fun _ _ _ _ h => h) rfl rfl rfl
            refine H_pure (i := 2) rfl (PureV.toS (P_nilCheck rfl)) ?_ (by assumption) (by decide +kernel) (by decide +kernel) (by decide +kernel) (fun _ _ _ _ h => h) rfl rfl rfl
            refine H_pure (i := 3) rfl (PureV.toS (P_fieldAddr fo_217_2 rfl)) ?_ (by assumption) (by decide +kernel) (by decide +kernel) (by decide +kernel) (fun _ _ _ _ h => h) rfl rfl rfl
            refine H_pure (i := 4) rfl (PS_load sc_3 rfl (fun _ h => hcd _ (hq.no h))) ?_ (by assumption) (by decide +kernel) (by decide +kernel) (by decide +kernel) (fun _ _ _ _ h => h) rfl rfl rfl
            refine H_pure (i := 5) rfl (PureV.toS (P_neg rfl (wI64 (c := -F.dp) (by omega)))) ?_ (by assumption) (by decide +kernel) (by decide +kernel) (by decide +kernel) (fun _ _ _ _ h => h) rfl rfl rfl
            refine H_pure (i := 6) rfl (PureV.toS (P_indexAddr Tryz.underlying28 (csz_of ti_3) rfl rfl (j := (-F.dp).toNat) (by omega) (by omega) (p := op + (-F.dp).toNat) (by omega))) ?_ (by assumption) (by decide +kernel) (by decide +kernel) (by decide +kernel) (fun _ _ _ _ h => h) rfl rfl rfl
            refine H_pure (i := 7) rfl (PS_load sc_3 rfl (fun _ h => (hp2.no (hq.no h)) _ _ (by rw [List.getElem?_map, hpe]; rfl))) ?_ (by assumption) (by decide +kernel) (by decide +kernel) (by decide +kernel) (fun _ _ _ _ h => h) rfl rfl rfl
            refine H_pure (i := 8) rfl (PureV.toS (P_assign rfl)) ?_ (by assumption) (by decide +kernel) (by decide +kernel) (by decide +kernel) (fun _ _ _ _ h => h) rfl rfl rfl
            refine H_done (by decide +kernel) ?_
            refine then_n ?_
            refine C_seq ?_
            have hF2 := hF.no (hq.no hH)
            have hS := shiftL_ret ((hvb.mv hmq).vr.no (hq.no hH)) hF2 hwF (k := k) (by omega) (by omega) (by omega)
            refine C_region ?_
            refine L (S (P_move rfl) ?_)
            refine L (S (P_move rfl) ?_)
            refine L (S_call cb_184 rfl (hS) ?_)
            rintro _ w3 ⟨hD3, hm3⟩
            refine L_nil ?_
            refine then_n ?_
            refine C_region ?_
            refine L (S (P_move rfl) ?_)
            refine L (S (P_move rfl) ?_)
            refine L (S (P_sub rfl rfl (wI64 (c := x - (k : Int)) (by omega))) ?_)
            refine L (S (P_assign rfl) ?_)
            refine L_nil ?_
            refine blk_n ?_
            refine then_n ?_
            exact ⟨rfl, (g, lsF k F, x - (k : Int)), (.cons rfl (.cons rfl (.cons rfl (.cons rfl (.nil _))))), ⟨hD3, (hmq.no (hq.no hH)).trans hm3 fun _ _ h => h, s1, by dsimp only; omega, by dsimp only; omega, by dsimp only; omega, by dsimp only; omega, by dsimp only; omega, by dsimp only; omega, hst⟩, by dsimp only; omega⟩
      · have hend : fb2 14000 E e = (F, x) := by
          rw [← hfb2]
          cases f with
          | zero => rfl
          | succ f => show (if _ then _ else _) = _; rw [if_neg hgo]
        by_cases hz : F.dp = 0
        · refine C_seq ?_
          refine C_seq ?_
          refine C_region ?_
          refine L (S (P_move rfl) ?_)
          refine L (S (P_nilCheck rfl) ?_)
          refine L (S (P_fieldAddr fo_217_2 rfl) ?_)
          refine L (S_load sc_3 rfl hF.c_dp ?_)
          refine L (S (P_lt rfl rfl (decide_eq_false (by omega))) ?_)
          refine L (S (P_move rfl) ?_)
          refine L_yes (j := 5) (dj := 66) (b := false) (S (P_move rfl) ?_) rfl
          refine L_yes (j := 5) (dj := 66) (b := false) (S (P_nilCheck rfl) ?_) rfl
          refine L_yes (j := 5) (dj := 66) (b := false) (S (P_fieldAddr fo_217_2 rfl) ?_) rfl
          refine L_yes (j := 5) (dj := 66) (b := false) (S_load sc_3 rfl hF.c_dp ?_) rfl
          refine L_yes (j := 5) (dj := 66) (b := false) (S (P_eq rfl rfl (decide_eq_true (by omega))) ?_) rfl
          refine L_yes (j := 5) (dj := 66) (b := false) (S (P_move rfl) ?_) rfl
          refine L_yes (j := 11) (dj := 72) (b := true) (S (P_move rfl) ?_) rfl
          refine L_yes (j := 11) (dj := 72) (b := true) (S (P_nilCheck rfl) ?_) rfl
          refine L_yes (j := 11) (dj := 72) (b := true) (S (P_fieldAddr fo_217_0 rfl) ?_) rfl
          refine L_yes (j := 11) (dj := 72) (b := true) (S (P_indexAddrA Tryz.underlying215 (csz_of ti_5) rfl rfl (j := 0) rfl (by omega) (q := 0) (by omega)) ?_) rfl
          refine L_yes (j := 11) (dj := 72) (b := true) (S_load sc_5 rfl (hF.c_dig hc) ?_) rfl
          refine L_yes (j := 11) (dj := 72) (b := true) (S (P_lt rfl rfl (decide_eq_false (by omega))) ?_) rfl
          refine L_yes (j := 5) (dj := 66) (b := false) (S (P_pickT rfl rfl) ?_) rfl
          refine L (S (P_pickF rfl rfl) ?_)
          refine L_nil ?_
          refine then_n ?_
          refine C_false rfl ?_
          refine C_exit ?_
          refine then_x ?_
          refine then_x ?_
          refine blk_x ?_
          refine then_n ?_
          exact ⟨rfl, (F, x), (.cons rfl (.cons rfl (.cons rfl (.cons rfl (.nil _))))), hF, hmq, hwF, hd1, hd2, by dsimp only; omega, he2, hend⟩
        · refine C_seq ?_
          refine C_seq ?_
          refine C_region ?_
          refine L (S (P_move rfl) ?_)
          refine L (S (P_nilCheck rfl) ?_)
          refine L (S (P_fieldAddr fo_217_2 rfl) ?_)
          refine L (S_load sc_3 rfl hF.c_dp ?_)
          refine L (S (P_lt rfl rfl (decide_eq_false (by omega))) ?_)
          refine L (S (P_move rfl) ?_)
          refine L_yes (j := 5) (dj := 66) (b := false) (S (P_move rfl) ?_) rfl
          refine L_yes (j := 5) (dj := 66) (b := false) (S (P_nilCheck rfl) ?_) rfl
          refine L_yes (j := 5) (dj := 66) (b := false) (S (P_fieldAddr fo_217_2 rfl) ?_) rfl
          refine L_yes (j := 5) (dj := 66) (b := false) (S_load sc_3 rfl hF.c_dp ?_) rfl
          refine L_yes (j := 5) (dj := 66) (b := false) (S (P_eq rfl rfl (decide_eq_false (by omega))) ?_) rfl
          refine L_yes (j := 5) (dj := 66) (b := false) (S (P_move rfl) ?_) rfl
          refine L_no (j := 11) (dj := 72) (b := true) (b' := false) (d := 73) rfl ?_
          refine L_no (j := 11) (dj := 72) (b := true) (b' := false) (d := 74) rfl ?_
          refine L_no (j := 11) (dj := 72) (b := true) (b' := false) (d := 75) rfl ?_
          refine L_no (j := 11) (dj := 72) (b := true) (b' := false) (d := 76) rfl ?_
          refine L_no (j := 11) (dj := 72) (b := true) (b' := false) (d := 77) rfl ?_
          refine L_no (j := 11) (dj := 72) (b := true) (b' := false) (d := 78) rfl ?_
          refine L_yes (j := 5) (dj := 66) (b := false) (S (P_pickF rfl rfl) ?_) rfl
          refine L (S (P_pickF rfl rfl) ?_)
          refine L_nil ?_
          refine then_n ?_
          refine C_false rfl ?_
          refine C_exit ?_
          refine then_x ?_
          refine then_x ?_
          refine blk_x ?_
          refine then_n ?_
          exact ⟨rfl, (F, x), (.cons rfl (.cons rfl (.cons rfl (.cons rfl (.nil _))))), hF, hmq, hwF, hd1, hd2, by dsimp only; omega, he2, hend⟩
    rintro ⟨F, x⟩ w4 ⟨hF, hm4, hwF, hd3, hd4, he3, he4, hfb2⟩ f' hf'
    refine C_forget hf' ?_
    clear hf' f'
    dsimp only at hF hwF hd3 hd4 he3 he4
    dsimp only
    rw [hfb2] at hfb
    dsimp only at hfb
    clear hfb2 hcd hmu he1 he2
    refine C_seq ?_
    refine C_region ?_
    refine L (S (P_move rfl) ?_)
    refine L (S (P_sub rfl rfl (wI64 (c := x - 1) (by omega))) ?_)
    refine L (S (P_assign rfl) ?_)
    refine L_nil ?_
    refine then_n ?_
    refine C_seq ?_
    refine C_seq ?_
    refine C_region ?_
    refine L (S (P_move rfl) ?_)
    refine L (S (P_move rfl) ?_)
    refine L (S (P_nilCheck rfl) ?_)
    refine L (S (P_fieldAddr fo_208_2 rfl) ?_)
    refine L (S_load sc_3 rfl (hi2 _ hm4) ?_)
    refine L (S (P_add rfl rfl (wI64 (c := -1022) (by omega))) ?_)
    refine L (S (P_lt rfl rfl (β := decide (x - 1 < -1022)) rfl) ?_)
    refine L_nil ?_
    refine then_n ?_
    refine C_cutg (γ := Dc × Int) (fun q => [(0, .pointer (some ⟨b, 0, none⟩)), (1, .pointer (some ⟨5, 0, none⟩)), (5, .bool false), (6, .int .i64 q.2)]) (fun q wc => DB wc b q.1 ∧ Mv (At b) w wc ∧ Wf q.1 ∧ q.1.dp ≤ 19 ∧ -10000000 ≤ q.1.dp ∧ -1022 ≤ q.2 ∧ q.2 ≤ 18900 ∧ fbF D = fb5 q.1 q.2) ?_ ?_
    · unfold fb4 at hfb
      by_cases hlow : x - 1 < -1022
      · rw [if_pos hlow] at hfb
        obtain ⟨m, hm⟩ : ∃ m : Nat, -1022 - (x - 1) = (m : Int) := ⟨(-1022 - (x - 1)).toNat, by omega⟩
        have hmt : (-1022 - (x - 1)).toNat = m := by omega
        rw [hmt] at hfb
        obtain ⟨a1, a2, a3, a4⟩ := srF_wf m m F hwF (by omega) (by omega)
        have hS := shiftR_ret hF hwF (m := m) (by omega) (by omega) (by omega) (km := -(m : Int)) rfl
        rw [decide_eq_true hlow]
        refine C_true rfl ?_
        refine C_seq ?_
        refine C_region ?_
        refine L (S (P_move rfl) ?_)
        refine L (S (P_nilCheck rfl) ?_)
        refine L (S (P_fieldAddr fo_208_2 rfl) ?_)
        refine L (S_load sc_3 rfl (hi2 _ hm4) ?_)
        refine L (S (P_add rfl rfl (wI64 (c := -1022) (by omega))) ?_)
        refine L (S (P_move rfl) ?_)
        refine L (S (P_sub rfl rfl (wI64 (c := (m : Int)) (by omega))) ?_)
        refine L (S (P_assign rfl) ?_)
        refine L_nil ?_
        refine then_n ?_
        refine C_seq ?_
        refine C_region ?_
        refine L (S (P_move rfl) ?_)
        refine L (S (P_move rfl) ?_)
        refine L (S (P_neg rfl (wI64 (c := -(m : Int)) (by omega))) ?_)
        refine L (S_call cb_184 rfl (hS) ?_)
        rintro _ w5 ⟨hD5, hm5⟩
        refine L_nil ?_
        refine then_n ?_
        refine C_region ?_
        refine L (S (P_move rfl) ?_)
        refine L (S (P_move rfl) ?_)
        refine L (S (P_add rfl rfl (wI64 (c := -1022) (by omega))) ?_)
        refine L (S (P_assign rfl) ?_)
        refine L_nil ?_
        refine then_n ?_
        exact ⟨rfl, (shR m F, -1022), (.cons rfl (.cons rfl (.cons rfl (.cons rfl (.nil _))))), hD5, hm4.trans hm5 fun _ _ h => h, a1, by show (srF m m F).dp ≤ 19; omega, by show -10000000 ≤ (srF m m F).dp; omega, by dsimp only; omega, by dsimp only; omega, hfb⟩
      · rw [if_neg hlow] at hfb
        rw [decide_eq_false hlow]
        refine C_false rfl ?_
        refine C_skip ?_
        refine then_n ?_
        exact ⟨rfl, (F, x - 1), (.cons rfl (.cons rfl (.cons rfl (.cons rfl (.nil _))))), hF, hm4, hwF, hd3, by dsimp only; omega, by dsimp only; omega, by dsimp only; omega, hfb⟩
    rintro ⟨G, y⟩ w5 ⟨hG, hm5, hwG, hd5, hd6, he5, he6, hfb5⟩ f' hf'
    refine C_forget hf' ?_
    clear hf' f'
    dsimp only at hG hwG hd5 hd6 he5 he6 hfb5
    dsimp only
    unfold fb5 at hfb5
    by_cases hov : 2047 ≤ y + 1023
    · rw [if_pos hov] at hfb5
      refine C_seq ?_
      refine C_seq ?_
      refine C_drawQ 13 mixed rfl (fun hH => ?_)
      refine H_pure (i := 0) rfl (PureV.toS (P_move rfl)) ?_ (by assumption) (by decide +kernel) (by decide +kernel) (by decide +kernel) (fun _ _ _ _ h => h) rfl rfl rfl
      refine H_pure (i := 1) rfl (PureV.toS (P_move rfl)) ?_ (by assumption) (by decide +kernel) (by decide +kernel) (by decide +kernel) (fun _ _ _ _ h => h) rfl rfl rfl
      refine H_pure (i := 2) rfl (PureV.toS (P_nilCheck rfl)) ?_ (by assumption) (by decide +kernel) (by decide +kernel) (by decide +kernel) (fun _ _ _ _ h => h) rfl rfl rfl
      refine H_pure (i := 3) rfl (PureV.toS (P_fieldAddr fo_208_2 rfl)) ?_ (by assumption) (by decide +kernel) (by decide +kernel) (by decide +kernel) (fun _ _ _ _ h => h) rfl rfl rfl
      refine H_pure (i := 4) rfl (PS_load sc_3 rfl (fun _ h => hi2 _ (hm5.no h))) ?_ (by assumption) (by decide +kernel) (by decide +kernel) (by decide +kernel) (fun _ _ _ _ h => h) rfl rfl rfl
      refine H_pure (i := 5) rfl (PureV.toS (P_sub rfl rfl (wI64 (c := y + 1023) (by omega)))) ?_ (by assumption) (by decide +kernel) (by decide +kernel) (by decide +kernel) (fun _ _ _ _ h => h) rfl rfl rfl
      refine H_pure (i := 6) rfl (PureV.toS (P_move rfl)) ?_ (by assumption) (by decide +kernel) (by decide +kernel) (by decide +kernel) (fun _ _ _ _ h => h) rfl rfl rfl
      refine H_pure (i := 7) rfl (PureV.toS (P_nilCheck rfl)) ?_ (by assumption) (by decide +kernel) (by decide +kernel) (by decide +kernel) (fun _ _ _ _ h => h) rfl rfl rfl
      refine H_pure (i := 8) rfl (PureV.toS (P_fieldAddr fo_208_1 rfl)) ?_ (by assumption) (by decide +kernel) (by decide +kernel) (by decide +kernel) (fun _ _ _ _ h => h) rfl rfl rfl
      refine H_pure (i := 9) rfl (PS_load sc_74 rfl (fun _ h => hi1 _ (hm5.no h))) ?_ (by assumption) (by decide +kernel) (by decide +kernel) (by decide +kernel) (fun _ _ _ _ h => h) rfl rfl rfl
      refine H_pure (i := 10) rfl (PureV.toS (P_shl rfl rfl (by decide) (c := 2048) (by decide))) ?_ (by assumption) (by decide +kernel) (by decide +kernel) (by decide +kernel) (fun _ _ _ _ h => h) rfl rfl rfl
      refine H_pure (i := 11) rfl (PureV.toS (P_sub rfl rfl (wI64 (c := 2047) (by omega)))) ?_ (by assumption) (by decide +kernel) (by decide +kernel) (by decide +kernel) (fun _ _ _ _ h => h) rfl rfl rfl
      refine H_pure (i := 12) rfl (PureV.toS (P_ge rfl rfl (decide_eq_true (by omega)))) ?_ (by assumption) (by decide +kernel) (by decide +kernel) (by decide +kernel) (fun _ _ _ _ h => h) rfl rfl rfl
      refine H_done (by decide +kernel) ?_
      refine then_n ?_
      refine C_true rfl ?_
      refine C_goto ?_
      refine then_g ?_
      refine jump_g ?_
      exact ⟨⟨G, hG.no hH⟩, hm5.no hH, .inr ⟨rfl, (.cons rfl (.cons rfl (.nil _))), hfb5⟩⟩
    rw [if_neg hov] at hfb5
    refine C_seq ?_
    refine C_seq ?_
    refine C_drawQ 13 mixed rfl (fun hH => ?_)
    refine H_pure (i := 0) rfl (PureV.toS (P_move rfl)) ?_ (by assumption) (by decide +kernel) (by decide +kernel) (by decide +kernel) (fun _ _ _ _ h => h) rfl rfl rfl
    refine H_pure (i := 1) rfl (PureV.toS (P_move rfl)) ?_ (by assumption) (by decide +kernel) (by decide +kernel) (by decide +kernel) (fun _ _ _ _ h => h) rfl rfl rfl
    refine H_pure (i := 2) rfl (PureV.toS (P_nilCheck rfl)) ?_ (by assumption) (by decide +kernel) (by decide +kernel) (by decide +kernel) (fun _ _ _ _ h => h) rfl rfl rfl
    refine H_pure (i := 3) rfl (PureV.toS (P_fieldAddr fo_208_2 rfl)) ?_ (by assumption) (by decide +kernel) (by decide +kernel) (by decide +kernel) (fun _ _ _ _ h => h) rfl rfl rfl
    refine H_pure (i := 4) rfl (PS_load sc_3 rfl (fun _ h => hi2 _ (hm5.no h))) ?_ (by assumption) (by decide +kernel) (by decide +kernel) (by decide +kernel) (fun _ _ _ _ h => h) rfl rfl rfl
    refine H_pure (i := 5) rfl (PureV.toS (P_sub rfl rfl (wI64 (c := y + 1023) (by omega)))) ?_ (by assumption) (by decide +kernel) (by decide +kernel) (by decide +kernel) (fun _ _ _ _ h => h) rfl rfl rfl
    refine H_pure (i := 6) rfl (PureV.toS (P_move rfl)) ?_ (by assumption) (by decide +kernel) (by decide +kernel) (by decide +kernel) (fun _ _ _ _ h => h) rfl rfl rfl
    refine H_pure (i := 7) rfl (PureV.toS (P_nilCheck rfl)) ?_ (by assumption) (by decide +kernel) (by decide +kernel) (by decide +kernel) (fun _ _ _ _ h => h) rfl rfl rfl
    refine H_pure (i := 8) rfl (PureV.toS (P_fieldAddr fo_208_1 rfl)) ?_ (by assumption) (by decide +kernel) (by decide +kernel) (by decide +kernel) (fun _ _ _ _ h => h) rfl rfl rfl
    refine H_pure (i := 9) rfl (PS_load sc_74 rfl (fun _ h => hi1 _ (hm5.no h))) ?_ (by assumption) (by decide +kernel) (by decide +kernel) (by decide +kernel) (fun _ _ _ _ h => h) rfl rfl rfl
    refine H_pure (i := 10) rfl (PureV.toS (P_shl rfl rfl (by decide) (c := 2048) (by decide))) ?_ (by assumption) (by decide +kernel) (by decide +kernel) (by decide +kernel) (fun _ _ _ _ h => h) rfl rfl rfl
    refine H_pure (i := 11) rfl (PureV.toS (P_sub rfl rfl (wI64 (c := 2047) (by omega)))) ?_ (by assumption) (by decide +kernel) (by decide +kernel) (by decide +kernel) (fun _ _ _ _ h => h) rfl rfl rfl
    refine H_pure (i := 12) rfl (PureV.toS (P_ge rfl rfl (decide_eq_false (by omega)))) ?_ (by assumption) (by decide +kernel) (by decide +kernel) (by decide +kernel) (fun _ _ _ _ h => h) rfl rfl rfl
    refine H_done (by decide +kernel) ?_
    refine then_n ?_
    refine C_false rfl ?_
    refine C_skip ?_
    refine then_n ?_
    refine C_seq ?_
    have hm6 := hm5.no hH
    have hG6 := hG.no hH
    have hS := shiftL_ret ((hvb.mv hm6).vr) hG6 hwG (k := 53) (by omega) (by omega) (by omega)
    obtain ⟨_, a1, a2, a3, a4⟩ := lsF_wf (k := 53) (by omega) (by omega) hwG
    have hrl := riF_lt (lsF 53 G)
    have hRo : ∀ w', DB w' b (lsF 53 G) → Ret Tryz.prog 185 [.pointer (some ⟨b, 0, none⟩)] w' fun v w'' => v = .int .u64 (riF (lsF 53 G) : Int) ∧ w' = w'' := fun w' h => rounded_ret h a1 (by omega)
    generalize lsF 53 G = H at *
    generalize riF H = m at *
    refine C_region ?_
    refine L (S (P_move rfl) ?_)
    refine L (S (P_move rfl) ?_)
    refine L (S (P_nilCheck rfl) ?_)
    refine L (S (P_fieldAddr fo_208_0 rfl) ?_)
    refine L (S_load sc_74 rfl (hi0 _ hm6) ?_)
    refine L (S (P_add rfl rfl (wU64 (c := 53) (by omega))) ?_)
    refine L (S (P_conv Tryz.underlying74 Tryz.underlying3 rfl (wI64 (c := 53) (by omega))) ?_)
    refine L (S_call cb_184 rfl (hS) ?_)
    rintro _ w7 ⟨hD7, hm7⟩
    refine L_nil ?_
    refine then_n ?_
    refine C_seq ?_
    refine C_region ?_
    refine L (S (P_move rfl) ?_)
    refine L (S_call cb_185 rfl ((hRo _ hD7)) ?_)
    rintro _ _ ⟨rfl, rfl⟩
    refine L (S (P_assign rfl) ?_)
    refine L_nil ?_
    refine then_n ?_
    refine C_seq ?_
    refine C_seq ?_
    have hm8 := hm6.trans hm7 fun _ _ h => h
    clear hS hRo
    by_cases h53 : m = 9007199254740992
    · subst h53
      rw [if_pos rfl] at hfb5
      by_cases hov2 : 2047 ≤ y + 1 + 1023
      · rw [if_pos hov2] at hfb5
        refine C_region ?_
        refine L (S (P_move rfl) ?_)
        refine L (S (P_move rfl) ?_)
        refine L (S (P_nilCheck rfl) ?_)
        refine L (S (P_fieldAddr fo_208_0 rfl) ?_)
        refine L (S_load sc_74 rfl (hi0 _ hm8) ?_)
        refine L (S (P_shl rfl rfl (by decide) (shlU64 (a := 2) (s := 52) rfl (by omega) (c := 9007199254740992) (by decide) (by decide))) ?_)
        refine L (S (P_eq rfl rfl (decide_eq_true rfl)) ?_)
        refine L_nil ?_
        refine then_n ?_
        refine C_true rfl ?_
        refine C_seq ?_
        refine C_region ?_
        refine L (S (P_move rfl) ?_)
        refine L (S (P_shr rfl rfl (by decide) (shrU64 (s := 1) rfl (by omega) (c := 4503599627370496) (by decide))) ?_)
        refine L (S (P_assign rfl) ?_)
        refine L_nil ?_
        refine then_n ?_
        refine C_seq ?_
        refine C_region ?_
        refine L (S (P_move rfl) ?_)
        refine L (S (P_add rfl rfl (wI64 (c := y + 1) (by omega))) ?_)
        refine L (S (P_assign rfl) ?_)
        refine L_nil ?_
        refine then_n ?_
        refine C_seq ?_
        refine C_drawQ 13 mixed rfl (fun hH => ?_)
        refine H_pure (i := 0) rfl (PureV.toS (P_move rfl)) ?_ (by assumption) (by decide +kernel) (by decide +kernel) (by decide +kernel) (fun _ _ _ _ h => h) rfl rfl rfl
        refine H_pure (i := 1) rfl (PureV.toS (P_move rfl)) ?_ (by assumption) (by decide +kernel) (by decide +kernel) (by decide +kernel) (fun _ _ _ _ h => h) rfl rfl rfl
        refine H_pure (i := 2) rfl (PureV.toS (P_nilCheck rfl)) ?_ (by assumption) (by decide +kernel) (by decide +kernel) (by decide +kernel) (fun _ _ _ _ h => h) rfl rfl rfl
        refine H_pure (i := 3) rfl (PureV.toS (P_fieldAddr fo_208_2 rfl)) ?_ (by assumption) (by decide +kernel) (by decide +kernel) (by decide +kernel) (fun _ _ _ _ h => h) rfl rfl rfl
        refine H_pure (i := 4) rfl (PS_load sc_3 rfl (fun _ h => hi2 _ (hm8.no h))) ?_ (by assumption) (by decide +kernel) (by decide +kernel) (by decide +kernel) (fun _ _ _ _ h => h) rfl rfl rfl
        refine H_pure (i := 5) rfl (PureV.toS (P_sub rfl rfl (wI64 (c := y + 1 + 1023) (by omega)))) ?_ (by assumption) (by decide +kernel) (by decide +kernel) (by decide +kernel) (fun _ _ _ _ h => h) rfl rfl rfl
        refine H_pure (i := 6) rfl (PureV.toS (P_move rfl)) ?_ (by assumption) (by decide +kernel) (by decide +kernel) (by decide +kernel) (fun _ _ _ _ h => h) rfl rfl rfl
        refine H_pure (i := 7) rfl (PureV.toS (P_nilCheck rfl)) ?_ (by assumption) (by decide +kernel) (by decide +kernel) (by decide +kernel) (fun _ _ _ _ h => h) rfl rfl rfl
        refine H_pure (i := 8) rfl (PureV.toS (P_fieldAddr fo_208_1 rfl)) ?_ (by assumption) (by decide +kernel) (by decide +kernel) (by decide +kernel) (fun _ _ _ _ h => h) rfl rfl rfl
        refine H_pure (i := 9) rfl (PS_load sc_74 rfl (fun _ h => hi1 _ (hm8.no h))) ?_ (by assumption) (by decide +kernel) (by decide +kernel) (by decide +kernel) (fun _ _ _ _ h => h) rfl rfl rfl
        refine H_pure (i := 10) rfl (PureV.toS (P_shl rfl rfl (by decide) (c := 2048) (by decide))) ?_ (by assumption) (by decide +kernel) (by decide +kernel) (by decide +kernel) (fun _ _ _ _ h => h) rfl rfl rfl
        refine H_pure (i := 11) rfl (PureV.toS (P_sub rfl rfl (wI64 (c := 2047) (by omega)))) ?_ (by assumption) (by decide +kernel) (by decide +kernel) (by decide +kernel) (fun _ _ _ _ h => h) rfl rfl rfl
        refine H_pure (i := 12) rfl (PureV.toS (P_ge rfl rfl (decide_eq_true (by omega)))) ?_ (by assumption) (by decide +kernel) (by decide +kernel) (by decide +kernel) (fun _ _ _ _ h => h) rfl rfl rfl
        refine H_done (by decide +kernel) ?_
        refine then_n ?_
        refine C_true rfl ?_
        refine C_goto ?_
        refine then_g ?_
        refine jump_g ?_
        exact ⟨⟨H, hD7.no hH⟩, hm8.no hH, .inr ⟨rfl, (.cons rfl (.cons rfl (.nil _))), hfb5⟩⟩
      · rw [if_neg hov2] at hfb5
        refine C_region ?_
        refine L (S (P_move rfl) ?_)
        refine L (S (P_move rfl) ?_)
        refine L (S (P_nilCheck rfl) ?_)
        refine L (S (P_fieldAddr fo_208_0 rfl) ?_)
        refine L (S_load sc_74 rfl (hi0 _ hm8) ?_)
        refine L (S (P_shl rfl rfl (by decide) (shlU64 (a := 2) (s := 52) rfl (by omega) (c := 9007199254740992) (by decide) (by decide))) ?_)
        refine L (S (P_eq rfl rfl (decide_eq_true rfl)) ?_)
        refine L_nil ?_
        refine then_n ?_
        refine C_true rfl ?_
        refine C_seq ?_
        refine C_region ?_
        refine L (S (P_move rfl) ?_)
        refine L (S (P_shr rfl rfl (by decide) (shrU64 (s := 1) rfl (by omega) (c := 4503599627370496) (by decide))) ?_)
        refine L (S (P_assign rfl) ?_)
        refine L_nil ?_
        refine then_n ?_
        refine C_seq ?_
        refine C_region ?_
        refine L (S (P_move rfl) ?_)
        refine L (S (P_add rfl rfl (wI64 (c := y + 1) (by omega))) ?_)
        refine L (S (P_assign rfl) ?_)
        refine L_nil ?_
        refine then_n ?_
        refine C_seq ?_
        refine C_drawQ 13 mixed rfl (fun hH => ?_)
        refine H_pure (i := 0) rfl (PureV.toS (P_move rfl)) ?_ (by assumption) (by decide +kernel) (by decide +kernel) (by decide +kernel) (fun _ _ _ _ h => h) rfl rfl rfl
        refine H_pure (i := 1) rfl (PureV.toS (P_move rfl)) ?_ (by assumption) (by decide +kernel) (by decide +kernel) (by decide +kernel) (fun _ _ _ _ h => h) rfl rfl rfl
        refine H_pure (i := 2) rfl (PureV.toS (P_nilCheck rfl)) ?_ (by assumption) (by decide +kernel) (by decide +kernel) (by decide +kernel) (fun _ _ _ _ h => h) rfl rfl rfl
        refine H_pure (i := 3) rfl (PureV.toS (P_fieldAddr fo_208_2 rfl)) ?_ (by assumption) (by decide +kernel) (by decide +kernel) (by decide +kernel) (fun _ _ _ _ h => h) rfl rfl rfl
        refine H_pure (i := 4) rfl (PS_load sc_3 rfl (fun _ h => hi2 _ (hm8.no h))) ?_ (by assumption) (by decide +kernel) (by decide +kernel) (by decide +kernel) (fun _ _ _ _ h => h) rfl rfl rfl
        refine H_pure (i := 5) rfl (PureV.toS (P_sub rfl rfl (wI64 (c := y + 1 + 1023) (by omega)))) ?_ (by assumption) (by decide +kernel) (by decide +kernel) (by decide +kernel) (fun _ _ _ _ h => h) rfl rfl rfl
        refine H_pure (i := 6) rfl (PureV.toS (P_move rfl)) ?_ (by assumption) (by decide +kernel) (by decide +kernel) (by decide +kernel) (fun _ _ _ _ h => h) rfl rfl rfl
        refine H_pure (i := 7) rfl (PureV.toS (P_nilCheck rfl)) ?_ (by assumption) (by decide +kernel) (by decide +kernel) (by decide +kernel) (fun _ _ _ _ h => h) rfl rfl rfl
        refine H_pure (i := 8) rfl (PureV.toS (P_fieldAddr fo_208_1 rfl)) ?_ (by assumption) (by decide +kernel) (by decide +kernel) (by decide +kernel) (fun _ _ _ _ h => h) rfl rfl rfl
        refine H_pure (i := 9) rfl (PS_load sc_74 rfl (fun _ h => hi1 _ (hm8.no h))) ?_ (by assumption) (by decide +kernel) (by decide +kernel) (by decide +kernel) (fun _ _ _ _ h => h) rfl rfl rfl
        refine H_pure (i := 10) rfl (PureV.toS (P_shl rfl rfl (by decide) (c := 2048) (by decide))) ?_ (by assumption) (by decide +kernel) (by decide +kernel) (by decide +kernel) (fun _ _ _ _ h => h) rfl rfl rfl
        refine H_pure (i := 11) rfl (PureV.toS (P_sub rfl rfl (wI64 (c := 2047) (by omega)))) ?_ (by assumption) (by decide +kernel) (by decide +kernel) (by decide +kernel) (fun _ _ _ _ h => h) rfl rfl rfl
        refine H_pure (i := 12) rfl (PureV.toS (P_ge rfl rfl (decide_eq_false (by omega)))) ?_ (by assumption) (by decide +kernel) (by decide +kernel) (by decide +kernel) (fun _ _ _ _ h => h) rfl rfl rfl
        refine H_done (by decide +kernel) ?_
        refine then_n ?_
        refine C_false rfl ?_
        refine C_skip ?_
        refine then_n ?_
        refine C_seq ?_
        refine C_seq ?_
        have hm9 := hm8.no hH
        refine C_region ?_
        refine L (S (P_move rfl) ?_)
        refine L (S (P_move rfl) ?_)
        refine L (S (P_nilCheck rfl) ?_)
        refine L (S (P_fieldAddr fo_208_0 rfl) ?_)
        refine L (S_load sc_74 rfl (hi0 _ hm9) ?_)
        refine L (S (P_shl rfl rfl (by decide) (shlU64 (a := 1) (s := 52) rfl (by omega) (c := 4503599627370496) (by decide) (by decide))) ?_)
        refine L (S (P_and rfl rfl (c := 4503599627370496) (by decide)) ?_)
        refine L (S (P_eq rfl rfl (decide_eq_false (by decide))) ?_)
        refine L_nil ?_
        refine then_n ?_
        refine C_false rfl ?_
        refine C_skip ?_
        refine then_n ?_
        refine C_seq ?_
        refine C_goto ?_
        refine then_g ?_
        refine jump_g ?_
        exact ⟨⟨H, hD7.no hH⟩, hm9, .inl ⟨rfl, 4503599627370496, y + 1, (.cons rfl (.cons rfl (.cons rfl (.cons rfl (.cons rfl (.nil _)))))), by omega, by omega, by omega, hfb5.symm⟩⟩
    · rw [if_neg h53] at hfb5
      have hap : m &&& 4503599627370496 = if m.testBit 52 = true then 4503599627370496 else 0 := by
        have := and_pow (m := m) (k := 52)
        rw [show (2 : Nat) ^ 52 = 4503599627370496 by decide] at this
        exact this
      by_cases htb : m.testBit 52 = true
      · rw [if_pos htb] at hfb5 hap
        refine C_region ?_
        refine L (S (P_move rfl) ?_)
        refine L (S (P_move rfl) ?_)
        refine L (S (P_nilCheck rfl) ?_)
        refine L (S (P_fieldAddr fo_208_0 rfl) ?_)
        refine L (S_load sc_74 rfl (hi0 _ hm8) ?_)
        refine L (S (P_shl rfl rfl (by decide) (shlU64 (a := 2) (s := 52) rfl (by omega) (c := 9007199254740992) (by decide) (by decide))) ?_)
        refine L (S (P_eq rfl rfl (decide_eq_false (by omega))) ?_)
        refine L_nil ?_
        refine then_n ?_
        refine C_false rfl ?_
        refine C_skip ?_
        refine then_n ?_
        refine C_seq ?_
        refine C_seq ?_
        refine C_region ?_
        refine L (S (P_move rfl) ?_)
        refine L (S (P_move rfl) ?_)
        refine L (S (P_nilCheck rfl) ?_)
        refine L (S (P_fieldAddr fo_208_0 rfl) ?_)
        refine L (S_load sc_74 rfl (hi0 _ hm8) ?_)
        refine L (S (P_shl rfl rfl (by decide) (shlU64 (a := 1) (s := 52) rfl (by omega) (c := 4503599627370496) (by decide) (by decide))) ?_)
        refine L (S (P_and rfl rfl (andU64 (b := 4503599627370496) hrl (by decide) (c := 4503599627370496) (by rw [hap]; rfl))) ?_)
        refine L (S (P_eq rfl rfl (decide_eq_false (by decide))) ?_)
        refine L_nil ?_
        refine then_n ?_
        refine C_false rfl ?_
        refine C_skip ?_
        refine then_n ?_
        refine C_seq ?_
        refine C_goto ?_
        refine then_g ?_
        refine jump_g ?_
        exact ⟨⟨H, hD7⟩, hm8, .inl ⟨rfl, m, y, (.cons rfl (.cons rfl (.cons rfl (.cons rfl (.cons rfl (.nil _)))))), hrl, by omega, by omega, hfb5.symm⟩⟩
      · rw [if_neg htb] at hfb5 hap
        refine C_region ?_
        refine L (S (P_move rfl) ?_)
        refine L (S (P_move rfl) ?_)
        refine L (S (P_nilCheck rfl) ?_)
        refine L (S (P_fieldAddr fo_208_0 rfl) ?_)
        refine L (S_load sc_74 rfl (hi0 _ hm8) ?_)
        refine L (S (P_shl rfl rfl (by decide) (shlU64 (a := 2) (s := 52) rfl (by omega) (c := 9007199254740992) (by decide) (by decide))) ?_)
        refine L (S (P_eq rfl rfl (decide_eq_false (by omega))) ?_)
        refine L_nil ?_
        refine then_n ?_
        refine C_false rfl ?_
        refine C_skip ?_
        refine then_n ?_
        refine C_seq ?_
        refine C_seq ?_
        refine C_region ?_
        refine L (S (P_move rfl) ?_)
        refine L (S (P_move rfl) ?_)
        refine L (S (P_nilCheck rfl) ?_)
        refine L (S (P_fieldAddr fo_208_0 rfl) ?_)
        refine L (S_load sc_74 rfl (hi0 _ hm8) ?_)
        refine L (S (P_shl rfl rfl (by decide) (shlU64 (a := 1) (s := 52) rfl (by omega) (c := 4503599627370496) (by decide) (by decide))) ?_)
        refine L (S (P_and rfl rfl (andU64 (b := 4503599627370496) hrl (by decide) (c := 0) (by rw [hap]; rfl))) ?_)
        refine L (S (P_eq rfl rfl (decide_eq_true (by decide))) ?_)
        refine L_nil ?_
        refine then_n ?_
        refine C_true rfl ?_
        refine C_region ?_
        refine L (S (P_move rfl) ?_)
        refine L (S (P_nilCheck rfl) ?_)
        refine L (S (P_fieldAddr fo_208_2 rfl) ?_)
        refine L (S_load sc_3 rfl (hi2 _ hm8) ?_)
        refine L (S (P_assign rfl) ?_)
        refine L_nil ?_
        refine then_n ?_
        refine C_seq ?_
        refine C_goto ?_
        refine then_g ?_
        refine jump_g ?_
        exact ⟨⟨H, hD7⟩, hm8, .inl ⟨rfl, m, -1023, (.cons rfl (.cons rfl (.cons rfl (.cons rfl (.cons rfl (.nil _)))))), hrl, by omega, by omega, hfb5.symm⟩⟩
  · rintro l f w' ⟨⟨E, hE⟩, hm, ⟨rfl, m, e, hs, hm64, he1, he2, hres⟩ | ⟨rfl, hs, hres⟩⟩
    · refine C_forget hs ?_
      clear hs
      have hng := hE.c_ng
      rw [← hres]
      obtain ⟨x, hx⟩ : ∃ x : Nat, e + 1023 = (x : Int) := ⟨(e + 1023).toNat, by omega⟩
      have hxt : (e + 1023).toNat = x := by omega
      unfold outF
      rw [hxt]
      have hor : (m % 4503599627370496) ||| (x * 4503599627370496) = x * 4503599627370496 + m % 4503599627370496 := by
        have := Nat.two_pow_add_eq_or_of_lt (i := 52) (b := m % 4503599627370496) (by simp; omega) x
        rw [Nat.or_comm, Nat.mul_comm]
        exact this.symm
      refine C_seq ?_
      refine C_skip ?_
      refine then_n ?_
      refine C_seq ?_
      refine C_region ?_
      refine L (S (P_move rfl) ?_)
      refine L (S (P_move rfl) ?_)
      refine L (S (P_nilCheck rfl) ?_)
      refine L (S (P_fieldAddr fo_208_0 rfl) ?_)
      refine L (S_load sc_74 rfl (hi0 _ hm) ?_)
      refine L (S (P_shl rfl rfl (by decide) (shlU64 (a := 1) (s := 52) rfl (by omega) rfl (by decide))) ?_)
      refine L (S (P_sub rfl rfl (wU64 (c := ((4503599627370495 : Nat) : Int)) (by omega))) ?_)
      refine L (S (P_and rfl rfl (andU64 (b := 4503599627370495) (by omega) (by omega) (c := ((m % 4503599627370496 : Nat) : Int)) (by rw [Nat.and_two_pow_sub_one_eq_mod m 52]))) ?_)
      refine L (S (P_assign rfl) ?_)
      refine L_nil ?_
      refine then_n ?_
      refine C_seq ?_
      refine C_drawQ 22 mixed rfl (fun hH => ?_)
      refine H_pure (i := 0) rfl (PureV.toS (P_move rfl)) ?_ (by assumption) (by decide +kernel) (by decide +kernel) (by decide +kernel) (fun _ _ _ _ h => h) rfl rfl rfl
      refine H_pure (i := 1) rfl (PureV.toS (P_move rfl)) ?_ (by assumption) (by decide +kernel) (by decide +kernel) (by decide +kernel) (fun _ _ _ _ h => h) rfl rfl rfl
      refine H_pure (i := 2) rfl (PureV.toS (P_move rfl)) ?_ (by assumption) (by decide +kernel) (by decide +kernel) (by decide +kernel) (fun _ _ _ _ h => h) rfl rfl rfl
      refine H_pure (i := 3) rfl (PureV.toS (P_nilCheck rfl)) ?_ (by assumption) (by decide +kernel) (by decide +kernel) (by decide +kernel) (fun _ _ _ _ h => h) rfl rfl rfl
      refine H_pure (i := 4) rfl (PureV.toS (P_fieldAddr fo_208_2 rfl)) ?_ (by assumption) (by decide +kernel) (by decide +kernel) (by decide +kernel) (fun _ _ _ _ h => h) rfl rfl rfl
      refine H_pure (i := 5) rfl (PS_load sc_3 rfl (fun _ h => hi2 _ (hm.no h))) ?_ (by assumption) (by decide +kernel) (by decide +kernel) (by decide +kernel) (fun _ _ _ _ h => h) rfl rfl rfl
      refine H_pure (i := 6) rfl (PureV.toS (P_sub rfl rfl (wI64 (c := (x : Int)) (by omega)))) ?_ (by assumption) (by decide +kernel) (by decide +kernel) (by decide +kernel) (fun _ _ _ _ h => h) rfl rfl rfl
      refine H_pure (i := 7) rfl (PureV.toS (P_move rfl)) ?_ (by assumption) (by decide +kernel) (by decide +kernel) (by decide +kernel) (fun _ _ _ _ h => h) rfl rfl rfl
      refine H_pure (i := 8) rfl (PureV.toS (P_nilCheck rfl)) ?_ (by assumption) (by decide +kernel) (by decide +kernel) (by decide +kernel) (fun _ _ _ _ h => h) rfl rfl rfl
      refine H_pure (i := 9) rfl (PureV.toS (P_fieldAddr fo_208_1 rfl)) ?_ (by assumption) (by decide +kernel) (by decide +kernel) (by decide +kernel) (fun _ _ _ _ h => h) rfl rfl rfl
      refine H_pure (i := 10) rfl (PS_load sc_74 rfl (fun _ h => hi1 _ (hm.no h))) ?_ (by assumption) (by decide +kernel) (by decide +kernel) (by decide +kernel) (fun _ _ _ _ h => h) rfl rfl rfl
      refine H_pure (i := 11) rfl (PureV.toS (P_shl rfl rfl (by decide) (c := 2048) (by decide))) ?_ (by assumption) (by decide +kernel) (by decide +kernel) (by decide +kernel) (fun _ _ _ _ h => h) rfl rfl rfl
      refine H_pure (i := 12) rfl (PureV.toS (P_sub rfl rfl (wI64 (c := 2047) (by omega)))) ?_ (by assumption) (by decide +kernel) (by decide +kernel) (by decide +kernel) (fun _ _ _ _ h => h) rfl rfl rfl
      refine H_pure (i := 13) rfl (PureV.toS (P_and rfl rfl (and2047 (by omega)))) ?_ (by assumption) (by decide +kernel) (by decide +kernel) (by decide +kernel) (fun _ _ _ _ h => h) rfl rfl rfl
      refine H_pure (i := 14) rfl (PureV.toS (P_conv Tryz.underlying3 Tryz.underlying131 rfl (wU64 ⟨rfl, by omega, by omega⟩))) ?_ (by assumption) (by decide +kernel) (by decide +kernel) (by decide +kernel) (fun _ _ _ _ h => h) rfl rfl rfl
      refine H_pure (i := 15) rfl (PureV.toS (P_move rfl)) ?_ (by assumption) (by decide +kernel) (by decide +kernel) (by decide +kernel) (fun _ _ _ _ h => h) rfl rfl rfl
      refine H_pure (i := 16) rfl (PureV.toS (P_nilCheck rfl)) ?_ (by assumption) (by decide +kernel) (by decide +kernel) (by decide +kernel) (fun _ _ _ _ h => h) rfl rfl rfl
      refine H_pure (i := 17) rfl (PureV.toS (P_fieldAddr fo_208_0 rfl)) ?_ (by assumption) (by decide +kernel) (by decide +kernel) (by decide +kernel) (fun _ _ _ _ h => h) rfl rfl rfl
      refine H_pure (i := 18) rfl (PS_load sc_74 rfl (fun _ h => hi0 _ (hm.no h))) ?_ (by assumption) (by decide +kernel) (by decide +kernel) (by decide +kernel) (fun _ _ _ _ h => h) rfl rfl rfl
      refine H_pure (i := 19) rfl (PureV.toS (P_shl rfl rfl (by decide) (shlU64 (a := x) (s := 52) rfl (by omega) rfl (by omega)))) ?_ (by assumption) (by decide +kernel) (by decide +kernel) (by decide +kernel) (fun _ _ _ _ h => h) rfl rfl rfl
      refine H_pure (i := 20) rfl (PureV.toS (P_or rfl rfl (orU64 (by omega) (by omega) (c := ((x * 4503599627370496 + m % 4503599627370496 : Nat) : Int)) (by rw [← hor])))) ?_ (by assumption) (by decide +kernel) (by decide +kernel) (by decide +kernel) (fun _ _ _ _ h => h) rfl rfl rfl
      refine H_pure (i := 21) rfl (PureV.toS (P_assign rfl)) ?_ (by assumption) (by decide +kernel) (by decide +kernel) (by decide +kernel) (fun _ _ _ _ h => h) rfl rfl rfl
      refine H_done (by decide +kernel) ?_
      refine then_n ?_
      refine C_seq ?_
      refine C_seq ?_
      refine C_region ?_
      refine L (S (P_move rfl) ?_)
      refine L (S (P_nilCheck rfl) ?_)
      refine L (S (P_fieldAddr fo_217_3 rfl) ?_)
      refine L (S_load sc_4 rfl (hE.no hH).c_ng ?_)
      refine L_nil ?_
      refine then_n ?_
      refine C_false rfl ?_
      refine C_skip ?_
      refine then_n ?_
      refine C_seq ?_
      refine C_region ?_
      refine L (S (P_move rfl) ?_)
      refine L (S (P_move rfl) ?_)
      refine L (S (P_assign rfl) ?_)
      refine L (S (P_assign rfl) ?_)
      refine L_nil ?_
      refine then_n ?_
      refine C_ret ?_
      refine scope_r ?_
      refine F_ret2 Tryz.results165 rfl rfl ?_
      exact ⟨rfl, hm.no hH⟩
    · refine C_forget hs ?_
      clear hs
      have hng := hE.c_ng
      rw [hres]
      unfold ovf
      refine C_seq ?_
      refine C_skip ?_
      refine then_n ?_
      refine C_seq ?_
      refine C_region ?_
      refine L (S (P_assign rfl) ?_)
      refine L_nil ?_
      refine then_n ?_
      refine C_seq ?_
      refine C_drawQ 12 mixed rfl (fun hH => ?_)
      refine H_pure (i := 0) rfl (PureV.toS (P_move rfl)) ?_ (by assumption) (by decide +kernel) (by decide +kernel) (by decide +kernel) (fun _ _ _ _ h => h) rfl rfl rfl
      refine H_pure (i := 1) rfl (PureV.toS (P_nilCheck rfl)) ?_ (by assumption) (by decide +kernel) (by decide +kernel) (by decide +kernel) (fun _ _ _ _ h => h) rfl rfl rfl
      refine H_pure (i := 2) rfl (PureV.toS (P_fieldAddr fo_208_1 rfl)) ?_ (by assumption) (by decide +kernel) (by decide +kernel) (by decide +kernel) (fun _ _ _ _ h => h) rfl rfl rfl
      refine H_pure (i := 3) rfl (PS_load sc_74 rfl (fun _ h => hi1 _ (hm.no h))) ?_ (by assumption) (by decide +kernel) (by decide +kernel) (by decide +kernel) (fun _ _ _ _ h => h) rfl rfl rfl
      refine H_pure (i := 4) rfl (PureV.toS (P_shl rfl rfl (by decide) (c := 2048) (by decide))) ?_ (by assumption) (by decide +kernel) (by decide +kernel) (by decide +kernel) (fun _ _ _ _ h => h) rfl rfl rfl
      refine H_pure (i := 5) rfl (PureV.toS (P_sub rfl rfl (wI64 (c := 2047) (by omega)))) ?_ (by assumption) (by decide +kernel) (by decide +kernel) (by decide +kernel) (fun _ _ _ _ h => h) rfl rfl rfl
      refine H_pure (i := 6) rfl (PureV.toS (P_move rfl)) ?_ (by assumption) (by decide +kernel) (by decide +kernel) (by decide +kernel) (fun _ _ _ _ h => h) rfl rfl rfl
      refine H_pure (i := 7) rfl (PureV.toS (P_nilCheck rfl)) ?_ (by assumption) (by decide +kernel) (by decide +kernel) (by decide +kernel) (fun _ _ _ _ h => h) rfl rfl rfl
      refine H_pure (i := 8) rfl (PureV.toS (P_fieldAddr fo_208_2 rfl)) ?_ (by assumption) (by decide +kernel) (by decide +kernel) (by decide +kernel) (fun _ _ _ _ h => h) rfl rfl rfl
      refine H_pure (i := 9) rfl (PS_load sc_3 rfl (fun _ h => hi2 _ (hm.no h))) ?_ (by assumption) (by decide +kernel) (by decide +kernel) (by decide +kernel) (fun _ _ _ _ h => h) rfl rfl rfl
      refine H_pure (i := 10) rfl (PureV.toS (P_add rfl rfl (wI64 (c := 1024) (by omega)))) ?_ (by assumption) (by decide +kernel) (by decide +kernel) (by decide +kernel) (fun _ _ _ _ h => h) rfl rfl rfl
      refine H_pure (i := 11) rfl (PureV.toS (P_assign rfl)) ?_ (by assumption) (by decide +kernel) (by decide +kernel) (by decide +kernel) (fun _ _ _ _ h => h) rfl rfl rfl
      refine H_done (by decide +kernel) ?_
      refine then_n ?_
      refine C_seq ?_
      refine C_region ?_
      refine L (S (P_assign rfl) ?_)
      refine L_nil ?_
      refine then_n ?_
      refine C_seq ?_
      refine C_label ?_
      refine then_n ?_
      refine C_seq ?_
      have hm2 := hm.no hH
      have hE2 := hE.no hH
      refine C_region ?_
      refine L (S (P_move rfl) ?_)
      refine L (S (P_move rfl) ?_)
      refine L (S (P_nilCheck rfl) ?_)
      refine L (S (P_fieldAddr fo_208_0 rfl) ?_)
      refine L (S_load sc_74 rfl (hi0 _ hm2) ?_)
      refine L (S (P_shl rfl rfl (by decide) (shlU64 (a := 1) (s := 52) rfl (by omega) rfl (by decide))) ?_)
      refine L (S (P_sub rfl rfl (wU64 (c := ((4503599627370495 : Nat) : Int)) (by omega))) ?_)
      refine L (S (P_and rfl rfl (andU64 (a := 0) (b := 4503599627370495) (by omega) (by omega) (c := 0) (by decide))) ?_)
      refine L (S (P_assign rfl) ?_)
      refine L_nil ?_
      refine then_n ?_
      refine C_seq ?_
      refine C_drawQ 22 mixed rfl (fun hH => ?_)
      refine H_pure (i := 0) rfl (PureV.toS (P_move rfl)) ?_ (by assumption) (by decide +kernel) (by decide +kernel) (by decide +kernel) (fun _ _ _ _ h => h) rfl rfl rfl
      refine H_pure (i := 1) rfl (PureV.toS (P_move rfl)) ?_ (by assumption) (by decide +kernel) (by decide +kernel) (by decide +kernel) (fun _ _ _ _ h => h) rfl rfl rfl
      refine H_pure (i := 2) rfl (PureV.toS (P_move rfl)) ?_ (by assumption) (by decide +kernel) (by decide +kernel) (by decide +kernel) (fun _ _ _ _ h => h) rfl rfl rfl
      refine H_pure (i := 3) rfl (PureV.toS (P_nilCheck rfl)) ?_ (by assumption) (by decide +kernel) (by decide +kernel) (by decide +kernel) (fun _ _ _ _ h => h) rfl rfl rfl
      refine H_pure (i := 4) rfl (PureV.toS (P_fieldAddr fo_208_2 rfl)) ?_ (by assumption) (by decide +kernel) (by decide +kernel) (by decide +kernel) (fun _ _ _ _ h => h) rfl rfl rfl
      refine H_pure (i := 5) rfl (PS_load sc_3 rfl (fun _ h => hi2 _ (hm2.no h))) ?_ (by assumption) (by decide +kernel) (by decide +kernel) (by decide +kernel) (fun _ _ _ _ h => h) rfl rfl rfl
      refine H_pure (i := 6) rfl (PureV.toS (P_sub rfl rfl (wI64 (c := ((2047 : Nat) : Int)) (by omega)))) ?_ (by assumption) (by decide +kernel) (by decide +kernel) (by decide +kernel) (fun _ _ _ _ h => h) rfl rfl rfl
      refine H_pure (i := 7) rfl (PureV.toS (P_move rfl)) ?_ (by assumption) (by decide +kernel) (by decide +kernel) (by decide +kernel) (fun _ _ _ _ h => h) rfl rfl rfl
      refine H_pure (i := 8) rfl (PureV.toS (P_nilCheck rfl)) ?_ (by assumption) (by decide +kernel) (by decide +kernel) (by decide +kernel) (fun _ _ _ _ h => h) rfl rfl rfl
      refine H_pure (i := 9) rfl (PureV.toS (P_fieldAddr fo_208_1 rfl)) ?_ (by assumption) (by decide +kernel) (by decide +kernel) (by decide +kernel) (fun _ _ _ _ h => h) rfl rfl rfl
      refine H_pure (i := 10) rfl (PS_load sc_74 rfl (fun _ h => hi1 _ (hm2.no h))) ?_ (by assumption) (by decide +kernel) (by decide +kernel) (by decide +kernel) (fun _ _ _ _ h => h) rfl rfl rfl
      refine H_pure (i := 11) rfl (PureV.toS (P_shl rfl rfl (by decide) (c := 2048) (by decide))) ?_ (by assumption) (by decide +kernel) (by decide +kernel) (by decide +kernel) (fun _ _ _ _ h => h) rfl rfl rfl
      refine H_pure (i := 12) rfl (PureV.toS (P_sub rfl rfl (wI64 (c := 2047) (by omega)))) ?_ (by assumption) (by decide +kernel) (by decide +kernel) (by decide +kernel) (fun _ _ _ _ h => h) rfl rfl rfl
      refine H_pure (i := 13) rfl (PureV.toS (P_and rfl rfl (and2047 (by omega)))) ?_ (by assumption) (by decide +kernel) (by decide +kernel) (by decide +kernel) (fun _ _ _ _ h => h) rfl rfl rfl
      refine H_pure (i := 14) rfl (PureV.toS (P_conv Tryz.underlying3 Tryz.underlying131 rfl (wU64 ⟨rfl, by omega, by omega⟩))) ?_ (by assumption) (by decide +kernel) (by decide +kernel) (by decide +kernel) (fun _ _ _ _ h => h) rfl rfl rfl
      refine H_pure (i := 15) rfl (PureV.toS (P_move rfl)) ?_ (by assumption) (by decide +kernel) (by decide +kernel) (by decide +kernel) (fun _ _ _ _ h => h) rfl rfl rfl
      refine H_pure (i := 16) rfl (PureV.toS (P_nilCheck rfl)) ?_ (by assumption) (by decide +kernel) (by decide +kernel) (by decide +kernel) (fun _ _ _ _ h => h) rfl rfl rfl
      refine H_pure (i := 17) rfl (PureV.toS (P_fieldAddr fo_208_0 rfl)) ?_ (by assumption) (by decide +kernel) (by decide +kernel) (by decide +kernel) (fun _ _ _ _ h => h) rfl rfl rfl
      refine H_pure (i := 18) rfl (PS_load sc_74 rfl (fun _ h => hi0 _ (hm2.no h))) ?_ (by assumption) (by decide +kernel) (by decide +kernel) (by decide +kernel) (fun _ _ _ _ h => h) rfl rfl rfl
      refine H_pure (i := 19) rfl (PureV.toS (P_shl rfl rfl (by decide) (shlU64 (a := 2047) (s := 52) rfl (by omega) rfl (by decide)))) ?_ (by assumption) (by decide +kernel) (by decide +kernel) (by decide +kernel) (fun _ _ _ _ h => h) rfl rfl rfl
      refine H_pure (i := 20) rfl (PureV.toS (P_or rfl rfl (orU64 (a := 0) (by omega) (by decide) (c := 9218868437227405312) (by decide)))) ?_ (by assumption) (by decide +kernel) (by decide +kernel) (by decide +kernel) (fun _ _ _ _ h => h) rfl rfl rfl
      refine H_pure (i := 21) rfl (PureV.toS (P_assign rfl)) ?_ (by assumption) (by decide +kernel) (by decide +kernel) (by decide +kernel) (fun _ _ _ _ h => h) rfl rfl rfl
      refine H_done (by decide +kernel) ?_
      refine then_n ?_
      refine C_seq ?_
      refine C_seq ?_
      refine C_region ?_
      refine L (S (P_move rfl) ?_)
      refine L (S (P_nilCheck rfl) ?_)
      refine L (S (P_fieldAddr fo_217_3 rfl) ?_)
      refine L (S_load sc_4 rfl (hE2.no hH).c_ng ?_)
      refine L_nil ?_
      refine then_n ?_
      refine C_false rfl ?_
      refine C_skip ?_
      refine then_n ?_
      refine C_seq ?_
      refine C_region ?_
      refine L (S (P_move rfl) ?_)
      refine L (S (P_move rfl) ?_)
      refine L (S (P_assign rfl) ?_)
      refine L (S (P_assign rfl) ?_)
      refine L_nil ?_
      refine then_n ?_
      refine C_ret ?_
      refine scope_r ?_
      refine F_ret2 Tryz.results165 rfl rfl ?_
      exact ⟨rfl, hm2.no hH⟩
end
end Go.Proofs.YtnoioimphcmeiaaGreatDoor
