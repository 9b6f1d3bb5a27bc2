import Derived.Test.YtnoioimphcmeiaaGreatDoorFWf
namespace Go.Proofs.YtnoioimphcmeiaaGreatDoor
open Go.RowKit
set_option maxRecDepth 20000
set_option maxHeartbeats 1000000

def srF : Nat → Nat → Dc → Dc
  | 0, m, D => rsF m D
  | f + 1, m, D => if m ≤ 60 then rsF m D else srF f (m - 60) (rsF 60 D)
theorem srF_wf : ∀ f m D, Wf D → 1 ≤ m → m ≤ 60 * (f + 1) → Wf (srF f m D) ∧ (srF f m D).dp ≤ D.dp ∧ D.dp - 15 * (m : Int) - 860 ≤ (srF f m D).dp ∧ (m ≤ 60 → (srF f m D).dp = D.dp → dg (srF f m D) 0 = dg D 0 / 2 ^ m ∧ 2 ^ m ≤ dg D 0)
  | 0, m, D, h, h1, h2 => by
    obtain ⟨a1, a2, a3, a4⟩ := rsF_wf h1 (by omega) h
    exact ⟨a1, a3, by show _ ≤ (rsF m D).dp; omega, fun _ => a4⟩
  | f + 1, m, D, h, h1, h2 => by
    have e : srF (f + 1) m D = if m ≤ 60 then rsF m D else srF f (m - 60) (rsF 60 D) := rfl
    rw [e]
    by_cases hm : m ≤ 60
    · rw [if_pos hm]
      obtain ⟨a1, a2, a3, a4⟩ := rsF_wf h1 hm h
      exact ⟨a1, a3, by omega, fun _ => a4⟩
    · rw [if_neg hm]
      obtain ⟨a1, a2, a3, a4⟩ := rsF_wf (k := 60) (by omega) (by omega) h
      obtain ⟨b1, b2, b3, b4⟩ := srF_wf f (m - 60) (rsF 60 D) a1 (by omega) (by omega)
      exact ⟨b1, by omega, by omega, fun h => absurd h hm⟩
def shR (m : Nat) (D : Dc) : Dc := srF m m D
theorem i64u64 {n : Nat} {c : Int} (h : n < 18446744073709551616) (hc : c = (n : Int)) : IntKind.u64.wrap c = (n : Int) := by
  subst hc; exact wU64' h

section
variable {w : World}
theorem shiftL_ret (hv : Vr w) {b : Nat} {D : Dc} (hD : DB w b D) (h : Wf D) {k : Nat} (hk1 : 1 ≤ k) (hk : k ≤ 60) (hdp : -90000000 ≤ D.dp ∧ D.dp ≤ 90000000) :
    Ret Tryz.prog 184 [.pointer (some ⟨b, 0, none⟩), .int .i64 (k : Int)] w fun _ w' => DB w' b (lsF k D) ∧ Mv (At b) w w' := by
  have hcn : w.cell? ⟨b, 800, none⟩ = some (.int .i64 (D.nd : Int)) := hD.c_nd
  have h1 := h.n1
  obtain ⟨f1, f2, f3⟩ := dlF_facts hk1 hk h
  have hL := leftShift_ret hv hD hk1 hk h.n8 h.dig (by omega) (lsF_wf hk1 hk h).1 f1
  refine F_enter Tryz.func184 Tryz.ntmps184 rfl rfl ?_
  refine C_block ?_
  refine C_seq ?_
  refine C_region ?_
  refine L (S (P_move rfl) ?_)
  refine L (S (P_nilCheck rfl) ?_)
  refine L (S (P_fieldAddr fo_217_1 rfl) ?_)
  refine L (S_load sc_3 rfl hcn ?_)
  refine L (S (P_eq rfl rfl (decide_eq_false (by omega))) ?_)
  refine L (S (P_assign rfl) ?_)
  refine L_nil ?_
  refine then_n ?_
  refine C_false rfl ?_
  refine C_seq ?_
  refine C_region ?_
  refine L (S (P_move rfl) ?_)
  refine L (S (P_gt rfl rfl (decide_eq_true (by omega))) ?_)
  refine L (S (P_assign rfl) ?_)
  refine L_nil ?_
  refine then_n ?_
  refine C_true rfl ?_
  refine C_seq ?_
  refine C_block ?_
  refine C_loop (γ := Unit) (fun _ => [(0, .pointer (some ⟨b, 0, none⟩)), (1, .int .i64 (k : Int))]) (fun _ wr => wr = w) (fun _ => 0) () (.cons rfl (.cons rfl (.nil _))) rfl ?_
  rintro _ wr rfl
  refine C_seq ?_
  refine C_seq ?_
  refine C_region ?_
  refine L (S (P_move rfl) ?_)
  refine L (S (P_gt rfl rfl (decide_eq_false (by omega))) ?_)
  refine L_nil ?_
  refine then_n ?_
  refine C_false rfl ?_
  refine C_exit ?_
  refine then_x ?_
  refine then_x ?_
  refine blk_x ?_
  refine then_n ?_
  refine C_region ?_
  refine L (S (P_move rfl) ?_)
  refine L (S (P_move rfl) ?_)
  refine L (S (P_conv Tryz.underlying3 Tryz.underlying74 rfl (i64u64 (by omega) rfl)) ?_)
  refine L (S_call cb_189 rfl (hL) ?_)
  rintro _ w2 ⟨hD2, hm2⟩
  refine L_nil ?_
  refine blk_n ?_
  refine F_end0 Tryz.results184 ?_
  exact ⟨hD2, hm2⟩
theorem shiftR_ret {b : Nat} {D : Dc} (hD : DB w b D) (h : Wf D) {m : Nat} (hm1 : 1 ≤ m) (hm : m ≤ 600000) (hdp : -10000000 ≤ D.dp ∧ D.dp ≤ 10000000) {km : Int} (hkm : km = -(m : Int)) :
    Ret Tryz.prog 184 [.pointer (some ⟨b, 0, none⟩), .int .i64 km] w fun _ w' => DB w' b (shR m D) ∧ Mv (At b) w w' := by
  subst hkm
  have hcn : w.cell? ⟨b, 800, none⟩ = some (.int .i64 (D.nd : Int)) := hD.c_nd
  have h1 := h.n1
  unfold shR
  refine F_enter Tryz.func184 Tryz.ntmps184 rfl rfl ?_
  refine C_block ?_
  refine C_seq ?_
  refine C_region ?_
  refine L (S (P_move rfl) ?_)
  refine L (S (P_nilCheck rfl) ?_)
  refine L (S (P_fieldAddr fo_217_1 rfl) ?_)
  refine L (S_load sc_3 rfl hcn ?_)
  refine L (S (P_eq rfl rfl (decide_eq_false (by omega))) ?_)
  refine L (S (P_assign rfl) ?_)
  refine L_nil ?_
  refine then_n ?_
  refine C_false rfl ?_
  refine C_seq ?_
  refine C_region ?_
  refine L (S (P_move rfl) ?_)
  refine L (S (P_gt rfl rfl (decide_eq_false (by omega))) ?_)
  refine L (S (P_assign rfl) ?_)
  refine L_nil ?_
  refine then_n ?_
  refine C_false rfl ?_
  refine C_seq ?_
  refine C_region ?_
  refine L (S (P_move rfl) ?_)
  refine L (S (P_lt rfl rfl (decide_eq_true (by omega))) ?_)
  refine L (S (P_assign rfl) ?_)
  refine L_nil ?_
  refine then_n ?_
  refine C_true rfl ?_
  refine C_seq ?_
  refine C_block ?_
  refine C_loop (γ := Nat × Nat × Dc) (fun q => [(0, .pointer (some ⟨b, 0, none⟩)), (1, .int .i64 (-(q.2.1 : Int)))]) (fun q wr => DB wr b q.2.2 ∧ Mv (At b) w wr ∧ Wf q.2.2 ∧ 1 ≤ q.2.1 ∧ q.2.1 ≤ m ∧ q.2.1 ≤ 60 * (q.1 + 1) ∧ q.2.2.dp ≤ D.dp ∧ D.dp - 15 * ((m : Int) - (q.2.1 : Int)) ≤ q.2.2.dp ∧ srF q.1 q.2.1 q.2.2 = srF m m D) (fun q => q.1) (m, m, D) (.cons rfl (.cons rfl (.nil _))) ⟨hD, Mv.refl w, h, hm1, Nat.le_refl _, by dsimp only; omega, Int.le_refl _, by dsimp only; omega, rfl⟩ ?_
  rintro ⟨f, x, E⟩ wr ⟨hE, hmr, hw, hx1, hxm, hxf, hdp1, hdp2, hsr⟩
  dsimp only at hE hw hx1 hxm hxf hdp1 hdp2 hsr
  dsimp only
  by_cases hx : x ≤ 60
  · have hend : srF f x E = rsF x E := by
      cases f with
      | zero => rfl
      | succ f => show (if _ then _ else _) = _; rw [if_pos hx]
    rw [← hsr, hend]
    have hR := rightShift_ret hE hx1 hx hw.n8 hw.n1 hw.dig hw.hd (by omega)
    refine C_seq ?_
    refine C_seq ?_
    refine C_region ?_
    refine L (S (P_move rfl) ?_)
    refine L (S (P_lt rfl rfl (decide_eq_false (by omega))) ?_)
    refine L_nil ?_
    refine then_n ?_
    refine C_false rfl ?_
    refine C_exit ?_
    refine then_x ?_
    refine then_x ?_
    refine blk_x ?_
    refine then_n ?_
    refine C_region ?_
    refine L (S (P_move rfl) ?_)
    refine L (S (P_move rfl) ?_)
    refine L (S (P_neg rfl (wI64 (c := (x : Int)) (by omega))) ?_)
    refine L (S (P_conv Tryz.underlying3 Tryz.underlying74 rfl (i64u64 (by omega) rfl)) ?_)
    refine L (S_call cb_190 rfl (hR) ?_)
    rintro _ w2 ⟨hD2, hm2⟩
    refine L_nil ?_
    refine blk_n ?_
    refine F_end0 Tryz.results184 ?_
    exact ⟨hD2, hmr.trans hm2 fun _ _ h => h⟩
  · obtain ⟨g, rfl⟩ : ∃ g, f = g + 1 := ⟨f - 1, by omega⟩
    have hstep : srF g (x - 60) (rsF 60 E) = srF m m D := by
      rw [← hsr]
      show _ = if _ then _ else _
      rw [if_neg hx]
    obtain ⟨a1, a2, a3, a4⟩ := rsF_wf (k := 60) (by omega) (by omega) hw
    have hR := rightShift_ret (k := 60) hE (by omega) (by omega) hw.n8 hw.n1 hw.dig hw.hd (by omega)
    refine C_seq ?_
    refine C_seq ?_
    refine C_region ?_
    refine L (S (P_move rfl) ?_)
    refine L (S (P_lt rfl rfl (decide_eq_true (by omega))) ?_)
    refine L_nil ?_
    refine then_n ?_
    refine C_true rfl ?_
    refine C_skip ?_
    refine then_n ?_
    refine C_block ?_
    refine C_seq ?_
    refine C_region ?_
    refine L (S (P_move rfl) ?_)
    refine L (S_call cb_190 rfl (hR) ?_)
    rintro _ w2 ⟨hD2, hm2⟩
    refine L_nil ?_
    refine then_n ?_
    refine C_region ?_
    refine L (S (P_move rfl) ?_)
    refine L (S (P_add rfl rfl (wI64 (c := -((x - 60 : Nat) : Int)) (by omega))) ?_)
    refine L (S (P_assign rfl) ?_)
    refine L_nil ?_
    refine blk_n ?_
    refine then_n ?_
    exact ⟨rfl, (g, x - 60, rsF 60 E), (.cons rfl (.cons rfl (.nil _))), ⟨hD2, hmr.trans hm2 fun _ _ h => h, a1, by dsimp only; omega, by dsimp only; omega, by dsimp only; omega, by dsimp only; omega, by dsimp only; omega, hstep⟩, by dsimp only; omega⟩

def odd8 (c : UInt8) : Bool := decide ((c.toNat - 48) % 2 = 1)
def sruF (D : Dc) (p : Int) : Bool :=
  if p < 0 then false else if (D.nd : Int) ≤ p then false else
  if (D.ds[p.toNat]?.getD 48).toNat = 53 then
    if p.toNat + 1 = D.nd then
      if D.tr = true then true else if 0 < p then odd8 (D.ds[p.toNat - 1]?.getD 48) else false
    else true
  else decide (53 ≤ (D.ds[p.toNat]?.getD 48).toNat)
theorem odd8_eq (c : UInt8) (h : 48 ≤ c.toNat) : decide ((((c.toNat - 48) % 2 : Nat) : Int) ≠ 0) = odd8 c := by
  unfold odd8
  by_cases h1 : (c.toNat - 48) % 2 = 1
  · rw [h1]; decide
  · rw [show (c.toNat - 48) % 2 = 0 by omega]; decide
theorem sru_ret {b : Nat} {D : Dc} (hD : DB w b D) (h : Wf D) (p : Int) (hp : -90000000 ≤ p ∧ p ≤ 90000000) : Ret Tryz.prog 191 [.pointer (some ⟨b, 0, none⟩), .int .i64 p] w fun v w' => v = .bool (sruF D p) ∧ w = w' := by
  have hcn : w.cell? ⟨b, 800, none⟩ = some (.int .i64 (D.nd : Int)) := hD.c_nd
  have hct : w.cell? ⟨b, 803, none⟩ = some (.bool D.tr) := hD.c_tr
  have h8 := h.n8
  unfold sruF
  refine F_enter Tryz.func191 Tryz.ntmps191 rfl rfl ?_
  by_cases hp0 : p < 0
  · rw [if_pos hp0]
    refine C_seq ?_
    refine C_region ?_
    refine L (S (P_assign rfl) ?_)
    refine L_nil ?_
    refine then_n ?_
    refine C_seq ?_
    refine C_seq ?_
    refine C_region ?_
    refine L (S (P_move rfl) ?_)
    refine L (S (P_lt rfl rfl (decide_eq_true (by omega))) ?_)
    refine L (S (P_move rfl) ?_)
    refine L_no (j := 2) (dj := 7) (b := false) (b' := true) (d := 8) rfl ?_
    refine L_no (j := 2) (dj := 7) (b := false) (b' := true) (d := 9) rfl ?_
    refine L_no (j := 2) (dj := 7) (b := false) (b' := true) (d := 10) rfl ?_
    refine L_no (j := 2) (dj := 7) (b := false) (b' := true) (d := 11) rfl ?_
    refine L_no (j := 2) (dj := 7) (b := false) (b' := true) (d := 12) rfl ?_
    refine L_no (j := 2) (dj := 7) (b := false) (b' := true) (d := 13) rfl ?_
    refine L (S (P_pickT rfl rfl) ?_)
    refine L_nil ?_
    refine then_n ?_
    refine C_true rfl ?_
    refine C_seq ?_
    refine C_region ?_
    refine L (S (P_assign rfl) ?_)
    refine L_nil ?_
    refine then_n ?_
    refine C_ret ?_
    refine then_r ?_
    refine F_ret1 Tryz.results191 rfl ?_
    exact ⟨rfl, rfl⟩
  · rw [if_neg hp0]
    by_cases hpn : (D.nd : Int) ≤ p
    · rw [if_pos hpn]
      refine C_seq ?_
      refine C_region ?_
      refine L (S (P_assign rfl) ?_)
      refine L_nil ?_
      refine then_n ?_
      refine C_seq ?_
      refine C_seq ?_
      refine C_region ?_
      refine L (S (P_move rfl) ?_)
      refine L (S (P_lt rfl rfl (decide_eq_false (by omega))) ?_)
      refine L (S (P_move rfl) ?_)
      refine L_yes (j := 2) (dj := 7) (b := false) (S (P_move rfl) ?_) rfl
      refine L_yes (j := 2) (dj := 7) (b := false) (S (P_move rfl) ?_) rfl
      refine L_yes (j := 2) (dj := 7) (b := false) (S (P_nilCheck rfl) ?_) rfl
      refine L_yes (j := 2) (dj := 7) (b := false) (S (P_fieldAddr fo_217_1 rfl) ?_) rfl
      refine L_yes (j := 2) (dj := 7) (b := false) (S_load sc_3 rfl hcn ?_) rfl
      refine L_yes (j := 2) (dj := 7) (b := false) (S (P_ge rfl rfl (decide_eq_true (by omega))) ?_) rfl
      refine L (S (P_pickF rfl rfl) ?_)
      refine L_nil ?_
      refine then_n ?_
      refine C_true rfl ?_
      refine C_seq ?_
      refine C_region ?_
      refine L (S (P_assign rfl) ?_)
      refine L_nil ?_
      refine then_n ?_
      refine C_ret ?_
      refine then_r ?_
      refine F_ret1 Tryz.results191 rfl ?_
      exact ⟨rfl, rfl⟩
    · rw [if_neg hpn]
      obtain ⟨i, rfl⟩ : ∃ i : Nat, p = (i : Int) := ⟨p.toNat, by omega⟩
      rw [Int.toNat_natCast]
      obtain ⟨c, hc, hc1, hc2⟩ := h.dig i (by omega)
      rw [hc, Option.getD_some]
      by_cases h53 : c.toNat = 53
      · rw [if_pos h53]
        by_cases hi : i + 1 = D.nd
        · rw [if_pos hi]
          cases htr : D.tr with
          | true =>
            rw [htr] at hct
            rw [if_pos rfl]
            refine C_seq ?_
            refine C_region ?_
            refine L (S (P_assign rfl) ?_)
            refine L_nil ?_
            refine then_n ?_
            refine C_seq ?_
            refine C_seq ?_
            refine C_region ?_
            refine L (S (P_move rfl) ?_)
            refine L (S (P_lt rfl rfl (decide_eq_false (by omega))) ?_)
            refine L (S (P_move rfl) ?_)
            refine L_yes (j := 2) (dj := 7) (b := false) (S (P_move rfl) ?_) rfl
            refine L_yes (j := 2) (dj := 7) (b := false) (S (P_move rfl) ?_) rfl
            refine L_yes (j := 2) (dj := 7) (b := false) (S (P_nilCheck rfl) ?_) rfl
            refine L_yes (j := 2) (dj := 7) (b := false) (S (P_fieldAddr fo_217_1 rfl) ?_) rfl
            refine L_yes (j := 2) (dj := 7) (b := false) (S_load sc_3 rfl hcn ?_) rfl
            refine L_yes (j := 2) (dj := 7) (b := false) (S (P_ge rfl rfl (decide_eq_false (by omega))) ?_) rfl
            refine L (S (P_pickF rfl rfl) ?_)
            refine L_nil ?_
            refine then_n ?_
            refine C_false rfl ?_
            refine C_skip ?_
            refine then_n ?_
            refine C_seq ?_
            refine C_seq ?_
            refine C_region ?_
            refine L (S (P_move rfl) ?_)
            refine L (S (P_move rfl) ?_)
            refine L (S (P_nilCheck rfl) ?_)
            refine L (S (P_fieldAddr fo_217_0 rfl) ?_)
            refine L (S (P_indexAddrA Tryz.underlying215 (csz_of ti_5) rfl rfl (j := i) rfl (by omega) (q := i) (by omega)) ?_)
            refine L (S_load sc_5 rfl (hD.c_dig hc) ?_)
            refine L (S (P_eq rfl rfl (decide_eq_true (by omega))) ?_)
            refine L (S (P_move rfl) ?_)
            refine L_yes (j := 7) (dj := 22) (b := true) (S (P_move rfl) ?_) rfl
            refine L_yes (j := 7) (dj := 22) (b := true) (S (P_add rfl rfl (wI64 (c := ((i + 1 : Nat) : Int)) (by omega))) ?_) rfl
            refine L_yes (j := 7) (dj := 22) (b := true) (S (P_move rfl) ?_) rfl
            refine L_yes (j := 7) (dj := 22) (b := true) (S (P_nilCheck rfl) ?_) rfl
            refine L_yes (j := 7) (dj := 22) (b := true) (S (P_fieldAddr fo_217_1 rfl) ?_) rfl
            refine L_yes (j := 7) (dj := 22) (b := true) (S_load sc_3 rfl hcn ?_) rfl
            refine L_yes (j := 7) (dj := 22) (b := true) (S (P_eq rfl rfl (decide_eq_true (by omega))) ?_) rfl
            refine L (S (P_pickT rfl rfl) ?_)
            refine L_nil ?_
            refine then_n ?_
            refine C_true rfl ?_
            refine C_seq ?_
            refine C_seq ?_
            refine C_region ?_
            refine L (S (P_move rfl) ?_)
            refine L (S (P_nilCheck rfl) ?_)
            refine L (S (P_fieldAddr fo_217_4 rfl) ?_)
            refine L (S_load sc_4 rfl hct ?_)
            refine L_nil ?_
            refine then_n ?_
            refine C_true rfl ?_
            refine C_seq ?_
            refine C_region ?_
            refine L (S (P_assign rfl) ?_)
            refine L_nil ?_
            refine then_n ?_
            refine C_ret ?_
            refine then_r ?_
            refine then_r ?_
            refine F_ret1 Tryz.results191 rfl ?_
            exact ⟨rfl, rfl⟩
          | false =>
            rw [htr] at hct
            rw [if_neg (by decide)]
            by_cases hi0 : 0 < i
            · rw [if_pos (by omega)]
              obtain ⟨d, hd, hd1, hd2⟩ := h.dig (i - 1) (by omega)
              rw [hd, Option.getD_some]
              refine C_seq ?_
              refine C_region ?_
              refine L (S (P_assign rfl) ?_)
              refine L_nil ?_
              refine then_n ?_
              refine C_seq ?_
              refine C_seq ?_
              refine C_region ?_
              refine L (S (P_move rfl) ?_)
              refine L (S (P_lt rfl rfl (decide_eq_false (by omega))) ?_)
              refine L (S (P_move rfl) ?_)
              refine L_yes (j := 2) (dj := 7) (b := false) (S (P_move rfl) ?_) rfl
              refine L_yes (j := 2) (dj := 7) (b := false) (S (P_move rfl) ?_) rfl
              refine L_yes (j := 2) (dj := 7) (b := false) (S (P_nilCheck rfl) ?_) rfl
              refine L_yes (j := 2) (dj := 7) (b := false) (S (P_fieldAddr fo_217_1 rfl) ?_) rfl
              refine L_yes (j := 2) (dj := 7) (b := false) (S_load sc_3 rfl hcn ?_) rfl
              refine L_yes (j := 2) (dj := 7) (b := false) (S (P_ge rfl rfl (decide_eq_false (by omega))) ?_) rfl
              refine L (S (P_pickF rfl rfl) ?_)
              refine L_nil ?_
              refine then_n ?_
              refine C_false rfl ?_
              refine C_skip ?_
              refine then_n ?_
              refine C_seq ?_
              refine C_seq ?_
              refine C_region ?_
              refine L (S (P_move rfl) ?_)
              refine L (S (P_move rfl) ?_)
              refine L (S (P_nilCheck rfl) ?_)
              refine L (S (P_fieldAddr fo_217_0 rfl) ?_)
              refine L (S (P_indexAddrA Tryz.underlying215 (csz_of ti_5) rfl rfl (j := i) rfl (by omega) (q := i) (by omega)) ?_)
              refine L (S_load sc_5 rfl (hD.c_dig hc) ?_)
              refine L (S (P_eq rfl rfl (decide_eq_true (by omega))) ?_)
              refine L (S (P_move rfl) ?_)
              refine L_yes (j := 7) (dj := 22) (b := true) (S (P_move rfl) ?_) rfl
              refine L_yes (j := 7) (dj := 22) (b := true) (S (P_add rfl rfl (wI64 (c := ((i + 1 : Nat) : Int)) (by omega))) ?_) rfl
              refine L_yes (j := 7) (dj := 22) (b := true) (S (P_move rfl) ?_) rfl
              refine L_yes (j := 7) (dj := 22) (b := true) (S (P_nilCheck rfl) ?_) rfl
              refine L_yes (j := 7) (dj := 22) (b := true) (S (P_fieldAddr fo_217_1 rfl) ?_) rfl
              refine L_yes (j := 7) (dj := 22) (b := true) (S_load sc_3 rfl hcn ?_) rfl
              refine L_yes (j := 7) (dj := 22) (b := true) (S (P_eq rfl rfl (decide_eq_true (by omega))) ?_) rfl
              refine L (S (P_pickT rfl rfl) ?_)
              refine L_nil ?_
              refine then_n ?_
              refine C_true rfl ?_
              refine C_seq ?_
              refine C_seq ?_
              refine C_region ?_
              refine L (S (P_move rfl) ?_)
              refine L (S (P_nilCheck rfl) ?_)
              refine L (S (P_fieldAddr fo_217_4 rfl) ?_)
              refine L (S_load sc_4 rfl hct ?_)
              refine L_nil ?_
              refine then_n ?_
              refine C_false rfl ?_
              refine C_skip ?_
              refine then_n ?_
              refine C_seq ?_
              refine C_region ?_
              refine L (S (P_move rfl) ?_)
              refine L (S (P_gt rfl rfl (decide_eq_true (by omega))) ?_)
              refine L (S (P_move rfl) ?_)
              refine L_yes (j := 2) (dj := 37) (b := true) (S (P_move rfl) ?_) rfl
              refine L_yes (j := 2) (dj := 37) (b := true) (S (P_move rfl) ?_) rfl
              refine L_yes (j := 2) (dj := 37) (b := true) (S (P_sub rfl rfl (wI64 (c := ((i - 1 : Nat) : Int)) (by omega))) ?_) rfl
              refine L_yes (j := 2) (dj := 37) (b := true) (S (P_nilCheck rfl) ?_) rfl
              refine L_yes (j := 2) (dj := 37) (b := true) (S (P_fieldAddr fo_217_0 rfl) ?_) rfl
              refine L_yes (j := 2) (dj := 37) (b := true) (S (P_indexAddrA Tryz.underlying215 (csz_of ti_5) rfl rfl (j := i - 1) rfl (by omega) (q := i - 1) (by omega)) ?_) rfl
              refine L_yes (j := 2) (dj := 37) (b := true) (S_load sc_5 rfl (hD.c_dig hd) ?_) rfl
              refine L_yes (j := 2) (dj := 37) (b := true) (S (P_sub rfl rfl (wU8 (c := ((d.toNat - 48 : Nat) : Int)) (by omega))) ?_) rfl
              refine L_yes (j := 2) (dj := 37) (b := true) (S (P_rem rfl rfl (by decide) (c := (((d.toNat - 48) % 2 : Nat) : Int)) rfl) ?_) rfl
              refine L_yes (j := 2) (dj := 37) (b := true) (S (P_ne rfl rfl (odd8_eq d hd1)) ?_) rfl
              refine L (S (P_pickT rfl rfl) ?_)
              refine L (S (P_assign rfl) ?_)
              refine L_nil ?_
              refine then_n ?_
              refine C_ret ?_
              refine then_r ?_
              refine F_ret1 Tryz.results191 rfl ?_
              exact ⟨rfl, rfl⟩
            · rw [if_neg (by omega)]
              refine C_seq ?_
              refine C_region ?_
              refine L (S (P_assign rfl) ?_)
              refine L_nil ?_
              refine then_n ?_
              refine C_seq ?_
              refine C_seq ?_
              refine C_region ?_
              refine L (S (P_move rfl) ?_)
              refine L (S (P_lt rfl rfl (decide_eq_false (by omega))) ?_)
              refine L (S (P_move rfl) ?_)
              refine L_yes (j := 2) (dj := 7) (b := false) (S (P_move rfl) ?_) rfl
              refine L_yes (j := 2) (dj := 7) (b := false) (S (P_move rfl) ?_) rfl
              refine L_yes (j := 2) (dj := 7) (b := false) (S (P_nilCheck rfl) ?_) rfl
              refine L_yes (j := 2) (dj := 7) (b := false) (S (P_fieldAddr fo_217_1 rfl) ?_) rfl
              refine L_yes (j := 2) (dj := 7) (b := false) (S_load sc_3 rfl hcn ?_) rfl
              refine L_yes (j := 2) (dj := 7) (b := false) (S (P_ge rfl rfl (decide_eq_false (by omega))) ?_) rfl
              refine L (S (P_pickF rfl rfl) ?_)
              refine L_nil ?_
              refine then_n ?_
              refine C_false rfl ?_
              refine C_skip ?_
              refine then_n ?_
              refine C_seq ?_
              refine C_seq ?_
              refine C_region ?_
              refine L (S (P_move rfl) ?_)
              refine L (S (P_move rfl) ?_)
              refine L (S (P_nilCheck rfl) ?_)
              refine L (S (P_fieldAddr fo_217_0 rfl) ?_)
              refine L (S (P_indexAddrA Tryz.underlying215 (csz_of ti_5) rfl rfl (j := i) rfl (by omega) (q := i) (by omega)) ?_)
              refine L (S_load sc_5 rfl (hD.c_dig hc) ?_)
              refine L (S (P_eq rfl rfl (decide_eq_true (by omega))) ?_)
              refine L (S (P_move rfl) ?_)
              refine L_yes (j := 7) (dj := 22) (b := true) (S (P_move rfl) ?_) rfl
              refine L_yes (j := 7) (dj := 22) (b := true) (S (P_add rfl rfl (wI64 (c := ((i + 1 : Nat) : Int)) (by omega))) ?_) rfl
              refine L_yes (j := 7) (dj := 22) (b := true) (S (P_move rfl) ?_) rfl
              refine L_yes (j := 7) (dj := 22) (b := true) (S (P_nilCheck rfl) ?_) rfl
              refine L_yes (j := 7) (dj := 22) (b := true) (S (P_fieldAddr fo_217_1 rfl) ?_) rfl
              refine L_yes (j := 7) (dj := 22) (b := true) (S_load sc_3 rfl hcn ?_) rfl
              refine L_yes (j := 7) (dj := 22) (b := true) (S (P_eq rfl rfl (decide_eq_true (by omega))) ?_) rfl
              refine L (S (P_pickT rfl rfl) ?_)
              refine L_nil ?_
              refine then_n ?_
              refine C_true rfl ?_
              refine C_seq ?_
              refine C_seq ?_
              refine C_region ?_
              refine L (S (P_move rfl) ?_)
              refine L (S (P_nilCheck rfl) ?_)
              refine L (S (P_fieldAddr fo_217_4 rfl) ?_)
              refine L (S_load sc_4 rfl hct ?_)
              refine L_nil ?_
              refine then_n ?_
              refine C_false rfl ?_
              refine C_skip ?_
              refine then_n ?_
              refine C_seq ?_
              refine C_region ?_
              refine L (S (P_move rfl) ?_)
              refine L (S (P_gt rfl rfl (decide_eq_false (by omega))) ?_)
              refine L (S (P_move rfl) ?_)
              refine L_no (j := 2) (dj := 37) (b := true) (b' := false) (d := 38) rfl ?_
              refine L_no (j := 2) (dj := 37) (b := true) (b' := false) (d := 39) rfl ?_
              refine L_no (j := 2) (dj := 37) (b := true) (b' := false) (d := 40) rfl ?_
              refine L_no (j := 2) (dj := 37) (b := true) (b' := false) (d := 41) rfl ?_
              refine L_no (j := 2) (dj := 37) (b := true) (b' := false) (d := 42) rfl ?_
              refine L_no (j := 2) (dj := 37) (b := true) (b' := false) (d := 43) rfl ?_
              refine L_no (j := 2) (dj := 37) (b := true) (b' := false) (d := 44) rfl ?_
              refine L_no (j := 2) (dj := 37) (b := true) (b' := false) (d := 45) rfl ?_
              refine L_no (j := 2) (dj := 37) (b := true) (b' := false) (d := 46) rfl ?_
              refine L_no (j := 2) (dj := 37) (b := true) (b' := false) (d := 47) rfl ?_
              refine L (S (P_pickF rfl rfl) ?_)
              refine L (S (P_assign rfl) ?_)
              refine L_nil ?_
              refine then_n ?_
              refine C_ret ?_
              refine then_r ?_
              refine F_ret1 Tryz.results191 rfl ?_
              exact ⟨rfl, rfl⟩
        · rw [if_neg hi]
          refine C_seq ?_
          refine C_region ?_
          refine L (S (P_assign rfl) ?_)
          refine L_nil ?_
          refine then_n ?_
          refine C_seq ?_
          refine C_seq ?_
          refine C_region ?_
          refine L (S (P_move rfl) ?_)
          refine L (S (P_lt rfl rfl (decide_eq_false (by omega))) ?_)
          refine L (S (P_move rfl) ?_)
          refine L_yes (j := 2) (dj := 7) (b := false) (S (P_move rfl) ?_) rfl
          refine L_yes (j := 2) (dj := 7) (b := false) (S (P_move rfl) ?_) rfl
          refine L_yes (j := 2) (dj := 7) (b := false) (S (P_nilCheck rfl) ?_) rfl
          refine L_yes (j := 2) (dj := 7) (b := false) (S (P_fieldAddr fo_217_1 rfl) ?_) rfl
          refine L_yes (j := 2) (dj := 7) (b := false) (S_load sc_3 rfl hcn ?_) rfl
          refine L_yes (j := 2) (dj := 7) (b := false) (S (P_ge rfl rfl (decide_eq_false (by omega))) ?_) rfl
          refine L (S (P_pickF rfl rfl) ?_)
          refine L_nil ?_
          refine then_n ?_
          refine C_false rfl ?_
          refine C_skip ?_
          refine then_n ?_
          refine C_seq ?_
          refine C_seq ?_
          refine C_region ?_
          refine L (S (P_move rfl) ?_)
          refine L (S (P_move rfl) ?_)
          refine L (S (P_nilCheck rfl) ?_)
          refine L (S (P_fieldAddr fo_217_0 rfl) ?_)
          refine L (S (P_indexAddrA Tryz.underlying215 (csz_of ti_5) rfl rfl (j := i) rfl (by omega) (q := i) (by omega)) ?_)
          refine L (S_load sc_5 rfl (hD.c_dig hc) ?_)
          refine L (S (P_eq rfl rfl (decide_eq_true (by omega))) ?_)
          refine L (S (P_move rfl) ?_)
          refine L_yes (j := 7) (dj := 22) (b := true) (S (P_move rfl) ?_) rfl
          refine L_yes (j := 7) (dj := 22) (b := true) (S (P_add rfl rfl (wI64 (c := ((i + 1 : Nat) : Int)) (by omega))) ?_) rfl
          refine L_yes (j := 7) (dj := 22) (b := true) (S (P_move rfl) ?_) rfl
          refine L_yes (j := 7) (dj := 22) (b := true) (S (P_nilCheck rfl) ?_) rfl
          refine L_yes (j := 7) (dj := 22) (b := true) (S (P_fieldAddr fo_217_1 rfl) ?_) rfl
          refine L_yes (j := 7) (dj := 22) (b := true) (S_load sc_3 rfl hcn ?_) rfl
          refine L_yes (j := 7) (dj := 22) (b := true) (S (P_eq rfl rfl (decide_eq_false (by omega))) ?_) rfl
          refine L (S (P_pickT rfl rfl) ?_)
          refine L_nil ?_
          refine then_n ?_
          refine C_false rfl ?_
          refine C_skip ?_
          refine then_n ?_
          refine C_seq ?_
          refine C_region ?_
          refine L (S (P_move rfl) ?_)
          refine L (S (P_move rfl) ?_)
          refine L (S (P_nilCheck rfl) ?_)
          refine L (S (P_fieldAddr fo_217_0 rfl) ?_)
          refine L (S (P_indexAddrA Tryz.underlying215 (csz_of ti_5) rfl rfl (j := i) rfl (by omega) (q := i) (by omega)) ?_)
          refine L (S_load sc_5 rfl (hD.c_dig hc) ?_)
          refine L (S (P_ge rfl rfl (decide_eq_true (by omega))) ?_)
          refine L (S (P_assign rfl) ?_)
          refine L_nil ?_
          refine then_n ?_
          refine C_ret ?_
          refine F_ret1 Tryz.results191 rfl ?_
          exact ⟨rfl, rfl⟩
      · rw [if_neg h53]
        refine C_seq ?_
        refine C_region ?_
        refine L (S (P_assign rfl) ?_)
        refine L_nil ?_
        refine then_n ?_
        refine C_seq ?_
        refine C_seq ?_
        refine C_region ?_
        refine L (S (P_move rfl) ?_)
        refine L (S (P_lt rfl rfl (decide_eq_false (by omega))) ?_)
        refine L (S (P_move rfl) ?_)
        refine L_yes (j := 2) (dj := 7) (b := false) (S (P_move rfl) ?_) rfl
        refine L_yes (j := 2) (dj := 7) (b := false) (S (P_move rfl) ?_) rfl
        refine L_yes (j := 2) (dj := 7) (b := false) (S (P_nilCheck rfl) ?_) rfl
        refine L_yes (j := 2) (dj := 7) (b := false) (S (P_fieldAddr fo_217_1 rfl) ?_) rfl
        refine L_yes (j := 2) (dj := 7) (b := false) (S_load sc_3 rfl hcn ?_) rfl
        refine L_yes (j := 2) (dj := 7) (b := false) (S (P_ge rfl rfl (decide_eq_false (by omega))) ?_) rfl
        refine L (S (P_pickF rfl rfl) ?_)
        refine L_nil ?_
        refine then_n ?_
        refine C_false rfl ?_
        refine C_skip ?_
        refine then_n ?_
        refine C_seq ?_
        refine C_seq ?_
        refine C_region ?_
        refine L (S (P_move rfl) ?_)
        refine L (S (P_move rfl) ?_)
        refine L (S (P_nilCheck rfl) ?_)
        refine L (S (P_fieldAddr fo_217_0 rfl) ?_)
        refine L (S (P_indexAddrA Tryz.underlying215 (csz_of ti_5) rfl rfl (j := i) rfl (by omega) (q := i) (by omega)) ?_)
        refine L (S_load sc_5 rfl (hD.c_dig hc) ?_)
        refine L (S (P_eq rfl rfl (decide_eq_false (by omega))) ?_)
        refine L (S (P_move rfl) ?_)
        refine L_no (j := 7) (dj := 22) (b := true) (b' := false) (d := 23) rfl ?_
        refine L_no (j := 7) (dj := 22) (b := true) (b' := false) (d := 24) rfl ?_
        refine L_no (j := 7) (dj := 22) (b := true) (b' := false) (d := 25) rfl ?_
        refine L_no (j := 7) (dj := 22) (b := true) (b' := false) (d := 26) rfl ?_
        refine L_no (j := 7) (dj := 22) (b := true) (b' := false) (d := 27) rfl ?_
        refine L_no (j := 7) (dj := 22) (b := true) (b' := false) (d := 28) rfl ?_
        refine L_no (j := 7) (dj := 22) (b := true) (b' := false) (d := 29) rfl ?_
        refine L (S (P_pickF rfl rfl) ?_)
        refine L_nil ?_
        refine then_n ?_
        refine C_false rfl ?_
        refine C_skip ?_
        refine then_n ?_
        refine C_seq ?_
        refine C_region ?_
        refine L (S (P_move rfl) ?_)
        refine L (S (P_move rfl) ?_)
        refine L (S (P_nilCheck rfl) ?_)
        refine L (S (P_fieldAddr fo_217_0 rfl) ?_)
        refine L (S (P_indexAddrA Tryz.underlying215 (csz_of ti_5) rfl rfl (j := i) rfl (by omega) (q := i) (by omega)) ?_)
        refine L (S_load sc_5 rfl (hD.c_dig hc) ?_)
        refine L (S (P_ge rfl rfl (β := decide (53 ≤ c.toNat)) (by simp; omega)) ?_)
        refine L (S (P_assign rfl) ?_)
        refine L_nil ?_
        refine then_n ?_
        refine C_ret ?_
        refine F_ret1 Tryz.results191 rfl ?_
        exact ⟨rfl, rfl⟩
def riF (D : Dc) : Nat :=
  if 20 < D.dp then 18446744073709551615 else
  if sruF D D.dp = true then (pv D (min D.dp.toNat D.nd) * 10 ^ (D.dp.toNat - min D.dp.toNat D.nd) + 1) % 18446744073709551616
  else pv D (min D.dp.toNat D.nd) * 10 ^ (D.dp.toNat - min D.dp.toNat D.nd) % 18446744073709551616
theorem riF_lt (D : Dc) : riF D < 18446744073709551616 := by
  unfold riF
  split
  · decide
  · split <;> exact Nat.mod_lt _ (by decide)
theorem rounded_ret {b : Nat} {D : Dc} (hD : DB w b D) (h : Wf D) (hp : -90000000 ≤ D.dp ∧ D.dp ≤ 90000000) : Ret Tryz.prog 185 [.pointer (some ⟨b, 0, none⟩)] w fun v w' => v = .int .u64 (riF D : Int) ∧ w = w' := by
  have hcn : w.cell? ⟨b, 800, none⟩ = some (.int .i64 (D.nd : Int)) := hD.c_nd
  have hcd : w.cell? ⟨b, 801, none⟩ = some (.int .i64 D.dp) := hD.c_dp
  have hS := sru_ret hD h D.dp hp
  have h8 := h.n8
  unfold riF
  refine F_enter Tryz.func185 Tryz.ntmps185 rfl rfl ?_
  by_cases h20 : 20 < D.dp
  · rw [if_pos h20]
    refine C_seq ?_
    refine C_region ?_
    refine L (S (P_assign rfl) ?_)
    refine L_nil ?_
    refine then_n ?_
    refine C_seq ?_
    refine C_seq ?_
    refine C_region ?_
    refine L (S (P_move rfl) ?_)
    refine L (S (P_nilCheck rfl) ?_)
    refine L (S (P_fieldAddr fo_217_2 rfl) ?_)
    refine L (S_load sc_3 rfl hcd ?_)
    refine L (S (P_gt rfl rfl (decide_eq_true (by omega))) ?_)
    refine L_nil ?_
    refine then_n ?_
    refine C_true rfl ?_
    refine C_seq ?_
    refine C_region ?_
    refine L (S (P_assign rfl) ?_)
    refine L_nil ?_
    refine then_n ?_
    refine C_ret ?_
    refine then_r ?_
    refine F_ret1 Tryz.results185 rfl ?_
    exact ⟨rfl, rfl⟩
  · rw [if_neg h20]
    refine C_seq ?_
    refine C_region ?_
    refine L (S (P_assign rfl) ?_)
    refine L_nil ?_
    refine then_n ?_
    refine C_seq ?_
    refine C_seq ?_
    refine C_region ?_
    refine L (S (P_move rfl) ?_)
    refine L (S (P_nilCheck rfl) ?_)
    refine L (S (P_fieldAddr fo_217_2 rfl) ?_)
    refine L (S_load sc_3 rfl hcd ?_)
    refine L (S (P_gt rfl rfl (decide_eq_false (by omega))) ?_)
    refine L_nil ?_
    refine then_n ?_
    refine C_false rfl ?_
    refine C_skip ?_
    refine then_n ?_
    refine C_seq ?_
    refine C_region ?_
    refine L (S (P_assign rfl) ?_)
    refine L_nil ?_
    refine then_n ?_
    refine C_seq ?_
    refine C_region ?_
    refine L (S (P_assign rfl) ?_)
    refine L_nil ?_
    refine then_n ?_
    refine C_seq ?_
    refine C_seq ?_
    refine C_region ?_
    refine L (S (P_assign rfl) ?_)
    refine L_nil ?_
    refine then_n ?_
    refine C_block ?_
    refine C_loop (γ := Nat) (fun i => [(0, .pointer (some ⟨b, 0, none⟩)), (3, .int .i64 (i : Int)), (4, .int .u64 ((pv D i % 18446744073709551616 : Nat) : Int))]) (fun i wr => wr = w ∧ i ≤ min D.dp.toNat D.nd) (fun i => min D.dp.toNat D.nd - i) 0 (.cons rfl (.cons rfl (.cons rfl (.nil _)))) ⟨rfl, Nat.zero_le _⟩ ?_
    rintro i wr ⟨rfl, hi⟩
    have hpv : pv D (i + 1) = pv D i * 10 + dg D i := rfl
    by_cases hlt : i < min D.dp.toNat D.nd
    · obtain ⟨c, hc, hc2, h9⟩ := h.dig.dg (j := i) (by omega)
      refine C_seq ?_
      refine C_seq ?_
      refine C_region ?_
      refine L (S (P_move rfl) ?_)
      refine L (S (P_move rfl) ?_)
      refine L (S (P_nilCheck rfl) ?_)
      refine L (S (P_fieldAddr fo_217_2 rfl) ?_)
      refine L (S_load sc_3 rfl hcd ?_)
      refine L (S (P_lt rfl rfl (decide_eq_true (by omega))) ?_)
      refine L (S (P_move rfl) ?_)
      refine L_yes (j := 6) (dj := 16) (b := true) (S (P_move rfl) ?_) rfl
      refine L_yes (j := 6) (dj := 16) (b := true) (S (P_move rfl) ?_) rfl
      refine L_yes (j := 6) (dj := 16) (b := true) (S (P_nilCheck rfl) ?_) rfl
      refine L_yes (j := 6) (dj := 16) (b := true) (S (P_fieldAddr fo_217_1 rfl) ?_) rfl
      refine L_yes (j := 6) (dj := 16) (b := true) (S_load sc_3 rfl hcn ?_) rfl
      refine L_yes (j := 6) (dj := 16) (b := true) (S (P_lt rfl rfl (decide_eq_true (by omega))) ?_) rfl
      refine L (S (P_pickT rfl rfl) ?_)
      refine L_nil ?_
      refine then_n ?_
      refine C_true rfl ?_
      refine C_skip ?_
      refine then_n ?_
      refine C_seq ?_
      refine C_block ?_
      refine C_region ?_
      refine L (S (P_move rfl) ?_)
      refine L (S (P_mul rfl rfl (modU64 (x := pv D i % 18446744073709551616 * 10) (by omega) (c := ((pv D i * 10 % 18446744073709551616 : Nat) : Int)) (by omega))) ?_)
      refine L (S (P_move rfl) ?_)
      refine L (S (P_move rfl) ?_)
      refine L (S (P_nilCheck rfl) ?_)
      refine L (S (P_fieldAddr fo_217_0 rfl) ?_)
      refine L (S (P_indexAddrA Tryz.underlying215 (csz_of ti_5) rfl rfl (j := i) rfl (by omega) (q := i) (by omega)) ?_)
      refine L (S_load sc_5 rfl (hD.c_dig hc) ?_)
      refine L (S (P_sub rfl rfl (wU8 (c := ((dg D i : Nat) : Int)) (by omega))) ?_)
      refine L (S (P_conv Tryz.underlying5 Tryz.underlying131 rfl (wU64 ⟨rfl, by omega, by omega⟩)) ?_)
      refine L (S (P_add rfl rfl (modU64 (x := pv D i * 10 % 18446744073709551616 + dg D i) (by omega) (c := (((pv D i * 10 + dg D i) % 18446744073709551616 : Nat) : Int)) (by omega))) ?_)
      refine L (S (P_assign rfl) ?_)
      refine L_nil ?_
      refine blk_n ?_
      refine then_n ?_
      refine C_region ?_
      refine L (S (P_move rfl) ?_)
      refine L (S (P_add rfl rfl (wI64 (c := ((i + 1 : Nat) : Int)) (by omega))) ?_)
      refine L (S (P_assign rfl) ?_)
      refine L_nil ?_
      refine then_n ?_
      exact ⟨rfl, i + 1, (.cons rfl (.cons rfl (.cons rfl (.nil _)))), ⟨rfl, by omega⟩, by omega⟩
    · have hie : min D.dp.toNat D.nd = i := by omega
      rw [hie]
      by_cases hid : (i : Int) < D.dp
      · refine C_seq ?_
        refine C_seq ?_
        refine C_region ?_
        refine L (S (P_move rfl) ?_)
        refine L (S (P_move rfl) ?_)
        refine L (S (P_nilCheck rfl) ?_)
        refine L (S (P_fieldAddr fo_217_2 rfl) ?_)
        refine L (S_load sc_3 rfl hcd ?_)
        refine L (S (P_lt rfl rfl (decide_eq_true (by omega))) ?_)
        refine L (S (P_move rfl) ?_)
        refine L_yes (j := 6) (dj := 16) (b := true) (S (P_move rfl) ?_) rfl
        refine L_yes (j := 6) (dj := 16) (b := true) (S (P_move rfl) ?_) rfl
        refine L_yes (j := 6) (dj := 16) (b := true) (S (P_nilCheck rfl) ?_) rfl
        refine L_yes (j := 6) (dj := 16) (b := true) (S (P_fieldAddr fo_217_1 rfl) ?_) rfl
        refine L_yes (j := 6) (dj := 16) (b := true) (S_load sc_3 rfl hcn ?_) rfl
        refine L_yes (j := 6) (dj := 16) (b := true) (S (P_lt rfl rfl (decide_eq_false (by omega))) ?_) rfl
        refine L (S (P_pickT rfl rfl) ?_)
        refine L_nil ?_
        refine then_n ?_
        refine C_false rfl ?_
        refine C_exit ?_
        refine then_x ?_
        refine then_x ?_
        refine blk_x ?_
        refine then_n ?_
        refine C_seq ?_
        refine C_block ?_
        refine C_loop (γ := Nat) (fun j => [(0, .pointer (some ⟨b, 0, none⟩)), (3, .int .i64 (j : Int)), (4, .int .u64 ((pv D i * 10 ^ (j - i) % 18446744073709551616 : Nat) : Int))]) (fun j wq => wq = wr ∧ i ≤ j ∧ j ≤ max i D.dp.toNat) (fun j => max i D.dp.toNat - j) i (.cons rfl (.cons rfl (.cons (by rw [Nat.sub_self, Nat.pow_zero, Nat.mul_one]; rfl) (.nil _)))) ⟨rfl, Nat.le_refl _, by omega⟩ ?_
        rintro j wq ⟨rfl, hij, hjm⟩
        have hj10 : pv D i * 10 ^ (j + 1 - i) = pv D i * 10 ^ (j - i) * 10 := by
          rw [show j + 1 - i = j - i + 1 by omega, Nat.pow_succ, Nat.mul_assoc]
        by_cases hjd : (j : Int) < D.dp
        · refine C_seq ?_
          refine C_seq ?_
          refine C_region ?_
          refine L (S (P_move rfl) ?_)
          refine L (S (P_move rfl) ?_)
          refine L (S (P_nilCheck rfl) ?_)
          refine L (S (P_fieldAddr fo_217_2 rfl) ?_)
          refine L (S_load sc_3 rfl hcd ?_)
          refine L (S (P_lt rfl rfl (decide_eq_true (by omega))) ?_)
          refine L_nil ?_
          refine then_n ?_
          refine C_true rfl ?_
          refine C_skip ?_
          refine then_n ?_
          refine C_seq ?_
          refine C_block ?_
          refine C_region ?_
          refine L (S (P_move rfl) ?_)
          refine L (S (P_mul rfl rfl (modU64 (x := pv D i * 10 ^ (j - i) % 18446744073709551616 * 10) (by omega) (c := ((pv D i * 10 ^ (j + 1 - i) % 18446744073709551616 : Nat) : Int)) (by rw [hj10]; omega))) ?_)
          refine L (S (P_assign rfl) ?_)
          refine L_nil ?_
          refine blk_n ?_
          refine then_n ?_
          refine C_region ?_
          refine L (S (P_move rfl) ?_)
          refine L (S (P_add rfl rfl (wI64 (c := ((j + 1 : Nat) : Int)) (by omega))) ?_)
          refine L (S (P_assign rfl) ?_)
          refine L_nil ?_
          refine then_n ?_
          exact ⟨rfl, j + 1, (.cons rfl (.cons rfl (.cons rfl (.nil _)))), ⟨rfl, by omega, by omega⟩, by omega⟩
        · have hje : j - i = D.dp.toNat - i := by omega
          rw [← hje]
          generalize pv D i * 10 ^ (j - i) = y at *
          cases hsr : sruF D D.dp with
          | true =>
            rw [hsr] at hS
            rw [if_pos rfl]
            refine C_seq ?_
            refine C_seq ?_
            refine C_region ?_
            refine L (S (P_move rfl) ?_)
            refine L (S (P_move rfl) ?_)
            refine L (S (P_nilCheck rfl) ?_)
            refine L (S (P_fieldAddr fo_217_2 rfl) ?_)
            refine L (S_load sc_3 rfl hcd ?_)
            refine L (S (P_lt rfl rfl (decide_eq_false (by omega))) ?_)
            refine L_nil ?_
            refine then_n ?_
            refine C_false rfl ?_
            refine C_exit ?_
            refine then_x ?_
            refine then_x ?_
            refine blk_x ?_
            refine then_n ?_
            refine C_seq ?_
            refine C_seq ?_
            refine C_region ?_
            refine L (S (P_move rfl) ?_)
            refine L (S (P_move rfl) ?_)
            refine L (S (P_nilCheck rfl) ?_)
            refine L (S (P_fieldAddr fo_217_2 rfl) ?_)
            refine L (S_load sc_3 rfl hcd ?_)
            refine L (S_call cb_191 rfl (hS) ?_)
            rintro _ _ ⟨rfl, rfl⟩
            refine L_nil ?_
            refine then_n ?_
            refine C_true rfl ?_
            refine C_region ?_
            refine L (S (P_move rfl) ?_)
            refine L (S (P_add rfl rfl (modU64 (x := y % 18446744073709551616 + 1) (by omega) (c := (((y + 1) % 18446744073709551616 : Nat) : Int)) (by omega))) ?_)
            refine L (S (P_assign rfl) ?_)
            refine L_nil ?_
            refine then_n ?_
            refine C_seq ?_
            refine C_region ?_
            refine L (S (P_move rfl) ?_)
            refine L (S (P_assign rfl) ?_)
            refine L_nil ?_
            refine then_n ?_
            refine C_ret ?_
            refine F_ret1 Tryz.results185 rfl ?_
            exact ⟨rfl, rfl⟩
          | false =>
            rw [hsr] at hS
            rw [if_neg (by decide)]
            refine C_seq ?_
            refine C_seq ?_
            refine C_region ?_
            refine L (S (P_move rfl) ?_)
            refine L (S (P_move rfl) ?_)
            refine L (S (P_nilCheck rfl) ?_)
            refine L (S (P_fieldAddr fo_217_2 rfl) ?_)
            refine L (S_load sc_3 rfl hcd ?_)
            refine L (S (P_lt rfl rfl (decide_eq_false (by omega))) ?_)
            refine L_nil ?_
            refine then_n ?_
            refine C_false rfl ?_
            refine C_exit ?_
            refine then_x ?_
            refine then_x ?_
            refine blk_x ?_
            refine then_n ?_
            refine C_seq ?_
            refine C_seq ?_
            refine C_region ?_
            refine L (S (P_move rfl) ?_)
            refine L (S (P_move rfl) ?_)
            refine L (S (P_nilCheck rfl) ?_)
            refine L (S (P_fieldAddr fo_217_2 rfl) ?_)
            refine L (S_load sc_3 rfl hcd ?_)
            refine L (S_call cb_191 rfl (hS) ?_)
            rintro _ _ ⟨rfl, rfl⟩
            refine L_nil ?_
            refine then_n ?_
            refine C_false rfl ?_
            refine C_skip ?_
            refine then_n ?_
            refine C_seq ?_
            refine C_region ?_
            refine L (S (P_move rfl) ?_)
            refine L (S (P_assign rfl) ?_)
            refine L_nil ?_
            refine then_n ?_
            refine C_ret ?_
            refine F_ret1 Tryz.results185 rfl ?_
            exact ⟨rfl, rfl⟩
      · refine C_seq ?_
        refine C_seq ?_
        refine C_region ?_
        refine L (S (P_move rfl) ?_)
        refine L (S (P_move rfl) ?_)
        refine L (S (P_nilCheck rfl) ?_)
        refine L (S (P_fieldAddr fo_217_2 rfl) ?_)
        refine L (S_load sc_3 rfl hcd ?_)
        refine L (S (P_lt rfl rfl (decide_eq_false (by omega))) ?_)
        refine L (S (P_move rfl) ?_)
        refine L_no (j := 6) (dj := 16) (b := true) (b' := false) (d := 17) rfl ?_
        refine L_no (j := 6) (dj := 16) (b := true) (b' := false) (d := 18) rfl ?_
        refine L_no (j := 6) (dj := 16) (b := true) (b' := false) (d := 19) rfl ?_
        refine L_no (j := 6) (dj := 16) (b := true) (b' := false) (d := 20) rfl ?_
        refine L_no (j := 6) (dj := 16) (b := true) (b' := false) (d := 21) rfl ?_
        refine L_no (j := 6) (dj := 16) (b := true) (b' := false) (d := 22) rfl ?_
        refine L (S (P_pickF rfl rfl) ?_)
        refine L_nil ?_
        refine then_n ?_
        refine C_false rfl ?_
        refine C_exit ?_
        refine then_x ?_
        refine then_x ?_
        refine blk_x ?_
        refine then_n ?_
        refine C_seq ?_
        refine C_block ?_
        refine C_loop (γ := Nat) (fun j => [(0, .pointer (some ⟨b, 0, none⟩)), (3, .int .i64 (j : Int)), (4, .int .u64 ((pv D i * 10 ^ (j - i) % 18446744073709551616 : Nat) : Int))]) (fun j wq => wq = wr ∧ i ≤ j ∧ j ≤ max i D.dp.toNat) (fun j => max i D.dp.toNat - j) i (.cons rfl (.cons rfl (.cons (by rw [Nat.sub_self, Nat.pow_zero, Nat.mul_one]; rfl) (.nil _)))) ⟨rfl, Nat.le_refl _, by omega⟩ ?_
        rintro j wq ⟨rfl, hij, hjm⟩
        have hj10 : pv D i * 10 ^ (j + 1 - i) = pv D i * 10 ^ (j - i) * 10 := by
          rw [show j + 1 - i = j - i + 1 by omega, Nat.pow_succ, Nat.mul_assoc]
        by_cases hjd : (j : Int) < D.dp
        · refine C_seq ?_
          refine C_seq ?_
          refine C_region ?_
          refine L (S (P_move rfl) ?_)
          refine L (S (P_move rfl) ?_)
          refine L (S (P_nilCheck rfl) ?_)
          refine L (S (P_fieldAddr fo_217_2 rfl) ?_)
          refine L (S_load sc_3 rfl hcd ?_)
          refine L (S (P_lt rfl rfl (decide_eq_true (by omega))) ?_)
          refine L_nil ?_
          refine then_n ?_
          refine C_true rfl ?_
          refine C_skip ?_
          refine then_n ?_
          refine C_seq ?_
          refine C_block ?_
          refine C_region ?_
          refine L (S (P_move rfl) ?_)
          refine L (S (P_mul rfl rfl (modU64 (x := pv D i * 10 ^ (j - i) % 18446744073709551616 * 10) (by omega) (c := ((pv D i * 10 ^ (j + 1 - i) % 18446744073709551616 : Nat) : Int)) (by rw [hj10]; omega))) ?_)
          refine L (S (P_assign rfl) ?_)
          refine L_nil ?_
          refine blk_n ?_
          refine then_n ?_
          refine C_region ?_
          refine L (S (P_move rfl) ?_)
          refine L (S (P_add rfl rfl (wI64 (c := ((j + 1 : Nat) : Int)) (by omega))) ?_)
          refine L (S (P_assign rfl) ?_)
          refine L_nil ?_
          refine then_n ?_
          exact ⟨rfl, j + 1, (.cons rfl (.cons rfl (.cons rfl (.nil _)))), ⟨rfl, by omega, by omega⟩, by omega⟩
        · have hje : j - i = D.dp.toNat - i := by omega
          rw [← hje]
          generalize pv D i * 10 ^ (j - i) = y at *
          cases hsr : sruF D D.dp with
          | true =>
            rw [hsr] at hS
            rw [if_pos rfl]
            refine C_seq ?_
            refine C_seq ?_
            refine C_region ?_
            refine L (S (P_move rfl) ?_)
            refine L (S (P_move rfl) ?_)
            refine L (S (P_nilCheck rfl) ?_)
            refine L (S (P_fieldAddr fo_217_2 rfl) ?_)
            refine L (S_load sc_3 rfl hcd ?_)
            refine L (S (P_lt rfl rfl (decide_eq_false (by omega))) ?_)
            refine L_nil ?_
            refine then_n ?_
            refine C_false rfl ?_
            refine C_exit ?_
            refine then_x ?_
            refine then_x ?_
            refine blk_x ?_
            refine then_n ?_
            refine C_seq ?_
            refine C_seq ?_
            refine C_region ?_
            refine L (S (P_move rfl) ?_)
            refine L (S (P_move rfl) ?_)
            refine L (S (P_nilCheck rfl) ?_)
            refine L (S (P_fieldAddr fo_217_2 rfl) ?_)
            refine L (S_load sc_3 rfl hcd ?_)
            refine L (S_call cb_191 rfl (hS) ?_)
            rintro _ _ ⟨rfl, rfl⟩
            refine L_nil ?_
            refine then_n ?_
            refine C_true rfl ?_
            refine C_region ?_
            refine L (S (P_move rfl) ?_)
            refine L (S (P_add rfl rfl (modU64 (x := y % 18446744073709551616 + 1) (by omega) (c := (((y + 1) % 18446744073709551616 : Nat) : Int)) (by omega))) ?_)
            refine L (S (P_assign rfl) ?_)
            refine L_nil ?_
            refine then_n ?_
            refine C_seq ?_
            refine C_region ?_
            refine L (S (P_move rfl) ?_)
            refine L (S (P_assign rfl) ?_)
            refine L_nil ?_
            refine then_n ?_
            refine C_ret ?_
            refine F_ret1 Tryz.results185 rfl ?_
            exact ⟨rfl, rfl⟩
          | false =>
            rw [hsr] at hS
            rw [if_neg (by decide)]
            refine C_seq ?_
            refine C_seq ?_
            refine C_region ?_
            refine L (S (P_move rfl) ?_)
            refine L (S (P_move rfl) ?_)
            refine L (S (P_nilCheck rfl) ?_)
            refine L (S (P_fieldAddr fo_217_2 rfl) ?_)
            refine L (S_load sc_3 rfl hcd ?_)
            refine L (S (P_lt rfl rfl (decide_eq_false (by omega))) ?_)
            refine L_nil ?_
            refine then_n ?_
            refine C_false rfl ?_
            refine C_exit ?_
            refine then_x ?_
            refine then_x ?_
            refine blk_x ?_
            refine then_n ?_
            refine C_seq ?_
            refine C_seq ?_
            refine C_region ?_
            refine L (S (P_move rfl) ?_)
            refine L (S (P_move rfl) ?_)
            refine L (S (P_nilCheck rfl) ?_)
            refine L (S (P_fieldAddr fo_217_2 rfl) ?_)
            refine L (S_load sc_3 rfl hcd ?_)
            refine L (S_call cb_191 rfl (hS) ?_)
            rintro _ _ ⟨rfl, rfl⟩
            refine L_nil ?_
            refine then_n ?_
            refine C_false rfl ?_
            refine C_skip ?_
            refine then_n ?_
            refine C_seq ?_
            refine C_region ?_
            refine L (S (P_move rfl) ?_)
            refine L (S (P_assign rfl) ?_)
            refine L_nil ?_
            refine then_n ?_
            refine C_ret ?_
            refine F_ret1 Tryz.results185 rfl ?_
            exact ⟨rfl, rfl⟩
end
end Go.Proofs.YtnoioimphcmeiaaGreatDoor
