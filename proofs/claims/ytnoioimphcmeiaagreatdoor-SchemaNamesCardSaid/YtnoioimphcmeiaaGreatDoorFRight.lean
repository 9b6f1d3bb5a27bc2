import Derived.Test.YtnoioimphcmeiaaGreatDoorFLeft
namespace Go.Proofs.YtnoioimphcmeiaaGreatDoor
open Go.RowKit
set_option maxRecDepth 20000
set_option maxHeartbeats 1000000

def setD (D : Dc) (w q : Nat) : Dc := { D with ds := D.ds.set w (UInt8.ofNat (q + 48)) }
def rsz (k : Nat) : Nat → Nat → Nat → Nat × Nat
  | 0, r, n => (r, n)
  | f + 1, r, n => if 2 ^ k ≤ n then (r, n) else rsz k f (r + 1) (n * 10)
def rs1 (k : Nat) (D : Dc) : Nat → Nat → Nat → Nat × Nat
  | 0, r, n => rsz k k r n
  | f + 1, r, n => if 2 ^ k ≤ n then (r, n) else rs1 k D f (r + 1) (n * 10 + dg D r)
def rs2 (k : Nat) : Nat → Nat → Nat → Nat → Dc → Nat × Nat × Dc
  | 0, _, w, n, D => (w, n, D)
  | f + 1, r, w, n, D => rs2 k f (r + 1) (w + 1) (n % 2 ^ k * 10 + dg D r) (setD D w (n / 2 ^ k))
def rs3 (k : Nat) : Nat → Nat → Nat → Dc → Nat × Dc
  | 0, w, _, D => (w, D)
  | f + 1, w, n, D => if n = 0 then (w, D) else if w < 800 then rs3 k f (w + 1) (n % 2 ^ k * 10) (setD D w (n / 2 ^ k))
    else rs3 k f w (n % 2 ^ k * 10) (if 0 < n / 2 ^ k then { D with tr := true } else D)
def rsF (k : Nat) (D : Dc) : Dc :=
  let a := rs1 k D D.nd 0 0
  let c := rs2 k (D.nd - a.1) a.1 0 a.2 { D with dp := D.dp - ((a.1 : Int) - 1) }
  let e := rs3 k (k + 1) c.1 c.2.1 c.2.2
  trF { e.2 with nd := e.1 }
theorem rs1_stop {k : Nat} {D : Dc} {f r n : Nat} (hk : 1 ≤ k) (h : 2 ^ k ≤ n) : rs1 k D f r n = (r, n) := by
  cases f with
  | zero =>
    obtain ⟨j, rfl⟩ : ∃ j, k = j + 1 := ⟨k - 1, by omega⟩
    show (if _ then _ else _) = _
    rw [if_pos h]
  | succ f =>
    show (if _ then _ else _) = _
    rw [if_pos h]
theorem rsz_facts (k : Nat) : ∀ f r n, f ≤ k → 2 ^ (k - f) ≤ n → n < 10 * 2 ^ k → 2 ^ k ≤ (rsz k f r n).2 ∧ (rsz k f r n).2 < 10 * 2 ^ k ∧ r ≤ (rsz k f r n).1 ∧ (rsz k f r n).1 ≤ r + f := by
  intro f
  induction f with
  | zero => intro r n _ h1 h2; exact ⟨h1, h2, Nat.le_refl _, Nat.le_refl _⟩
  | succ f ih =>
    intro r n hf h1 h2
    show 2 ^ k ≤ (if 2 ^ k ≤ n then (r, n) else rsz k f (r + 1) (n * 10)).2 ∧ (if 2 ^ k ≤ n then (r, n) else rsz k f (r + 1) (n * 10)).2 < 10 * 2 ^ k ∧ r ≤ (if 2 ^ k ≤ n then (r, n) else rsz k f (r + 1) (n * 10)).1 ∧ (if 2 ^ k ≤ n then (r, n) else rsz k f (r + 1) (n * 10)).1 ≤ r + (f + 1)
    split
    · exact ⟨by assumption, h2, Nat.le_refl _, by dsimp only; omega⟩
    · have e : 2 ^ (k - f) = 2 ^ (k - (f + 1)) * 2 := by rw [← Nat.pow_succ]; congr 1; omega
      obtain ⟨a, b, c, d⟩ := ih (r + 1) (n * 10) (by omega) (by rw [e]; omega) (by omega)
      exact ⟨a, b, by omega, by omega⟩
theorem rs1_facts (k : Nat) (D : Dc) (hk : 1 ≤ k) (hd : Dig D D.nd) : ∀ f r n, f + r = D.nd → 1 ≤ n → n < 10 * 2 ^ k → 2 ^ k ≤ (rs1 k D f r n).2 ∧ (rs1 k D f r n).2 < 10 * 2 ^ k ∧ r ≤ (rs1 k D f r n).1 ∧ (rs1 k D f r n).1 ≤ D.nd + k ∧ ((rs1 k D f r n).1 = r → (rs1 k D f r n).2 = n) := by
  intro f
  induction f with
  | zero =>
    intro r n hr h1 h2
    obtain ⟨a, b, c, d⟩ := rsz_facts k k r n (Nat.le_refl _) (by rw [Nat.sub_self]; exact h1) h2
    refine ⟨a, b, c, by show (rsz k k r n).1 ≤ _; omega, fun h => ?_⟩
    obtain ⟨j, rfl⟩ : ∃ j, k = j + 1 := ⟨k - 1, by omega⟩
    revert h
    show (rsz (j + 1) (j + 1) r n).1 = r → (rsz (j + 1) (j + 1) r n).2 = n
    show (if 2 ^ (j + 1) ≤ n then (r, n) else rsz (j + 1) j (r + 1) (n * 10)).1 = r → (if 2 ^ (j + 1) ≤ n then (r, n) else rsz (j + 1) j (r + 1) (n * 10)).2 = n
    split
    · exact fun _ => rfl
    · have e : 2 ^ (j + 1 - j) = 2 := by rw [Nat.add_sub_cancel_left]
      have := (rsz_facts (j + 1) j (r + 1) (n * 10) (by omega) (by rw [e]; omega) (by omega)).2.2.1
      intro h; omega
  | succ f ih =>
    intro r n hr h1 h2
    obtain ⟨c, hc, hc2, h9⟩ := hd.dg (j := r) (by omega)
    show 2 ^ k ≤ (if 2 ^ k ≤ n then (r, n) else rs1 k D f (r + 1) (n * 10 + dg D r)).2 ∧ (if 2 ^ k ≤ n then (r, n) else rs1 k D f (r + 1) (n * 10 + dg D r)).2 < 10 * 2 ^ k ∧ r ≤ (if 2 ^ k ≤ n then (r, n) else rs1 k D f (r + 1) (n * 10 + dg D r)).1 ∧ (if 2 ^ k ≤ n then (r, n) else rs1 k D f (r + 1) (n * 10 + dg D r)).1 ≤ D.nd + k ∧ ((if 2 ^ k ≤ n then (r, n) else rs1 k D f (r + 1) (n * 10 + dg D r)).1 = r → (if 2 ^ k ≤ n then (r, n) else rs1 k D f (r + 1) (n * 10 + dg D r)).2 = n)
    split
    · exact ⟨by assumption, h2, Nat.le_refl _, by dsimp only; omega, fun _ => rfl⟩
    · obtain ⟨a, b, c, d, e⟩ := ih (r + 1) (n * 10 + dg D r) (by omega) (by omega) (by omega)
      exact ⟨a, b, by omega, d, fun h => by omega⟩
theorem rs1_all {k : Nat} {D : Dc} (hk : 1 ≤ k) (hd : Dig D D.nd) (hn : 1 ≤ D.nd) (hh : 1 ≤ dg D 0) : 2 ^ k ≤ (rs1 k D D.nd 0 0).2 ∧ (rs1 k D D.nd 0 0).2 < 10 * 2 ^ k ∧ 1 ≤ (rs1 k D D.nd 0 0).1 ∧ (rs1 k D D.nd 0 0).1 ≤ D.nd + k ∧ ((rs1 k D D.nd 0 0).1 = 1 → (rs1 k D D.nd 0 0).2 = dg D 0) := by
  obtain ⟨m, hm⟩ : ∃ m, D.nd = m + 1 := ⟨D.nd - 1, by omega⟩
  obtain ⟨c, hc, hc2, h9⟩ := hd.dg (j := 0) (by omega)
  have hp : 0 < 2 ^ k := Nat.two_pow_pos k
  have e : rs1 k D D.nd 0 0 = rs1 k D m 1 (dg D 0) := by
    rw [hm]
    show (if 2 ^ k ≤ 0 then (0, 0) else rs1 k D m (0 + 1) (0 * 10 + dg D 0)) = _
    rw [if_neg (by omega), Nat.zero_mul, Nat.zero_add, Nat.zero_add]
  rw [e]
  exact rs1_facts k D hk hd m 1 (dg D 0) (by omega) hh (by
    have : 2 ^ 1 ≤ 2 ^ k := Nat.pow_le_pow_right (by omega) hk
    omega)

section
variable {w : World}
set_option maxHeartbeats 2000000 in
theorem rightShift_ret {b : Nat} {D : Dc} (hD : DB w b D) {k : Nat} (hk1 : 1 ≤ k) (hk : k ≤ 60) (hn : D.nd ≤ 800) (hn1 : 1 ≤ D.nd) (hdig : Dig D D.nd) (hh : 1 ≤ dg D 0) (hdp : -100000000 ≤ D.dp ∧ D.dp ≤ 100000000) :
    Ret Tryz.prog 190 [.pointer (some ⟨b, 0, none⟩), .int .u64 (k : Int)] w fun _ w' => DB w' b (rsF k D) ∧ Mv (At b) w w' := by
  have hp60 : 2 ^ k ≤ 1152921504606846976 := by
    have := Nat.pow_le_pow_right (n := 2) (by omega) hk
    simpa using this
  have hpp : 0 < 2 ^ k := Nat.two_pow_pos k
  have hand : ∀ n, n &&& (2 ^ k - 1) = n % 2 ^ k := fun n => Nat.and_two_pow_sub_one_eq_mod n k
  have hdv0 : ∀ n, n < 2 ^ k → n / 2 ^ k = 0 := fun n h => Nat.div_eq_of_lt h
  have hdv1 : ∀ n, 2 ^ k ≤ n → n / 2 ^ k ≠ 0 := fun n h => Nat.ne_of_gt (Nat.div_pos h hpp)
  have hdv9 : ∀ n, n < 10 * 2 ^ k → n / 2 ^ k ≤ 9 := fun n h => by
    have := (Nat.div_lt_iff_lt_mul hpp).2 h
    omega
  have hmd : ∀ n, n % 2 ^ k < 2 ^ k := fun n => Nat.mod_lt _ hpp
  obtain ⟨a1, a2, a3, a4, a5⟩ := rs1_all hk1 hdig hn1 hh
  have hlen := hD.len
  have hcn : w.cell? ⟨b, 800, none⟩ = some (.int .i64 (D.nd : Int)) := hD.c_nd
  have hcd : w.cell? ⟨b, 801, none⟩ = some (.int .i64 D.dp) := hD.c_dp
  unfold rsF
  dsimp only
  generalize hrs : rs1 k D D.nd 0 0 = p at *
  obtain ⟨r1, n1⟩ := p
  dsimp only at *
  refine F_enter Tryz.func190 Tryz.ntmps190 rfl rfl ?_
  refine C_seq ?_
  refine C_region ?_
  refine L (S (P_assign rfl) ?_)
  refine L_nil ?_
  refine then_n ?_
  refine C_seq ?_
  refine C_region ?_
  refine L (S (P_assign rfl) ?_)
  refine L_nil ?_
  refine then_n ?_
  refine C_seq ?_
  refine C_region ?_
  refine L (S (P_assign rfl) ?_)
  refine L_nil ?_
  refine then_n ?_
  refine C_seq ?_
  refine C_cutg (γ := Unit) (fun _ => [(0, .pointer (some ⟨b, 0, none⟩)), (1, .int .u64 (k : Int)), (4, .int .i64 (r1 : Int)), (5, .int .i64 0), (6, .int .u64 (n1 : Int))]) (fun _ wc => wc = w) ?_ ?_
  · refine C_block ?_
    refine C_loop (γ := Nat × Nat × Nat) (fun q => [(0, .pointer (some ⟨b, 0, none⟩)), (1, .int .u64 (k : Int)), (4, .int .i64 (q.2.1 : Int)), (5, .int .i64 0), (6, .int .u64 (q.2.2 : Int))]) (fun q wr => wr = w ∧ q.1 + q.2.1 = D.nd ∧ q.2.2 < 10 * 2 ^ k ∧ (0 < q.2.1 → 0 < q.2.2) ∧ rs1 k D q.1 q.2.1 q.2.2 = (r1, n1)) (fun q => q.1) (D.nd, 0, 0) (.cons rfl (.cons rfl (.cons rfl (.cons rfl (.cons rfl (.nil _)))))) ⟨rfl, rfl, by dsimp only; omega, fun h => h, hrs⟩ ?_
    rintro ⟨f, r, n⟩ wr ⟨rfl, hfr, hnb, hpos, hrs1⟩
    dsimp only at hfr hnb hpos hrs1
    dsimp only
    by_cases hge : 2 ^ k ≤ n
    · rw [rs1_stop hk1 hge] at hrs1
      cases hrs1
      refine C_seq ?_
      refine C_seq ?_
      refine C_region ?_
      refine L (S (P_move rfl) ?_)
      refine L (S (P_move rfl) ?_)
      refine L (S (P_shr rfl rfl (by omega) (shrU64 (s := k) rfl (by omega) rfl)) ?_)
      refine L (S (P_eq rfl rfl (decide_eq_false (by have := hdv1 _ hge; omega))) ?_)
      refine L_nil ?_
      refine then_n ?_
      refine C_false rfl ?_
      refine C_exit ?_
      refine then_x ?_
      refine then_x ?_
      refine blk_x ?_
      refine then_n ?_
      exact ⟨rfl, (), (.cons rfl (.cons rfl (.cons rfl (.cons rfl (.cons rfl (.nil _)))))), rfl⟩
    · have h0 := hdv0 n (by omega)
      cases f with
      | zero =>
        have hpos' := hpos (by omega)
        have hrs2 : rsz k k r n = (r1, n1) := hrs1
        refine C_seq ?_
        refine C_seq ?_
        refine C_region ?_
        refine L (S (P_move rfl) ?_)
        refine L (S (P_move rfl) ?_)
        refine L (S (P_shr rfl rfl (by omega) (shrU64 (s := k) rfl (by omega) rfl)) ?_)
        refine L (S (P_eq rfl rfl (decide_eq_true (by omega))) ?_)
        refine L_nil ?_
        refine then_n ?_
        refine C_true rfl ?_
        refine C_skip ?_
        refine then_n ?_
        refine C_seq ?_
        refine C_block ?_
        refine C_seq ?_
        refine C_seq ?_
        refine C_region ?_
        refine L (S (P_move rfl) ?_)
        refine L (S (P_move rfl) ?_)
        refine L (S (P_nilCheck rfl) ?_)
        refine L (S (P_fieldAddr fo_217_1 rfl) ?_)
        refine L (S_load sc_3 rfl hcn ?_)
        refine L (S (P_ge rfl rfl (decide_eq_true (by omega))) ?_)
        refine L_nil ?_
        refine then_n ?_
        refine C_true rfl ?_
        refine C_seq ?_
        refine C_seq ?_
        refine C_region ?_
        refine L (S (P_move rfl) ?_)
        refine L (S (P_eq rfl rfl (decide_eq_false (by omega))) ?_)
        refine L_nil ?_
        refine then_n ?_
        refine C_false rfl ?_
        refine C_skip ?_
        refine then_n ?_
        refine C_seq ?_
        refine C_block ?_
        refine C_loop (γ := Nat × Nat × Nat) (fun q => [(0, .pointer (some ⟨b, 0, none⟩)), (1, .int .u64 (k : Int)), (4, .int .i64 (q.2.1 : Int)), (5, .int .i64 0), (6, .int .u64 (q.2.2 : Int))]) (fun q wq => wq = wr ∧ q.1 ≤ k ∧ q.2.1 + q.1 = r + k ∧ q.2.2 < 10 * 2 ^ k ∧ 2 ^ (k - q.1) ≤ q.2.2 ∧ rsz k q.1 q.2.1 q.2.2 = (r1, n1)) (fun q => q.1) (k, r, n) (.cons rfl (.cons rfl (.cons rfl (.cons rfl (.cons rfl (.nil _)))))) ⟨rfl, Nat.le_refl _, rfl, hnb, by rw [Nat.sub_self]; exact hpos', hrs2⟩ ?_
        rintro ⟨f, r, n⟩ wq ⟨rfl, hfk, hfr2, hnb, hlo, hrs3⟩
        dsimp only at hfk hfr2 hnb hlo hrs3
        dsimp only
        by_cases hge : 2 ^ k ≤ n
        · have hend : rsz k f r n = (r, n) := by
            cases f with
            | zero => rfl
            | succ f => show (if _ then _ else _) = _; rw [if_pos hge]
          rw [hend] at hrs3
          cases hrs3
          refine C_seq ?_
          refine C_seq ?_
          refine C_region ?_
          refine L (S (P_move rfl) ?_)
          refine L (S (P_move rfl) ?_)
          refine L (S (P_shr rfl rfl (by omega) (shrU64 (s := k) rfl (by omega) rfl)) ?_)
          refine L (S (P_eq rfl rfl (decide_eq_false (by have := hdv1 _ hge; omega))) ?_)
          refine L_nil ?_
          refine then_n ?_
          refine C_false rfl ?_
          refine C_exit ?_
          refine then_x ?_
          refine then_x ?_
          refine blk_x ?_
          refine then_n ?_
          refine C_exit ?_
          refine then_x ?_
          refine blk_o rfl ?_
          refine then_x ?_
          refine then_x ?_
          refine blk_x ?_
          refine then_n ?_
          exact ⟨rfl, (), (.cons rfl (.cons rfl (.cons rfl (.cons rfl (.cons rfl (.nil _)))))), rfl⟩
        · have h0 := hdv0 n (by omega)
          cases f with
          | zero => rw [Nat.sub_zero] at hlo; exact absurd hlo hge
          | succ f =>
            have e : 2 ^ (k - f) = 2 ^ (k - (f + 1)) * 2 := by rw [← Nat.pow_succ]; congr 1; omega
            have hrs4 : rsz k f (r + 1) (n * 10) = (r1, n1) := by
              rw [← hrs3]
              show _ = if 2 ^ k ≤ n then (r, n) else _
              rw [if_neg hge]
            refine C_seq ?_
            refine C_seq ?_
            refine C_region ?_
            refine L (S (P_move rfl) ?_)
            refine L (S (P_move rfl) ?_)
            refine L (S (P_shr rfl rfl (by omega) (shrU64 (s := k) rfl (by omega) rfl)) ?_)
            refine L (S (P_eq rfl rfl (decide_eq_true (by omega))) ?_)
            refine L_nil ?_
            refine then_n ?_
            refine C_true rfl ?_
            refine C_skip ?_
            refine then_n ?_
            refine C_block ?_
            refine C_seq ?_
            refine C_region ?_
            refine L (S (P_move rfl) ?_)
            refine L (S (P_mul rfl rfl (wU64 (c := ((n * 10 : Nat) : Int)) (by omega))) ?_)
            refine L (S (P_assign rfl) ?_)
            refine L_nil ?_
            refine then_n ?_
            refine C_region ?_
            refine L (S (P_move rfl) ?_)
            refine L (S (P_add rfl rfl (wI64 (c := ((r + 1 : Nat) : Int)) (by omega))) ?_)
            refine L (S (P_assign rfl) ?_)
            refine L_nil ?_
            refine blk_n ?_
            refine then_n ?_
            exact ⟨rfl, (f, r + 1, n * 10), (.cons rfl (.cons rfl (.cons rfl (.cons rfl (.cons rfl (.nil _)))))), ⟨rfl, by dsimp only; omega, by dsimp only; omega, by dsimp only; omega, by rw [e]; dsimp only; omega, hrs4⟩, by dsimp only; omega⟩
      | succ f =>
        obtain ⟨c, hc, hc2, h9⟩ := hdig.dg (j := r) (by omega)
        have hrs2 : rs1 k D f (r + 1) (n * 10 + dg D r) = (r1, n1) := by
          rw [← hrs1]
          show _ = if 2 ^ k ≤ n then (r, n) else _
          rw [if_neg hge]
        have hpos2 : 0 < r + 1 → 0 < n * 10 + dg D r := fun _ => by
          by_cases hr0 : r = 0
          · subst hr0; omega
          · have := hpos (by omega); omega
        refine C_seq ?_
        refine C_seq ?_
        refine C_region ?_
        refine L (S (P_move rfl) ?_)
        refine L (S (P_move rfl) ?_)
        refine L (S (P_shr rfl rfl (by omega) (shrU64 (s := k) rfl (by omega) rfl)) ?_)
        refine L (S (P_eq rfl rfl (decide_eq_true (by omega))) ?_)
        refine L_nil ?_
        refine then_n ?_
        refine C_true rfl ?_
        refine C_skip ?_
        refine then_n ?_
        refine C_seq ?_
        refine C_block ?_
        refine C_seq ?_
        refine C_seq ?_
        refine C_region ?_
        refine L (S (P_move rfl) ?_)
        refine L (S (P_move rfl) ?_)
        refine L (S (P_nilCheck rfl) ?_)
        refine L (S (P_fieldAddr fo_217_1 rfl) ?_)
        refine L (S_load sc_3 rfl hcn ?_)
        refine L (S (P_ge rfl rfl (decide_eq_false (by omega))) ?_)
        refine L_nil ?_
        refine then_n ?_
        refine C_false rfl ?_
        refine C_skip ?_
        refine then_n ?_
        refine C_seq ?_
        refine C_region ?_
        refine L (S (P_move rfl) ?_)
        refine L (S (P_move rfl) ?_)
        refine L (S (P_nilCheck rfl) ?_)
        refine L (S (P_fieldAddr fo_217_0 rfl) ?_)
        refine L (S (P_indexAddrA Tryz.underlying215 (csz_of ti_5) rfl rfl (j := r) rfl (by omega) (q := r) (by omega)) ?_)
        refine L (S_load sc_5 rfl (hD.c_dig hc) ?_)
        refine L (S (P_conv Tryz.underlying5 Tryz.underlying74 rfl (wU64 ⟨rfl, by omega, by omega⟩)) ?_)
        refine L (S (P_assign rfl) ?_)
        refine L_nil ?_
        refine then_n ?_
        refine C_region ?_
        refine L (S (P_move rfl) ?_)
        refine L (S (P_mul rfl rfl (wU64 (c := ((n * 10 : Nat) : Int)) (by omega))) ?_)
        refine L (S (P_move rfl) ?_)
        refine L (S (P_add rfl rfl (wU64 (c := ((n * 10 + c.toNat : Nat) : Int)) (by omega))) ?_)
        refine L (S (P_sub rfl rfl (wU64 (c := ((n * 10 + dg D r : Nat) : Int)) (by omega))) ?_)
        refine L (S (P_assign rfl) ?_)
        refine L_nil ?_
        refine blk_n ?_
        refine then_n ?_
        refine C_region ?_
        refine L (S (P_move rfl) ?_)
        refine L (S (P_add rfl rfl (wI64 (c := ((r + 1 : Nat) : Int)) (by omega))) ?_)
        refine L (S (P_assign rfl) ?_)
        refine L_nil ?_
        refine then_n ?_
        exact ⟨rfl, (f, r + 1, n * 10 + dg D r), (.cons rfl (.cons rfl (.cons rfl (.cons rfl (.cons rfl (.nil _)))))), ⟨rfl, by dsimp only; omega, by dsimp only; omega, hpos2, hrs2⟩, by dsimp only; omega⟩
  rintro _ wz rfl f' hf'
  refine C_forget hf' ?_
  clear hf' f' hrs
  refine C_seq ?_
  refine C_region ?_
  refine L (S (P_move rfl) ?_)
  refine L (S (P_nilCheck rfl) ?_)
  refine L (S (P_fieldAddr fo_217_2 rfl) ?_)
  refine L (S_load sc_3 rfl hcd ?_)
  refine L (S (P_move rfl) ?_)
  refine L (S (P_sub rfl rfl (wI64 (c := (r1 : Int) - 1) (by omega))) ?_)
  refine L (S (P_sub rfl rfl (wI64 (c := D.dp - ((r1 : Int) - 1)) (by omega))) ?_)
  refine L (S (P_nilCheck rfl) ?_)
  refine L (S (P_fieldAddr fo_217_2 rfl) ?_)
  refine L (S_stDp ti_3 rfl rfl hD ?_)
  rintro w1 hD1 hm1
  refine L_nil ?_
  refine then_n ?_
  refine C_seq ?_
  refine C_region ?_
  refine L (S (P_move rfl) ?_)
  refine L (S (P_shl rfl rfl (by omega) (shlU64 (a := 1) (s := k) rfl (by omega) rfl (by omega))) ?_)
  refine L (S (P_sub rfl rfl (wU64 (c := ((2 ^ k - 1 : Nat) : Int)) (by omega))) ?_)
  refine L (S (P_assign rfl) ?_)
  refine L_nil ?_
  refine then_n ?_
  refine C_seq ?_
  refine C_block ?_
  generalize hD0 : ({ D with dp := D.dp - ((r1 : Int) - 1) } : Dc) = D0 at *
  have hD0n : D0.nd = D.nd := by rw [← hD0]
  have hD0d : Dig D0 D.nd := by rw [← hD0]; exact hdig
  refine C_loop (γ := Nat × Nat × Nat × Nat × Dc) (fun q => [(0, .pointer (some ⟨b, 0, none⟩)), (1, .int .u64 (k : Int)), (4, .int .i64 (q.2.1 : Int)), (5, .int .i64 (q.2.2.1 : Int)), (6, .int .u64 (q.2.2.2.1 : Int)), (8, .int .u64 ((2 ^ k - 1 : Nat) : Int))]) (fun q wr => DB wr b q.2.2.2.2 ∧ Mv (At b) wz wr ∧ q.1 = D.nd - q.2.1 ∧ q.2.2.1 + r1 = q.2.1 ∧ (q.2.1 ≤ D.nd ∨ q.2.1 = r1) ∧ q.2.2.2.1 < 10 * 2 ^ k ∧ q.2.2.2.2.nd = D.nd ∧ (∀ j, q.2.1 ≤ j → j < D.nd → q.2.2.2.2.ds[j]? = D0.ds[j]?) ∧ rs2 k q.1 q.2.1 q.2.2.1 q.2.2.2.1 q.2.2.2.2 = rs2 k (D.nd - r1) r1 0 n1 D0) (fun q => q.1) (D.nd - r1, r1, 0, n1, D0) (.cons rfl (.cons rfl (.cons rfl (.cons rfl (.cons rfl (.cons rfl (.nil _))))))) ⟨hD1, hm1, rfl, by dsimp only; omega, .inr rfl, a2, hD0n, fun _ _ _ => rfl, rfl⟩ ?_
  rintro ⟨f, r, x, n, E⟩ wr ⟨hE, hmr, hf, hxr, hro, hnb, hEn, hEd, hrs2⟩
  dsimp only at hE hf hxr hro hnb hEn hEd hrs2
  dsimp only
  have hcn2 : wr.cell? ⟨b, 800, none⟩ = some (.int .i64 (D.nd : Int)) := by rw [← hEn]; exact hE.c_nd
  by_cases hlt : r < D.nd
  · obtain ⟨g, rfl⟩ : ∃ g, f = g + 1 := ⟨f - 1, by omega⟩
    obtain ⟨c, hc, hc2, h9⟩ := hD0d.dg (j := r) hlt
    have hdgE : dg E r = dg D0 r := by unfold dg; rw [hEd r (Nat.le_refl _) hlt]
    rw [← hEd r (Nat.le_refl _) hlt] at hc
    have hq9 := hdv9 n hnb
    have hu8 := u8ofNat hq9
    have hmd1 := hmd n
    have hrs3 : rs2 k g (r + 1) (x + 1) (n % 2 ^ k * 10 + dg E r) (setD E x (n / 2 ^ k)) = rs2 k (D.nd - r1) r1 0 n1 D0 := hrs2
    have hEd' : ∀ j, r + 1 ≤ j → j < D.nd → (setD E x (n / 2 ^ k)).ds[j]? = D0.ds[j]? := fun j h1 h2 => by
      rw [← hEd j (by omega) h2]
      exact List.getElem?_set_ne (by omega)
    refine C_seq ?_
    refine C_seq ?_
    refine C_region ?_
    refine L (S (P_move rfl) ?_)
    refine L (S (P_move rfl) ?_)
    refine L (S (P_nilCheck rfl) ?_)
    refine L (S (P_fieldAddr fo_217_1 rfl) ?_)
    refine L (S_load sc_3 rfl hcn2 ?_)
    refine L (S (P_lt rfl rfl (decide_eq_true (by omega))) ?_)
    refine L_nil ?_
    refine then_n ?_
    refine C_true rfl ?_
    refine C_skip ?_
    refine then_n ?_
    refine C_seq ?_
    refine C_block ?_
    refine C_seq ?_
    refine C_region ?_
    refine L (S (P_move rfl) ?_)
    refine L (S (P_move rfl) ?_)
    refine L (S (P_nilCheck rfl) ?_)
    refine L (S (P_fieldAddr fo_217_0 rfl) ?_)
    refine L (S (P_indexAddrA Tryz.underlying215 (csz_of ti_5) rfl rfl (j := r) rfl (by omega) (q := r) (by omega)) ?_)
    refine L (S_load sc_5 rfl (hE.c_dig hc) ?_)
    refine L (S (P_conv Tryz.underlying5 Tryz.underlying74 rfl (wU64 ⟨rfl, by omega, by omega⟩)) ?_)
    refine L (S (P_assign rfl) ?_)
    refine L_nil ?_
    refine then_n ?_
    refine C_seq ?_
    refine C_region ?_
    refine L (S (P_move rfl) ?_)
    refine L (S (P_move rfl) ?_)
    refine L (S (P_shr rfl rfl (by omega) (shrU64 (s := k) rfl (by omega) rfl)) ?_)
    refine L (S (P_assign rfl) ?_)
    refine L_nil ?_
    refine then_n ?_
    refine C_seq ?_
    refine C_region ?_
    refine L (S (P_move rfl) ?_)
    refine L (S (P_move rfl) ?_)
    refine L (S (P_and rfl rfl (andU64 (b := 2 ^ k - 1) (by omega) (by omega) (c := ((n % 2 ^ k : Nat) : Int)) (by rw [hand]))) ?_)
    refine L (S (P_assign rfl) ?_)
    refine L_nil ?_
    refine then_n ?_
    refine C_seq ?_
    refine C_region ?_
    refine L (S (P_move rfl) ?_)
    refine L (S (P_move rfl) ?_)
    refine L (S (P_move rfl) ?_)
    refine L (S (P_add rfl rfl (wU64 (c := ((n / 2 ^ k + 48 : Nat) : Int)) (by omega))) ?_)
    refine L (S (P_conv Tryz.underlying74 Tryz.underlying5 rfl (wU8 (c := ((n / 2 ^ k + 48 : Nat) : Int)) (by omega))) ?_)
    refine L (S (P_nilCheck rfl) ?_)
    refine L (S (P_fieldAddr fo_217_0 rfl) ?_)
    refine L (S (P_indexAddrA Tryz.underlying215 (csz_of ti_5) rfl rfl (j := x) rfl (by omega) (q := x) (by omega)) ?_)
    refine L (S_stDg ti_5 rfl rfl (c := UInt8.ofNat (n / 2 ^ k + 48)) (by rw [hu8]) hE (by omega) ?_)
    rintro w3 hD3 hm3
    refine L_nil ?_
    refine then_n ?_
    refine C_seq ?_
    refine C_region ?_
    refine L (S (P_move rfl) ?_)
    refine L (S (P_add rfl rfl (wI64 (c := ((x + 1 : Nat) : Int)) (by omega))) ?_)
    refine L (S (P_assign rfl) ?_)
    refine L_nil ?_
    refine then_n ?_
    refine C_region ?_
    refine L (S (P_move rfl) ?_)
    refine L (S (P_mul rfl rfl (wU64 (c := ((n % 2 ^ k * 10 : Nat) : Int)) (by omega))) ?_)
    refine L (S (P_move rfl) ?_)
    refine L (S (P_add rfl rfl (wU64 (c := ((n % 2 ^ k * 10 + c.toNat : Nat) : Int)) (by omega))) ?_)
    refine L (S (P_sub rfl rfl (wU64 (c := ((n % 2 ^ k * 10 + dg E r : Nat) : Int)) (by omega))) ?_)
    refine L (S (P_assign rfl) ?_)
    refine L_nil ?_
    refine blk_n ?_
    refine then_n ?_
    refine C_region ?_
    refine L (S (P_move rfl) ?_)
    refine L (S (P_add rfl rfl (wI64 (c := ((r + 1 : Nat) : Int)) (by omega))) ?_)
    refine L (S (P_assign rfl) ?_)
    refine L_nil ?_
    refine then_n ?_
    exact ⟨rfl, (g, r + 1, x + 1, n % 2 ^ k * 10 + dg E r, setD E x (n / 2 ^ k)), (.cons rfl (.cons rfl (.cons rfl (.cons rfl (.cons rfl (.cons rfl (.nil _))))))), ⟨hD3, hmr.trans hm3 fun _ _ h => h, by dsimp only; omega, by dsimp only; omega, .inl hlt, by dsimp only; omega, hEn, hEd', hrs3⟩, by dsimp only; omega⟩
  · obtain rfl : f = 0 := by omega
    have hrs3 : (x, n, E) = rs2 k (D.nd - r1) r1 0 n1 D0 := hrs2
    rw [← hrs3]
    dsimp only
    refine C_seq ?_
    refine C_seq ?_
    refine C_region ?_
    refine L (S (P_move rfl) ?_)
    refine L (S (P_move rfl) ?_)
    refine L (S (P_nilCheck rfl) ?_)
    refine L (S (P_fieldAddr fo_217_1 rfl) ?_)
    refine L (S_load sc_3 rfl hcn2 ?_)
    refine L (S (P_lt rfl rfl (decide_eq_false (by omega))) ?_)
    refine L_nil ?_
    refine then_n ?_
    refine C_false rfl ?_
    refine C_exit ?_
    refine then_x ?_
    refine then_x ?_
    refine blk_x ?_
    refine then_n ?_
    refine C_seq ?_
    refine C_block ?_
    refine C_loop (γ := Nat × Nat × Nat × Dc) (fun q => [(0, .pointer (some ⟨b, 0, none⟩)), (1, .int .u64 (k : Int)), (5, .int .i64 (q.2.1 : Int)), (6, .int .u64 (q.2.2.1 : Int)), (8, .int .u64 ((2 ^ k - 1 : Nat) : Int))]) (fun q wq => DB wq b q.2.2.2 ∧ Mv (At b) wz wq ∧ q.1 ≤ k + 1 ∧ q.2.1 ≤ 800 ∧ q.2.2.1 < 10 * 2 ^ k ∧ (q.1 = 0 → q.2.2.1 = 0) ∧ (1 ≤ q.1 → 2 ^ (k + 1 - q.1) ∣ q.2.2.1) ∧ rs3 k q.1 q.2.1 q.2.2.1 q.2.2.2 = rs3 k (k + 1) x n E) (fun q => q.1) (k + 1, x, n, E) (.cons rfl (.cons rfl (.cons rfl (.cons rfl (.cons rfl (.nil _)))))) ⟨hE, hmr, Nat.le_refl _, by dsimp only; omega, hnb, fun h => absurd h (by dsimp only; omega), fun _ => by rw [Nat.sub_self]; exact Nat.one_dvd _, rfl⟩ ?_
    rintro ⟨f, y, m, F⟩ wq ⟨hF, hmq, hfk, hy, hmb, hf0, hf1, hrs4⟩
    dsimp only at hF hfk hy hmb hf0 hf1 hrs4
    dsimp only
    clear hcn2
    by_cases hm0 : m = 0
    · have hend : rs3 k f y m F = (y, F) := by
        cases f with
        | zero => rfl
        | succ f => show (if m = 0 then (y, F) else _) = _; rw [if_pos hm0]
      rw [← hrs4, hend]
      dsimp only
      refine C_seq ?_
      refine C_seq ?_
      refine C_region ?_
      refine L (S (P_move rfl) ?_)
      refine L (S (P_gt rfl rfl (decide_eq_false (by omega))) ?_)
      refine L_nil ?_
      refine then_n ?_
      refine C_false rfl ?_
      refine C_exit ?_
      refine then_x ?_
      refine then_x ?_
      refine blk_x ?_
      refine then_n ?_
      refine C_seq ?_
      refine C_region ?_
      refine L (S (P_move rfl) ?_)
      refine L (S (P_move rfl) ?_)
      refine L (S (P_nilCheck rfl) ?_)
      refine L (S (P_fieldAddr fo_217_1 rfl) ?_)
      refine L (S_stNd ti_3 rfl rfl rfl hF ?_)
      rintro w4 hD4 hm4
      refine L_nil ?_
      refine then_n ?_
      refine C_region ?_
      refine L (S (P_move rfl) ?_)
      refine L (S_call cb_197 rfl (trim_ret hD4 hy) ?_)
      rintro _ w5 ⟨hD5, hm5⟩
      refine L_nil ?_
      refine F_end0 Tryz.results190 ?_
      exact ⟨hD5, (hmq.trans hm4 fun _ _ h => h).trans hm5 fun _ _ h => h⟩
    · cases f with
      | zero => exact absurd (hf0 rfl) hm0
      | succ f =>
        have hq9 := hdv9 m hmb
        have hu8 := u8ofNat hq9
        have hmd1 := hmd m
        have hdvd := hf1 (by omega)
        have hk0 : f = 0 → m % 2 ^ k * 10 = 0 := fun h => by
          subst h
          rw [show k + 1 - (0 + 1) = k by omega] at hdvd
          rw [Nat.mod_eq_zero_of_dvd hdvd]
        have hk1' : 1 ≤ f → 2 ^ (k + 1 - f) ∣ m % 2 ^ k * 10 := fun h => by
          have e : 2 ^ (k + 1 - f) = 2 ^ (k + 1 - (f + 1)) * 2 := by rw [← Nat.pow_succ]; congr 1; omega
          have h2 : 2 ^ (k + 1 - (f + 1)) ∣ m % 2 ^ k := (Nat.dvd_mod_iff (Nat.pow_dvd_pow 2 (by omega))).2 hdvd
          rw [e]
          exact Nat.mul_dvd_mul h2 (by decide)
        have hrs5 : (if m = 0 then (y, F) else if y < 800 then rs3 k f (y + 1) (m % 2 ^ k * 10) (setD F y (m / 2 ^ k)) else rs3 k f y (m % 2 ^ k * 10) (if 0 < m / 2 ^ k then { F with tr := true } else F)) = rs3 k (k + 1) x n E := hrs4
        rw [if_neg hm0] at hrs5
        by_cases hy8 : y < 800
        · rw [if_pos hy8] at hrs5
          refine C_seq ?_
          refine C_seq ?_
          refine C_region ?_
          refine L (S (P_move rfl) ?_)
          refine L (S (P_gt rfl rfl (decide_eq_true (by omega))) ?_)
          refine L_nil ?_
          refine then_n ?_
          refine C_true rfl ?_
          refine C_skip ?_
          refine then_n ?_
          refine C_block ?_
          refine C_seq ?_
          refine C_region ?_
          refine L (S (P_move rfl) ?_)
          refine L (S (P_move rfl) ?_)
          refine L (S (P_shr rfl rfl (by omega) (shrU64 (s := k) rfl (by omega) rfl)) ?_)
          refine L (S (P_assign rfl) ?_)
          refine L_nil ?_
          refine then_n ?_
          refine C_seq ?_
          refine C_region ?_
          refine L (S (P_move rfl) ?_)
          refine L (S (P_move rfl) ?_)
          refine L (S (P_and rfl rfl (andU64 (b := 2 ^ k - 1) (by omega) (by omega) (c := ((m % 2 ^ k : Nat) : Int)) (by rw [hand]))) ?_)
          refine L (S (P_assign rfl) ?_)
          refine L_nil ?_
          refine then_n ?_
          refine C_seq ?_
          refine C_seq ?_
          refine C_region ?_
          refine L (S (P_move rfl) ?_)
          refine L (S (P_lt rfl rfl (decide_eq_true (by omega))) ?_)
          refine L_nil ?_
          refine then_n ?_
          refine C_true rfl ?_
          refine C_seq ?_
          refine C_region ?_
          refine L (S (P_move rfl) ?_)
          refine L (S (P_move rfl) ?_)
          refine L (S (P_move rfl) ?_)
          refine L (S (P_add rfl rfl (wU64 (c := ((m / 2 ^ k + 48 : Nat) : Int)) (by omega))) ?_)
          refine L (S (P_conv Tryz.underlying74 Tryz.underlying5 rfl (wU8 (c := ((m / 2 ^ k + 48 : Nat) : Int)) (by omega))) ?_)
          refine L (S (P_nilCheck rfl) ?_)
          refine L (S (P_fieldAddr fo_217_0 rfl) ?_)
          refine L (S (P_indexAddrA Tryz.underlying215 (csz_of ti_5) rfl rfl (j := y) rfl (by omega) (q := y) (by omega)) ?_)
          refine L (S_stDg ti_5 rfl rfl (c := UInt8.ofNat (m / 2 ^ k + 48)) (by rw [hu8]) hF (by omega) ?_)
          rintro w3 hD3 hm3
          refine L_nil ?_
          refine then_n ?_
          refine C_region ?_
          refine L (S (P_move rfl) ?_)
          refine L (S (P_add rfl rfl (wI64 (c := ((y + 1 : Nat) : Int)) (by omega))) ?_)
          refine L (S (P_assign rfl) ?_)
          refine L_nil ?_
          refine then_n ?_
          refine C_region ?_
          refine L (S (P_move rfl) ?_)
          refine L (S (P_mul rfl rfl (wU64 (c := ((m % 2 ^ k * 10 : Nat) : Int)) (by omega))) ?_)
          refine L (S (P_assign rfl) ?_)
          refine L_nil ?_
          refine blk_n ?_
          refine then_n ?_
          exact ⟨rfl, (f, y + 1, m % 2 ^ k * 10, setD F y (m / 2 ^ k)), (.cons rfl (.cons rfl (.cons rfl (.cons rfl (.cons rfl (.nil _)))))), ⟨hD3, hmq.trans hm3 fun _ _ h => h, by dsimp only; omega, by dsimp only; omega, by dsimp only; omega, hk0, hk1', hrs5⟩, by dsimp only; omega⟩
        · rw [if_neg hy8] at hrs5
          by_cases hq0 : 0 < m / 2 ^ k
          · rw [if_pos hq0] at hrs5
            refine C_seq ?_
            refine C_seq ?_
            refine C_region ?_
            refine L (S (P_move rfl) ?_)
            refine L (S (P_gt rfl rfl (decide_eq_true (by omega))) ?_)
            refine L_nil ?_
            refine then_n ?_
            refine C_true rfl ?_
            refine C_skip ?_
            refine then_n ?_
            refine C_block ?_
            refine C_seq ?_
            refine C_region ?_
            refine L (S (P_move rfl) ?_)
            refine L (S (P_move rfl) ?_)
            refine L (S (P_shr rfl rfl (by omega) (shrU64 (s := k) rfl (by omega) rfl)) ?_)
            refine L (S (P_assign rfl) ?_)
            refine L_nil ?_
            refine then_n ?_
            refine C_seq ?_
            refine C_region ?_
            refine L (S (P_move rfl) ?_)
            refine L (S (P_move rfl) ?_)
            refine L (S (P_and rfl rfl (andU64 (b := 2 ^ k - 1) (by omega) (by omega) (c := ((m % 2 ^ k : Nat) : Int)) (by rw [hand]))) ?_)
            refine L (S (P_assign rfl) ?_)
            refine L_nil ?_
            refine then_n ?_
            refine C_seq ?_
            refine C_seq ?_
            refine C_region ?_
            refine L (S (P_move rfl) ?_)
            refine L (S (P_lt rfl rfl (decide_eq_false (by omega))) ?_)
            refine L_nil ?_
            refine then_n ?_
            refine C_false rfl ?_
            refine C_seq ?_
            refine C_region ?_
            refine L (S (P_move rfl) ?_)
            refine L (S (P_gt rfl rfl (decide_eq_true (by omega))) ?_)
            refine L_nil ?_
            refine then_n ?_
            refine C_true rfl ?_
            refine C_region ?_
            refine L (S (P_move rfl) ?_)
            refine L (S (P_nilCheck rfl) ?_)
            refine L (S (P_fieldAddr fo_217_4 rfl) ?_)
            refine L (S_stTr ti_4 rfl rfl hF ?_)
            rintro w3 hD3 hm3
            refine L_nil ?_
            refine then_n ?_
            refine C_region ?_
            refine L (S (P_move rfl) ?_)
            refine L (S (P_mul rfl rfl (wU64 (c := ((m % 2 ^ k * 10 : Nat) : Int)) (by omega))) ?_)
            refine L (S (P_assign rfl) ?_)
            refine L_nil ?_
            refine blk_n ?_
            refine then_n ?_
            exact ⟨rfl, (f, y, m % 2 ^ k * 10, { F with tr := true }), (.cons rfl (.cons rfl (.cons rfl (.cons rfl (.cons rfl (.nil _)))))), ⟨hD3, hmq.trans hm3 fun _ _ h => h, by dsimp only; omega, by dsimp only; omega, by dsimp only; omega, hk0, hk1', hrs5⟩, by dsimp only; omega⟩
          · rw [if_neg hq0] at hrs5
            refine C_seq ?_
            refine C_seq ?_
            refine C_region ?_
            refine L (S (P_move rfl) ?_)
            refine L (S (P_gt rfl rfl (decide_eq_true (by omega))) ?_)
            refine L_nil ?_
            refine then_n ?_
            refine C_true rfl ?_
            refine C_skip ?_
            refine then_n ?_
            refine C_block ?_
            refine C_seq ?_
            refine C_region ?_
            refine L (S (P_move rfl) ?_)
            refine L (S (P_move rfl) ?_)
            refine L (S (P_shr rfl rfl (by omega) (shrU64 (s := k) rfl (by omega) rfl)) ?_)
            refine L (S (P_assign rfl) ?_)
            refine L_nil ?_
            refine then_n ?_
            refine C_seq ?_
            refine C_region ?_
            refine L (S (P_move rfl) ?_)
            refine L (S (P_move rfl) ?_)
            refine L (S (P_and rfl rfl (andU64 (b := 2 ^ k - 1) (by omega) (by omega) (c := ((m % 2 ^ k : Nat) : Int)) (by rw [hand]))) ?_)
            refine L (S (P_assign rfl) ?_)
            refine L_nil ?_
            refine then_n ?_
            refine C_seq ?_
            refine C_seq ?_
            refine C_region ?_
            refine L (S (P_move rfl) ?_)
            refine L (S (P_lt rfl rfl (decide_eq_false (by omega))) ?_)
            refine L_nil ?_
            refine then_n ?_
            refine C_false rfl ?_
            refine C_seq ?_
            refine C_region ?_
            refine L (S (P_move rfl) ?_)
            refine L (S (P_gt rfl rfl (decide_eq_false (by omega))) ?_)
            refine L_nil ?_
            refine then_n ?_
            refine C_false rfl ?_
            refine C_skip ?_
            refine then_n ?_
            refine C_region ?_
            refine L (S (P_move rfl) ?_)
            refine L (S (P_mul rfl rfl (wU64 (c := ((m % 2 ^ k * 10 : Nat) : Int)) (by omega))) ?_)
            refine L (S (P_assign rfl) ?_)
            refine L_nil ?_
            refine blk_n ?_
            refine then_n ?_
            exact ⟨rfl, (f, y, m % 2 ^ k * 10, F), (.cons rfl (.cons rfl (.cons rfl (.cons rfl (.cons rfl (.nil _)))))), ⟨hF, hmq, by dsimp only; omega, by dsimp only; omega, by dsimp only; omega, hk0, hk1', hrs5⟩, by dsimp only; omega⟩
end
end Go.Proofs.YtnoioimphcmeiaaGreatDoor
