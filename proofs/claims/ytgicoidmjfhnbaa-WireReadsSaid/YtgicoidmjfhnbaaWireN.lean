import Derived.Test.YtgicoidmjfhnbaaWire
namespace Go.Proofs.Ytgicoidmjfhnbaa
open Go.RowKit

theorem shlU64 {x s : Nat} {a b c : Int} (ha : a = (x : Int)) (hb : b = (s : Int)) (hs : s < 64) (h : x * 2 ^ s < 18446744073709551616) (hc : c = ((x * 2 ^ s : Nat) : Int)) : IntKind.u64.wrap (a * 2 ^ (min b.toNat IntKind.u64.bits)) = c := by
  subst ha; subst hb; subst hc
  have e : min ((s : Int)).toNat IntKind.u64.bits = s := by simp only [Int.toNat_natCast, IntKind.bits]; omega
  rw [e]
  have e2 : ((x : Int) * 2 ^ s) = ((x * 2 ^ s : Nat) : Int) := by simp
  rw [e2]
  generalize x * 2 ^ s = y at *
  exact wU64 ⟨rfl, by omega, by omega⟩

theorem orU64 {a x s : Nat} {p q c : Int} (hp : p = (a : Int)) (hq : q = ((x * 2 ^ s : Nat) : Int)) (ha : a < 2 ^ s) (h : a + x * 2 ^ s < 18446744073709551616) (hc : c = ((a + x * 2 ^ s : Nat) : Int)) : bitsOp .or .u64 p q = c := by
  subst hp; subst hq; subst hc
  simp only [bitsOp]
  have e : (BitVec.ofInt IntKind.u64.bits (a : Int) ||| BitVec.ofInt IntKind.u64.bits ((x * 2 ^ s : Nat) : Int)).toNat = a + x * 2 ^ s := by
    rw [BitVec.toNat_or, BitVec.toNat_ofInt, BitVec.toNat_ofInt]
    have e1 : ((a : Int) % ((2 ^ IntKind.u64.bits : Nat) : Int)).toNat = a := by simp only [IntKind.bits]; omega
    have e2 : (((x * 2 ^ s : Nat) : Int) % ((2 ^ IntKind.u64.bits : Nat) : Int)).toNat = x * 2 ^ s := by
      generalize x * 2 ^ s = y at *
      simp only [IntKind.bits]; omega
    rw [e1, e2, Nat.or_comm, ← Nat.shiftLeft_eq, ← Nat.shiftLeft_add_eq_or_of_lt ha, Nat.add_comm]
  rw [e]
  generalize a + x * 2 ^ s = y at *
  exact wU64 ⟨rfl, by omega, by omega⟩

theorem takeF_nil {i acc : Nat} : takeF i acc [] = .error 10 := rfl
theorem takeF_cons {i acc : Nat} {c : UInt8} {r : List UInt8} : takeF i acc (c :: r) = if i = 9 ∧ 1 < c.toNat then .error 7
    else if c.toNat < 128 then (if c.toNat = 0 ∧ 0 < i then .error 7 else .ok (acc + c.toNat % 128 * 2 ^ (7 * i), r))
    else takeF (i + 1) (acc + c.toNat % 128 * 2 ^ (7 * i)) r := rfl

theorem rnum_ret {w : World} {lo g : Nat} {bs : List UInt8} {err : Int} (h : IsR w lo g bs err) :
    Ret Try.prog 14 [.pointer (some ⟨g, 0, none⟩)] w fun v w' => v = .int .u64 (rNum bs err).1 ∧ IsR w' lo g (rNum bs err).2.1 (rNum bs err).2.2 ∧ Mv (At g) w w' := by
  have H := h
  obtain ⟨⟨A, cap, hb, hr, h1, h2, h3⟩, hl⟩ := h
  by_cases he : err = 0
  · have hR : rNum bs err = ofTake bs (takeF 0 0 bs) := by simp [rNum, he]
    rw [hR]
    have hml : bs.length < 9223372036854775808 := by unfold maxLen at h2; omega
    refine F_enter Try.func14 Try.ntmps14 rfl rfl ?_
    refine C_seq ?_
    refine C_region ?_
    refine L (S (P_assign rfl) ?_)
    refine L_nil ?_
    refine then_n ?_
    refine C_seq ?_
    refine C_seq ?_
    refine C_region ?_
    refine L (S (P_move rfl) ?_)
    refine L (S_call cb_16 rfl (rerr_ret H) ?_)
    rintro _ _ ⟨rfl, rfl⟩
    refine L (S (P_ne rfl rfl (decide_eq_false (by simpa using he))) ?_)
    refine L_nil ?_
    refine then_n ?_
    refine C_false rfl ?_
    refine C_skip ?_
    refine then_n ?_
    refine C_seq ?_
    refine C_region ?_
    refine L (S (P_assign rfl) ?_)
    refine L (S (P_assign rfl) ?_)
    refine L_nil ?_
    refine then_n ?_
    refine C_seq ?_
    refine C_seq ?_
    refine C_region ?_
    refine L (S (P_move rfl) ?_)
    refine L_nil ?_
    refine then_n ?_
    refine C_block ?_
    refine C_loop (γ := Nat × Nat) (fun g' => [(0, .pointer (some ⟨g, 0, none⟩)), (3, .int .u64 (g'.2 : Int)), (4, .int .i64 ((7 * g'.1 : Nat) : Int)), (10, .int .i64 (g'.1 : Int))]) (fun g' wr => wr = w ∧ g'.1 ≤ 9 ∧ g'.1 ≤ bs.length ∧ g'.2 < 2 ^ (7 * g'.1) ∧ takeF 0 0 bs = takeF g'.1 g'.2 (bs.drop g'.1)) (fun g' => 10 - g'.1) (0, 0) (.cons rfl (.cons rfl (.cons rfl (.cons rfl (.nil _))))) ⟨rfl, by omega, by omega, by simp, by simp⟩ ?_
    rintro ⟨i, acc⟩ wr ⟨hwr, hi, hib, hacc, htk⟩
    dsimp only at hwr hi hib hacc htk
    subst hwr
    dsimp only
    by_cases hend : i = bs.length
    · have hd : bs.drop i = [] := by rw [hend]; simp
      rw [htk, hd, takeF_nil]
      refine C_seq ?_
      refine C_region ?_
      refine L (S (P_lt rfl rfl (decide_eq_true (by omega))) ?_)
      refine L_nil ?_
      refine then_n ?_
      refine C_seq ?_
      refine C_true rfl ?_
      refine C_skip ?_
      refine then_n ?_
      refine C_seq ?_
      refine C_block ?_
      refine C_seq ?_
      refine C_region ?_
      refine L (S (P_move rfl) ?_)
      refine L (S (P_assign rfl) ?_)
      refine L_nil ?_
      refine then_n ?_
      refine C_seq ?_
      refine C_seq ?_
      refine C_region ?_
      refine L (S (P_move rfl) ?_)
      refine L (S (P_move rfl) ?_)
      refine L (S (P_nilCheck rfl) ?_)
      refine L (S (P_fieldAddr fo_57_0 rfl) ?_)
      refine L (S_load sc_23 rfl (hb.cell (i := 0) rfl) ?_)
      refine L (S (P_lenS Try.underlying23 rfl) ?_)
      refine L (S (P_eq rfl rfl (decide_eq_true (by omega))) ?_)
      refine L_nil ?_
      refine then_n ?_
      refine C_true rfl ?_
      refine C_seq ?_
      refine C_region ?_
      refine L (S (P_move rfl) ?_)
      refine L (S_call cb_29 rfl (rfail_ret 10 H) ?_)
      rintro _ w1 ⟨rfl, h1, hm1⟩
      refine L (S (P_assign rfl) ?_)
      refine L_nil ?_
      refine then_n ?_
      refine C_ret ?_
      refine then_r ?_
      refine blk_r ?_
      refine then_r ?_
      refine then_r ?_
      refine blk_r ?_
      refine then_r ?_
      refine F_ret1 Try.results14 rfl ?_
      exact ⟨rfl, h1, hm1⟩
    · obtain ⟨c, r, hd⟩ : ∃ c r, bs.drop i = c :: r := by
        cases hd : bs.drop i with
        | nil => have := List.drop_eq_nil_iff.1 hd; omega
        | cons c r => exact ⟨c, r, rfl⟩
      have hci : bs[i]? = some c := by
        have := congrArg List.head? hd
        simpa [List.head?_drop] using this
      have hrd : bs.drop (i + 1) = r := by
        have := congrArg List.tail hd
        simpa [List.tail_drop] using this
      obtain ⟨b, off, rfl, hrow⟩ := hr.form (i := i) (by simp; omega)
      have hcell : wr.cell? ⟨b, off + i * 1, none⟩ = some (.int .u8 (c.toNat : Int)) := by rw [Nat.mul_one]; exact hrow i _ (by simp [hci, bv])
      rw [htk, hd, takeF_cons]
      have hc256 : c.toNat < 256 := c.toNat_lt
      by_cases h9 : i = 9 ∧ 1 < c.toNat
      · rw [if_pos h9]
        refine C_seq ?_
        refine C_region ?_
        refine L (S (P_lt rfl rfl (decide_eq_true (by omega))) ?_)
        refine L_nil ?_
        refine then_n ?_
        refine C_seq ?_
        refine C_true rfl ?_
        refine C_skip ?_
        refine then_n ?_
        refine C_seq ?_
        refine C_block ?_
        refine C_seq ?_
        refine C_region ?_
        refine L (S (P_move rfl) ?_)
        refine L (S (P_assign rfl) ?_)
        refine L_nil ?_
        refine then_n ?_
        refine C_seq ?_
        refine C_seq ?_
        refine C_region ?_
        refine L (S (P_move rfl) ?_)
        refine L (S (P_move rfl) ?_)
        refine L (S (P_nilCheck rfl) ?_)
        refine L (S (P_fieldAddr fo_57_0 rfl) ?_)
        refine L (S_load sc_23 rfl (hb.cell (i := 0) rfl) ?_)
        refine L (S (P_lenS Try.underlying23 rfl) ?_)
        refine L (S (P_eq rfl rfl (decide_eq_false (by omega))) ?_)
        refine L_nil ?_
        refine then_n ?_
        refine C_false rfl ?_
        refine C_skip ?_
        refine then_n ?_
        refine C_seq ?_
        refine C_region ?_
        refine L (S (P_move rfl) ?_)
        refine L (S (P_nilCheck rfl) ?_)
        refine L (S (P_fieldAddr fo_57_0 rfl) ?_)
        refine L (S_load sc_23 rfl (hb.cell (i := 0) rfl) ?_)
        refine L (S (P_move rfl) ?_)
        refine L (S (P_indexAddr Try.underlying23 (csz_of ti_5) rfl rfl (j := i) rfl (by omega) rfl) ?_)
        refine L (S_load sc_5 rfl hcell ?_)
        refine L (S (P_assign rfl) ?_)
        refine L_nil ?_
        refine then_n ?_
        refine C_seq ?_
        refine C_seq ?_
        refine C_region ?_
        refine L (S (P_move rfl) ?_)
        refine L (S (P_eq rfl rfl (decide_eq_true (by omega))) ?_)
        refine L (S (P_move rfl) ?_)
        refine L_yes (j := 2) (dj := 31) (b := true) (S (P_move rfl) ?_) rfl
        refine L_yes (j := 2) (dj := 31) (b := true) (S (P_gt rfl rfl (decide_eq_true (by omega))) ?_) rfl
        refine L (S (P_pickT rfl rfl) ?_)
        refine L_nil ?_
        refine then_n ?_
        refine C_true rfl ?_
        refine C_seq ?_
        refine C_region ?_
        refine L (S (P_move rfl) ?_)
        refine L (S_call cb_29 rfl (rfail_ret 7 H) ?_)
        rintro _ w1 ⟨rfl, h1, hm1⟩
        refine L (S (P_assign rfl) ?_)
        refine L_nil ?_
        refine then_n ?_
        refine C_ret ?_
        refine then_r ?_
        refine blk_r ?_
        refine then_r ?_
        refine then_r ?_
        refine blk_r ?_
        refine then_r ?_
        refine F_ret1 Try.results14 rfl ?_
        exact ⟨rfl, h1, hm1⟩
      · rw [if_neg h9]
        have hle : c.toNat % 128 * 2 ^ (7 * i) ≤ 127 * 2 ^ (7 * i) := Nat.mul_le_mul_right _ (by omega)
        have hp : 2 ^ (7 * (i + 1)) = 2 ^ (7 * i) * 128 := by rw [show 7 * (i + 1) = 7 * i + 7 by omega, Nat.pow_add]
        have hacc' : acc + c.toNat % 128 * 2 ^ (7 * i) < 2 ^ (7 * (i + 1)) := by omega
        have hbnd : acc + c.toNat % 128 * 2 ^ (7 * i) < 18446744073709551616 := by
          by_cases hi9 : i = 9
          · subst hi9
            have : c.toNat % 128 * 2 ^ (7 * 9) ≤ 1 * 2 ^ 63 := Nat.mul_le_mul_right _ (by omega)
            omega
          · have : 2 ^ (7 * (i + 1)) ≤ 2 ^ 63 := Nat.pow_le_pow_right (by omega) (by omega)
            omega
        have hsh : c.toNat % 128 * 2 ^ (7 * i) < 18446744073709551616 := by omega
        refine C_seq ?_
        refine C_region ?_
        refine L (S (P_lt rfl rfl (decide_eq_true (by omega))) ?_)
        refine L_nil ?_
        refine then_n ?_
        refine C_seq ?_
        refine C_true rfl ?_
        refine C_skip ?_
        refine then_n ?_
        refine C_seq ?_
        refine C_block ?_
        refine C_seq ?_
        refine C_region ?_
        refine L (S (P_move rfl) ?_)
        refine L (S (P_assign rfl) ?_)
        refine L_nil ?_
        refine then_n ?_
        refine C_seq ?_
        refine C_seq ?_
        refine C_region ?_
        refine L (S (P_move rfl) ?_)
        refine L (S (P_move rfl) ?_)
        refine L (S (P_nilCheck rfl) ?_)
        refine L (S (P_fieldAddr fo_57_0 rfl) ?_)
        refine L (S_load sc_23 rfl (hb.cell (i := 0) rfl) ?_)
        refine L (S (P_lenS Try.underlying23 rfl) ?_)
        refine L (S (P_eq rfl rfl (decide_eq_false (by omega))) ?_)
        refine L_nil ?_
        refine then_n ?_
        refine C_false rfl ?_
        refine C_skip ?_
        refine then_n ?_
        refine C_seq ?_
        refine C_region ?_
        refine L (S (P_move rfl) ?_)
        refine L (S (P_nilCheck rfl) ?_)
        refine L (S (P_fieldAddr fo_57_0 rfl) ?_)
        refine L (S_load sc_23 rfl (hb.cell (i := 0) rfl) ?_)
        refine L (S (P_move rfl) ?_)
        refine L (S (P_indexAddr Try.underlying23 (csz_of ti_5) rfl rfl (j := i) rfl (by omega) rfl) ?_)
        refine L (S_load sc_5 rfl hcell ?_)
        refine L (S (P_assign rfl) ?_)
        refine L_nil ?_
        refine then_n ?_
        refine C_seq ?_
        refine C_seq ?_
        refine C_cutg (γ := Unit) (fun _ => [(0, .pointer (some ⟨g, 0, none⟩)), (3, .int .u64 (acc : Int)), (4, .int .i64 ((7 * i : Nat) : Int)), (5, .int .i64 (i : Int)), (6, .int .u8 (c.toNat : Int)), (10, .int .i64 (i : Int)), (34, .bool false)]) (fun _ wc => wr = wc) ?_ ?_
        · by_cases hi9 : i = 9
          · refine C_region ?_
            refine L (S (P_move rfl) ?_)
            refine L (S (P_eq rfl rfl (decide_eq_true (by omega))) ?_)
            refine L (S (P_move rfl) ?_)
            refine L_yes (j := 2) (dj := 31) (b := true) (S (P_move rfl) ?_) rfl
            refine L_yes (j := 2) (dj := 31) (b := true) (S (P_gt rfl rfl (decide_eq_false (by omega))) ?_) rfl
            refine L (S (P_pickT rfl rfl) ?_)
            refine L_nil ?_
            refine then_n ?_
            exact ⟨rfl, (), .cons rfl (.cons rfl (.cons rfl (.cons rfl (.cons rfl (.cons rfl (.cons rfl (.nil _))))))), rfl⟩
          · refine C_region ?_
            refine L (S (P_move rfl) ?_)
            refine L (S (P_eq rfl rfl (decide_eq_false (by omega))) ?_)
            refine L (S (P_move rfl) ?_)
            refine L_no (j := 2) (dj := 31) (b := true) (b' := false) (d := 32) rfl ?_
            refine L_no (j := 2) (dj := 31) (b := true) (b' := false) (d := 33) rfl ?_
            refine L (S (P_pickF rfl rfl) ?_)
            refine L_nil ?_
            refine then_n ?_
            exact ⟨rfl, (), .cons rfl (.cons rfl (.cons rfl (.cons rfl (.cons rfl (.cons rfl (.cons rfl (.nil _))))))), rfl⟩
        rintro _ _ rfl f' hf'
        refine C_forget hf' ?_
        refine C_false rfl ?_
        refine C_skip ?_
        refine then_n ?_
        refine C_seq ?_
        refine C_region ?_
        refine L (S (P_move rfl) ?_)
        refine L (S (P_move rfl) ?_)
        refine L (S (P_rem rfl rfl (c := ((c.toNat % 128 : Nat) : Int)) (by decide) (remN (m := c.toNat) (k := 128) rfl rfl rfl)) ?_)
        refine L (S (P_conv Try.underlying5 Try.underlying22 rfl (wU64 (c := ((c.toNat % 128 : Nat) : Int)) (by omega))) ?_)
        refine L (S (P_move rfl) ?_)
        refine L (S (P_shl rfl rfl (c := ((c.toNat % 128 * 2 ^ (7 * i) : Nat) : Int)) (by omega) (shlU64 rfl rfl (by omega) hsh rfl)) ?_)
        refine L (S (P_or rfl rfl (c := ((acc + c.toNat % 128 * 2 ^ (7 * i) : Nat) : Int)) (orU64 rfl rfl hacc hbnd rfl)) ?_)
        refine L (S (P_assign rfl) ?_)
        refine L_nil ?_
        refine then_n ?_
        refine C_seq ?_
        refine C_region ?_
        refine L (S (P_move rfl) ?_)
        refine L (S (P_add rfl rfl (wI64 (c := ((7 * (i + 1) : Nat) : Int)) (by omega))) ?_)
        refine L (S (P_assign rfl) ?_)
        refine L_nil ?_
        refine then_n ?_
        refine C_seq ?_
        refine C_seq ?_
        by_cases hlt : c.toNat < 128
        · rw [if_pos hlt]
          have hA' : ∀ a, cutA (some ⟨b, off, none⟩) (i + 1) 1 cap = some a → a.block < g ∧ lo ≤ a.block := fun a ha => by
            obtain ⟨a', ha', hab⟩ := cutA_block ha
            rw [← hab]
            exact h3 a' ha'
          by_cases hz : c.toNat = 0 ∧ 0 < i
          · rw [if_pos hz]
            refine C_region ?_
            refine L (S (P_move rfl) ?_)
            refine L (S (P_ge rfl rfl (decide_eq_false (by omega))) ?_)
            refine L_nil ?_
            refine then_n ?_
            refine C_false rfl ?_
            refine C_skip ?_
            refine then_n ?_
            refine C_seq ?_
            refine C_seq ?_
            refine C_region ?_
            refine L (S (P_move rfl) ?_)
            refine L (S (P_eq rfl rfl (decide_eq_true (by omega))) ?_)
            refine L (S (P_move rfl) ?_)
            refine L_yes (j := 2) (dj := 50) (b := true) (S (P_move rfl) ?_) rfl
            refine L_yes (j := 2) (dj := 50) (b := true) (S (P_gt rfl rfl (decide_eq_true (by omega))) ?_) rfl
            refine L (S (P_pickT rfl rfl) ?_)
            refine L_nil ?_
            refine then_n ?_
            refine C_true rfl ?_
            refine C_seq ?_
            refine C_region ?_
            refine L (S (P_move rfl) ?_)
            refine L (S_call cb_29 rfl (rfail_ret 7 H) ?_)
            rintro _ w1 ⟨rfl, h1, hm1⟩
            refine L (S (P_assign rfl) ?_)
            refine L_nil ?_
            refine then_n ?_
            refine C_ret ?_
            refine then_r ?_
            refine blk_r ?_
            refine then_r ?_
            refine then_r ?_
            refine blk_r ?_
            refine then_r ?_
            refine F_ret1 Try.results14 rfl ?_
            exact ⟨rfl, h1, hm1⟩
          · rw [if_neg hz]
            refine C_region ?_
            refine L (S (P_move rfl) ?_)
            refine L (S (P_ge rfl rfl (decide_eq_false (by omega))) ?_)
            refine L_nil ?_
            refine then_n ?_
            refine C_false rfl ?_
            refine C_skip ?_
            refine then_n ?_
            refine C_seq ?_
            refine C_seq ?_
            refine C_cutg (γ := Unit) (fun _ => [(0, .pointer (some ⟨g, 0, none⟩)), (3, .int .u64 ((acc + c.toNat % 128 * 2 ^ (7 * i) : Nat) : Int)), (5, .int .i64 (i : Int)), (53, .bool false)]) (fun _ wc => wr = wc) ?_ ?_
            · by_cases hc0 : c.toNat = 0
              · refine C_region ?_
                refine L (S (P_move rfl) ?_)
                refine L (S (P_eq rfl rfl (decide_eq_true (by omega))) ?_)
                refine L (S (P_move rfl) ?_)
                refine L_yes (j := 2) (dj := 50) (b := true) (S (P_move rfl) ?_) rfl
                refine L_yes (j := 2) (dj := 50) (b := true) (S (P_gt rfl rfl (decide_eq_false (by omega))) ?_) rfl
                refine L (S (P_pickT rfl rfl) ?_)
                refine L_nil ?_
                refine then_n ?_
                exact ⟨rfl, (), .cons rfl (.cons rfl (.cons rfl (.cons rfl (.nil _)))), rfl⟩
              · refine C_region ?_
                refine L (S (P_move rfl) ?_)
                refine L (S (P_eq rfl rfl (decide_eq_false (by omega))) ?_)
                refine L (S (P_move rfl) ?_)
                refine L_no (j := 2) (dj := 50) (b := true) (b' := false) (d := 51) rfl ?_
                refine L_no (j := 2) (dj := 50) (b := true) (b' := false) (d := 52) rfl ?_
                refine L (S (P_pickF rfl rfl) ?_)
                refine L_nil ?_
                refine then_n ?_
                exact ⟨rfl, (), .cons rfl (.cons rfl (.cons rfl (.cons rfl (.nil _)))), rfl⟩
            rintro _ _ rfl f' hf'
            refine C_forget hf' ?_
            refine C_false rfl ?_
            refine C_skip ?_
            refine then_n ?_
            refine C_seq ?_
            refine C_region ?_
            refine L (S (P_move rfl) ?_)
            refine L (S (P_move rfl) ?_)
            refine L (S (P_nilCheck rfl) ?_)
            refine L (S (P_fieldAddr fo_57_0 rfl) ?_)
            refine L (S_load sc_23 rfl (hb.cell (i := 0) rfl) ?_)
            refine L (S (P_move rfl) ?_)
            refine L (S (P_add rfl rfl (wI64 (c := ((i + 1 : Nat) : Int)) (by omega))) ?_)
            refine L (S (P_slice Try.underlying23 (csz_of ti_5) rfl (bnd_some (j := i + 1) rfl rfl) bnd_none (by omega) (by omega)) ?_)
            refine L (S (P_nilCheck rfl) ?_)
            refine L (S (P_fieldAddr fo_57_0 rfl) ?_)
            refine L (S_store ti_23 rfl rfl rfl hb (by simp) ?_)
            rintro w1 hb1 hm1
            refine L_nil ?_
            refine then_n ?_
            refine C_seq ?_
            refine C_region ?_
            refine L (S (P_move rfl) ?_)
            refine L (S (P_assign rfl) ?_)
            refine L_nil ?_
            refine then_n ?_
            refine C_ret ?_
            refine blk_r ?_
            refine then_r ?_
            refine then_r ?_
            refine blk_r ?_
            refine then_r ?_
            refine F_ret1 Try.results14 rfl ?_
            have hlr : r.length = bs.length - (i + 1) := by rw [← hrd]; simp
            refine ⟨rfl, IsR.put (bs' := r) (err' := 0) hl (by rw [hlr, ← he]; exact hb1) hm1 ?_ (by omega) (by omega) hA', hm1⟩
            have := SlR.cut (m := 1) (l := i + 1) (cap := cap) hr (by simpa using h1)
            rw [Nat.mul_one, ← List.map_drop, hrd] at this
            exact this
        · rw [if_neg hlt]
          refine C_region ?_
          refine L (S (P_move rfl) ?_)
          refine L (S (P_ge rfl rfl (decide_eq_true (by omega))) ?_)
          refine L_nil ?_
          refine then_n ?_
          refine C_true rfl ?_
          refine C_exit ?_
          refine then_x ?_
          refine blk_x ?_
          refine then_n ?_
          refine C_region ?_
          refine L (S (P_add rfl rfl (wI64 (c := ((i + 1 : Nat) : Int)) (by omega))) ?_)
          refine L (S (P_move rfl) ?_)
          refine L_nil ?_
          refine then_n ?_
          exact ⟨rfl, (i + 1, acc + c.toNat % 128 * 2 ^ (7 * i)), .cons rfl (.cons rfl (.cons rfl (.cons rfl (.nil _)))), ⟨rfl, by dsimp only; omega, by dsimp only; omega, hacc', by dsimp only; rw [hrd]⟩, by dsimp only; omega⟩
  · have hR : rNum bs err = (0, bs, err) := by simp [rNum, he]
    rw [hR]
    refine F_enter Try.func14 Try.ntmps14 rfl rfl ?_
    refine C_seq ?_
    refine C_region ?_
    refine L (S (P_assign rfl) ?_)
    refine L_nil ?_
    refine then_n ?_
    refine C_seq ?_
    refine C_seq ?_
    refine C_region ?_
    refine L (S (P_move rfl) ?_)
    refine L (S_call cb_16 rfl (rerr_ret H) ?_)
    rintro _ _ ⟨rfl, rfl⟩
    refine L (S (P_ne rfl rfl (decide_eq_true he)) ?_)
    refine L_nil ?_
    refine then_n ?_
    refine C_true rfl ?_
    refine C_seq ?_
    refine C_region ?_
    refine L (S (P_assign rfl) ?_)
    refine L_nil ?_
    refine then_n ?_
    refine C_ret ?_
    refine then_r ?_
    refine F_ret1 Try.results14 rfl ?_
    exact ⟨rfl, H, Mv.refl w⟩

end Go.Proofs.Ytgicoidmjfhnbaa
