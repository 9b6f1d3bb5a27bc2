import Derived.Test.YtnoioimphcmeiaaGreatDoorFVars
namespace Go.Proofs.YtnoioimphcmeiaaGreatDoor
open Go.RowKit
set_option maxRecDepth 20000
set_option maxHeartbeats 1000000

theorem bitLen_spec : ∀ (f x : Nat), x < 2 ^ f → x ≠ 0 → ∃ b, Lib.bitLenAux f x = b + 1 ∧ b < f ∧ 2 ^ b ≤ x ∧ x < 2 ^ (b + 1) := by
  intro f
  induction f with
  | zero => intro x h h0; have : x = 0 := by simpa using h
            exact absurd this h0
  | succ f ih =>
    intro x h h0
    by_cases h1 : x / 2 = 0
    · refine ⟨0, ?_, by omega, by omega, by omega⟩
      have h2 : ∀ g, Lib.bitLenAux g 0 = 0 := by
        intro g; cases g <;> simp [Lib.bitLenAux]
      have hx : x = 1 := by omega
      subst hx
      simp [Lib.bitLenAux, h2]
    · obtain ⟨b, e1, e2, e3, e4⟩ := ih (x / 2) (by rw [Nat.pow_succ] at h; omega) h1
      refine ⟨b + 1, ?_, by omega, by rw [Nat.pow_succ]; omega, by rw [Nat.pow_succ]; omega⟩
      simp only [Lib.bitLenAux, if_neg h0, e1]
      omega
theorem bitLen_ok {d : Nat} (h0 : d ≠ 0) (h : d < 18446744073709551616) : ∃ b, Lib.bitLen d = b ∧ 1 ≤ b ∧ b ≤ 64 ∧ 9223372036854775808 ≤ d * 2 ^ (64 - b) ∧ d * 2 ^ (64 - b) < 18446744073709551616 := by
  obtain ⟨b, e1, e2, e3, e4⟩ := bitLen_spec 64 d (by simpa using h) h0
  refine ⟨b + 1, e1, by omega, by omega, ?_, ?_⟩
  · have : 2 ^ b * 2 ^ (64 - (b + 1)) = 2 ^ 63 := by rw [← Nat.pow_add]; congr 1; omega
    have h2 := Nat.mul_le_mul_right (2 ^ (64 - (b + 1))) e3
    rw [this] at h2
    simpa using h2
  · have : 2 ^ (b + 1) * 2 ^ (64 - (b + 1)) = 2 ^ 64 := by rw [← Nat.pow_add]; congr 1; omega
    have h2 := Nat.mul_lt_mul_of_pos_right e4 (Nat.two_pow_pos (64 - (b + 1)))
    rw [this] at h2
    simpa using h2

def lpF (p : Int) : Int := p * 108853 / 32768
theorem shrI64 {a c : Int} {s : Nat} {b : Int} (hb : b = (s : Int)) (hs : s ≤ 64) (hc : c = a / (2 ^ s : Nat)) : a.fdiv (2 ^ (min b.toNat IntKind.i64.bits)) = c := by
  subst hb hc
  have e : min (s : Int).toNat IntKind.i64.bits = s := by
    show min (s : Int).toNat 64 = s
    omega
  rw [e]
  have h2 : ((2 : Int) ^ s) = ((2 ^ s : Nat) : Int) := by simp
  rw [h2, Int.fdiv_eq_ediv_of_nonneg _ (Int.natCast_nonneg _)]

section
variable {w : World}
theorem log2Pow10_ret (p : Int) (h1 : -1000 ≤ p) (h2 : p ≤ 1000) : Ret Tryz.prog 177 [.int .i64 p] w fun v w' => v = .int .i64 (lpF p) ∧ w = w' := by
  refine F_enter Tryz.func177 Tryz.ntmps177 rfl rfl ?_
  refine C_seq ?_
  refine C_region ?_
  refine L (S (P_assign rfl) ?_)
  refine L_nil ?_
  refine then_n ?_
  refine C_seq ?_
  refine C_region ?_
  refine L (S (P_move rfl) ?_)
  refine L (S (P_mul rfl rfl (wI64 (c := p * 108853) (by omega))) ?_)
  refine L (S (P_shr rfl rfl (by omega) (shrI64 (s := 15) rfl (by omega) rfl)) ?_)
  refine L (S (P_assign rfl) ?_)
  refine L_nil ?_
  refine then_n ?_
  refine C_ret ?_
  refine F_ret1 Tryz.results177 rfl ?_
  exact ⟨rfl, rfl⟩
theorem unmin_ret : Ret Tryz.prog 181 [.int .u64 9007199254740992] w fun v w' => v = .int .u64 36028797018963966 ∧ w = w' := by
  refine F_enter Tryz.func181 Tryz.ntmps181 rfl rfl ?_
  refine C_seq ?_
  refine C_region ?_
  refine L (S (P_assign rfl) ?_)
  refine L_nil ?_
  refine then_n ?_
  refine C_seq ?_
  refine C_region ?_
  refine L (S (P_move rfl) ?_)
  refine L (S (P_shl rfl rfl (by omega) (c := 36028797018963968) (by decide)) ?_)
  refine L (S (P_sub rfl rfl (c := 36028797018963966) (by decide)) ?_)
  refine L (S (P_assign rfl) ?_)
  refine L_nil ?_
  refine then_n ?_
  refine C_ret ?_
  refine F_ret1 Tryz.results181 rfl ?_
  exact ⟨rfl, rfl⟩
def rnF (u : Nat) : Nat := (u + 1 + u / 4 % 2) / 4
theorem round_ret (u : Nat) (hu : u < 4611686018427387904) : Ret Tryz.prog 183 [.int .u64 (u : Int)] w fun v w' => v = .int .u64 (rnF u : Int) ∧ w = w' := by
  have h1 : (u / 4) &&& 1 = u / 4 % 2 := Nat.and_one_is_mod _
  refine F_enter Tryz.func183 Tryz.ntmps183 rfl rfl ?_
  refine C_seq ?_
  refine C_region ?_
  refine L (S (P_assign rfl) ?_)
  refine L_nil ?_
  refine then_n ?_
  refine C_seq ?_
  refine C_region ?_
  refine L (S (P_move rfl) ?_)
  refine L (S (P_add rfl rfl (wU64 (c := ((u + 1 : Nat) : Int)) (by omega))) ?_)
  refine L (S (P_move rfl) ?_)
  refine L (S (P_shr rfl rfl (by omega) (shrU64 (s := 2) rfl (by omega) rfl)) ?_)
  refine L (S (P_and rfl rfl (andU64 (b := 1) (by omega) (by omega) rfl)) ?_)
  refine L (S (P_add rfl rfl (wU64 (c := ((u + 1 + u / 4 % 2 : Nat) : Int)) (by have : u / 2 ^ 2 &&& 1 = u / 4 % 2 := h1; rw [this]; omega))) ?_)
  refine L (S (P_shr rfl rfl (by omega) (shrU64 (s := 2) rfl (by omega) rfl)) ?_)
  refine L (S (P_assign rfl) ?_)
  refine L_nil ?_
  refine then_n ?_
  refine C_ret ?_
  refine F_ret1 Tryz.results183 rfl ?_
  exact ⟨rfl, rfl⟩
theorem bool2u_ret (β : Bool) : Ret Tryz.prog 166 [.bool β] w fun v w' => v = .int .u64 (if β = true then 1 else 0) ∧ w = w' := by
  cases β
  · refine F_enter Tryz.func166 Tryz.ntmps166 rfl rfl ?_
    refine C_seq ?_
    refine C_region ?_
    refine L (S (P_assign rfl) ?_)
    refine L_nil ?_
    refine then_n ?_
    refine C_seq ?_
    refine C_seq ?_
    refine C_region ?_
    refine L (S (P_move rfl) ?_)
    refine L_nil ?_
    refine then_n ?_
    refine C_false rfl ?_
    refine C_skip ?_
    refine then_n ?_
    refine C_seq ?_
    refine C_region ?_
    refine L (S (P_assign rfl) ?_)
    refine L_nil ?_
    refine then_n ?_
    refine C_ret ?_
    refine F_ret1 Tryz.results166 rfl ?_
    exact ⟨rfl, rfl⟩
  · refine F_enter Tryz.func166 Tryz.ntmps166 rfl rfl ?_
    refine C_seq ?_
    refine C_region ?_
    refine L (S (P_assign rfl) ?_)
    refine L_nil ?_
    refine then_n ?_
    refine C_seq ?_
    refine C_seq ?_
    refine C_region ?_
    refine L (S (P_move rfl) ?_)
    refine L_nil ?_
    refine then_n ?_
    refine C_true rfl ?_
    refine C_seq ?_
    refine C_region ?_
    refine L (S (P_assign rfl) ?_)
    refine L_nil ?_
    refine then_n ?_
    refine C_ret ?_
    refine then_r ?_
    refine F_ret1 Tryz.results166 rfl ?_
    exact ⟨rfl, rfl⟩
theorem bool2i_ret (β : Bool) : Ret Tryz.prog 180 [.bool β] w fun v w' => v = .int .i64 (if β = true then 1 else 0) ∧ w = w' := by
  cases β
  · refine F_enter Tryz.func180 Tryz.ntmps180 rfl rfl ?_
    refine C_seq ?_
    refine C_region ?_
    refine L (S (P_assign rfl) ?_)
    refine L_nil ?_
    refine then_n ?_
    refine C_seq ?_
    refine C_seq ?_
    refine C_region ?_
    refine L (S (P_move rfl) ?_)
    refine L_nil ?_
    refine then_n ?_
    refine C_false rfl ?_
    refine C_skip ?_
    refine then_n ?_
    refine C_seq ?_
    refine C_region ?_
    refine L (S (P_assign rfl) ?_)
    refine L_nil ?_
    refine then_n ?_
    refine C_ret ?_
    refine F_ret1 Tryz.results180 rfl ?_
    exact ⟨rfl, rfl⟩
  · refine F_enter Tryz.func180 Tryz.ntmps180 rfl rfl ?_
    refine C_seq ?_
    refine C_region ?_
    refine L (S (P_assign rfl) ?_)
    refine L_nil ?_
    refine then_n ?_
    refine C_seq ?_
    refine C_seq ?_
    refine C_region ?_
    refine L (S (P_move rfl) ?_)
    refine L_nil ?_
    refine then_n ?_
    refine C_true rfl ?_
    refine C_seq ?_
    refine C_region ?_
    refine L (S (P_assign rfl) ?_)
    refine L_nil ?_
    refine then_n ?_
    refine C_ret ?_
    refine then_r ?_
    refine F_ret1 Tryz.results180 rfl ?_
    exact ⟨rfl, rfl⟩

def pkF (m : Nat) (e : Int) : Nat × Bool := if m < 4503599627370496 then (m, false) else if 972 ≤ e then (9218868437227405312, true) else ((1075 + e).toNat * 4503599627370496 + (m - 4503599627370496), false)
def errV (β : Bool) : Value := if β = true then .iface 185 (.int .i64 1) else .nilIface
theorem frombits_next : Extern.findNext Tryz.f167 = none := by kernel_rfl
theorem frombits_find : Extern.find Tryz.f167 = some Extern.MathFloatBits.float64frombits := by kernel_rfl
theorem P_fromBits {n d : Nat} {f : Fr} {l : List Operand} {ats : Array TypeId} {ty : TypeId} {pos : String} {af : Array Edge} {g : Option (Nat × Bool)} {m : Nat} (hl : evs f l = some [.int .u64 (m : Int)]) :
    PureV Tryz.prog n ⟨some d, .call { callee := .value (.func 167), args := l.toArray, argTypes := ats }, ty, pos, af, g⟩ f (.float .f64 m) :=
  P_ext Tryz.func167 (by kernel_rfl) rfl frombits_next frombits_find hl (fun _ => rfl)
theorem bit52 {m : Nat} (h : m < 9007199254740992) : m.testBit 52 = decide (4503599627370496 ≤ m) := by
  rw [Nat.testBit_eq_decide_div_mod_eq]
  have h2 : (2 : Nat) ^ 52 = 4503599627370496 := by decide
  rw [h2]
  by_cases hl : 4503599627370496 ≤ m
  · have : m / 4503599627370496 = 1 := by omega
    simp [this, hl]
  · have : m / 4503599627370496 = 0 := by omega
    simp [this, hl]
theorem and_pow {m k : Nat} : m &&& 2 ^ k = if m.testBit k = true then 2 ^ k else 0 := by
  apply Nat.eq_of_testBit_eq
  intro i
  rw [Nat.testBit_and, Nat.testBit_two_pow]
  by_cases hi : k = i
  · subst hi
    cases m.testBit k <;> simp
  · have : (if m.testBit k = true then 2 ^ k else 0).testBit i = false := by
      split
      · rw [Nat.testBit_two_pow]; simp [hi]
      · simp
    rw [this]
    simp [hi]
theorem and52 {m : Nat} (h : m < 9007199254740992) : m &&& 4503599627370496 = if m < 4503599627370496 then 0 else 4503599627370496 := by
  have h2 : (4503599627370496 : Nat) = 2 ^ 52 := by decide
  have h3 := bit52 h
  rw [h2] at h3 ⊢
  rw [and_pow, h3]
  by_cases hl : m < 2 ^ 52
  · rw [if_pos hl, if_neg (by simp; omega)]
  · rw [if_neg hl, if_pos (by simp; omega)]
theorem andNot52 {m : Nat} (h0 : 4503599627370496 ≤ m) (h : m < 9007199254740992) : bitsOp .andNot .u64 (m : Int) 4503599627370496 = ((m - 4503599627370496 : Nat) : Int) := by
  show IntKind.u64.wrap ((BitVec.ofInt IntKind.u64.bits (m : Int) &&& ~~~ BitVec.ofInt IntKind.u64.bits ((4503599627370496 : Nat) : Int)).toNat : Int) = _
  rw [BitVec.toNat_and, BitVec.toNat_not, ofInt64 m (by omega), ofInt64 _ (by omega)]
  have e : m &&& (2 ^ IntKind.u64.bits - 1 - 4503599627370496) = m - 4503599627370496 := by
    obtain ⟨r, rfl⟩ : ∃ r, m = 2 ^ 52 + r := ⟨m - 2 ^ 52, by simp; omega⟩
    have hr : r < 2 ^ 52 := by simp at h ⊢; omega
    have e1 : 2 ^ 52 + r - 4503599627370496 = r := by simp
    rw [e1]
    apply Nat.eq_of_testBit_eq
    intro i
    have e2 : 2 ^ IntKind.u64.bits - 1 - 4503599627370496 = 2 ^ 64 - (2 ^ 52 + 1) := by decide
    rw [e2, Nat.testBit_and, Nat.testBit_two_pow_sub_succ (by decide), Nat.testBit_two_pow]
    rcases Nat.lt_trichotomy i 52 with hi | hi | hi
    · rw [Nat.testBit_two_pow_add_gt hi]
      have h1 : i < 64 := by omega
      have h2 : ¬ 52 = i := by omega
      simp [h1, h2]
    · subst hi
      have : r.testBit 52 = false := Nat.testBit_lt_two_pow hr
      simp [this]
    · have h1 : r.testBit i = false := Nat.testBit_lt_two_pow (Nat.lt_of_lt_of_le hr (Nat.pow_le_pow_right (by omega) (by omega)))
      have h2 : (2 ^ 52 + r).testBit i = false := Nat.testBit_lt_two_pow (Nat.lt_of_lt_of_le (show 2 ^ 52 + r < 2 ^ 53 by simp at hr ⊢; omega) (Nat.pow_le_pow_right (by omega) (by omega)))
      simp [h1, h2]
  rw [e]
  exact wU64' (by omega)
theorem pkF_good {m : Nat} {e : Int} (hm : m < 9007199254740992) (he : -1075 ≤ e) : Good (pkF m e).1 := by
  unfold pkF Good
  split
  · dsimp only; omega
  · split
    · exact Nat.le_refl _
    · dsimp only; omega
theorem pack64_ret (m : Nat) (e : Int) (hm : m < 9007199254740992) (he0 : -1074 ≤ e) (he1 : e ≤ 100000) : Ret Tryz.prog 186 [.int .u64 (m : Int), .int .i64 e] w fun v w' => v = .tuple #[.float .f64 (pkF m e).1, errV (pkF m e).2] ∧ w = w' := by
  have h52 := and52 hm
  refine F_enter Tryz.func186 Tryz.ntmps186 rfl rfl ?_
  by_cases h1 : m < 4503599627370496
  · rw [if_pos h1] at h52
    unfold pkF
    rw [if_pos h1]
    refine C_seq ?_
    refine C_region ?_
    refine L (S (P_assign rfl) ?_)
    refine L (S (P_assign rfl) ?_)
    refine L_nil ?_
    refine then_n ?_
    refine C_seq ?_
    refine C_seq ?_
    refine C_region ?_
    refine L (S (P_move rfl) ?_)
    refine L (S (P_and rfl rfl (andU64 (b := 4503599627370496) (by omega) (by omega) rfl)) ?_)
    refine L (S (P_eq rfl rfl (decide_eq_true (by rw [h52]; rfl))) ?_)
    refine L_nil ?_
    refine then_n ?_
    refine C_true rfl ?_
    refine C_seq ?_
    refine C_region ?_
    refine L (S (P_move rfl) ?_)
    refine L (S (P_fromBits rfl) ?_)
    refine L (S (P_assign rfl) ?_)
    refine L (S (P_assign rfl) ?_)
    refine L_nil ?_
    refine then_n ?_
    refine C_ret ?_
    refine then_r ?_
    refine F_ret2 Tryz.results186 rfl rfl ?_
    exact ⟨rfl, rfl⟩
  · rw [if_neg h1] at h52
    unfold pkF
    rw [if_neg h1]
    by_cases h2 : 972 ≤ e
    · rw [if_pos h2]
      have ho : (m &&& 9223372036854775808) ||| 9218868437227405312 = 9218868437227405312 := by
        have hz : m &&& 9223372036854775808 = 0 := by
          have e63 : (9223372036854775808 : Nat) = 2 ^ 63 := by decide
          rw [e63, and_pow, Nat.testBit_lt_two_pow (by simp; omega)]
          rfl
        rw [hz]; simp
      refine C_seq ?_
      refine C_region ?_
      refine L (S (P_assign rfl) ?_)
      refine L (S (P_assign rfl) ?_)
      refine L_nil ?_
      refine then_n ?_
      refine C_seq ?_
      refine C_seq ?_
      refine C_region ?_
      refine L (S (P_move rfl) ?_)
      refine L (S (P_and rfl rfl (andU64 (b := 4503599627370496) (by omega) (by omega) rfl)) ?_)
      refine L (S (P_eq rfl rfl (decide_eq_false (by rw [h52]; decide))) ?_)
      refine L_nil ?_
      refine then_n ?_
      refine C_false rfl ?_
      refine C_skip ?_
      refine then_n ?_
      refine C_seq ?_
      refine C_seq ?_
      refine C_region ?_
      refine L (S (P_move rfl) ?_)
      refine L (S (P_ge rfl rfl (decide_eq_true h2)) ?_)
      refine L_nil ?_
      refine then_n ?_
      refine C_true rfl ?_
      refine C_seq ?_
      refine C_region ?_
      refine L (S (P_move rfl) ?_)
      refine L (S (P_and rfl rfl (andU64 (b := 9223372036854775808) (by omega) (by omega) rfl)) ?_)
      refine L (S (P_or rfl rfl (orU64 (b := 9218868437227405312) (Nat.lt_of_le_of_lt Nat.and_le_left (by omega)) (by omega) (c := 9218868437227405312) (by rw [ho]; rfl))) ?_)
      refine L (S (P_fromBits (m := 9218868437227405312) rfl) ?_)
      refine L (S (P_mkI Tryz.underlying185 (by intro ms h; cases h) rfl) ?_)
      refine L (S (P_assign rfl) ?_)
      refine L (S (P_assign rfl) ?_)
      refine L_nil ?_
      refine then_n ?_
      refine C_ret ?_
      refine then_r ?_
      refine F_ret2 Tryz.results186 rfl rfl ?_
      exact ⟨rfl, rfl⟩
    · rw [if_neg h2]
      have hor : (m - 4503599627370496) ||| ((1075 + e).toNat * 4503599627370496) = (1075 + e).toNat * 4503599627370496 + (m - 4503599627370496) := by
        have := Nat.two_pow_add_eq_or_of_lt (i := 52) (b := m - 4503599627370496) (by simp; omega) (1075 + e).toNat
        rw [Nat.or_comm, Nat.mul_comm]
        exact this.symm
      refine C_seq ?_
      refine C_region ?_
      refine L (S (P_assign rfl) ?_)
      refine L (S (P_assign rfl) ?_)
      refine L_nil ?_
      refine then_n ?_
      refine C_seq ?_
      refine C_seq ?_
      refine C_region ?_
      refine L (S (P_move rfl) ?_)
      refine L (S (P_and rfl rfl (andU64 (b := 4503599627370496) (by omega) (by omega) rfl)) ?_)
      refine L (S (P_eq rfl rfl (decide_eq_false (by rw [h52]; decide))) ?_)
      refine L_nil ?_
      refine then_n ?_
      refine C_false rfl ?_
      refine C_skip ?_
      refine then_n ?_
      refine C_seq ?_
      refine C_seq ?_
      refine C_region ?_
      refine L (S (P_move rfl) ?_)
      refine L (S (P_ge rfl rfl (decide_eq_false h2)) ?_)
      refine L_nil ?_
      refine then_n ?_
      refine C_false rfl ?_
      refine C_skip ?_
      refine then_n ?_
      refine C_seq ?_
      refine C_region ?_
      refine L (S (P_move rfl) ?_)
      refine L (S (P_andNot rfl rfl (andNot52 (by omega) hm)) ?_)
      refine L (S (P_move rfl) ?_)
      refine L (S (P_add rfl rfl (wI64 (c := ((1075 + e).toNat : Int)) (by omega))) ?_)
      refine L (S (P_conv Tryz.underlying3 Tryz.underlying131 rfl (wU64 (c := ((1075 + e).toNat : Int)) (by omega))) ?_)
      refine L (S (P_shl rfl rfl (by omega) (shlU64 (s := 52) rfl (by omega) rfl (by simp; omega))) ?_)
      refine L (S (P_or rfl rfl (orU64 (by omega) (by simp; omega) rfl)) ?_)
      refine L (S (P_fromBits rfl) ?_)
      refine L (S (P_assign rfl) ?_)
      refine L (S (P_assign rfl) ?_)
      refine L_nil ?_
      refine then_n ?_
      refine C_ret ?_
      refine F_ret2 Tryz.results186 rfl rfl ?_
      refine ⟨?_, rfl⟩
      have h52' : (2 : Nat) ^ 52 = 4503599627370496 := by decide
      rw [h52', hor]
      rfl

theorem ptV_get {i : Nat} {x : Nat × Nat} (h : Go.Pinned.pow10Rows[i]? = some x) : ptV[2 * i]? = some (.int .u64 (x.1 : Int)) ∧ ptV[2 * i + 1]? = some (.int .u64 (x.2 : Int)) :=
  flat2 (fun x : Nat × Nat => [Value.int .u64 (x.1 : Int), Value.int .u64 (x.2 : Int)]) (fun _ => rfl) _ i x h
theorem prescale_ret (hv : Vr w) {b : Nat} {c0 c1 c2 : Value} (hb : Blk w b [c0, c1, c2] 234) (hbg : ¬ b = 9) (e p lp : Int) (i : Nat) (hi : p + 348 = (i : Int)) {x : Nat × Nat} (hx : Go.Pinned.pow10Rows[i]? = some x) (he : -10000 ≤ e ∧ e ≤ 10000) (hlp : -10000 ≤ lp ∧ lp ≤ 10000) :
    Ret Tryz.prog 178 [.pointer (some ⟨b, 0, none⟩), .int .i64 e, .int .i64 p, .int .i64 lp] w fun _ w' => Blk w' b [.int .u64 (x.1 : Int), .int .u64 (x.2 : Int), .int .i64 (-(e + lp + 3))] 234 ∧ Mv (At b) w w' := by
  have hil : i < 696 := by
    have := (List.getElem?_eq_some_iff.1 hx).1
    rwa [pt_len] at this
  obtain ⟨g1, g2⟩ := ptV_get hx
  have hr1 := hv.pt _ _ g1
  refine F_enter Tryz.func178 Tryz.ntmps178 rfl rfl ?_
  refine C_seq ?_
  refine C_region ?_
  refine L (S (P_move rfl) ?_)
  refine L (S (P_move rfl) ?_)
  refine L (S (P_sub rfl rfl (wI64 (c := (i : Int)) (by omega))) ?_)
  refine L (S (P_indexAddrA Tryz.underlying249 (csz_of ti_248) rfl rfl (j := i) rfl hil (q := 2 * i) (by omega)) ?_)
  refine L (S (P_fieldAddr fo_248_0 rfl) ?_)
  refine L (S_load sc_131 rfl (by have := hr1; rw [Nat.zero_add] at this; exact this) ?_)
  refine L (S (P_nilCheck rfl) ?_)
  refine L (S (P_fieldAddr fo_234_0 rfl) ?_)
  refine L (S_store ti_131 rfl rfl rfl hb (by show 0 < 3; omega) ?_)
  rintro w1 hb1 hm1
  refine L_nil ?_
  refine then_n ?_
  refine C_seq ?_
  have hv1 : Row w1 9 0 ptV := hv.pt.mv hm1 (fun h => hbg h.symm)
  have hr2 := hv1 _ _ g2
  refine C_region ?_
  refine L (S (P_move rfl) ?_)
  refine L (S (P_move rfl) ?_)
  refine L (S (P_sub rfl rfl (wI64 (c := (i : Int)) (by omega))) ?_)
  refine L (S (P_indexAddrA Tryz.underlying249 (csz_of ti_248) rfl rfl (j := i) rfl hil (q := 2 * i) (by omega)) ?_)
  refine L (S (P_fieldAddr fo_248_1 rfl) ?_)
  refine L (S_load sc_131 rfl (by have := hr2; rw [Nat.zero_add] at this; exact this) ?_)
  refine L (S (P_nilCheck rfl) ?_)
  refine L (S (P_fieldAddr fo_234_1 rfl) ?_)
  refine L (S_store ti_131 rfl rfl rfl hb1 (by show 1 < 3; omega) ?_)
  rintro w2 hb2 hm2
  refine L_nil ?_
  refine then_n ?_
  refine C_region ?_
  refine L (S (P_move rfl) ?_)
  refine L (S (P_move rfl) ?_)
  refine L (S (P_move rfl) ?_)
  refine L (S (P_add rfl rfl (wI64 (c := e + lp) (by omega))) ?_)
  refine L (S (P_add rfl rfl (wI64 (c := e + lp + 3) (by omega))) ?_)
  refine L (S (P_neg rfl (wI64 (c := -(e + lp + 3)) (by omega))) ?_)
  refine L (S (P_nilCheck rfl) ?_)
  refine L (S (P_fieldAddr fo_234_2 rfl) ?_)
  refine L (S_store ti_3 rfl rfl rfl hb2 (by show 2 < 3; omega) ?_)
  rintro w3 hb3 hm3
  refine L_nil ?_
  refine F_end0 Tryz.results178 ?_
  exact ⟨hb3, (hm1.trans hm2 fun _ _ h => h).trans hm3 fun _ _ h => h⟩

/-- The scaled number. -/
def usF (x hi lo s : Nat) : Nat :=
  if x * hi / 18446744073709551616 / 2 ^ s * 2 ^ s % 18446744073709551616 ≠ x * hi / 18446744073709551616 then x * hi / 18446744073709551616 / 2 ^ s ||| 1
  else (x * hi / 18446744073709551616 - (if x * hi % 18446744073709551616 < x * lo / 18446744073709551616 then 1 else 0)) / 2 ^ s ||| (if 1 < (x * hi % 18446744073709551616 + 18446744073709551616 - x * lo / 18446744073709551616) % 18446744073709551616 then 1 else 0)
theorem or_one (a : Nat) : a ||| 1 ≤ a + 1 := by
  have h : a ||| 1 = a / 2 * 2 + 1 := by
    apply Nat.eq_of_testBit_eq
    intro i
    rw [Nat.testBit_or]
    cases i with
    | zero => simp
    | succ i =>
      rw [Nat.testBit_succ, Nat.testBit_succ, Nat.testBit_succ]
      simp
      rw [show (a / 2 * 2 + 1) / 2 = a / 2 by omega]
  omega
theorem usF_le {x hi lo s : Nat} (hx : x < 18446744073709551616) (hhi : hi ≤ 18446742974197923840) (hs : 8 ≤ s) : usF x hi lo s ≤ 72057589742960641 := by
  have h1 : x * hi / 18446744073709551616 < 18446742974197923840 := by
    rw [Nat.div_lt_iff_lt_mul (by omega)]
    calc x * hi ≤ x * 18446742974197923840 := Nat.mul_le_mul_left _ hhi
      _ < 18446744073709551616 * 18446742974197923840 := Nat.mul_lt_mul_of_pos_right hx (by omega)
      _ = _ := Nat.mul_comm _ _
  unfold usF
  generalize x * hi / 18446744073709551616 = h at *
  generalize x * hi % 18446744073709551616 = m
  generalize x * lo / 18446744073709551616 = q
  have h256 : 256 ≤ 2 ^ s := by
    have := Nat.pow_le_pow_right (n := 2) (by omega) hs
    simpa using this
  have key : ∀ y, y ≤ 18446742974197923839 → y / 2 ^ s ≤ 72057589742960640 := fun y hy => by
    have h2 : y / 2 ^ s ≤ y / 256 := Nat.div_le_div_left h256 (by omega)
    omega
  split
  · have := or_one (h / 2 ^ s)
    have := key h (by omega)
    omega
  · have e1 := key (h - (if m < q then 1 else 0)) (by split <;> omega)
    generalize (h - (if m < q then 1 else 0)) / 2 ^ s = y at *
    split
    · have := or_one y; omega
    · rw [Nat.or_zero]; omega
theorem mul64_ret (x y : Nat) (hx : x < 18446744073709551616) (hy : y < 18446744073709551616) : Ret Tryz.prog 188 [.int .u64 (x : Int), .int .u64 (y : Int)] w fun v w' => v = .tuple #[.int .u64 ((x * y / 18446744073709551616 : Nat) : Int), .int .u64 ((x * y % 18446744073709551616 : Nat) : Int)] ∧ w = w' :=
  (Tryz.bits_Mul64 x y hx hy w).mono fun e w' ⟨he, hw⟩ => ⟨_, he, rfl, hw.symm⟩
theorem len64_ret (x : Nat) (hx : x < 18446744073709551616) : Ret Tryz.prog 176 [.int .u64 (x : Int)] w fun v w' => v = .int .i64 (Lib.bitLen x : Int) ∧ w = w' :=
  (Tryz.bits_Len64 (x : Int) w (by omega) (by omega)).mono fun e w' ⟨he, hw⟩ => ⟨_, he, by rw [Int.toNat_natCast], hw.symm⟩
theorem and63 {s : Nat} (h : s < 64) : bitsOp .and .i64 (s : Int) 63 = (s : Int) := by
  have : ∀ s : Fin 64, bitsOp .and .i64 ((s.val : Nat) : Int) 63 = ((s.val : Nat) : Int) := by decide +kernel
  exact this ⟨s, h⟩
set_option maxHeartbeats 1000000 in
theorem uscale_ret {b x hi lo s : Nat} (hb : Row w b 0 [.int .u64 (hi : Int), .int .u64 (lo : Int), .int .i64 (s : Int)]) (hx : x < 18446744073709551616) (hhi : hi < 18446744073709551616) (hlo : lo < 18446744073709551616) (hs : s < 64) (hpos : 0 < x * hi / 18446744073709551616) :
    Ret Tryz.prog 179 [.int .u64 (x : Int), .pointer (some ⟨b, 0, none⟩)] w fun v w' => v = .int .u64 (usF x hi lo s : Int) ∧ Mv No w w' := by
  have c0 := hb 0 _ rfl
  have c1 := hb 1 _ rfl
  have c2 := hb 2 _ rfl
  have hlt : x * hi / 18446744073709551616 < 18446744073709551616 := by
    rw [Nat.div_lt_iff_lt_mul (by omega)]
    exact Nat.mul_lt_mul_of_lt_of_lt hx hhi
  have hlt2 : x * lo / 18446744073709551616 < 18446744073709551616 := by
    rw [Nat.div_lt_iff_lt_mul (by omega)]
    exact Nat.mul_lt_mul_of_lt_of_lt hx hlo
  have hm : x * hi % 18446744073709551616 < 18446744073709551616 := Nat.mod_lt _ (by omega)
  have hpw : 0 < 2 ^ s := Nat.two_pow_pos s
  have hM1 := mul64_ret (w := w) x hi hx hhi
  have hM2 := mul64_ret (w := w) x lo hx hlo
  unfold usF
  generalize x * hi / 18446744073709551616 = h at *
  generalize x * hi % 18446744073709551616 = m at *
  generalize x * lo / 18446744073709551616 = q at *
  have hdl : h / 2 ^ s ≤ h := Nat.div_le_self _ _
  have hshl : IntKind.u64.wrap (((h / 2 ^ s : Nat) : Int) * 2 ^ (min (s : Int).toNat IntKind.u64.bits)) = ((h / 2 ^ s * 2 ^ s % 18446744073709551616 : Nat) : Int) := by
    refine modU64 (x := h / 2 ^ s * 2 ^ s) ?_ rfl
    have e : min (s : Int).toNat IntKind.u64.bits = s := by
      show min (s : Int).toNat 64 = s
      omega
    rw [e]
    simp
  refine F_enter Tryz.func179 Tryz.ntmps179 rfl rfl ?_
  by_cases hne : h / 2 ^ s * 2 ^ s % 18446744073709551616 ≠ h
  · rw [if_pos hne]
    refine C_seq ?_
    refine C_region ?_
    refine L (S (P_assign rfl) ?_)
    refine L_nil ?_
    refine then_n ?_
    refine C_seq ?_
    refine C_region ?_
    refine L (S (P_move rfl) ?_)
    refine L (S (P_move rfl) ?_)
    refine L (S (P_nilCheck rfl) ?_)
    refine L (S (P_fieldAddr fo_234_0 rfl) ?_)
    refine L (S_load sc_131 rfl c0 ?_)
    refine L (S_call cb_188 rfl (hM1) ?_)
    rintro _ _ ⟨rfl, rfl⟩
    refine L (S (P_move rfl) ?_)
    refine L (S (P_extract rfl rfl) ?_)
    refine L (S (P_extract rfl rfl) ?_)
    refine L (S (P_assign rfl) ?_)
    refine L (S (P_assign rfl) ?_)
    refine L_nil ?_
    refine then_n ?_
    refine C_seq ?_
    refine C_region ?_
    refine L (S (P_move rfl) ?_)
    refine L (S (P_nilCheck rfl) ?_)
    refine L (S (P_fieldAddr fo_234_2 rfl) ?_)
    refine L (S_load sc_3 rfl c2 ?_)
    refine L (S (P_and rfl rfl (and63 hs)) ?_)
    refine L (S (P_assign rfl) ?_)
    refine L_nil ?_
    refine then_n ?_
    refine C_seq ?_
    refine C_seq ?_
    refine C_region ?_
    refine L (S (P_move rfl) ?_)
    refine L (S (P_move rfl) ?_)
    refine L (S (P_shr rfl rfl (by omega) (shrU64 (s := s) rfl (by omega) rfl)) ?_)
    refine L (S (P_move rfl) ?_)
    refine L (S (P_shl rfl rfl (by omega) hshl) ?_)
    refine L (S (P_move rfl) ?_)
    refine L (S (P_ne rfl rfl (decide_eq_true (by omega))) ?_)
    refine L_nil ?_
    refine then_n ?_
    refine C_true rfl ?_
    refine C_seq ?_
    refine C_region ?_
    refine L (S (P_move rfl) ?_)
    refine L (S (P_move rfl) ?_)
    refine L (S (P_shr rfl rfl (by omega) (shrU64 (s := s) rfl (by omega) rfl)) ?_)
    refine L (S (P_or rfl rfl (orU64 (b := 1) (by omega) (by omega) rfl)) ?_)
    refine L (S (P_assign rfl) ?_)
    refine L_nil ?_
    refine then_n ?_
    refine C_ret ?_
    refine then_r ?_
    refine F_ret1 Tryz.results179 rfl ?_
    exact ⟨rfl, Mv.refl w⟩
  · rw [if_neg hne]
    have hne' : h / 2 ^ s * 2 ^ s % 18446744073709551616 = h := Classical.not_not.1 hne
    have hsub : ∀ β : Bool, (if β = true then (1 : Nat) else 0) ≤ 1 := fun β => by cases β <;> decide
    have hor : ∀ (y : Nat) (β : Bool), y < 18446744073709551616 → y / 2 ^ s ||| (if β = true then 1 else 0) < 18446744073709551616 := fun y β hy => Nat.or_lt_two_pow (n := 64) (Nat.lt_of_le_of_lt (Nat.div_le_self _ _) hy) (by cases β <;> decide)
    refine C_seq ?_
    refine C_region ?_
    refine L (S (P_assign rfl) ?_)
    refine L_nil ?_
    refine then_n ?_
    refine C_seq ?_
    refine C_region ?_
    refine L (S (P_move rfl) ?_)
    refine L (S (P_move rfl) ?_)
    refine L (S (P_nilCheck rfl) ?_)
    refine L (S (P_fieldAddr fo_234_0 rfl) ?_)
    refine L (S_load sc_131 rfl c0 ?_)
    refine L (S_call cb_188 rfl (hM1) ?_)
    rintro _ _ ⟨rfl, rfl⟩
    refine L (S (P_move rfl) ?_)
    refine L (S (P_extract rfl rfl) ?_)
    refine L (S (P_extract rfl rfl) ?_)
    refine L (S (P_assign rfl) ?_)
    refine L (S (P_assign rfl) ?_)
    refine L_nil ?_
    refine then_n ?_
    refine C_seq ?_
    refine C_region ?_
    refine L (S (P_move rfl) ?_)
    refine L (S (P_nilCheck rfl) ?_)
    refine L (S (P_fieldAddr fo_234_2 rfl) ?_)
    refine L (S_load sc_3 rfl c2 ?_)
    refine L (S (P_and rfl rfl (and63 hs)) ?_)
    refine L (S (P_assign rfl) ?_)
    refine L_nil ?_
    refine then_n ?_
    refine C_seq ?_
    refine C_seq ?_
    refine C_region ?_
    refine L (S (P_move rfl) ?_)
    refine L (S (P_move rfl) ?_)
    refine L (S (P_shr rfl rfl (by omega) (shrU64 (s := s) rfl (by omega) rfl)) ?_)
    refine L (S (P_move rfl) ?_)
    refine L (S (P_shl rfl rfl (by omega) hshl) ?_)
    refine L (S (P_move rfl) ?_)
    refine L (S (P_ne rfl rfl (decide_eq_false (by omega))) ?_)
    refine L_nil ?_
    refine then_n ?_
    refine C_false rfl ?_
    refine C_skip ?_
    refine then_n ?_
    refine C_seq ?_
    refine C_region ?_
    refine L (S (P_move rfl) ?_)
    refine L (S (P_move rfl) ?_)
    refine L (S (P_nilCheck rfl) ?_)
    refine L (S (P_fieldAddr fo_234_1 rfl) ?_)
    refine L (S_load sc_131 rfl c1 ?_)
    refine L (S_call cb_188 rfl (hM2) ?_)
    rintro _ _ ⟨rfl, rfl⟩
    refine L (S (P_move rfl) ?_)
    refine L (S (P_extract rfl rfl) ?_)
    refine L (S (P_extract rfl rfl) ?_)
    refine L (S (P_assign rfl) ?_)
    refine L (S (P_assign rfl) ?_)
    refine L_nil ?_
    refine then_n ?_
    refine C_seq ?_
    have hwr : IntKind.u64.wrap ((m : Int) - (q : Int)) = (((m + 18446744073709551616 - q) % 18446744073709551616 : Nat) : Int) := by
      simp only [IntKind.wrap, IntKind.bits, IntKind.signed]
      simp
      omega
    by_cases h1 : m < q
    · rw [if_pos h1]
      by_cases h2 : 1 < (m + 18446744073709551616 - q) % 18446744073709551616
      · rw [if_pos h2]
        refine C_region ?_
        refine L (S (P_move rfl) ?_)
        refine L (S (P_move rfl) ?_)
        refine L (S (P_move rfl) ?_)
        refine L (S (P_lt rfl rfl (decide_eq_true (by omega))) ?_)
        refine L (S_call cb_166 rfl (bool2u_ret true) ?_)
        rintro _ _ ⟨rfl, rfl⟩
        refine L (S (P_sub rfl rfl (wU64 (c := ((h - 1 : Nat) : Int)) (by simp; omega))) ?_)
        refine L (S (P_assign rfl) ?_)
        refine L_nil ?_
        refine then_n ?_
        refine C_seq ?_
        refine C_drawQ 10 mixed rfl (fun hH => ?_)
        refine H_pure (i := 0) rfl (PureV.toS (P_move rfl)) ?_ (by assumption) (by decide +kernel) (by decide +kernel) (by decide +kernel) (fun _ _ _ _ h => h) rfl rfl rfl
        refine H_pure (i := 1) rfl (PureV.toS (P_move rfl)) ?_ (by assumption) (by decide +kernel) (by decide +kernel) (by decide +kernel) (fun _ _ _ _ h => h) rfl rfl rfl
        refine H_pure (i := 2) rfl (PureV.toS (P_shr rfl rfl (by omega) (shrU64 (s := s) rfl (by omega) rfl))) ?_ (by assumption) (by decide +kernel) (by decide +kernel) (by decide +kernel) (fun _ _ _ _ h => h) rfl rfl rfl
        refine H_pure (i := 3) rfl (PureV.toS (P_move rfl)) ?_ (by assumption) (by decide +kernel) (by decide +kernel) (by decide +kernel) (fun _ _ _ _ h => h) rfl rfl rfl
        refine H_pure (i := 4) rfl (PureV.toS (P_move rfl)) ?_ (by assumption) (by decide +kernel) (by decide +kernel) (by decide +kernel) (fun _ _ _ _ h => h) rfl rfl rfl
        refine H_pure (i := 5) rfl (PureV.toS (P_sub rfl rfl hwr)) ?_ (by assumption) (by decide +kernel) (by decide +kernel) (by decide +kernel) (fun _ _ _ _ h => h) rfl rfl rfl
        refine H_pure (i := 6) rfl (PureV.toS (P_gt rfl rfl (decide_eq_true (by omega)))) ?_ (by assumption) (by decide +kernel) (by decide +kernel) (by decide +kernel) (fun _ _ _ _ h => h) rfl rfl rfl
        refine H_one (i := 7) (H_op rfl (S_call cb_166 rfl (bool2u_ret true) ?_)) (by decide +kernel)
        rintro _ _ ⟨rfl, rfl⟩
        refine and_keep (by first | assumption | exact Mv.no (by assumption) (by assumption)) (fun hH => ?_)
        refine H_pure (i := 8) rfl (PureV.toS (P_or rfl rfl (orU64 (b := 1) (Nat.lt_of_le_of_lt (Nat.div_le_self _ _) (by omega)) (by omega) rfl))) ?_ (by assumption) (by decide +kernel) (by decide +kernel) (by decide +kernel) (fun _ _ _ _ h => h) rfl rfl rfl
        refine H_pure (i := 9) rfl (PureV.toS (P_assign rfl)) ?_ (by assumption) (by decide +kernel) (by decide +kernel) (by decide +kernel) (fun _ _ _ _ h => h) rfl rfl rfl
        refine H_done (by decide +kernel) ?_
        refine then_n ?_
        refine C_ret ?_
        refine F_ret1 Tryz.results179 rfl ?_
        exact ⟨rfl, hH⟩
      · rw [if_neg h2]
        refine C_region ?_
        refine L (S (P_move rfl) ?_)
        refine L (S (P_move rfl) ?_)
        refine L (S (P_move rfl) ?_)
        refine L (S (P_lt rfl rfl (decide_eq_true (by omega))) ?_)
        refine L (S_call cb_166 rfl (bool2u_ret true) ?_)
        rintro _ _ ⟨rfl, rfl⟩
        refine L (S (P_sub rfl rfl (wU64 (c := ((h - 1 : Nat) : Int)) (by simp; omega))) ?_)
        refine L (S (P_assign rfl) ?_)
        refine L_nil ?_
        refine then_n ?_
        refine C_seq ?_
        refine C_drawQ 10 mixed rfl (fun hH => ?_)
        refine H_pure (i := 0) rfl (PureV.toS (P_move rfl)) ?_ (by assumption) (by decide +kernel) (by decide +kernel) (by decide +kernel) (fun _ _ _ _ h => h) rfl rfl rfl
        refine H_pure (i := 1) rfl (PureV.toS (P_move rfl)) ?_ (by assumption) (by decide +kernel) (by decide +kernel) (by decide +kernel) (fun _ _ _ _ h => h) rfl rfl rfl
        refine H_pure (i := 2) rfl (PureV.toS (P_shr rfl rfl (by omega) (shrU64 (s := s) rfl (by omega) rfl))) ?_ (by assumption) (by decide +kernel) (by decide +kernel) (by decide +kernel) (fun _ _ _ _ h => h) rfl rfl rfl
        refine H_pure (i := 3) rfl (PureV.toS (P_move rfl)) ?_ (by assumption) (by decide +kernel) (by decide +kernel) (by decide +kernel) (fun _ _ _ _ h => h) rfl rfl rfl
        refine H_pure (i := 4) rfl (PureV.toS (P_move rfl)) ?_ (by assumption) (by decide +kernel) (by decide +kernel) (by decide +kernel) (fun _ _ _ _ h => h) rfl rfl rfl
        refine H_pure (i := 5) rfl (PureV.toS (P_sub rfl rfl hwr)) ?_ (by assumption) (by decide +kernel) (by decide +kernel) (by decide +kernel) (fun _ _ _ _ h => h) rfl rfl rfl
        refine H_pure (i := 6) rfl (PureV.toS (P_gt rfl rfl (decide_eq_false (by omega)))) ?_ (by assumption) (by decide +kernel) (by decide +kernel) (by decide +kernel) (fun _ _ _ _ h => h) rfl rfl rfl
        refine H_one (i := 7) (H_op rfl (S_call cb_166 rfl (bool2u_ret false) ?_)) (by decide +kernel)
        rintro _ _ ⟨rfl, rfl⟩
        refine and_keep (by first | assumption | exact Mv.no (by assumption) (by assumption)) (fun hH => ?_)
        refine H_pure (i := 8) rfl (PureV.toS (P_or rfl rfl (orU64 (b := 0) (Nat.lt_of_le_of_lt (Nat.div_le_self _ _) (by omega)) (by omega) rfl))) ?_ (by assumption) (by decide +kernel) (by decide +kernel) (by decide +kernel) (fun _ _ _ _ h => h) rfl rfl rfl
        refine H_pure (i := 9) rfl (PureV.toS (P_assign rfl)) ?_ (by assumption) (by decide +kernel) (by decide +kernel) (by decide +kernel) (fun _ _ _ _ h => h) rfl rfl rfl
        refine H_done (by decide +kernel) ?_
        refine then_n ?_
        refine C_ret ?_
        refine F_ret1 Tryz.results179 rfl ?_
        exact ⟨rfl, hH⟩
    · rw [if_neg h1]
      by_cases h2 : 1 < (m + 18446744073709551616 - q) % 18446744073709551616
      · rw [if_pos h2]
        refine C_region ?_
        refine L (S (P_move rfl) ?_)
        refine L (S (P_move rfl) ?_)
        refine L (S (P_move rfl) ?_)
        refine L (S (P_lt rfl rfl (decide_eq_false (by omega))) ?_)
        refine L (S_call cb_166 rfl (bool2u_ret false) ?_)
        rintro _ _ ⟨rfl, rfl⟩
        refine L (S (P_sub rfl rfl (wU64 (c := ((h - 0 : Nat) : Int)) (by simp; omega))) ?_)
        refine L (S (P_assign rfl) ?_)
        refine L_nil ?_
        refine then_n ?_
        refine C_seq ?_
        refine C_drawQ 10 mixed rfl (fun hH => ?_)
        refine H_pure (i := 0) rfl (PureV.toS (P_move rfl)) ?_ (by assumption) (by decide +kernel) (by decide +kernel) (by decide +kernel) (fun _ _ _ _ h => h) rfl rfl rfl
        refine H_pure (i := 1) rfl (PureV.toS (P_move rfl)) ?_ (by assumption) (by decide +kernel) (by decide +kernel) (by decide +kernel) (fun _ _ _ _ h => h) rfl rfl rfl
        refine H_pure (i := 2) rfl (PureV.toS (P_shr rfl rfl (by omega) (shrU64 (s := s) rfl (by omega) rfl))) ?_ (by assumption) (by decide +kernel) (by decide +kernel) (by decide +kernel) (fun _ _ _ _ h => h) rfl rfl rfl
        refine H_pure (i := 3) rfl (PureV.toS (P_move rfl)) ?_ (by assumption) (by decide +kernel) (by decide +kernel) (by decide +kernel) (fun _ _ _ _ h => h) rfl rfl rfl
        refine H_pure (i := 4) rfl (PureV.toS (P_move rfl)) ?_ (by assumption) (by decide +kernel) (by decide +kernel) (by decide +kernel) (fun _ _ _ _ h => h) rfl rfl rfl
        refine H_pure (i := 5) rfl (PureV.toS (P_sub rfl rfl hwr)) ?_ (by assumption) (by decide +kernel) (by decide +kernel) (by decide +kernel) (fun _ _ _ _ h => h) rfl rfl rfl
        refine H_pure (i := 6) rfl (PureV.toS (P_gt rfl rfl (decide_eq_true (by omega)))) ?_ (by assumption) (by decide +kernel) (by decide +kernel) (by decide +kernel) (fun _ _ _ _ h => h) rfl rfl rfl
        refine H_one (i := 7) (H_op rfl (S_call cb_166 rfl (bool2u_ret true) ?_)) (by decide +kernel)
        rintro _ _ ⟨rfl, rfl⟩
        refine and_keep (by first | assumption | exact Mv.no (by assumption) (by assumption)) (fun hH => ?_)
        refine H_pure (i := 8) rfl (PureV.toS (P_or rfl rfl (orU64 (b := 1) (Nat.lt_of_le_of_lt (Nat.div_le_self _ _) (by omega)) (by omega) rfl))) ?_ (by assumption) (by decide +kernel) (by decide +kernel) (by decide +kernel) (fun _ _ _ _ h => h) rfl rfl rfl
        refine H_pure (i := 9) rfl (PureV.toS (P_assign rfl)) ?_ (by assumption) (by decide +kernel) (by decide +kernel) (by decide +kernel) (fun _ _ _ _ h => h) rfl rfl rfl
        refine H_done (by decide +kernel) ?_
        refine then_n ?_
        refine C_ret ?_
        refine F_ret1 Tryz.results179 rfl ?_
        exact ⟨rfl, hH⟩
      · rw [if_neg h2]
        refine C_region ?_
        refine L (S (P_move rfl) ?_)
        refine L (S (P_move rfl) ?_)
        refine L (S (P_move rfl) ?_)
        refine L (S (P_lt rfl rfl (decide_eq_false (by omega))) ?_)
        refine L (S_call cb_166 rfl (bool2u_ret false) ?_)
        rintro _ _ ⟨rfl, rfl⟩
        refine L (S (P_sub rfl rfl (wU64 (c := ((h - 0 : Nat) : Int)) (by simp; omega))) ?_)
        refine L (S (P_assign rfl) ?_)
        refine L_nil ?_
        refine then_n ?_
        refine C_seq ?_
        refine C_drawQ 10 mixed rfl (fun hH => ?_)
        refine H_pure (i := 0) rfl (PureV.toS (P_move rfl)) ?_ (by assumption) (by decide +kernel) (by decide +kernel) (by decide +kernel) (fun _ _ _ _ h => h) rfl rfl rfl
        refine H_pure (i := 1) rfl (PureV.toS (P_move rfl)) ?_ (by assumption) (by decide +kernel) (by decide +kernel) (by decide +kernel) (fun _ _ _ _ h => h) rfl rfl rfl
        refine H_pure (i := 2) rfl (PureV.toS (P_shr rfl rfl (by omega) (shrU64 (s := s) rfl (by omega) rfl))) ?_ (by assumption) (by decide +kernel) (by decide +kernel) (by decide +kernel) (fun _ _ _ _ h => h) rfl rfl rfl
        refine H_pure (i := 3) rfl (PureV.toS (P_move rfl)) ?_ (by assumption) (by decide +kernel) (by decide +kernel) (by decide +kernel) (fun _ _ _ _ h => h) rfl rfl rfl
        refine H_pure (i := 4) rfl (PureV.toS (P_move rfl)) ?_ (by assumption) (by decide +kernel) (by decide +kernel) (by decide +kernel) (fun _ _ _ _ h => h) rfl rfl rfl
        refine H_pure (i := 5) rfl (PureV.toS (P_sub rfl rfl hwr)) ?_ (by assumption) (by decide +kernel) (by decide +kernel) (by decide +kernel) (fun _ _ _ _ h => h) rfl rfl rfl
        refine H_pure (i := 6) rfl (PureV.toS (P_gt rfl rfl (decide_eq_false (by omega)))) ?_ (by assumption) (by decide +kernel) (by decide +kernel) (by decide +kernel) (fun _ _ _ _ h => h) rfl rfl rfl
        refine H_one (i := 7) (H_op rfl (S_call cb_166 rfl (bool2u_ret false) ?_)) (by decide +kernel)
        rintro _ _ ⟨rfl, rfl⟩
        refine and_keep (by first | assumption | exact Mv.no (by assumption) (by assumption)) (fun hH => ?_)
        refine H_pure (i := 8) rfl (PureV.toS (P_or rfl rfl (orU64 (b := 0) (Nat.lt_of_le_of_lt (Nat.div_le_self _ _) (by omega)) (by omega) rfl))) ?_ (by assumption) (by decide +kernel) (by decide +kernel) (by decide +kernel) (fun _ _ _ _ h => h) rfl rfl rfl
        refine H_pure (i := 9) rfl (PureV.toS (P_assign rfl)) ?_ (by assumption) (by decide +kernel) (by decide +kernel) (by decide +kernel) (fun _ _ _ _ h => h) rfl rfl rfl
        refine H_done (by decide +kernel) ?_
        refine then_n ?_
        refine C_ret ?_
        refine F_ret1 Tryz.results179 rfl ?_
        exact ⟨rfl, hH⟩
end
end Go.Proofs.YtnoioimphcmeiaaGreatDoor
