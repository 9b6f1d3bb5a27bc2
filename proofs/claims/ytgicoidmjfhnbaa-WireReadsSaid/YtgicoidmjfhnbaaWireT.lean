import Derived.Test.YtgicoidmjfhnbaaRef4
namespace Go.Proofs.Ytgicoidmjfhnbaa
open Go.RowKit

theorem rtext_nil {w : World} (most : Int) : Ret Try.prog 18 [.pointer none, .int .i64 most] w fun v w' => v = .string (str []) ∧ w = w' := by
  refine F_enter Try.func18 Try.ntmps18 rfl rfl ?_
  refine C_seq ?_
  refine C_region ?_
  refine L (S (P_assign rfl) ?_)
  refine L_nil ?_
  refine then_n ?_
  refine C_seq ?_
  refine C_seq ?_
  refine C_region ?_
  refine L (S (P_move rfl) ?_)
  refine L (S_call cb_16 rfl (rerr_nil) ?_)
  rintro _ _ ⟨rfl, rfl⟩
  refine L (S (P_ne rfl rfl (decide_eq_true (by decide))) ?_)
  refine L_nil ?_
  refine then_n ?_
  refine C_true rfl ?_
  refine C_seq ?_
  refine C_region ?_
  refine L (S (P_assign rfl) ?_)
  refine L_nil ?_
  refine then_n ?_
  refine C_ret ?_
  refine then_r ?_
  refine F_ret1 Try.results18 rfl ?_
  exact ⟨rfl, rfl⟩
theorem rtext_ret {w : World} {lo g : Nat} {bs : List UInt8} {err : Int} (most : Int) (hm0 : -9223372036854775808 ≤ most) (hm9 : most < 9223372036854775808) (h : IsR w lo g bs err) :
    Ret Try.prog 18 [.pointer (some ⟨g, 0, none⟩), .int .i64 most] w fun v w' => v = .string (str (rText bs err most).1) ∧ IsR w' lo g (rText bs err most).2.1 (rText bs err most).2.2 ∧ Mv (At g) w w' := by
  have H := h
  obtain ⟨⟨A, cap, hb, hr, h1, h2, h3⟩, hl⟩ := h
  by_cases he : err = 0
  · have hR : rText bs err most = (if (rCount bs err most).2.2 ≠ 0 then ([], (rCount bs err most).2) else if ((rCount bs err most).2.1.length : Int) < (rCount bs err most).1 then ([], bs, 10) else ((rCount bs err most).2.1.take (rCount bs err most).1.toNat, (rCount bs err most).2.1.drop (rCount bs err most).1.toNat, 0)) := by
      simp only [rText]
      rw [if_neg (by simpa using he)]
    rw [hR]
    have hsp := rCount_spec bs err most
    have hN := rcount_ret most hm0 hm9 H
    generalize rCount bs err most = x at *
    obtain ⟨n, rest, e'⟩ := x
    dsimp only at *
    refine F_enter Try.func18 Try.ntmps18 rfl rfl ?_
    refine C_seq ?_
    refine C_region ?_
    refine L (S (P_assign rfl) ?_)
    refine L_nil ?_
    refine then_n ?_
    refine C_seq ?_
    refine C_seq ?_
    refine C_region ?_
    refine L (S (P_move rfl) ?_)
    refine L (S_call cb_16 rfl (rerr_ret H) ?_)
    rintro _ _ ⟨rfl, rfl⟩
    refine L (S (P_ne rfl rfl (decide_eq_false (by simpa using he))) ?_)
    refine L_nil ?_
    refine then_n ?_
    refine C_false rfl ?_
    refine C_skip ?_
    refine then_n ?_
    refine C_seq ?_
    refine C_region ?_
    refine L (S (P_move rfl) ?_)
    refine L (S (P_nilCheck rfl) ?_)
    refine L (S (P_fieldAddr fo_57_0 rfl) ?_)
    refine L (S_load sc_23 rfl (hb.cell (i := 0) rfl) ?_)
    refine L (S (P_assign rfl) ?_)
    refine L_nil ?_
    refine then_n ?_
    refine C_seq ?_
    refine C_region ?_
    refine L (S (P_move rfl) ?_)
    refine L (S (P_move rfl) ?_)
    refine L (S_call cb_24 rfl (hN) ?_)
    rintro _ w1 ⟨rfl, hr1, hm1⟩
    refine L (S (P_assign rfl) ?_)
    refine L_nil ?_
    refine then_n ?_
    refine C_seq ?_
    refine C_seq ?_
    obtain ⟨⟨A1, cap1, hb1, hs1, h11, h21, h31⟩, hl1⟩ := hr1
    have hR1 : IsR w1 lo g rest e' := ⟨⟨A1, cap1, hb1, hs1, h11, h21, h31⟩, hl1⟩
    by_cases he' : e' = 0
    · obtain ⟨hn0, hn1, hn2⟩ := hsp he'
      rw [if_neg (by simpa using he')]
      by_cases hbig : (rest.length : Int) < n
      · rw [if_pos hbig]
        refine C_region ?_
        refine L (S (P_move rfl) ?_)
        refine L (S (P_nilCheck rfl) ?_)
        refine L (S (P_fieldAddr fo_57_1 rfl) ?_)
        refine L (S_load sc_31 rfl (hb1.cell (i := 1) rfl) ?_)
        refine L (S (P_ne rfl rfl (decide_eq_false (by simpa using he'))) ?_)
        refine L_nil ?_
        refine then_n ?_
        refine C_false rfl ?_
        refine C_skip ?_
        refine then_n ?_
        refine C_seq ?_
        refine C_seq ?_
        refine C_region ?_
        refine L (S (P_move rfl) ?_)
        refine L (S (P_move rfl) ?_)
        refine L (S (P_nilCheck rfl) ?_)
        refine L (S (P_fieldAddr fo_57_0 rfl) ?_)
        refine L (S_load sc_23 rfl (hb1.cell (i := 0) rfl) ?_)
        refine L (S (P_lenS Try.underlying23 rfl) ?_)
        refine L (S (P_gt rfl rfl (decide_eq_true hbig)) ?_)
        refine L_nil ?_
        refine then_n ?_
        refine C_true rfl ?_
        refine C_seq ?_
        refine C_region ?_
        refine L (S (P_move rfl) ?_)
        refine L (S (P_move rfl) ?_)
        refine L (S (P_move rfl) ?_)
        refine L (S (P_nilCheck rfl) ?_)
        refine L (S (P_fieldAddr fo_57_0 rfl) ?_)
        refine L (S_store ti_23 rfl rfl rfl hb1 (by simp) ?_)
        rintro w2 hb2 hm2
        refine L (S (P_nilCheck rfl) ?_)
        refine L (S (P_fieldAddr fo_57_1 rfl) ?_)
        refine L (S_store ti_31 rfl rfl rfl hb2 (by simp) ?_)
        rintro w3 hb3 hm3
        refine L_nil ?_
        refine then_n ?_
        refine C_seq ?_
        refine C_region ?_
        refine L (S (P_assign rfl) ?_)
        refine L_nil ?_
        refine then_n ?_
        refine C_ret ?_
        refine then_r ?_
        refine F_ret1 Try.results18 rfl ?_
        have hm13 : Mv (At g) w w3 := hm1.trans (hm2.trans hm3 fun _ _ h => h) fun _ _ h => h
        exact ⟨rfl, IsR.put (bs' := bs) (err' := 10) hl hb3 hm13 hr h1 h2 h3, hm13⟩
      · rw [if_neg hbig]
        obtain ⟨k, rfl⟩ : ∃ k : Nat, n = (k : Int) := ⟨n.toNat, by omega⟩
        have hk : k ≤ rest.length := by omega
        simp only [Int.toNat_natCast]
        have hA' : ∀ a, cutA A1 k 1 cap1 = some a → a.block < g ∧ lo ≤ a.block := fun a ha => by
          obtain ⟨a', ha', hab⟩ := cutA_block ha
          rw [← hab]
          exact h31 a' ha'
        have hcut := SlR.cut (m := 1) (l := k) (cap := cap1) hs1 (by simpa using h11)
        rw [Nat.mul_one, ← List.map_drop] at hcut
        have hcut0 : SlR w1 (cutA A1 0 1 cap1) ((rest.take k).map bv) := by
          have := SlR.cut (m := 1) (l := 0) (cap := cap1) hs1 (by simpa using h11)
          simp only [Nat.zero_mul, List.drop_zero] at this
          rw [List.map_take]
          exact this.take k
        refine C_region ?_
        refine L (S (P_move rfl) ?_)
        refine L (S (P_nilCheck rfl) ?_)
        refine L (S (P_fieldAddr fo_57_1 rfl) ?_)
        refine L (S_load sc_31 rfl (hb1.cell (i := 1) rfl) ?_)
        refine L (S (P_ne rfl rfl (decide_eq_false (by simpa using he'))) ?_)
        refine L_nil ?_
        refine then_n ?_
        refine C_false rfl ?_
        refine C_skip ?_
        refine then_n ?_
        refine C_seq ?_
        refine C_seq ?_
        refine C_region ?_
        refine L (S (P_move rfl) ?_)
        refine L (S (P_move rfl) ?_)
        refine L (S (P_nilCheck rfl) ?_)
        refine L (S (P_fieldAddr fo_57_0 rfl) ?_)
        refine L (S_load sc_23 rfl (hb1.cell (i := 0) rfl) ?_)
        refine L (S (P_lenS Try.underlying23 rfl) ?_)
        refine L (S (P_gt rfl rfl (decide_eq_false hbig)) ?_)
        refine L_nil ?_
        refine then_n ?_
        refine C_false rfl ?_
        refine C_skip ?_
        refine then_n ?_
        refine C_seq ?_
        refine C_region ?_
        refine L (S (P_move rfl) ?_)
        refine L (S (P_nilCheck rfl) ?_)
        refine L (S (P_fieldAddr fo_57_0 rfl) ?_)
        refine L (S_load sc_23 rfl (hb1.cell (i := 0) rfl) ?_)
        refine L (S (P_move rfl) ?_)
        refine L (S (P_slice Try.underlying23 (csz_of ti_5) rfl bnd_none (bnd_some (j := k) rfl rfl) (by omega) (by omega)) ?_)
        refine L (S_bytesStr Try.underlying23 Try.underlying5 Try.underlying9 rfl hcut0 (by simp; omega) ?_)
        refine L (S (P_assign rfl) ?_)
        refine L_nil ?_
        refine then_n ?_
        refine C_seq ?_
        refine C_region ?_
        refine L (S (P_move rfl) ?_)
        refine L (S (P_move rfl) ?_)
        refine L (S (P_nilCheck rfl) ?_)
        refine L (S (P_fieldAddr fo_57_0 rfl) ?_)
        refine L (S_load sc_23 rfl (hb1.cell (i := 0) rfl) ?_)
        refine L (S (P_move rfl) ?_)
        refine L (S (P_slice Try.underlying23 (csz_of ti_5) rfl (bnd_some (j := k) rfl rfl) bnd_none (by omega) (by omega)) ?_)
        refine L (S (P_nilCheck rfl) ?_)
        refine L (S (P_fieldAddr fo_57_0 rfl) ?_)
        refine L (S_store ti_23 rfl rfl rfl hb1 (by simp) ?_)
        rintro w2 hb2 hm2
        refine L_nil ?_
        refine then_n ?_
        refine C_seq ?_
        refine C_region ?_
        refine L (S (P_move rfl) ?_)
        refine L (S (P_assign rfl) ?_)
        refine L_nil ?_
        refine then_n ?_
        refine C_ret ?_
        refine F_ret1 Try.results18 rfl ?_
        have hlr : (rest.drop k).length = rest.length - k := by simp
        refine ⟨rfl, IsR.put (bs' := rest.drop k) (err' := 0) hl (by rw [hlr, ← he']; exact hb2) hm2 hcut (by omega) (by omega) hA', hm1.trans hm2 fun _ _ h => h⟩
    · rw [if_pos he']
      refine C_region ?_
      refine L (S (P_move rfl) ?_)
      refine L (S (P_nilCheck rfl) ?_)
      refine L (S (P_fieldAddr fo_57_1 rfl) ?_)
      refine L (S_load sc_31 rfl (hb1.cell (i := 1) rfl) ?_)
      refine L (S (P_ne rfl rfl (decide_eq_true he')) ?_)
      refine L_nil ?_
      refine then_n ?_
      refine C_true rfl ?_
      refine C_seq ?_
      refine C_region ?_
      refine L (S (P_assign rfl) ?_)
      refine L_nil ?_
      refine then_n ?_
      refine C_ret ?_
      refine then_r ?_
      refine F_ret1 Try.results18 rfl ?_
      exact ⟨rfl, hR1, hm1⟩
  · have hR : rText bs err most = ([], bs, err) := by simp [rText, he]
    rw [hR]
    refine F_enter Try.func18 Try.ntmps18 rfl rfl ?_
    refine C_seq ?_
    refine C_region ?_
    refine L (S (P_assign rfl) ?_)
    refine L_nil ?_
    refine then_n ?_
    refine C_seq ?_
    refine C_seq ?_
    refine C_region ?_
    refine L (S (P_move rfl) ?_)
    refine L (S_call cb_16 rfl (rerr_ret H) ?_)
    rintro _ _ ⟨rfl, rfl⟩
    refine L (S (P_ne rfl rfl (decide_eq_true he)) ?_)
    refine L_nil ?_
    refine then_n ?_
    refine C_true rfl ?_
    refine C_seq ?_
    refine C_region ?_
    refine L (S (P_assign rfl) ?_)
    refine L_nil ?_
    refine then_n ?_
    refine C_ret ?_
    refine then_r ?_
    refine F_ret1 Try.results18 rfl ?_
    exact ⟨rfl, H, Mv.refl w⟩

theorem read_ret {w : World} {A : Option Addr} {cap : Nat} (bs : List UInt8) (hr : SlR w A (bs.map bv)) (hl : bs.length ≤ 140737488355328) :
    Ret Try.prog 12 [.slice A bs.length cap] w fun v w' => ∃ g, v = .pointer (some ⟨g, 0, none⟩) ∧ IsR w' w.heap.size g bs 0 ∧ Mv No w w' := by
  refine F_enter Try.func12 Try.ntmps12 rfl rfl ?_
  refine C_seq ?_
  refine C_region ?_
  refine L (S (P_assign rfl) ?_)
  refine L_nil ?_
  refine then_n ?_
  refine C_seq ?_
  refine C_region ?_
  refine L (S (P_move rfl) ?_)
  refine L (S (P_lenS Try.underlying23 rfl) ?_)
  refine L (S_makeSlice Try.underlying23 ti_5 rfl rfl rfl rfl (by omega) (by unfold maxLen; omega) (Nat.le_refl w.heap.size) ?_)
  rintro b1 w1 ho1 hm1 hn1
  refine L (S (P_assign rfl) ?_)
  refine L_nil ?_
  refine then_n ?_
  refine C_seq ?_
  refine C_region ?_
  refine L (S (P_move rfl) ?_)
  refine L (S (P_move rfl) ?_)
  refine L (S_copyFull Try.underlying23 (csz_of ti_5) rfl ho1 rfl (hr.no hm1) (by simp) (bv_one bs) ?_)
  rintro w2 ho2 hm2
  refine L_nil ?_
  refine then_n ?_
  refine C_seq ?_
  refine C_region ?_
  refine L (S (P_move rfl) ?_)
  refine L (S (P_buildC (ix := [0]) (l := [.tmp 10]) bi_57_0 rfl (by simp [Value.oneCell']) rfl) ?_)
  refine L (S_box rfl ?_)
  rintro g w3 hb3 hm3 hn3
  refine L (S (P_assign rfl) ?_)
  refine L_nil ?_
  refine then_n ?_
  refine C_ret ?_
  refine F_ret1 Try.results12 rfl ?_
  obtain ⟨A2, cap2, he, hr2, hc1, hc2, hc3⟩ := own_reads ho2
  cases he
  have hlt := own_lt ho2 (k := b1) rfl
  refine ⟨g, rfl, ⟨⟨some ⟨b1, 0, none⟩, bs.length, hb3, hr2.no hm3, Nat.le_refl _, hc2, ?_⟩, ?_⟩, (hm1.new hm2 hn1).no hm3⟩
  · intro a ha
    cases ha
    exact ⟨by dsimp only; omega, hn1⟩
  · have := hm1.size; have := hm2.size; omega

theorem text_ret {w : World} (l : List UInt8) (hl : l.length ≤ 140737488355300) :
    Ret Try.prog 17 [.string (str l)] w fun v w' => w'.ownsRow w.heap.size 5 1 v (numB l.length ++ l).length ((numB l.length ++ l).map bv) ∧ Mv No w w' := by
  have hn := numB_len l.length (by omega)
  refine F_enter Try.func17 Try.ntmps17 rfl rfl ?_
  refine C_seq ?_
  refine C_region ?_
  refine L (S (P_assign rfl) ?_)
  refine L_nil ?_
  refine then_n ?_
  refine C_seq ?_
  refine C_region ?_
  refine L (S (P_move rfl) ?_)
  refine L (S (P_lenT Try.underlying9 rfl) ?_)
  refine L (S (P_conv Try.underlying3 Try.underlying22 rfl (wU64 (c := (l.length : Int)) ⟨by rw [str_size], by omega, by omega⟩)) ?_)
  refine L (S_call cb_11 rfl (num_ret l.length (by omega) _) ?_)
  rintro v1 w1 ⟨ho1, hm1⟩
  refine L (S (P_move rfl) ?_)
  refine L (S_appendT Try.underlying23 Try.underlying9 ti_5 rfl ho1 rfl hm1.size (by rw [str_size]; omega) ?_)
  rintro v2 w2 ho2 hm2
  refine L (S (P_assign rfl) ?_)
  refine L_nil ?_
  refine then_n ?_
  refine C_ret ?_
  refine F_ret1 Try.results17 rfl ?_
  refine ⟨?_, hm1.trans hm2 fun x hx ho => absurd (own_lt ho1 ho).1 (by omega)⟩
  rw [str_size] at ho2
  simpa [str] using ho2

theorem int_ret {w : World} (n : Int) (h0 : -9223372036854775808 ≤ n) (h9 : n < 9223372036854775808) :
    Ret Try.prog 26 [.int .i64 n] w fun v w' => w'.ownsRow w.heap.size 5 1 v (numB (zig n)).length ((numB (zig n)).map bv) ∧ Mv No w w' := by
  refine F_enter Try.func26 Try.ntmps26 rfl rfl ?_
  refine C_seq ?_
  refine C_region ?_
  refine L (S (P_assign rfl) ?_)
  refine L_nil ?_
  refine then_n ?_
  refine C_seq ?_
  refine C_seq ?_
  by_cases hn : n < 0
  · have hz : ((zig n : Nat) : Int) = -(n + 1) * 2 + 1 := by simp only [zig, if_pos hn]; omega
    refine C_region ?_
    refine L (S (P_move rfl) ?_)
    refine L (S (P_lt rfl rfl (decide_eq_true hn)) ?_)
    refine L_nil ?_
    refine then_n ?_
    refine C_true rfl ?_
    refine C_seq ?_
    refine C_region ?_
    refine L (S (P_move rfl) ?_)
    refine L (S (P_add rfl rfl (wI64 ⟨rfl, by omega, by omega⟩)) ?_)
    refine L (S (P_neg rfl (wI64 ⟨rfl, by omega, by omega⟩)) ?_)
    refine L (S (P_conv Try.underlying2 Try.underlying22 rfl (wU64 ⟨rfl, by omega, by omega⟩)) ?_)
    refine L (S (P_mul rfl rfl (wU64 ⟨rfl, by omega, by omega⟩)) ?_)
    refine L (S (P_add rfl rfl (wU64 (c := ((zig n : Nat) : Int)) (by omega))) ?_)
    refine L (S_call cb_11 rfl (num_ret (zig n) (by omega) _) ?_)
    rintro v1 w1 ⟨ho1, hm1⟩
    refine L (S (P_assign rfl) ?_)
    refine L_nil ?_
    refine then_n ?_
    refine C_ret ?_
    refine then_r ?_
    refine F_ret1 Try.results26 rfl ?_
    exact ⟨ho1, hm1⟩
  · have hz : ((zig n : Nat) : Int) = n * 2 := by simp only [zig, if_neg hn]; omega
    refine C_region ?_
    refine L (S (P_move rfl) ?_)
    refine L (S (P_lt rfl rfl (decide_eq_false hn)) ?_)
    refine L_nil ?_
    refine then_n ?_
    refine C_false rfl ?_
    refine C_skip ?_
    refine then_n ?_
    refine C_seq ?_
    refine C_region ?_
    refine L (S (P_move rfl) ?_)
    refine L (S (P_conv Try.underlying2 Try.underlying22 rfl (wU64 ⟨rfl, by omega, by omega⟩)) ?_)
    refine L (S (P_mul rfl rfl (wU64 (c := ((zig n : Nat) : Int)) (by omega))) ?_)
    refine L (S_call cb_11 rfl (num_ret (zig n) (by omega) _) ?_)
    rintro v1 w1 ⟨ho1, hm1⟩
    refine L (S (P_assign rfl) ?_)
    refine L_nil ?_
    refine then_n ?_
    refine C_ret ?_
    refine F_ret1 Try.results26 rfl ?_
    exact ⟨ho1, hm1⟩

def boolB (x : Bool) : List UInt8 := if x then [1] else [0]
theorem bool_ret {w : World} (x : Bool) : Ret Try.prog 27 [.bool x] w fun v w' => ∃ b, v = .slice (some ⟨b, 0, none⟩) 1 1 ∧ Blk w' b ((boolB x).map bv) 5 ∧ w.heap.size ≤ b ∧ Mv No w w' := by
  cases x with
  | true =>
    refine F_enter Try.func27 Try.ntmps27 rfl rfl ?_
    refine C_seq ?_
    refine C_region ?_
    refine L (S (P_assign rfl) ?_)
    refine L_nil ?_
    refine then_n ?_
    refine C_seq ?_
    refine C_seq ?_
    refine C_region ?_
    refine L (S (P_move rfl) ?_)
    refine L_nil ?_
    refine then_n ?_
    refine C_true rfl ?_
    refine C_seq ?_
    refine C_region ?_
    refine L (S_buildSlice1 Try.underlying23 ti_5 rfl rfl rfl ?_)
    rintro b1 w1 hb1 hm1 hn1
    refine L (S (P_assign rfl) ?_)
    refine L_nil ?_
    refine then_n ?_
    refine C_ret ?_
    refine then_r ?_
    refine F_ret1 Try.results27 rfl ?_
    exact ⟨b1, rfl, hb1, hn1, hm1⟩
  | false =>
    refine F_enter Try.func27 Try.ntmps27 rfl rfl ?_
    refine C_seq ?_
    refine C_region ?_
    refine L (S (P_assign rfl) ?_)
    refine L_nil ?_
    refine then_n ?_
    refine C_seq ?_
    refine C_seq ?_
    refine C_region ?_
    refine L (S (P_move rfl) ?_)
    refine L_nil ?_
    refine then_n ?_
    refine C_false rfl ?_
    refine C_skip ?_
    refine then_n ?_
    refine C_seq ?_
    refine C_region ?_
    refine L (S_buildSlice1 Try.underlying23 ti_5 rfl rfl rfl ?_)
    rintro b1 w1 hb1 hm1 hn1
    refine L (S (P_assign rfl) ?_)
    refine L_nil ?_
    refine then_n ?_
    refine C_ret ?_
    refine F_ret1 Try.results27 rfl ?_
    exact ⟨b1, rfl, hb1, hn1, hm1⟩

theorem refint_ret {w : World} (n : Int) (h0 : -9223372036854775808 ≤ n) (h9 : n < 9223372036854775808) :
    Ret Try.prog 28 [.int .i64 n] w fun v w' => v = .string (str (numB (zig n))) ∧ Mv No w w' := by
  refine F_enter Try.func28 Try.ntmps28 rfl rfl ?_
  refine C_seq ?_
  refine C_region ?_
  refine L (S (P_assign rfl) ?_)
  refine L_nil ?_
  refine then_n ?_
  refine C_seq ?_
  refine C_seq ?_
  by_cases hn : n < 0
  · have hz : ((zig n : Nat) : Int) = -(n + 1) * 2 + 1 := by simp only [zig, if_pos hn]; omega
    refine C_region ?_
    refine L (S (P_move rfl) ?_)
    refine L (S (P_lt rfl rfl (decide_eq_true hn)) ?_)
    refine L_nil ?_
    refine then_n ?_
    refine C_true rfl ?_
    refine C_seq ?_
    refine C_region ?_
    refine L (S (P_move rfl) ?_)
    refine L (S (P_add rfl rfl (wI64 ⟨rfl, by omega, by omega⟩)) ?_)
    refine L (S (P_neg rfl (wI64 ⟨rfl, by omega, by omega⟩)) ?_)
    refine L (S (P_conv Try.underlying2 Try.underlying22 rfl (wU64 ⟨rfl, by omega, by omega⟩)) ?_)
    refine L (S (P_assign rfl) ?_)
    refine L_nil ?_
    refine then_n ?_
    refine C_seq ?_
    refine C_region ?_
    refine L (S (P_move rfl) ?_)
    refine L (S (P_move rfl) ?_)
    refine L (S (P_add rfl rfl (wU64 ⟨rfl, by omega, by omega⟩)) ?_)
    refine L (S (P_add rfl rfl (wU64 (c := ((zig n : Nat) : Int)) (by omega))) ?_)
    refine L (S_call cb_13 rfl (refnum_ret (zig n) (by omega) _) ?_)
    rintro v1 w1 ⟨rfl, hm1⟩
    refine L (S (P_assign rfl) ?_)
    refine L_nil ?_
    refine then_n ?_
    refine C_ret ?_
    refine then_r ?_
    refine F_ret1 Try.results28 rfl ?_
    exact ⟨rfl, hm1⟩
  · have hz : ((zig n : Nat) : Int) = n * 2 := by simp only [zig, if_neg hn]; omega
    refine C_region ?_
    refine L (S (P_move rfl) ?_)
    refine L (S (P_lt rfl rfl (decide_eq_false hn)) ?_)
    refine L_nil ?_
    refine then_n ?_
    refine C_false rfl ?_
    refine C_skip ?_
    refine then_n ?_
    refine C_seq ?_
    refine C_region ?_
    refine L (S (P_move rfl) ?_)
    refine L (S (P_conv Try.underlying2 Try.underlying22 rfl (wU64 ⟨rfl, by omega, by omega⟩)) ?_)
    refine L (S (P_assign rfl) ?_)
    refine L_nil ?_
    refine then_n ?_
    refine C_seq ?_
    refine C_region ?_
    refine L (S (P_move rfl) ?_)
    refine L (S (P_move rfl) ?_)
    refine L (S (P_add rfl rfl (wU64 (c := ((zig n : Nat) : Int)) (by omega))) ?_)
    refine L (S_call cb_13 rfl (refnum_ret (zig n) (by omega) _) ?_)
    rintro v1 w1 ⟨rfl, hm1⟩
    refine L (S (P_assign rfl) ?_)
    refine L_nil ?_
    refine then_n ?_
    refine C_ret ?_
    refine F_ret1 Try.results28 rfl ?_
    exact ⟨rfl, hm1⟩

theorem reftext_ret {w : World} (l : List UInt8) (hl : l.length ≤ 140737488355300) :
    Ret Try.prog 19 [.string (str l)] w fun v w' => v = .string (str (numB l.length ++ l)) ∧ Mv No w w' := by
  have hn := numB_len l.length (by omega)
  refine F_enter Try.func19 Try.ntmps19 rfl rfl ?_
  refine C_seq ?_
  refine C_region ?_
  refine L (S (P_assign rfl) ?_)
  refine L_nil ?_
  refine then_n ?_
  refine C_seq ?_
  refine C_region ?_
  refine L (S (P_move rfl) ?_)
  refine L (S (P_lenT Try.underlying9 rfl) ?_)
  refine L (S (P_conv Try.underlying3 Try.underlying22 rfl (wU64 (c := (l.length : Int)) ⟨by rw [str_size], by omega, by omega⟩)) ?_)
  refine L (S_call cb_13 rfl (refnum_ret l.length (by omega) _) ?_)
  rintro v1 w1 ⟨rfl, hm1⟩
  refine L (S (P_move rfl) ?_)
  refine L (S (P_addT rfl rfl (by rw [str_size, str_size]; omega)) ?_)
  refine L (S (P_assign rfl) ?_)
  refine L_nil ?_
  refine then_n ?_
  refine C_ret ?_
  refine F_ret1 Try.results19 rfl ?_
  exact ⟨by rw [str_append], hm1⟩

end Go.Proofs.Ytgicoidmjfhnbaa
