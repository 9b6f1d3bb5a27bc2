import Derived.Test.YtgicoidmjfhnbaaRef1
namespace Go.Proofs.Ytgicoidmjfhnbaa
open Go.RowKit

/-- The document's reader, by value: its cells. -/
def rdC (bs : List UInt8) (e : Int) : List Value := [.string (str bs), .int .i64 e]
def rdV (bs : List UInt8) (e : Int) : Value := .agg (rdC bs e).toArray
theorem rdC_one (bs : List UInt8) (e : Int) : ∀ v ∈ rdC bs e, v.oneCell' = true := by simp [rdC, Value.oneCell']

theorem mulU64 {x s : Nat} {a b c : Int} (ha : a = ((2 ^ s : Nat) : Int)) (hb : b = (x : Int)) (h : x * 2 ^ s < 18446744073709551616) (hc : c = ((x * 2 ^ s : Nat) : Int)) : IntKind.u64.wrap (a * b) = c := by
  subst ha; subst hb; subst hc
  have e2 : (((2 ^ s : Nat) : Int) * (x : Int)) = ((x * 2 ^ s : Nat) : Int) := by rw [Nat.mul_comm]; simp
  rw [e2]
  generalize x * 2 ^ s = y at *
  exact wU64 ⟨rfl, by omega, by omega⟩

theorem reftake_ret {w : World} (bs : List UInt8) (err : Int) (hl : bs.length < 140737488355328) :
    Ret Try.prog 30 [rdV bs err] w fun v w' => v = .tuple #[rdV (rNum bs err).2.1 (rNum bs err).2.2, .int .u64 (rNum bs err).1] ∧ Mv No w w' := by
  refine F_enter Try.func30 Try.ntmps30 rfl rfl ?_
  refine C_seq ?_
  refine C_region ?_
  refine L (S_box rfl ?_)
  rintro b1 w1 hb1 hm1 hn1
  refine L (S_alloc (zs := [(.string (ByteArray.mk #[])), (.int .i64 0)]) ti_42 rfl ?_)
  rintro b2 w2 hb2 hm2 hn2
  refine L (S (P_assign rfl) ?_)
  refine L_nil ?_
  refine then_n ?_
  refine C_seq ?_
  refine C_seq ?_
  have h1 : Blk w2 b1 (rdC bs err) 42 := hb1.no hm2
  have h2 : Blk w2 b2 [.string ByteArray.empty, .int .i64 0] 42 := hb2
  have hne : b1 ≠ b2 := by have := hb1.lt; omega
  have hm : Mv No w w2 := hm1.no hm2
  have hold : w.heap.size ≤ b2 := Nat.le_trans hm1.size hn2
  clear hb1 hb2 hm1 hm2
  have fin : ∀ {w3 : World} {bs' : List UInt8} {e' : Int}, Blk w3 b2 (rdC bs' e') 42 → (loadVar 42 ⟨b2, 0, none⟩).run Try.prog w3 = .ok (rdV bs' e') w3 := fun h => run_loadVar_struct st_42 h.row rfl
  by_cases he : err = 0
  · have hR : rNum bs err = ofTake bs (takeF 0 0 bs) := by simp [rNum, he]
    rw [hR]
    refine C_region ?_
    refine L (S (P_fieldAddr fo_42_1 rfl) ?_)
    refine L (S_load sc_3 rfl (h1.cell (i := 1) rfl) ?_)
    refine L (S (P_ne rfl rfl (decide_eq_false (by simpa using he))) ?_)
    refine L_nil ?_
    refine then_n ?_
    refine C_false rfl ?_
    refine C_skip ?_
    refine then_n ?_
    refine C_seq ?_
    refine C_region ?_
    refine L (S (P_assign rfl) ?_)
    refine L (S (P_assign rfl) ?_)
    refine L_nil ?_
    refine then_n ?_
    refine C_seq ?_
    refine C_seq ?_
    refine C_region ?_
    refine L (S (P_assign rfl) ?_)
    refine L_nil ?_
    refine then_n ?_
    refine C_block ?_
    refine C_loop (γ := Nat × Nat) (fun g' => [(1, .pointer (some ⟨b1, 0, none⟩)), (2, .pointer (some ⟨b2, 0, none⟩)), (4, .int .u64 (g'.2 : Int)), (5, .int .u64 ((2 ^ (7 * g'.1) : Nat) : Int)), (6, .int .i64 (g'.1 : Int))]) (fun g' wr => w2 = wr ∧ g'.1 ≤ 9 ∧ g'.1 ≤ bs.length ∧ g'.2 < 2 ^ (7 * g'.1) ∧ takeF 0 0 bs = takeF g'.1 g'.2 (bs.drop g'.1)) (fun g' => 10 - g'.1) (0, 0) (.cons rfl (.cons rfl (.cons rfl (.cons rfl (.cons rfl (.nil _)))))) ⟨rfl, by omega, by omega, by simp, by simp⟩ ?_
    rintro ⟨i, acc⟩ wr ⟨hwr, hi, hib, hacc, htk⟩
    dsimp only at hwr hi hib hacc htk
    subst hwr
    dsimp only
    by_cases hend : i = bs.length
    · have hd : bs.drop i = [] := by rw [hend]; simp
      rw [htk, hd, takeF_nil]
      refine C_seq ?_
      refine C_seq ?_
      refine C_region ?_
      refine L (S (P_move rfl) ?_)
      refine L (S (P_fieldAddr fo_42_0 rfl) ?_)
      refine L (S_load sc_9 rfl (h1.cell (i := 0) rfl) ?_)
      refine L (S (P_lenT Try.underlying9 rfl) ?_)
      refine L (S (P_lt rfl rfl (decide_eq_false (by rw [str_size]; omega))) ?_)
      refine L (S (P_move rfl) ?_)
      refine L_no (j := 5) (dj := 17) (b := true) (b' := false) (d := 18) rfl ?_
      refine L_no (j := 5) (dj := 17) (b := true) (b' := false) (d := 19) rfl ?_
      refine L (S (P_pickF rfl rfl) ?_)
      refine L_nil ?_
      refine then_n ?_
      refine C_false rfl ?_
      refine C_exit ?_
      refine then_x ?_
      refine then_x ?_
      refine blk_x ?_
      refine then_n ?_
      refine C_seq ?_
      refine C_region ?_
      refine L (S (P_fieldAddr fo_42_0 rfl) ?_)
      refine L (S_load sc_9 rfl (h1.cell (i := 0) rfl) ?_)
      refine L (S (P_buildC (ix := [0, 1]) (l := [.tmp 64, .const (.int .i64 10)]) bi_42_0_1 rfl (by simp [Value.oneCell']) rfl) ?_)
      refine L (S_storeS ti_42 rfl rfl (rdC_one bs 10) rfl h2 (by simp [setAll]) ?_)
      rintro w3 hb3 hm3
      refine L (S (P_assign rfl) ?_)
      refine L_nil ?_
      refine then_n ?_
      refine C_ret ?_
      refine F_ret (rs := [.cell 2 42, .tmp 3]) [rdV bs 10, .int .u64 0] Try.results30 ?_ ?_
      · exact ⟨⟨_, rfl, fin (bs' := bs) (e' := 10) hb3⟩, rfl, trivial⟩
      · exact ⟨rfl, hm.new hm3 hold⟩
    · obtain ⟨c, r, hd⟩ : ∃ c r, bs.drop i = c :: r := by
        cases hd : bs.drop i with
        | nil => have := List.drop_eq_nil_iff.1 hd; omega
        | cons c r => exact ⟨c, r, rfl⟩
      have hci : bs[i]? = some c := by
        have := congrArg List.head? hd
        simpa [List.head?_drop] using this
      have hrd : bs.drop (i + 1) = r := by
        have := congrArg List.tail hd
        simpa [List.tail_drop] using this
      have hc256 : c.toNat < 256 := c.toNat_lt
      rw [htk, hd, takeF_cons]
      refine C_seq ?_
      refine C_seq ?_
      refine C_region ?_
      refine L (S (P_move rfl) ?_)
      refine L (S (P_fieldAddr fo_42_0 rfl) ?_)
      refine L (S_load sc_9 rfl (h1.cell (i := 0) rfl) ?_)
      refine L (S (P_lenT Try.underlying9 rfl) ?_)
      refine L (S (P_lt rfl rfl (decide_eq_true (by rw [str_size]; omega))) ?_)
      refine L (S (P_move rfl) ?_)
      refine L_yes (j := 5) (dj := 17) (b := true) (S (P_move rfl) ?_) rfl
      refine L_yes (j := 5) (dj := 17) (b := true) (S (P_lt rfl rfl (decide_eq_true (by omega))) ?_) rfl
      refine L (S (P_pickT rfl rfl) ?_)
      refine L_nil ?_
      refine then_n ?_
      refine C_true rfl ?_
      refine C_skip ?_
      refine then_n ?_
      refine C_seq ?_
      refine C_block ?_
      refine C_seq ?_
      refine C_region ?_
      refine L (S (P_fieldAddr fo_42_0 rfl) ?_)
      refine L (S_load sc_9 rfl (h1.cell (i := 0) rfl) ?_)
      refine L (S (P_move rfl) ?_)
      refine L (S (P_indexT Try.underlying9 rfl rfl (j := i) rfl (str_idx hci)) ?_)
      refine L (S (P_assign rfl) ?_)
      refine L_nil ?_
      refine then_n ?_
      refine C_seq ?_
      refine C_seq ?_
      by_cases h9 : i = 9 ∧ 1 < c.toNat
      · rw [if_pos h9]
        refine C_region ?_
        refine L (S (P_move rfl) ?_)
        refine L (S (P_eq rfl rfl (decide_eq_true (by omega))) ?_)
        refine L (S (P_move rfl) ?_)
        refine L_yes (j := 2) (dj := 29) (b := true) (S (P_move rfl) ?_) rfl
        refine L_yes (j := 2) (dj := 29) (b := true) (S (P_gt rfl rfl (decide_eq_true (by omega))) ?_) rfl
        refine L (S (P_pickT rfl rfl) ?_)
        refine L_nil ?_
        refine then_n ?_
        refine C_true rfl ?_
        refine C_seq ?_
        refine C_region ?_
        refine L (S (P_fieldAddr fo_42_0 rfl) ?_)
        refine L (S_load sc_9 rfl (h1.cell (i := 0) rfl) ?_)
        refine L (S (P_buildC (ix := [0, 1]) (l := [.tmp 34, .const (.int .i64 7)]) bi_42_0_1 rfl (by simp [Value.oneCell']) rfl) ?_)
        refine L (S_storeS ti_42 rfl rfl (rdC_one bs 7) rfl h2 (by simp [setAll]) ?_)
        rintro w3 hb3 hm3
        refine L (S (P_assign rfl) ?_)
        refine L_nil ?_
        refine then_n ?_
        refine C_ret ?_
        refine then_r ?_
        refine blk_r ?_
        refine then_r ?_
        refine then_r ?_
        refine blk_r ?_
        refine then_r ?_
        refine F_ret (rs := [.cell 2 42, .tmp 3]) [rdV bs 7, .int .u64 0] Try.results30 ?_ ?_
        · exact ⟨⟨_, rfl, fin (bs' := bs) (e' := 7) hb3⟩, rfl, trivial⟩
        · exact ⟨rfl, hm.new hm3 hold⟩
      · rw [if_neg h9]
        have hle : c.toNat % 128 * 2 ^ (7 * i) ≤ 127 * 2 ^ (7 * i) := Nat.mul_le_mul_right _ (by omega)
        have hp : 2 ^ (7 * (i + 1)) = 2 ^ (7 * i) * 128 := by rw [show 7 * (i + 1) = 7 * i + 7 by omega, Nat.pow_add]
        have hacc' : acc + c.toNat % 128 * 2 ^ (7 * i) < 2 ^ (7 * (i + 1)) := by omega
        have hbnd : acc + c.toNat % 128 * 2 ^ (7 * i) < 18446744073709551616 := by
          by_cases hi9 : i = 9
          · subst hi9
            have : c.toNat % 128 * 2 ^ (7 * 9) ≤ 1 * 2 ^ 63 := Nat.mul_le_mul_right _ (by omega)
            omega
          · have : 2 ^ (7 * (i + 1)) ≤ 2 ^ 63 := Nat.pow_le_pow_right (by omega) (by omega)
            omega
        have hsh : c.toNat % 128 * 2 ^ (7 * i) < 18446744073709551616 := by omega
        refine C_cutg (γ := Unit) (fun _ => [(1, .pointer (some ⟨b1, 0, none⟩)), (2, .pointer (some ⟨b2, 0, none⟩)), (4, .int .u64 (acc : Int)), (5, .int .u64 ((2 ^ (7 * i) : Nat) : Int)), (6, .int .i64 (i : Int)), (7, .int .u8 (c.toNat : Int)), (32, .bool false)]) (fun _ wc => w2 = wc) ?_ ?_
        · by_cases hi9 : i = 9
          · refine C_region ?_
            refine L (S (P_move rfl) ?_)
            refine L (S (P_eq rfl rfl (decide_eq_true (by omega))) ?_)
            refine L (S (P_move rfl) ?_)
            refine L_yes (j := 2) (dj := 29) (b := true) (S (P_move rfl) ?_) rfl
            refine L_yes (j := 2) (dj := 29) (b := true) (S (P_gt rfl rfl (decide_eq_false (by omega))) ?_) rfl
            refine L (S (P_pickT rfl rfl) ?_)
            refine L_nil ?_
            refine then_n ?_
            exact ⟨rfl, (), .cons rfl (.cons rfl (.cons rfl (.cons rfl (.cons rfl (.cons rfl (.cons rfl (.nil _))))))), rfl⟩
          · refine C_region ?_
            refine L (S (P_move rfl) ?_)
            refine L (S (P_eq rfl rfl (decide_eq_false (by omega))) ?_)
            refine L (S (P_move rfl) ?_)
            refine L_no (j := 2) (dj := 29) (b := true) (b' := false) (d := 30) rfl ?_
            refine L_no (j := 2) (dj := 29) (b := true) (b' := false) (d := 31) rfl ?_
            refine L (S (P_pickF rfl rfl) ?_)
            refine L_nil ?_
            refine then_n ?_
            exact ⟨rfl, (), .cons rfl (.cons rfl (.cons rfl (.cons rfl (.cons rfl (.cons rfl (.cons rfl (.nil _))))))), rfl⟩
        rintro _ _ rfl f' hf'
        refine C_forget hf' ?_
        refine C_false rfl ?_
        refine C_skip ?_
        refine then_n ?_
        refine C_seq ?_
        refine C_region ?_
        refine L (S (P_move rfl) ?_)
        refine L (S (P_move rfl) ?_)
        refine L (S (P_move rfl) ?_)
        refine L (S (P_rem rfl rfl (c := ((c.toNat % 128 : Nat) : Int)) (by decide) (remN (m := c.toNat) (k := 128) rfl rfl rfl)) ?_)
        refine L (S (P_conv Try.underlying5 Try.underlying22 rfl (wU64 (c := ((c.toNat % 128 : Nat) : Int)) (by omega))) ?_)
        refine L (S (P_mul rfl rfl (c := ((c.toNat % 128 * 2 ^ (7 * i) : Nat) : Int)) (mulU64 rfl rfl hsh rfl)) ?_)
        refine L (S (P_add rfl rfl (wU64 (c := ((acc + c.toNat % 128 * 2 ^ (7 * i) : Nat) : Int)) (by omega))) ?_)
        refine L (S (P_assign rfl) ?_)
        refine L_nil ?_
        refine then_n ?_
        refine C_seq ?_
        refine C_region ?_
        refine L (S (P_move rfl) ?_)
        refine L (S (P_mul rfl rfl rfl) ?_)
        refine L (S (P_assign rfl) ?_)
        refine L_nil ?_
        refine then_n ?_
        refine C_seq ?_
        by_cases hlt : c.toNat < 128
        · rw [if_pos hlt]
          by_cases hz : c.toNat = 0 ∧ 0 < i
          · rw [if_pos hz]
            refine C_region ?_
            refine L (S (P_move rfl) ?_)
            refine L (S (P_lt rfl rfl (decide_eq_true (by omega))) ?_)
            refine L_nil ?_
            refine then_n ?_
            refine C_true rfl ?_
            refine C_seq ?_
            refine C_seq ?_
            refine C_region ?_
            refine L (S (P_move rfl) ?_)
            refine L (S (P_eq rfl rfl (decide_eq_true (by omega))) ?_)
            refine L (S (P_move rfl) ?_)
            refine L_yes (j := 2) (dj := 49) (b := true) (S (P_move rfl) ?_) rfl
            refine L_yes (j := 2) (dj := 49) (b := true) (S (P_gt rfl rfl (decide_eq_true (by omega))) ?_) rfl
            refine L (S (P_pickT rfl rfl) ?_)
            refine L_nil ?_
            refine then_n ?_
            refine C_true rfl ?_
            refine C_seq ?_
            refine C_region ?_
            refine L (S (P_fieldAddr fo_42_0 rfl) ?_)
            refine L (S_load sc_9 rfl (h1.cell (i := 0) rfl) ?_)
            refine L (S (P_buildC (ix := [0, 1]) (l := [.tmp 54, .const (.int .i64 7)]) bi_42_0_1 rfl (by simp [Value.oneCell']) rfl) ?_)
            refine L (S_storeS ti_42 rfl rfl (rdC_one bs 7) rfl h2 (by simp [setAll]) ?_)
            rintro w3 hb3 hm3
            refine L (S (P_assign rfl) ?_)
            refine L_nil ?_
            refine then_n ?_
            refine C_ret ?_
            refine then_r ?_
            refine blk_r ?_
            refine then_r ?_
            refine then_r ?_
            refine blk_r ?_
            refine then_r ?_
            refine F_ret (rs := [.cell 2 42, .tmp 3]) [rdV bs 7, .int .u64 0] Try.results30 ?_ ?_
            · exact ⟨⟨_, rfl, fin (bs' := bs) (e' := 7) hb3⟩, rfl, trivial⟩
            · exact ⟨rfl, hm.new hm3 hold⟩
          · rw [if_neg hz]
            refine C_region ?_
            refine L (S (P_move rfl) ?_)
            refine L (S (P_lt rfl rfl (decide_eq_true (by omega))) ?_)
            refine L_nil ?_
            refine then_n ?_
            refine C_true rfl ?_
            refine C_seq ?_
            refine C_seq ?_
            refine C_cutg (γ := Unit) (fun _ => [(1, .pointer (some ⟨b1, 0, none⟩)), (2, .pointer (some ⟨b2, 0, none⟩)), (4, .int .u64 ((acc + c.toNat % 128 * 2 ^ (7 * i) : Nat) : Int)), (6, .int .i64 (i : Int)), (52, .bool false)]) (fun _ wc => w2 = wc) ?_ ?_
            · by_cases hc0 : c.toNat = 0
              · refine C_region ?_
                refine L (S (P_move rfl) ?_)
                refine L (S (P_eq rfl rfl (decide_eq_true (by omega))) ?_)
                refine L (S (P_move rfl) ?_)
                refine L_yes (j := 2) (dj := 49) (b := true) (S (P_move rfl) ?_) rfl
                refine L_yes (j := 2) (dj := 49) (b := true) (S (P_gt rfl rfl (decide_eq_false (by omega))) ?_) rfl
                refine L (S (P_pickT rfl rfl) ?_)
                refine L_nil ?_
                refine then_n ?_
                exact ⟨rfl, (), .cons rfl (.cons rfl (.cons rfl (.cons rfl (.cons rfl (.nil _))))), rfl⟩
              · refine C_region ?_
                refine L (S (P_move rfl) ?_)
                refine L (S (P_eq rfl rfl (decide_eq_false (by omega))) ?_)
                refine L (S (P_move rfl) ?_)
                refine L_no (j := 2) (dj := 49) (b := true) (b' := false) (d := 50) rfl ?_
                refine L_no (j := 2) (dj := 49) (b := true) (b' := false) (d := 51) rfl ?_
                refine L (S (P_pickF rfl rfl) ?_)
                refine L_nil ?_
                refine then_n ?_
                exact ⟨rfl, (), .cons rfl (.cons rfl (.cons rfl (.cons rfl (.cons rfl (.nil _))))), rfl⟩
            rintro _ _ rfl f' hf'
            refine C_forget hf' ?_
            have hcut : (str bs).extract (i + 1) (str bs).size = str r := by rw [str_cut, str_size, List.take_length, hrd]
            refine C_false rfl ?_
            refine C_skip ?_
            refine then_n ?_
            refine C_seq ?_
            refine C_region ?_
            refine L (S (P_fieldAddr fo_42_0 rfl) ?_)
            refine L (S_load sc_9 rfl (h1.cell (i := 0) rfl) ?_)
            refine L (S (P_move rfl) ?_)
            refine L (S (P_add rfl rfl (wI64 (c := ((i + 1 : Nat) : Int)) (by omega))) ?_)
            refine L (S (P_sliceT Try.underlying9 rfl (bnd_some (j := i + 1) rfl rfl) bnd_none (by rw [str_size]; omega) (Nat.le_refl _) hcut) ?_)
            refine L (S (P_buildC (ix := [0, 1]) (l := [.tmp 60, .const (.int .i64 0)]) bi_42_0_1 rfl (by simp [Value.oneCell']) rfl) ?_)
            refine L (S (P_move rfl) ?_)
            refine L (S_storeS ti_42 rfl rfl (rdC_one r 0) rfl h2 (by simp [setAll]) ?_)
            rintro w3 hb3 hm3
            refine L (S (P_assign rfl) ?_)
            refine L_nil ?_
            refine then_n ?_
            refine C_ret ?_
            refine blk_r ?_
            refine then_r ?_
            refine then_r ?_
            refine blk_r ?_
            refine then_r ?_
            refine F_ret (rs := [.cell 2 42, .tmp 3]) [rdV r 0, .int .u64 ((acc + c.toNat % 128 * 2 ^ (7 * i) : Nat) : Int)] Try.results30 ?_ ?_
            · exact ⟨⟨_, rfl, fin (bs' := r) (e' := 0) hb3⟩, rfl, trivial⟩
            · exact ⟨rfl, hm.new hm3 hold⟩
        · rw [if_neg hlt]
          refine C_region ?_
          refine L (S (P_move rfl) ?_)
          refine L (S (P_lt rfl rfl (decide_eq_false (by omega))) ?_)
          refine L_nil ?_
          refine then_n ?_
          refine C_false rfl ?_
          refine C_skip ?_
          refine blk_n ?_
          refine then_n ?_
          refine C_region ?_
          refine L (S (P_move rfl) ?_)
          refine L (S (P_add rfl rfl (wI64 (c := ((i + 1 : Nat) : Int)) (by omega))) ?_)
          refine L (S (P_assign rfl) ?_)
          refine L_nil ?_
          refine then_n ?_
          have hi8 : i ≤ 8 := by omega
          have hw : IntKind.u64.wrap (((2 ^ (7 * i) : Nat) : Int) * 128) = ((2 ^ (7 * (i + 1)) : Nat) : Int) := by
            have h8 : 2 ^ (7 * (i + 1)) ≤ 2 ^ 63 := Nat.pow_le_pow_right (by omega) (by omega)
            rw [hp] at h8 ⊢
            generalize 2 ^ (7 * i) = y at *
            exact wU64 ⟨by omega, by omega, by omega⟩
          exact ⟨rfl, (i + 1, acc + c.toNat % 128 * 2 ^ (7 * i)), .cons rfl (.cons rfl (.cons rfl (.cons (by rw [← hw]; rfl) (.cons rfl (.nil _))))), ⟨rfl, by dsimp only; omega, by dsimp only; omega, hacc', by dsimp only; rw [hrd]⟩, by dsimp only; omega⟩
  · have hR : rNum bs err = (0, bs, err) := by simp [rNum, he]
    rw [hR]
    refine C_region ?_
    refine L (S (P_fieldAddr fo_42_1 rfl) ?_)
    refine L (S_load sc_3 rfl (h1.cell (i := 1) rfl) ?_)
    refine L (S (P_ne rfl rfl (decide_eq_true he)) ?_)
    refine L_nil ?_
    refine then_n ?_
    refine C_true rfl ?_
    refine C_seq ?_
    refine C_region ?_
    refine L (S_loadS st_42 rfl h1.row rfl ?_)
    refine L (S_storeS ti_42 rfl rfl (rdC_one bs err) rfl h2 (by simp [rdC]) ?_)
    rintro w3 hb3 hm3
    refine L (S (P_assign rfl) ?_)
    refine L_nil ?_
    refine then_n ?_
    refine C_ret ?_
    refine then_r ?_
    refine F_ret (rs := [.cell 2 42, .tmp 3]) [rdV bs err, .int .u64 0] Try.results30 ?_ ?_
    · exact ⟨⟨_, rfl, fin (bs' := bs) (e' := err) hb3⟩, rfl, trivial⟩
    · exact ⟨rfl, hm.new hm3 hold⟩

end Go.Proofs.Ytgicoidmjfhnbaa
