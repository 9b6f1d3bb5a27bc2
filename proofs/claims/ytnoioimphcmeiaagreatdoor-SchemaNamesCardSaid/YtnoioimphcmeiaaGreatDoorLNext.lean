import Derived.Test.YtnoioimphcmeiaaGreatDoorLNum
namespace Go.Proofs.YtnoioimphcmeiaaGreatDoor
open Go.RowKit
set_option maxRecDepth 20000

theorem str_nil_iff (l : List UInt8) : (str l = ⟨#[]⟩) ↔ l = [] := by
  constructor
  · intro h
    exact str_inj (b := []) h
  · rintro rfl; rfl
theorem prefix_two (l : List UInt8) (a b : UInt8) : [a, b].isPrefixOf l = decide (l.take 2 = [a, b]) := by
  match l with
  | [] => simp [List.isPrefixOf]
  | [c] => simp [List.isPrefixOf]
  | c :: d :: r =>
    rw [Bool.eq_iff_iff]
    simp only [List.isPrefixOf, List.take_succ_cons, List.take_zero, Bool.and_true, Bool.and_eq_true, beq_iff_eq, decide_eq_true_eq, List.cons.injEq, and_true]
    constructor
    · rintro ⟨rfl, rfl⟩; exact ⟨rfl, rfl⟩
    · rintro ⟨rfl, rfl⟩; exact ⟨rfl, rfl⟩
theorem two_at {i : Nat} (h : i < 3) : ∃ a b, twoL[i]? = some [a, b] := by
  match i, h with
  | 0, _ => exact ⟨60, 62, rfl⟩
  | 1, _ => exact ⟨60, 61, rfl⟩
  | 2, _ => exact ⟨62, 61, rfl⟩
theorem indexByte_neg (c : UInt8) : ∀ l : List UInt8, Lib.indexByte l c < 0 ↔ c ∉ l
  | [] => by simp [Lib.indexByte]
  | b :: l => by
    have ih := indexByte_neg c l
    have hge := Lib.indexByte_ge l c
    simp only [Lib.indexByte]
    by_cases hb : b = c
    · subst hb; simp
    · have hb' : (b == c) = false := by simpa using hb
      rw [hb']
      simp only [Bool.false_eq_true, if_false, List.mem_cons]
      by_cases hi : Lib.indexByte l c = -1
      · rw [hi]
        simp only [beq_self_eq_true, if_true]
        rw [hi] at ih
        have := ih.1 (by decide)
        constructor
        · intro _ h
          rcases h with h | h
          · exact hb h.symm
          · exact this h
        · intro _; decide
      · have hi' : (Lib.indexByte l c == -1) = false := by simpa using hi
        rw [hi']
        simp only [Bool.false_eq_true, if_false]
        constructor
        · intro h; omega
        · intro h
          have := ih.2 (fun hc => h (.inr hc))
          omega

section
variable {w : World}
set_option maxHeartbeats 4000000 in
theorem next_ret {big : List UInt8 → Bool} {V : World → Prop} {T : List UInt8 → Prop} (hpf : PF big V T) (hv : V w) (l : List UInt8) (hT : InT T l) (hl : l.length ≤ 100000) :
    Ret Tryz.prog 64 [.string (str l)] w fun v w' => (match nextF big l with
      | .ok k s n => v = .tuple #[.agg (tkC k s 0).toArray, .int .i64 (n : Int), .int .i64 0]
      | .er e => v = .tuple #[.agg (tkC 0 [] 0).toArray, .int .i64 0, .int .i64 (e : Int)]) ∧ Mv No w w' := by
  have hsz := str_size l
  refine F_enter Tryz.func64 Tryz.ntmps64 rfl rfl ?_
  refine C_seq ?_
  refine C_region ?_
  refine L (S_alloc (zs := [(.int .i64 0), (.string (ByteArray.mk #[])), (.int .i64 0)]) ti_71 rfl ?_)
  rintro b2 w1 hb2 hm1 hn1
  refine L (S (P_assign rfl) ?_)
  refine L (S (P_assign rfl) ?_)
  refine L_nil ?_
  refine then_n ?_
  refine C_seq ?_
  refine C_seq ?_
  have hb2' : Blk w1 b2 (tkC 0 [] 0) 71 := hb2
  have hlt2 := hb2.lt
  clear hb2
  cases l with
  | nil =>
    refine C_region ?_
    refine L (S (P_move rfl) ?_)
    refine L (S (P_eqT rfl rfl (decide_eq_true (by decide))) ?_)
    refine L_nil ?_
    refine then_n ?_
    refine C_true rfl ?_
    refine C_seq ?_
    refine C_region ?_
    refine L (S (P_buildC (ix := []) (l := []) bi_71 rfl (by simp [Value.oneCell']) rfl) ?_)
    refine L (S_storeS ti_71 rfl rfl (tk_one 0 [] 0) rfl hb2' (by exact Nat.le_refl 3) ?_)
    rintro w4 hb4 hm4
    refine L (S (P_assign rfl) ?_)
    refine L (S (P_assign rfl) ?_)
    refine L_nil ?_
    refine then_n ?_
    refine C_ret ?_
    refine then_r ?_
    have hb4' : Blk w4 b2 (tkC 0 [] 0) 71 := hb4
    refine F_ret (rs := [.cell 2 71, .tmp 3, .tmp 4]) [.agg (tkC 0 [] 0).toArray, .int .i64 0, .int .i64 0] Tryz.results64 ?_ ?_
    · exact ⟨⟨_, rfl, finTk hb4'⟩, rfl, rfl, trivial⟩
    · exact ⟨rfl, hm1.new hm4 hn1⟩
  | cons c r =>
    have hcl := c.toNat_lt
    have hne : ¬ str (c :: r) = ⟨#[]⟩ := fun h => by cases (str_nil_iff _).1 h
    have hlen : (c :: r).length = r.length + 1 := rfl
    have hV1 := hpf.mono _ _ hv hm1
    refine C_region ?_
    refine L (S (P_move rfl) ?_)
    refine L (S (P_eqT rfl rfl (decide_eq_false hne)) ?_)
    refine L_nil ?_
    refine then_n ?_
    refine C_false rfl ?_
    refine C_skip ?_
    refine then_n ?_
    refine C_seq ?_
    refine C_region ?_
    refine L (S (P_move rfl) ?_)
    refine L (S (P_indexT Tryz.underlying9 rfl rfl (j := 0) rfl (str_idx (bs := c :: r) rfl)) ?_)
    refine L (S (P_conv Tryz.underlying5 Tryz.underlying21 rfl (wI32 (c := (c.toNat : Int)) (by omega))) ?_)
    refine L (S (P_assign rfl) ?_)
    refine L_nil ?_
    refine then_n ?_
    refine C_seq ?_
    refine C_block ?_
    refine C_seq ?_
    cases hlet : letN c.toNat with
    | true =>
      have hl1 := letter_ret (w := w1) c.toNat
      rw [hlet] at hl1
      have hsp := spanB_le ldN (c :: r)
      have hnx : nextF big (c :: r) = match kwF ((c :: r).take (spanB ldN (c :: r))) with
        | some k => .ok 2 k (spanB ldN (c :: r))
        | none => if 12 < spanB ldN (c :: r) then .er 4 else .ok 1 ((c :: r).take (spanB ldN (c :: r))) (spanB ldN (c :: r)) := by
        rw [nextF, if_pos hlet]
        cases kwF ((c :: r).take (spanB ldN (c :: r))) <;> rfl
      rw [hnx]
      clear hnx
      refine C_region ?_
      refine L (S (P_move rfl) ?_)
      refine L (S_call cb_100 rfl (hl1) ?_)
      rintro _ _ ⟨rfl, rfl⟩
      refine L (S (P_assign rfl) ?_)
      refine L_nil ?_
      refine then_n ?_
      refine C_true rfl ?_
      refine C_seq ?_
      refine C_region ?_
      refine L (S (P_move rfl) ?_)
      refine L (S_call cb_62 rfl (span_ret (c :: r) pred_ld (by omega)) ?_)
      rintro _ w2 ⟨rfl, hm2⟩
      refine L (S (P_assign rfl) ?_)
      refine L_nil ?_
      refine then_n ?_
      refine C_seq ?_
      refine C_seq ?_
      have hm02 := hm1.no hm2
      have hb22 := hb2'.no hm2
      have hkw := kw_ret (w := w2) ((c :: r).take (spanB ldN (c :: r))) (hpf.mx _ (hpf.mono _ _ hv hm02)) (by rw [List.length_take]; omega)
      generalize spanB ldN (c :: r) = n at *
      cases hk : kwF ((c :: r).take n) with
      | some k =>
        rw [hk] at hkw
        refine C_region ?_
        refine L (S (P_move rfl) ?_)
        refine L (S (P_move rfl) ?_)
        refine L (S (P_sliceT Tryz.underlying9 rfl bnd_none (bnd_some (j := n) rfl rfl) (by omega) (by omega) str_to) ?_)
        refine L (S_call cb_103 rfl (hkw) ?_)
        rintro _ w3 ⟨rfl, hm3⟩
        refine L (S (P_move rfl) ?_)
        refine L (S (P_extract rfl rfl) ?_)
        refine L (S (P_extract rfl rfl) ?_)
        refine L (S (P_assign rfl) ?_)
        refine L (S (P_assign rfl) ?_)
        refine L_nil ?_
        refine then_n ?_
        refine C_seq ?_
        refine C_region ?_
        refine L (S (P_move rfl) ?_)
        refine L_nil ?_
        refine then_n ?_
        refine C_true rfl ?_
        refine C_seq ?_
        refine C_region ?_
        refine L (S (P_move rfl) ?_)
        refine L (S (P_buildC (ix := [0, 1]) (l := [.const (.int .i64 2), .tmp 30]) bi_71_0_1 rfl (by simp [Value.oneCell']) rfl) ?_)
        refine L (S (P_move rfl) ?_)
        refine L (S_storeS ti_71 rfl rfl (tk_one 2 k 0) rfl (hb22.no hm3) (by exact Nat.le_refl 3) ?_)
        rintro w4 hb4 hm4
        refine L (S (P_assign rfl) ?_)
        refine L (S (P_assign rfl) ?_)
        refine L_nil ?_
        refine then_n ?_
        refine C_ret ?_
        refine then_r ?_
        refine blk_r ?_
        refine then_r ?_
        have hb4' : Blk w4 b2 (tkC 2 k 0) 71 := hb4
        refine F_ret (rs := [.cell 2 71, .tmp 3, .tmp 4]) [.agg (tkC 2 k 0).toArray, .int .i64 (n : Int), .int .i64 0] Tryz.results64 ?_ ?_
        · exact ⟨⟨_, rfl, finTk hb4'⟩, rfl, rfl, trivial⟩
        · exact ⟨rfl, (hm02.no hm3).new hm4 hn1⟩
      | none =>
        rw [hk] at hkw
        by_cases h12 : 12 < n
        · dsimp only
          rw [if_pos h12]
          refine C_region ?_
          refine L (S (P_move rfl) ?_)
          refine L (S (P_move rfl) ?_)
          refine L (S (P_sliceT Tryz.underlying9 rfl bnd_none (bnd_some (j := n) rfl rfl) (by omega) (by omega) str_to) ?_)
          refine L (S_call cb_103 rfl (hkw) ?_)
          rintro _ w3 ⟨rfl, hm3⟩
          refine L (S (P_move rfl) ?_)
          refine L (S (P_extract rfl rfl) ?_)
          refine L (S (P_extract rfl rfl) ?_)
          refine L (S (P_assign rfl) ?_)
          refine L (S (P_assign rfl) ?_)
          refine L_nil ?_
          refine then_n ?_
          refine C_seq ?_
          refine C_region ?_
          refine L (S (P_move rfl) ?_)
          refine L_nil ?_
          refine then_n ?_
          refine C_false rfl ?_
          refine C_skip ?_
          refine then_n ?_
          refine C_seq ?_
          refine C_seq ?_
          refine C_region ?_
          refine L (S (P_move rfl) ?_)
          refine L (S (P_gt rfl rfl (decide_eq_true (by omega))) ?_)
          refine L_nil ?_
          refine then_n ?_
          refine C_true rfl ?_
          refine C_seq ?_
          refine C_region ?_
          refine L (S (P_buildC (ix := []) (l := []) bi_71 rfl (by simp [Value.oneCell']) rfl) ?_)
          refine L (S_storeS ti_71 rfl rfl (tk_one 0 [] 0) rfl (hb22.no hm3) (by exact Nat.le_refl 3) ?_)
          rintro w4 hb4 hm4
          refine L (S (P_assign rfl) ?_)
          refine L (S (P_assign rfl) ?_)
          refine L_nil ?_
          refine then_n ?_
          refine C_ret ?_
          refine then_r ?_
          refine blk_r ?_
          refine then_r ?_
          have hb4' : Blk w4 b2 (tkC 0 [] 0) 71 := hb4
          refine F_ret (rs := [.cell 2 71, .tmp 3, .tmp 4]) [.agg (tkC 0 [] 0).toArray, .int .i64 0, .int .i64 4] Tryz.results64 ?_ ?_
          · exact ⟨⟨_, rfl, finTk hb4'⟩, rfl, rfl, trivial⟩
          · exact ⟨rfl, (hm02.no hm3).new hm4 hn1⟩
        · dsimp only
          rw [if_neg h12]
          refine C_region ?_
          refine L (S (P_move rfl) ?_)
          refine L (S (P_move rfl) ?_)
          refine L (S (P_sliceT Tryz.underlying9 rfl bnd_none (bnd_some (j := n) rfl rfl) (by omega) (by omega) str_to) ?_)
          refine L (S_call cb_103 rfl (hkw) ?_)
          rintro _ w3 ⟨rfl, hm3⟩
          refine L (S (P_move rfl) ?_)
          refine L (S (P_extract rfl rfl) ?_)
          refine L (S (P_extract rfl rfl) ?_)
          refine L (S (P_assign rfl) ?_)
          refine L (S (P_assign rfl) ?_)
          refine L_nil ?_
          refine then_n ?_
          refine C_seq ?_
          refine C_region ?_
          refine L (S (P_move rfl) ?_)
          refine L_nil ?_
          refine then_n ?_
          refine C_false rfl ?_
          refine C_skip ?_
          refine then_n ?_
          refine C_seq ?_
          refine C_seq ?_
          refine C_region ?_
          refine L (S (P_move rfl) ?_)
          refine L (S (P_gt rfl rfl (decide_eq_false (by omega))) ?_)
          refine L_nil ?_
          refine then_n ?_
          refine C_false rfl ?_
          refine C_skip ?_
          refine then_n ?_
          refine C_seq ?_
          refine C_region ?_
          refine L (S (P_move rfl) ?_)
          refine L (S (P_move rfl) ?_)
          refine L (S (P_sliceT Tryz.underlying9 rfl bnd_none (bnd_some (j := n) rfl rfl) (by omega) (by omega) str_to) ?_)
          refine L (S (P_buildC (ix := [0, 1]) (l := [.const (.int .i64 1), .tmp 38]) bi_71_0_1 rfl (by simp [Value.oneCell']) rfl) ?_)
          refine L (S (P_move rfl) ?_)
          refine L (S_storeS ti_71 rfl rfl (tk_one 1 ((c :: r).take n) 0) rfl (hb22.no hm3) (by exact Nat.le_refl 3) ?_)
          rintro w4 hb4 hm4
          refine L (S (P_assign rfl) ?_)
          refine L (S (P_assign rfl) ?_)
          refine L_nil ?_
          refine then_n ?_
          refine C_ret ?_
          refine blk_r ?_
          refine then_r ?_
          have hb4' : Blk w4 b2 (tkC 1 ((c :: r).take n) 0) 71 := hb4
          refine F_ret (rs := [.cell 2 71, .tmp 3, .tmp 4]) [.agg (tkC 1 ((c :: r).take n) 0).toArray, .int .i64 (n : Int), .int .i64 0] Tryz.results64 ?_ ?_
          · exact ⟨⟨_, rfl, finTk hb4'⟩, rfl, rfl, trivial⟩
          · exact ⟨rfl, (hm02.no hm3).new hm4 hn1⟩
    | false =>
      have hl1 := letter_ret (w := w1) c.toNat
      rw [hlet] at hl1
      have hd1 := digit_ret (w := w1) c.toNat
      cases hdig : digN c.toNat with
      | true =>
        rw [hdig] at hd1
        have hnx : nextF big (c :: r) = numF big (c :: r) := by rw [nextF, if_neg (by rw [hlet]; decide), if_pos hdig]
        rw [hnx]
        have hnr := number_ret hpf hV1 (c :: r) hT hl (by simp [spanB, hdig])
        cases hnf : numF big (c :: r) with
        | ok k s n =>
          rw [hnf] at hnr
          refine C_region ?_
          refine L (S (P_move rfl) ?_)
          refine L (S_call cb_100 rfl (hl1) ?_)
          rintro _ _ ⟨rfl, rfl⟩
          refine L (S (P_assign rfl) ?_)
          refine L_nil ?_
          refine then_n ?_
          refine C_false rfl ?_
          refine C_seq ?_
          refine C_region ?_
          refine L (S (P_move rfl) ?_)
          refine L (S_call cb_102 rfl (hd1) ?_)
          rintro _ _ ⟨rfl, rfl⟩
          refine L (S (P_assign rfl) ?_)
          refine L_nil ?_
          refine then_n ?_
          refine C_true rfl ?_
          refine C_seq ?_
          refine C_region ?_
          refine L (S (P_move rfl) ?_)
          refine L (S_call cb_104 rfl (hnr) ?_)
          rintro _ w3 ⟨rfl, hm3⟩
          refine L (S (P_extract rfl rfl) ?_)
          refine L (S (P_extract rfl rfl) ?_)
          refine L (S (P_extract rfl rfl) ?_)
          refine L (S_storeS ti_71 rfl rfl (tk_one k s 0) rfl (hb2'.no hm3) (by exact Nat.le_refl 3) ?_)
          rintro w4 hb4 hm4
          refine L (S (P_assign rfl) ?_)
          refine L (S (P_assign rfl) ?_)
          refine L_nil ?_
          refine then_n ?_
          refine C_ret ?_
          refine blk_r ?_
          refine then_r ?_
          have hb4' : Blk w4 b2 (tkC k s 0) 71 := hb4
          refine F_ret (rs := [.cell 2 71, .tmp 3, .tmp 4]) [.agg (tkC k s 0).toArray, .int .i64 (n : Int), .int .i64 0] Tryz.results64 ?_ ?_
          · exact ⟨⟨_, rfl, finTk hb4'⟩, rfl, rfl, trivial⟩
          · exact ⟨rfl, (hm1.no hm3).new hm4 hn1⟩
        | er e =>
          rw [hnf] at hnr
          refine C_region ?_
          refine L (S (P_move rfl) ?_)
          refine L (S_call cb_100 rfl (hl1) ?_)
          rintro _ _ ⟨rfl, rfl⟩
          refine L (S (P_assign rfl) ?_)
          refine L_nil ?_
          refine then_n ?_
          refine C_false rfl ?_
          refine C_seq ?_
          refine C_region ?_
          refine L (S (P_move rfl) ?_)
          refine L (S_call cb_102 rfl (hd1) ?_)
          rintro _ _ ⟨rfl, rfl⟩
          refine L (S (P_assign rfl) ?_)
          refine L_nil ?_
          refine then_n ?_
          refine C_true rfl ?_
          refine C_seq ?_
          refine C_region ?_
          refine L (S (P_move rfl) ?_)
          refine L (S_call cb_104 rfl (hnr) ?_)
          rintro _ w3 ⟨rfl, hm3⟩
          refine L (S (P_extract rfl rfl) ?_)
          refine L (S (P_extract rfl rfl) ?_)
          refine L (S (P_extract rfl rfl) ?_)
          refine L (S_storeS ti_71 rfl rfl (tk_one 0 [] 0) rfl (hb2'.no hm3) (by exact Nat.le_refl 3) ?_)
          rintro w4 hb4 hm4
          refine L (S (P_assign rfl) ?_)
          refine L (S (P_assign rfl) ?_)
          refine L_nil ?_
          refine then_n ?_
          refine C_ret ?_
          refine blk_r ?_
          refine then_r ?_
          have hb4' : Blk w4 b2 (tkC 0 [] 0) 71 := hb4
          refine F_ret (rs := [.cell 2 71, .tmp 3, .tmp 4]) [.agg (tkC 0 [] 0).toArray, .int .i64 0, .int .i64 (e : Int)] Tryz.results64 ?_ ?_
          · exact ⟨⟨_, rfl, finTk hb4'⟩, rfl, rfl, trivial⟩
          · exact ⟨rfl, (hm1.no hm3).new hm4 hn1⟩
      | false =>
        rw [hdig] at hd1
        by_cases h39 : c = 39
        · subst h39
          have htx := text_ret (w := w1) (39 :: r) (by omega) (by simp)
          have hnx : nextF big (39 :: r) = match textF r with
            | some (s, n) => .ok 5 s (n + 1)
            | none => .er 10 := by
            rw [nextF, if_neg (by decide), if_neg (by decide), if_pos rfl]
            cases textF r <;> rfl
          rw [hnx]
          rw [show List.drop 1 ((39 : UInt8) :: r) = r from rfl] at htx
          cases htf : textF r with
          | some x =>
            obtain ⟨s, n⟩ := x
            rw [htf] at htx
            refine C_region ?_
            refine L (S (P_move rfl) ?_)
            refine L (S_call cb_100 rfl (hl1) ?_)
            rintro _ _ ⟨rfl, rfl⟩
            refine L (S (P_assign rfl) ?_)
            refine L_nil ?_
            refine then_n ?_
            refine C_false rfl ?_
            refine C_seq ?_
            refine C_region ?_
            refine L (S (P_move rfl) ?_)
            refine L (S_call cb_102 rfl (hd1) ?_)
            rintro _ _ ⟨rfl, rfl⟩
            refine L (S (P_assign rfl) ?_)
            refine L_nil ?_
            refine then_n ?_
            refine C_false rfl ?_
            refine C_seq ?_
            refine C_region ?_
            refine L (S (P_move rfl) ?_)
            refine L (S (P_eq rfl rfl (decide_eq_true (by decide))) ?_)
            refine L (S (P_assign rfl) ?_)
            refine L_nil ?_
            refine then_n ?_
            refine C_true rfl ?_
            refine C_seq ?_
            refine C_region ?_
            refine L (S (P_move rfl) ?_)
            refine L (S_call cb_105 rfl (htx) ?_)
            rintro _ w3 ⟨rfl, hm3⟩
            refine L (S (P_extract rfl rfl) ?_)
            refine L (S (P_extract rfl rfl) ?_)
            refine L (S (P_extract rfl rfl) ?_)
            refine L (S_storeS ti_71 rfl rfl (tk_one 5 s 0) rfl (hb2'.no hm3) (by exact Nat.le_refl 3) ?_)
            rintro w4 hb4 hm4
            refine L (S (P_assign rfl) ?_)
            refine L (S (P_assign rfl) ?_)
            refine L_nil ?_
            refine then_n ?_
            refine C_ret ?_
            refine blk_r ?_
            refine then_r ?_
            have hb4' : Blk w4 b2 (tkC 5 s 0) 71 := hb4
            refine F_ret (rs := [.cell 2 71, .tmp 3, .tmp 4]) [.agg (tkC 5 s 0).toArray, .int .i64 ((n + 1 : Nat) : Int), .int .i64 0] Tryz.results64 ?_ ?_
            · exact ⟨⟨_, rfl, finTk hb4'⟩, rfl, rfl, trivial⟩
            · exact ⟨rfl, (hm1.no hm3).new hm4 hn1⟩
          | none =>
            rw [htf] at htx
            refine C_region ?_
            refine L (S (P_move rfl) ?_)
            refine L (S_call cb_100 rfl (hl1) ?_)
            rintro _ _ ⟨rfl, rfl⟩
            refine L (S (P_assign rfl) ?_)
            refine L_nil ?_
            refine then_n ?_
            refine C_false rfl ?_
            refine C_seq ?_
            refine C_region ?_
            refine L (S (P_move rfl) ?_)
            refine L (S_call cb_102 rfl (hd1) ?_)
            rintro _ _ ⟨rfl, rfl⟩
            refine L (S (P_assign rfl) ?_)
            refine L_nil ?_
            refine then_n ?_
            refine C_false rfl ?_
            refine C_seq ?_
            refine C_region ?_
            refine L (S (P_move rfl) ?_)
            refine L (S (P_eq rfl rfl (decide_eq_true (by decide))) ?_)
            refine L (S (P_assign rfl) ?_)
            refine L_nil ?_
            refine then_n ?_
            refine C_true rfl ?_
            refine C_seq ?_
            refine C_region ?_
            refine L (S (P_move rfl) ?_)
            refine L (S_call cb_105 rfl (htx) ?_)
            rintro _ w3 ⟨rfl, hm3⟩
            refine L (S (P_extract rfl rfl) ?_)
            refine L (S (P_extract rfl rfl) ?_)
            refine L (S (P_extract rfl rfl) ?_)
            refine L (S_storeS ti_71 rfl rfl (tk_one 0 [] 0) rfl (hb2'.no hm3) (by exact Nat.le_refl 3) ?_)
            rintro w4 hb4 hm4
            refine L (S (P_assign rfl) ?_)
            refine L (S (P_assign rfl) ?_)
            refine L_nil ?_
            refine then_n ?_
            refine C_ret ?_
            refine blk_r ?_
            refine then_r ?_
            have hb4' : Blk w4 b2 (tkC 0 [] 0) 71 := hb4
            refine F_ret (rs := [.cell 2 71, .tmp 3, .tmp 4]) [.agg (tkC 0 [] 0).toArray, .int .i64 0, .int .i64 10] Tryz.results64 ?_ ?_
            · exact ⟨⟨_, rfl, finTk hb4'⟩, rfl, rfl, trivial⟩
            · exact ⟨rfl, (hm1.no hm3).new hm4 hn1⟩
        · have hc39 : c.toNat ≠ 39 := fun he => h39 (by rw [← UInt8.toNat_inj, he]; rfl)
          have hnx : nextF big (c :: r) = if (c :: r).take 2 ∈ twoL then .ok 6 ((c :: r).take 2) 2 else if c ∈ signL then .ok 6 [c] 1 else .er 100 := by
            rw [nextF, if_neg (by rw [hlet]; decide), if_neg (by rw [hdig]; decide), if_neg h39]
          rw [hnx]
          clear hnx
          refine C_region ?_
          refine L (S (P_move rfl) ?_)
          refine L (S_call cb_100 rfl (hl1) ?_)
          rintro _ _ ⟨rfl, rfl⟩
          refine L (S (P_assign rfl) ?_)
          refine L_nil ?_
          refine then_n ?_
          refine C_false rfl ?_
          refine C_seq ?_
          refine C_region ?_
          refine L (S (P_move rfl) ?_)
          refine L (S_call cb_102 rfl (hd1) ?_)
          rintro _ _ ⟨rfl, rfl⟩
          refine L (S (P_assign rfl) ?_)
          refine L_nil ?_
          refine then_n ?_
          refine C_false rfl ?_
          refine C_seq ?_
          refine C_region ?_
          refine L (S (P_move rfl) ?_)
          refine L (S (P_eq rfl rfl (decide_eq_false (by omega))) ?_)
          refine L (S (P_assign rfl) ?_)
          refine L_nil ?_
          refine then_n ?_
          refine C_false rfl ?_
          refine C_skip ?_
          refine blk_n ?_
          refine then_n ?_
          refine C_seq ?_
          refine C_seq ?_
          refine C_region ?_
          refine L (S_buildSliceN (l := [.const (.string (ByteArray.mk #[60, 62])), .const (.string (ByteArray.mk #[60, 61])), .const (.string (ByteArray.mk #[62, 61]))]) Tryz.underlying151 ti_9 rfl (vs := twoL.map fun x => Value.string (str x)) (by simp [twoL, Value.oneCell']) rfl (by decide) (by decide) ?_)
          rintro b57 w2 hb57 hm2 hn2
          refine L (S (P_lenS Tryz.underlying151 rfl) ?_)
          refine L (S (P_move rfl) ?_)
          refine L_nil ?_
          refine then_n ?_
          refine C_block ?_
          refine C_loop (γ := Nat) (fun i => [(0, .string (str (c :: r))), (2, .pointer (some ⟨b2, 0, none⟩)), (57, .slice (some ⟨b57, 0, none⟩) 3 3), (58, .int .i64 3), (59, .int .i64 (i : Int))]) (fun i wr => wr = w2 ∧ i ≤ 3 ∧ ∀ j, j < i → ¬ twoL[j]? = some ((c :: r).take 2)) (fun i => 3 - i) 0 (.cons rfl (.cons rfl (.cons rfl (.cons rfl (.cons rfl (.nil _)))))) ⟨rfl, by omega, fun j hj => by omega⟩ ?_
          rintro i wr ⟨rfl, hi, hno⟩
          have hm02 := hm1.no hm2
          have hb22 := hb2'.no hm2
          refine C_seq ?_
          refine C_region ?_
          refine L (S (P_lt rfl rfl rfl) ?_)
          refine L_nil ?_
          refine then_n ?_
          refine C_seq ?_
          refine C_ifp rfl rfl (fun hlt => ?_) (fun hge => ?_)
          · have hi3 : i < 3 := by omega
            obtain ⟨a, b, hab⟩ := two_at hi3
            have hcell : wr.cell? ⟨b57, i, none⟩ = some (.string (str [a, b])) := hb57.cell (by rw [List.getElem?_map, hab]; rfl)
            have hpre := hasPrefix_ret (w := wr) (c :: r) [a, b]
            rw [prefix_two] at hpre
            by_cases htk : (c :: r).take 2 = [a, b]
            · rw [decide_eq_true htk] at hpre
              rw [htk, if_pos (List.mem_of_getElem? hab)]
              refine C_skip ?_
              refine then_n ?_
              refine C_seq ?_
              refine C_block ?_
              refine C_seq ?_
              refine C_region ?_
              refine L (S (P_indexAddr Tryz.underlying151 (csz_of ti_9) rfl rfl (j := i) rfl hi3 (p := i) (by omega)) ?_)
              refine L (S_load sc_9 rfl hcell ?_)
              refine L (S (P_assign rfl) ?_)
              refine L_nil ?_
              refine then_n ?_
              refine C_seq ?_
              refine C_region ?_
              refine L (S (P_move rfl) ?_)
              refine L (S (P_move rfl) ?_)
              refine L (S_call cb_106 rfl (hpre) ?_)
              rintro _ _ ⟨rfl, rfl⟩
              refine L_nil ?_
              refine then_n ?_
              refine C_true rfl ?_
              refine C_seq ?_
              refine C_region ?_
              refine L (S (P_move rfl) ?_)
              refine L (S (P_buildC (ix := [0, 1]) (l := [.const (.int .i64 6), .tmp 66]) bi_71_0_1 rfl (by simp [Value.oneCell']) rfl) ?_)
              refine L (S_storeS ti_71 rfl rfl (tk_one 6 [a, b] 0) rfl hb22 (by exact Nat.le_refl 3) ?_)
              rintro w4 hb4 hm4
              refine L (S (P_assign rfl) ?_)
              refine L (S (P_assign rfl) ?_)
              refine L_nil ?_
              refine then_n ?_
              refine C_ret ?_
              refine blk_r ?_
              refine then_r ?_
              refine then_r ?_
              refine blk_r ?_
              refine then_r ?_
              have hb4' : Blk w4 b2 (tkC 6 [a, b] 0) 71 := hb4
              refine F_ret (rs := [.cell 2 71, .tmp 3, .tmp 4]) [.agg (tkC 6 [a, b] 0).toArray, .int .i64 2, .int .i64 0] Tryz.results64 ?_ ?_
              · exact ⟨⟨_, rfl, finTk hb4'⟩, rfl, rfl, trivial⟩
              · exact ⟨rfl, hm02.new hm4 hn1⟩
            · rw [decide_eq_false htk] at hpre
              refine C_skip ?_
              refine then_n ?_
              refine C_seq ?_
              refine C_block ?_
              refine C_seq ?_
              refine C_region ?_
              refine L (S (P_indexAddr Tryz.underlying151 (csz_of ti_9) rfl rfl (j := i) rfl hi3 (p := i) (by omega)) ?_)
              refine L (S_load sc_9 rfl hcell ?_)
              refine L (S (P_assign rfl) ?_)
              refine L_nil ?_
              refine then_n ?_
              refine C_seq ?_
              refine C_region ?_
              refine L (S (P_move rfl) ?_)
              refine L (S (P_move rfl) ?_)
              refine L (S_call cb_106 rfl (hpre) ?_)
              rintro _ _ ⟨rfl, rfl⟩
              refine L_nil ?_
              refine then_n ?_
              refine C_false rfl ?_
              refine C_skip ?_
              refine blk_n ?_
              refine then_n ?_
              refine C_region ?_
              refine L (S (P_add rfl rfl (wI64 (c := ((i + 1 : Nat) : Int)) (by omega))) ?_)
              refine L (S (P_move rfl) ?_)
              refine L_nil ?_
              refine then_n ?_
              exact ⟨rfl, i + 1, .cons rfl (.cons rfl (.cons rfl (.cons rfl (.cons rfl (.nil _))))), ⟨rfl, hi3, fun j hj he => by
                by_cases hji : j = i
                · subst hji
                  rw [hab] at he
                  exact htk (Option.some.inj he).symm
                · exact hno j (by omega) he⟩, by omega⟩
          · have hi3 : i = 3 := by omega
            subst hi3
            have hnot : (c :: r).take 2 ∉ twoL := fun h => by
              obtain ⟨j, hj⟩ := List.getElem?_of_mem h
              have hjl : j < twoL.length := (List.getElem?_eq_some_iff.1 hj).1
              exact hno j hjl hj
            rw [if_neg hnot]
            have hix := indexByte_ret (w := wr) signL c
            have hneg := indexByte_neg c signL
            by_cases hsg : c ∈ signL
            · rw [if_pos hsg]
              refine C_exit ?_
              refine then_x ?_
              refine then_x ?_
              refine blk_x ?_
              refine then_n ?_
              refine C_seq ?_
              refine C_seq ?_
              refine C_region ?_
              refine L (S (P_move rfl) ?_)
              refine L (S (P_indexT Tryz.underlying9 rfl rfl (j := 0) rfl (str_idx (bs := c :: r) rfl)) ?_)
              refine L (S_call cb_107 rfl (hix) ?_)
              rintro _ _ ⟨rfl, rfl⟩
              refine L (S (P_lt rfl rfl (decide_eq_false (fun h => hneg.1 h hsg))) ?_)
              refine L_nil ?_
              refine then_n ?_
              refine C_false rfl ?_
              refine C_skip ?_
              refine then_n ?_
              refine C_seq ?_
              refine C_region ?_
              refine L (S (P_move rfl) ?_)
              refine L (S (P_sliceT Tryz.underlying9 rfl bnd_none (bnd_some (j := 1) rfl rfl) (by omega) (by omega) str_to) ?_)
              refine L (S (P_buildC (ix := [0, 1]) (l := [.const (.int .i64 6), .tmp 75]) bi_71_0_1 rfl (by simp [Value.oneCell']) rfl) ?_)
              refine L (S_storeS ti_71 rfl rfl (tk_one 6 [c] 0) rfl hb22 (by exact Nat.le_refl 3) ?_)
              rintro w4 hb4 hm4
              refine L (S (P_assign rfl) ?_)
              refine L (S (P_assign rfl) ?_)
              refine L_nil ?_
              refine then_n ?_
              refine C_ret ?_
              have hb4' : Blk w4 b2 (tkC 6 [c] 0) 71 := hb4
              refine F_ret (rs := [.cell 2 71, .tmp 3, .tmp 4]) [.agg (tkC 6 [c] 0).toArray, .int .i64 1, .int .i64 0] Tryz.results64 ?_ ?_
              · exact ⟨⟨_, rfl, finTk hb4'⟩, rfl, rfl, trivial⟩
              · exact ⟨rfl, hm02.new hm4 hn1⟩
            · rw [if_neg hsg]
              refine C_exit ?_
              refine then_x ?_
              refine then_x ?_
              refine blk_x ?_
              refine then_n ?_
              refine C_seq ?_
              refine C_seq ?_
              refine C_region ?_
              refine L (S (P_move rfl) ?_)
              refine L (S (P_indexT Tryz.underlying9 rfl rfl (j := 0) rfl (str_idx (bs := c :: r) rfl)) ?_)
              refine L (S_call cb_107 rfl (hix) ?_)
              rintro _ _ ⟨rfl, rfl⟩
              refine L (S (P_lt rfl rfl (decide_eq_true (hneg.2 hsg))) ?_)
              refine L_nil ?_
              refine then_n ?_
              refine C_true rfl ?_
              refine C_seq ?_
              refine C_region ?_
              refine L (S (P_buildC (ix := []) (l := []) bi_71 rfl (by simp [Value.oneCell']) rfl) ?_)
              refine L (S_storeS ti_71 rfl rfl (tk_one 0 [] 0) rfl hb22 (by exact Nat.le_refl 3) ?_)
              rintro w4 hb4 hm4
              refine L (S (P_assign rfl) ?_)
              refine L (S (P_assign rfl) ?_)
              refine L_nil ?_
              refine then_n ?_
              refine C_ret ?_
              refine then_r ?_
              have hb4' : Blk w4 b2 (tkC 0 [] 0) 71 := hb4
              refine F_ret (rs := [.cell 2 71, .tmp 3, .tmp 4]) [.agg (tkC 0 [] 0).toArray, .int .i64 0, .int .i64 100] Tryz.results64 ?_ ?_
              · exact ⟨⟨_, rfl, finTk hb4'⟩, rfl, rfl, trivial⟩
              · exact ⟨rfl, hm02.new hm4 hn1⟩
end
end Go.Proofs.YtnoioimphcmeiaaGreatDoor
