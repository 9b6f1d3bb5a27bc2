import Derived.Test.YtnoioimphcmeiaaGreatDoorLRefA
namespace Go.Proofs.YtnoioimphcmeiaaGreatDoor
open Go.RowKit
set_option maxRecDepth 20000

section
variable {w : World}
set_option maxHeartbeats 2000000 in
theorem refnum_ret {big : List UInt8 → Bool} {V : World → Prop} {T : List UInt8 → Prop} (hpf : PF big V T) (hv : V w) (l : List UInt8) (hT : InT T l) (hl : l.length ≤ 100000) (at_ : Nat) {c : UInt8} (hc : l[at_]? = some c) (hd : digN c.toNat = true) :
    Ret Tryz.prog 109 [.string (str l), .int .i64 (at_ : Int)] w fun v w' => (match numF big (l.drop at_) with
      | .ok k s n => v = .tuple #[.agg (tkC k s at_).toArray, .int .i64 ((at_ + n : Nat) : Int), .int .i64 0]
      | .er e => ∃ k s, v = .tuple #[.agg (tkC k s at_).toArray, .int .i64 (at_ : Int), .int .i64 (e : Int)]) ∧ Mv No w w' := by
  have hsz := str_size l
  have hal : at_ < l.length := (List.getElem?_eq_some_iff.1 hc).1
  have hnl := spanB_le digN (l.drop at_)
  rw [List.length_drop] at hnl
  have hn0 : 0 < spanB digN (l.drop at_) := by rw [spanB_drop hc, if_pos hd]; omega
  have hT' := hT.drop at_
  have h0c : (l.drop at_)[0]? = some c := by rw [List.getElem?_drop]; exact hc
  have hdd : ∀ k, (l.drop at_).drop k = l.drop (at_ + k) := fun k => List.drop_drop
  have hget : ∀ k, (l.drop at_)[k]? = l[at_ + k]? := fun k => List.getElem?_drop
  have hmore : moreF (l.drop at_) = if l[at_ + spanB digN (l.drop at_)]? = some 46 then spanB digN (l.drop (at_ + spanB digN (l.drop at_) + 1)) else 0 := by
    unfold moreF
    rw [hget, hdd, Nat.add_assoc]
  have hreal := realT_take hn0
  have hmle := moreF_le (l.drop at_)
  rw [List.length_drop] at hmle
  have hdig1 := digits_ret (w := w) l hl at_ (by omega)
  have hdig2 := fun w' => digits_ret (w := w') l hl (at_ + spanB digN (l.drop at_) + 1)
  refine F_enter Tryz.func109 Tryz.ntmps109 rfl rfl ?_
  refine C_seq ?_
  refine C_region ?_
  refine L (S_alloc (zs := [(.int .i64 0), (.string (ByteArray.mk #[])), (.int .i64 0)]) ti_71 rfl ?_)
  rintro b4 w1 hb4 hm1 hn1
  refine L (S (P_assign rfl) ?_)
  refine L (S (P_assign rfl) ?_)
  refine L_nil ?_
  refine then_n ?_
  refine C_seq ?_
  have hb4' : Blk w1 b4 (tkC 0 [] 0) 71 := hb4
  clear hb4
  refine C_region ?_
  refine L (S (P_move rfl) ?_)
  refine L (S (P_move rfl) ?_)
  refine L (S_call cb_127 rfl ((digits_ret l hl at_ (by omega))) ?_)
  rintro _ _ ⟨rfl, rfl⟩
  refine L (S (P_assign rfl) ?_)
  refine L_nil ?_
  refine then_n ?_
  refine C_seq ?_
  refine C_region ?_
  refine L (S (P_move rfl) ?_)
  refine L (S (P_buildC (ix := [0, 2]) (l := [.const (.int .i64 3), .tmp 14]) bi_71_0_2 rfl (by simp [Value.oneCell']) rfl) ?_)
  refine L (S_alloc (zs := [(.int .i64 0), (.string (ByteArray.mk #[])), (.int .i64 0)]) ti_71 rfl ?_)
  rintro b8 w2 hb8 hm2 hn2
  refine L (S_storeS ti_71 rfl rfl (tk_one 3 [] at_) rfl hb8 (by exact Nat.le_refl 3) ?_)
  rintro w3 hb8' hm3
  refine L_nil ?_
  refine then_n ?_
  refine C_seq ?_
  refine C_seq ?_
  have hb83 : Blk w3 b8 (tkC 3 [] at_) 71 := hb8'
  have hm03 : Mv No w w3 := (hm1.no hm2).new hm3 (Nat.le_trans hm1.size hn2)
  have h48 : ¬ b4 = b8 := fun he => by have := hb4'.lt; omega
  have hb43 := (hb4'.no hm2).mv hm3 h48
  have hn8 : w.heap.size ≤ b8 := Nat.le_trans hm1.size hn2
  clear hb8 hb8' hb4'
  unfold numF
  rw [h0c]
  by_cases h7 : 1 < spanB digN (l.drop at_) ∧ some c = some 48
  · rw [if_pos h7]
    have hc48 : c.toNat = 48 := by rw [Option.some.inj h7.2]; rfl
    refine C_region ?_
    refine L (S (P_move rfl) ?_)
    refine L (S (P_move rfl) ?_)
    refine L (S (P_indexT Tryz.underlying9 rfl rfl (j := at_) rfl (str_idx hc)) ?_)
    refine L (S (P_eq rfl rfl (decide_eq_true (by omega))) ?_)
    refine L (S (P_move rfl) ?_)
    refine L_yes (j := 4) (dj := 20) (b := true) (S (P_move rfl) ?_) rfl
    refine L_yes (j := 4) (dj := 20) (b := true) (S (P_move rfl) ?_) rfl
    refine L_yes (j := 4) (dj := 20) (b := true) (S (P_add rfl rfl (wI64 (c := ((at_ + 1 : Nat) : Int)) (by omega))) ?_) rfl
    refine L_yes (j := 4) (dj := 20) (b := true) (S (P_gt rfl rfl (decide_eq_true (by omega))) ?_) rfl
    refine L (S (P_pickT rfl rfl) ?_)
    refine L_nil ?_
    refine then_n ?_
    refine C_true rfl ?_
    refine C_seq ?_
    refine C_region ?_
    refine L (S_loadS st_71 rfl hb83.row rfl ?_)
    refine L (S (P_move rfl) ?_)
    refine L (S_storeS ti_71 rfl rfl (tk_one 3 [] at_) rfl hb43 (by exact Nat.le_refl 3) ?_)
    rintro w4 hb44 hm4
    refine L (S (P_assign rfl) ?_)
    refine L (S (P_assign rfl) ?_)
    refine L_nil ?_
    refine then_n ?_
    refine C_ret ?_
    refine then_r ?_
    have hb44' : Blk w4 b4 (tkC 3 [] at_) 71 := hb44
    refine F_ret (rs := [.cell 4 71, .tmp 5, .tmp 6]) [.agg (tkC 3 [] at_).toArray, .int .i64 (at_ : Int), .int .i64 7] Tryz.results109 ?_ ?_
    · exact ⟨⟨_, rfl, finTk hb44'⟩, rfl, rfl, trivial⟩
    · exact ⟨⟨_, _, rfl⟩, hm03.new hm4 hn1⟩
  rw [if_neg h7]
  refine C_cutg (γ := Unit) (fun _ => [(0, .string (str l)), (1, .int .i64 (at_ : Int)), (4, .pointer (some ⟨b4, 0, none⟩)), (7, .int .i64 ((at_ + spanB digN (l.drop at_) : Nat) : Int)), (8, .pointer (some ⟨b8, 0, none⟩)), (25, .bool false)]) (fun _ wc => wc = w3) ?_ ?_
  · by_cases hc48 : c.toNat = 48
    · have hce : c = 48 := UInt8.toNat_inj.1 hc48
      have h1 : ¬ 1 < spanB digN (l.drop at_) := fun h => h7 ⟨h, by rw [hce]⟩
      refine C_region ?_
      refine L (S (P_move rfl) ?_)
      refine L (S (P_move rfl) ?_)
      refine L (S (P_indexT Tryz.underlying9 rfl rfl (j := at_) rfl (str_idx hc)) ?_)
      refine L (S (P_eq rfl rfl (decide_eq_true (by omega))) ?_)
      refine L (S (P_move rfl) ?_)
      refine L_yes (j := 4) (dj := 20) (b := true) (S (P_move rfl) ?_) rfl
      refine L_yes (j := 4) (dj := 20) (b := true) (S (P_move rfl) ?_) rfl
      refine L_yes (j := 4) (dj := 20) (b := true) (S (P_add rfl rfl (wI64 (c := ((at_ + 1 : Nat) : Int)) (by omega))) ?_) rfl
      refine L_yes (j := 4) (dj := 20) (b := true) (S (P_gt rfl rfl (decide_eq_false (by omega))) ?_) rfl
      refine L (S (P_pickT rfl rfl) ?_)
      refine L_nil ?_
      refine then_n ?_
      exact ⟨rfl, (), (.cons rfl (.cons rfl (.cons rfl (.cons rfl (.cons rfl (.cons rfl (.nil _))))))), rfl⟩
    · refine C_region ?_
      refine L (S (P_move rfl) ?_)
      refine L (S (P_move rfl) ?_)
      refine L (S (P_indexT Tryz.underlying9 rfl rfl (j := at_) rfl (str_idx hc)) ?_)
      refine L (S (P_eq rfl rfl (decide_eq_false (by omega))) ?_)
      refine L (S (P_move rfl) ?_)
      refine L_no (j := 4) (dj := 20) (b := true) (b' := false) (d := 21) rfl ?_
      refine L_no (j := 4) (dj := 20) (b := true) (b' := false) (d := 22) rfl ?_
      refine L_no (j := 4) (dj := 20) (b := true) (b' := false) (d := 23) rfl ?_
      refine L_no (j := 4) (dj := 20) (b := true) (b' := false) (d := 24) rfl ?_
      refine L (S (P_pickF rfl rfl) ?_)
      refine L_nil ?_
      refine then_n ?_
      exact ⟨rfl, (), (.cons rfl (.cons rfl (.cons rfl (.cons rfl (.cons rfl (.cons rfl (.nil _))))))), rfl⟩
  rintro _ wz rfl f' hf'
  refine C_forget hf' ?_
  clear hf' f'
  refine C_false rfl ?_
  refine C_skip ?_
  refine then_n ?_
  refine C_seq ?_
  refine C_seq ?_
  refine C_cutg (γ := Unit) (fun _ => [(0, .string (str l)), (1, .int .i64 (at_ : Int)), (4, .pointer (some ⟨b4, 0, none⟩)), (7, .int .i64 ((at_ + spanB digN (l.drop at_) : Nat) : Int)), (8, .pointer (some ⟨b8, 0, none⟩)), (46, .bool (decide (0 < moreF (l.drop at_))))]) (fun _ wc => wc = wz) ?_ ?_
  · rw [hmore]
    clear hreal hmle hmore
    generalize hn : spanB digN (l.drop at_) = n at *
    by_cases hlen : at_ + n + 1 < l.length
    · obtain ⟨d, hd1⟩ : ∃ d, l[at_ + n]? = some d := ⟨l[at_ + n], List.getElem?_eq_getElem (by omega)⟩
      obtain ⟨e, he1⟩ : ∃ e, l[at_ + n + 1]? = some e := ⟨l[at_ + n + 1], List.getElem?_eq_getElem hlen⟩
      have hke := kdN_dig e.toNat
      rw [hd1, spanB_drop he1]
      by_cases h46 : d.toNat = 46
      · have hd46 : d = 46 := UInt8.toNat_inj.1 h46
        rw [if_pos (by rw [hd46])]
        by_cases hde : digN e.toNat = true
        · have hk2 := hke.2 hde
          rw [if_pos hde, decide_eq_true (by omega)]
          refine C_region ?_
          refine L (S (P_move rfl) ?_)
          refine L (S (P_add rfl rfl (wI64 (c := ((at_ + n + 1 : Nat) : Int)) (by omega))) ?_)
          refine L (S (P_move rfl) ?_)
          refine L (S (P_lenT Tryz.underlying9 rfl) ?_)
          refine L (S (P_lt rfl rfl (decide_eq_true (by omega))) ?_)
          refine L (S (P_move rfl) ?_)
          refine L_yes (j := 5) (dj := 33) (b := true) (S (P_move rfl) ?_) rfl
          refine L_yes (j := 5) (dj := 33) (b := true) (S (P_move rfl) ?_) rfl
          refine L_yes (j := 5) (dj := 33) (b := true) (S (P_indexT Tryz.underlying9 rfl rfl (j := at_ + n) rfl (str_idx hd1)) ?_) rfl
          refine L_yes (j := 5) (dj := 33) (b := true) (S (P_eq rfl rfl (decide_eq_true (by omega))) ?_) rfl
          refine L (S (P_pickT rfl rfl) ?_)
          refine L (S (P_move rfl) ?_)
          refine L_yes (j := 11) (dj := 39) (b := true) (S (P_move rfl) ?_) rfl
          refine L_yes (j := 11) (dj := 39) (b := true) (S (P_move rfl) ?_) rfl
          refine L_yes (j := 11) (dj := 39) (b := true) (S (P_add rfl rfl (wI64 (c := ((at_ + n + 1 : Nat) : Int)) (by omega))) ?_) rfl
          refine L_yes (j := 11) (dj := 39) (b := true) (S (P_indexT Tryz.underlying9 rfl rfl (j := at_ + n + 1) rfl (str_idx he1)) ?_) rfl
          refine L_yes (j := 11) (dj := 39) (b := true) (S_call cb_65 rfl (kind_ret e) ?_) rfl
          rintro _ _ ⟨rfl, rfl⟩
          refine L_yes (j := 11) (dj := 39) (b := true) (S (P_eq rfl rfl (decide_eq_true (by omega))) ?_) rfl
          refine L (S (P_pickT rfl rfl) ?_)
          refine L_nil ?_
          refine then_n ?_
          exact ⟨rfl, (), (.cons rfl (.cons rfl (.cons rfl (.cons rfl (.cons rfl (.cons rfl (.nil _))))))), rfl⟩
        · have hk2 : kdN e.toNat ≠ 2 := fun h => hde (hke.1 h)
          rw [if_neg hde, decide_eq_false (by omega)]
          refine C_region ?_
          refine L (S (P_move rfl) ?_)
          refine L (S (P_add rfl rfl (wI64 (c := ((at_ + n + 1 : Nat) : Int)) (by omega))) ?_)
          refine L (S (P_move rfl) ?_)
          refine L (S (P_lenT Tryz.underlying9 rfl) ?_)
          refine L (S (P_lt rfl rfl (decide_eq_true (by omega))) ?_)
          refine L (S (P_move rfl) ?_)
          refine L_yes (j := 5) (dj := 33) (b := true) (S (P_move rfl) ?_) rfl
          refine L_yes (j := 5) (dj := 33) (b := true) (S (P_move rfl) ?_) rfl
          refine L_yes (j := 5) (dj := 33) (b := true) (S (P_indexT Tryz.underlying9 rfl rfl (j := at_ + n) rfl (str_idx hd1)) ?_) rfl
          refine L_yes (j := 5) (dj := 33) (b := true) (S (P_eq rfl rfl (decide_eq_true (by omega))) ?_) rfl
          refine L (S (P_pickT rfl rfl) ?_)
          refine L (S (P_move rfl) ?_)
          refine L_yes (j := 11) (dj := 39) (b := true) (S (P_move rfl) ?_) rfl
          refine L_yes (j := 11) (dj := 39) (b := true) (S (P_move rfl) ?_) rfl
          refine L_yes (j := 11) (dj := 39) (b := true) (S (P_add rfl rfl (wI64 (c := ((at_ + n + 1 : Nat) : Int)) (by omega))) ?_) rfl
          refine L_yes (j := 11) (dj := 39) (b := true) (S (P_indexT Tryz.underlying9 rfl rfl (j := at_ + n + 1) rfl (str_idx he1)) ?_) rfl
          refine L_yes (j := 11) (dj := 39) (b := true) (S_call cb_65 rfl (kind_ret e) ?_) rfl
          rintro _ _ ⟨rfl, rfl⟩
          refine L_yes (j := 11) (dj := 39) (b := true) (S (P_eq rfl rfl (decide_eq_false (by omega))) ?_) rfl
          refine L (S (P_pickT rfl rfl) ?_)
          refine L_nil ?_
          refine then_n ?_
          exact ⟨rfl, (), (.cons rfl (.cons rfl (.cons rfl (.cons rfl (.cons rfl (.cons rfl (.nil _))))))), rfl⟩
      · rw [if_neg (fun h => h46 (by rw [Option.some.inj h]; rfl)), decide_eq_false (by omega)]
        refine C_region ?_
        refine L (S (P_move rfl) ?_)
        refine L (S (P_add rfl rfl (wI64 (c := ((at_ + n + 1 : Nat) : Int)) (by omega))) ?_)
        refine L (S (P_move rfl) ?_)
        refine L (S (P_lenT Tryz.underlying9 rfl) ?_)
        refine L (S (P_lt rfl rfl (decide_eq_true (by omega))) ?_)
        refine L (S (P_move rfl) ?_)
        refine L_yes (j := 5) (dj := 33) (b := true) (S (P_move rfl) ?_) rfl
        refine L_yes (j := 5) (dj := 33) (b := true) (S (P_move rfl) ?_) rfl
        refine L_yes (j := 5) (dj := 33) (b := true) (S (P_indexT Tryz.underlying9 rfl rfl (j := at_ + n) rfl (str_idx hd1)) ?_) rfl
        refine L_yes (j := 5) (dj := 33) (b := true) (S (P_eq rfl rfl (decide_eq_false (by omega))) ?_) rfl
        refine L (S (P_pickT rfl rfl) ?_)
        refine L (S (P_move rfl) ?_)
        refine L_no (j := 11) (dj := 39) (b := true) (b' := false) (d := 40) rfl ?_
        refine L_no (j := 11) (dj := 39) (b := true) (b' := false) (d := 41) rfl ?_
        refine L_no (j := 11) (dj := 39) (b := true) (b' := false) (d := 42) rfl ?_
        refine L_no (j := 11) (dj := 39) (b := true) (b' := false) (d := 43) rfl ?_
        refine L_no (j := 11) (dj := 39) (b := true) (b' := false) (d := 44) rfl ?_
        refine L_no (j := 11) (dj := 39) (b := true) (b' := false) (d := 45) rfl ?_
        refine L (S (P_pickF rfl rfl) ?_)
        refine L_nil ?_
        refine then_n ?_
        exact ⟨rfl, (), (.cons rfl (.cons rfl (.cons rfl (.cons rfl (.cons rfl (.cons rfl (.nil _))))))), rfl⟩
    · have h0 : (if l[at_ + n]? = some 46 then spanB digN (l.drop (at_ + n + 1)) else 0) = 0 := by
        rw [spanB_end (by omega)]
        split <;> rfl
      rw [h0, decide_eq_false (by omega)]
      refine C_region ?_
      refine L (S (P_move rfl) ?_)
      refine L (S (P_add rfl rfl (wI64 (c := ((at_ + n + 1 : Nat) : Int)) (by omega))) ?_)
      refine L (S (P_move rfl) ?_)
      refine L (S (P_lenT Tryz.underlying9 rfl) ?_)
      refine L (S (P_lt rfl rfl (decide_eq_false (by omega))) ?_)
      refine L (S (P_move rfl) ?_)
      refine L_no (j := 5) (dj := 33) (b := true) (b' := false) (d := 34) rfl ?_
      refine L_no (j := 5) (dj := 33) (b := true) (b' := false) (d := 35) rfl ?_
      refine L_no (j := 5) (dj := 33) (b := true) (b' := false) (d := 36) rfl ?_
      refine L_no (j := 5) (dj := 33) (b := true) (b' := false) (d := 37) rfl ?_
      refine L (S (P_pickF rfl rfl) ?_)
      refine L (S (P_move rfl) ?_)
      refine L_no (j := 11) (dj := 39) (b := true) (b' := false) (d := 40) rfl ?_
      refine L_no (j := 11) (dj := 39) (b := true) (b' := false) (d := 41) rfl ?_
      refine L_no (j := 11) (dj := 39) (b := true) (b' := false) (d := 42) rfl ?_
      refine L_no (j := 11) (dj := 39) (b := true) (b' := false) (d := 43) rfl ?_
      refine L_no (j := 11) (dj := 39) (b := true) (b' := false) (d := 44) rfl ?_
      refine L_no (j := 11) (dj := 39) (b := true) (b' := false) (d := 45) rfl ?_
      refine L (S (P_pickF rfl rfl) ?_)
      refine L_nil ?_
      refine then_n ?_
      exact ⟨rfl, (), (.cons rfl (.cons rfl (.cons rfl (.cons rfl (.cons rfl (.cons rfl (.nil _))))))), rfl⟩
  rintro _ wy rfl f' hf'
  refine C_forget hf' ?_
  clear hf' f'
  by_cases hm : 0 < moreF (l.drop at_)
  · have hreal' := hreal hm
    have hml := hmle hm
    have htl := hT' _ (List.take_prefix _ _).isInfix hreal'
    have hmv : spanB digN (l.drop (at_ + spanB digN (l.drop at_) + 1)) = moreF (l.drop at_) := by
      rw [hmore] at hm ⊢
      split at hm
      · rename_i h; rw [if_pos h]
      · omega
    rw [if_pos hm, decide_eq_true hm]
    rw [hmv] at hdig2
    clear hmore hmle hreal
    generalize moreF (l.drop at_) = mo at *
    generalize hn : spanB digN (l.drop at_) = n at *
    have hcut : (str l).extract at_ (at_ + n + 1 + mo) = str ((l.drop at_).take (n + 1 + mo)) := by
      rw [cut_str, show at_ + n + 1 + mo - at_ = n + 1 + mo by omega]
    generalize (l.drop at_).take (n + 1 + mo) = tx at *
    refine C_true rfl ?_
    refine C_seq ?_
    refine C_region ?_
    refine L (S (P_move rfl) ?_)
    refine L (S (P_move rfl) ?_)
    refine L (S (P_add rfl rfl (wI64 (c := ((at_ + n + 1 : Nat) : Int)) (by omega))) ?_)
    refine L (S_call cb_127 rfl ((hdig2 _ (by omega))) ?_)
    rintro _ _ ⟨rfl, rfl⟩
    refine L (S (P_assign rfl) ?_)
    refine L_nil ?_
    refine then_n ?_
    refine C_seq ?_
    refine C_draw 8 mixed rfl ?_
    refine A_pure (i := 0) rfl (P_move rfl) ?_ (by decide +kernel) (by decide +kernel) (by decide +kernel) (fun _ _ _ _ h => h) rfl rfl rfl
    refine A_pure (i := 1) rfl (P_move rfl) ?_ (by decide +kernel) (by decide +kernel) (by decide +kernel) (fun _ _ _ _ h => h) rfl rfl rfl
    refine A_pure (i := 2) rfl (P_move rfl) ?_ (by decide +kernel) (by decide +kernel) (by decide +kernel) (fun _ _ _ _ h => h) rfl rfl rfl
    refine A_pure (i := 3) rfl (P_sliceT Tryz.underlying9 rfl (bnd_some (j := at_) rfl rfl) (bnd_some (j := at_ + n + 1 + mo) rfl rfl) (by omega) (by omega) hcut) ?_ (by decide +kernel) (by decide +kernel) (by decide +kernel) (fun _ _ _ _ h => h) rfl rfl rfl
    refine A_pure (i := 4) rfl (P_fieldAddr fo_71_0 rfl) ?_ (by decide +kernel) (by decide +kernel) (by decide +kernel) (fun _ _ _ _ h => h) rfl rfl rfl
    refine A_one (i := 5) (A_op rfl (S_store ti_3 rfl rfl rfl (hb83.no (Mv.refl _).drew) (by show 0 < 3; omega) ?_)) (by decide +kernel)
    rintro w5 hb5 hm5
    refine A_pure (i := 6) rfl (P_fieldAddr fo_71_1 rfl) ?_ (by decide +kernel) (by decide +kernel) (by decide +kernel) (fun _ _ _ _ h => h) rfl rfl rfl
    refine A_one (i := 7) (A_op rfl (S_store ti_9 rfl rfl rfl hb5 (by show 1 < 3; omega) ?_)) (by decide +kernel)
    rintro w6 hb6 hm6
    refine A_done (by decide +kernel) ?_
    refine then_n ?_
    refine C_seq ?_
    have hb86 : Blk w6 b8 (tkC 4 tx at_) 71 := hb6
    have hm56 := hm5.trans hm6 fun _ _ h => h
    have hb46 := hb43.mv ((Mv.refl (S := At b8) _).drew.trans hm56 fun _ _ h => h) h48
    have hm06 : Mv No w w6 := (hm03.drew).new hm56 hn8
    have hcall := hpf.call w6 tx (hpf.mono _ _ hv hm06) hreal' htl
    refine C_region ?_
    refine L (S (P_fieldAddr fo_71_1 rfl) ?_)
    refine L (S_load sc_9 rfl (hb86.cell (i := 1) rfl) ?_)
    refine L (S_call cb_121 rfl (hcall) ?_)
    rintro _ w7 ⟨fb, e, rfl, hm7, -, hlt⟩
    refine L (S (P_move rfl) ?_)
    refine L (S (P_extract rfl rfl) ?_)
    refine L (S (P_extract rfl rfl) ?_)
    refine L (S (P_assign rfl) ?_)
    refine L (S (P_assign rfl) ?_)
    refine L_nil ?_
    refine then_n ?_
    refine C_seq ?_
    refine C_seq ?_
    have hm07 := hm06.no hm7
    have hb87 := hb86.no hm7
    have hb47 := hb46.no hm7
    cases hbig : big tx with
    | true =>
      rw [hbig] at hlt
      rw [if_pos rfl]
      refine C_region ?_
      refine L (S (P_move rfl) ?_)
      refine L (S (P_ltF rfl rfl hlt) ?_)
      refine L (S (P_not rfl rfl) ?_)
      refine L_nil ?_
      refine then_n ?_
      refine C_true rfl ?_
      refine C_seq ?_
      refine C_region ?_
      refine L (S_loadS st_71 rfl hb87.row rfl ?_)
      refine L (S (P_move rfl) ?_)
      refine L (S_storeS ti_71 rfl rfl (tk_one 4 tx at_) rfl hb47 (by exact Nat.le_refl 3) ?_)
      rintro w8 hb8 hm8
      refine L (S (P_assign rfl) ?_)
      refine L (S (P_assign rfl) ?_)
      refine L_nil ?_
      refine then_n ?_
      refine C_ret ?_
      refine then_r ?_
      refine then_r ?_
      have hb8' : Blk w8 b4 (tkC 4 tx at_) 71 := hb8
      refine F_ret (rs := [.cell 4 71, .tmp 5, .tmp 6]) [.agg (tkC 4 tx at_).toArray, .int .i64 (at_ : Int), .int .i64 4] Tryz.results109 ?_ ?_
      · exact ⟨⟨_, rfl, finTk hb8'⟩, rfl, rfl, trivial⟩
      · exact ⟨⟨_, _, rfl⟩, hm07.new hm8 hn1⟩
    | false =>
      rw [hbig] at hlt
      rw [if_neg (by decide)]
      refine C_region ?_
      refine L (S (P_move rfl) ?_)
      refine L (S (P_ltF rfl rfl hlt) ?_)
      refine L (S (P_not rfl rfl) ?_)
      refine L_nil ?_
      refine then_n ?_
      refine C_false rfl ?_
      refine C_skip ?_
      refine then_n ?_
      refine C_seq ?_
      refine C_region ?_
      refine L (S_loadS st_71 rfl hb87.row rfl ?_)
      refine L (S (P_move rfl) ?_)
      refine L (S_storeS ti_71 rfl rfl (tk_one 4 tx at_) rfl hb47 (by exact Nat.le_refl 3) ?_)
      rintro w8 hb8 hm8
      refine L (S (P_assign rfl) ?_)
      refine L (S (P_assign rfl) ?_)
      refine L_nil ?_
      refine then_n ?_
      refine C_ret ?_
      refine then_r ?_
      have hb8' : Blk w8 b4 (tkC 4 tx at_) 71 := hb8
      refine F_ret (rs := [.cell 4 71, .tmp 5, .tmp 6]) [.agg (tkC 4 tx at_).toArray, .int .i64 ((at_ + n + 1 + mo : Nat) : Int), .int .i64 0] Tryz.results109 ?_ ?_
      · exact ⟨⟨_, rfl, finTk hb8'⟩, rfl, rfl, trivial⟩
      · exact ⟨by dsimp only; rw [show at_ + (n + 1 + mo) = at_ + n + 1 + mo by omega]; rfl, hm07.new hm8 hn1⟩
  · rw [if_neg hm, decide_eq_false hm]
    clear hmore hmle hreal hdig2
    generalize hn : spanB digN (l.drop at_) = n at *
    have hcut : (str l).extract at_ (at_ + n) = str ((l.drop at_).take n) := by
      rw [cut_str, show at_ + n - at_ = n by omega]
    have hgt : (!(Op.bytesLess (str ((l.drop at_).take n)).toList (str bigT).toList || (str ((l.drop at_).take n)).toList == (str bigT).toList)) = gtB ((l.drop at_).take n) bigT := by
      rw [str_list, str_list]
      exact gtB_eq _ _
    refine C_false rfl ?_
    refine C_skip ?_
    refine then_n ?_
    refine C_seq ?_
    refine C_region ?_
    refine L (S (P_move rfl) ?_)
    refine L (S (P_move rfl) ?_)
    refine L (S (P_move rfl) ?_)
    refine L (S (P_sliceT Tryz.underlying9 rfl (bnd_some (j := at_) rfl rfl) (bnd_some (j := at_ + n) rfl rfl) (by omega) (by omega) hcut) ?_)
    refine L (S (P_fieldAddr fo_71_1 rfl) ?_)
    refine L (S_store ti_9 rfl rfl rfl hb83 (by show 1 < 3; omega) ?_)
    rintro w6 hb6 hm6
    refine L_nil ?_
    refine then_n ?_
    refine C_seq ?_
    refine C_seq ?_
    have hb86 : Blk w6 b8 (tkC 3 ((l.drop at_).take n) at_) 71 := hb6
    have hb46 := hb43.mv hm6 h48
    have hm06 : Mv No w w6 := hm03.new hm6 hn8
    by_cases h19 : 19 < n
    · rw [if_pos (.inl h19)]
      refine C_region ?_
      refine L (S (P_move rfl) ?_)
      refine L (S (P_move rfl) ?_)
      refine L (S (P_sub rfl rfl (wI64 (c := (n : Int)) (by omega))) ?_)
      refine L (S (P_gt rfl rfl (decide_eq_true (by omega))) ?_)
      refine L (S (P_move rfl) ?_)
      refine L_no (j := 4) (dj := 79) (b := false) (b' := true) (d := 80) rfl ?_
      refine L_no (j := 4) (dj := 79) (b := false) (b' := true) (d := 81) rfl ?_
      refine L_no (j := 4) (dj := 79) (b := false) (b' := true) (d := 82) rfl ?_
      refine L_no (j := 4) (dj := 79) (b := false) (b' := true) (d := 83) rfl ?_
      refine L_no (j := 4) (dj := 79) (b := false) (b' := true) (d := 84) rfl ?_
      refine L_nou (j := 9) (dj := 84) (b := true) (d := 85) rfl ?_
      refine L_nou (j := 9) (dj := 84) (b := true) (d := 86) rfl ?_
      refine L_nou (j := 9) (dj := 84) (b := true) (d := 87) rfl ?_
      refine L_no (j := 4) (dj := 79) (b := false) (b' := true) (d := 88) rfl ?_
      refine L (S (P_pickT rfl rfl) ?_)
      refine L_nil ?_
      refine then_n ?_
      refine C_true rfl ?_
      refine C_seq ?_
      refine C_region ?_
      refine L (S_loadS st_71 rfl hb86.row rfl ?_)
      refine L (S (P_move rfl) ?_)
      refine L (S_storeS ti_71 rfl rfl (tk_one 3 _ at_) rfl hb46 (by exact Nat.le_refl 3) ?_)
      rintro w8 hb8 hm8
      refine L (S (P_assign rfl) ?_)
      refine L (S (P_assign rfl) ?_)
      refine L_nil ?_
      refine then_n ?_
      refine C_ret ?_
      refine then_r ?_
      have hb8' : Blk w8 b4 (tkC 3 ((l.drop at_).take n) at_) 71 := hb8
      refine F_ret (rs := [.cell 4 71, .tmp 5, .tmp 6]) [.agg (tkC 3 ((l.drop at_).take n) at_).toArray, .int .i64 (at_ : Int), .int .i64 4] Tryz.results109 ?_ ?_
      · exact ⟨⟨_, rfl, finTk hb8'⟩, rfl, rfl, trivial⟩
      · exact ⟨⟨_, _, rfl⟩, hm06.new hm8 hn1⟩
    by_cases h19e : n = 19
    · have hn19 : (l.drop at_).take 19 = (l.drop at_).take n := by rw [h19e]
      rw [hn19]
      cases hg : gtB ((l.drop at_).take n) bigT with
      | true =>
        rw [hg] at hgt
        rw [if_pos (.inr ⟨h19e, rfl⟩)]
        refine C_region ?_
        refine L (S (P_move rfl) ?_)
        refine L (S (P_move rfl) ?_)
        refine L (S (P_sub rfl rfl (wI64 (c := (n : Int)) (by omega))) ?_)
        refine L (S (P_gt rfl rfl (decide_eq_false (by omega))) ?_)
        refine L (S (P_move rfl) ?_)
        refine L_yes (j := 4) (dj := 79) (b := false) (S (P_move rfl) ?_) rfl
        refine L_yes (j := 4) (dj := 79) (b := false) (S (P_move rfl) ?_) rfl
        refine L_yes (j := 4) (dj := 79) (b := false) (S (P_sub rfl rfl (wI64 (c := (n : Int)) (by omega))) ?_) rfl
        refine L_yes (j := 4) (dj := 79) (b := false) (S (P_eq rfl rfl (decide_eq_true (by omega))) ?_) rfl
        refine L_yes (j := 4) (dj := 79) (b := false) (S (P_move rfl) ?_) rfl
        refine L_yes (j := 9) (dj := 84) (b := true) (S (P_fieldAddr fo_71_1 rfl) ?_) rfl
        refine L_yes (j := 9) (dj := 84) (b := true) (S_load sc_9 rfl (hb86.cell (i := 1) rfl) ?_) rfl
        refine L_yes (j := 9) (dj := 84) (b := true) (S (P_gtT rfl rfl hgt) ?_) rfl
        refine L_yes (j := 4) (dj := 79) (b := false) (S (P_pickT rfl rfl) ?_) rfl
        refine L (S (P_pickF rfl rfl) ?_)
        refine L_nil ?_
        refine then_n ?_
        refine C_true rfl ?_
        refine C_seq ?_
        refine C_region ?_
        refine L (S_loadS st_71 rfl hb86.row rfl ?_)
        refine L (S (P_move rfl) ?_)
        refine L (S_storeS ti_71 rfl rfl (tk_one 3 _ at_) rfl hb46 (by exact Nat.le_refl 3) ?_)
        rintro w8 hb8 hm8
        refine L (S (P_assign rfl) ?_)
        refine L (S (P_assign rfl) ?_)
        refine L_nil ?_
        refine then_n ?_
        refine C_ret ?_
        refine then_r ?_
        have hb8' : Blk w8 b4 (tkC 3 ((l.drop at_).take n) at_) 71 := hb8
        refine F_ret (rs := [.cell 4 71, .tmp 5, .tmp 6]) [.agg (tkC 3 ((l.drop at_).take n) at_).toArray, .int .i64 (at_ : Int), .int .i64 4] Tryz.results109 ?_ ?_
        · exact ⟨⟨_, rfl, finTk hb8'⟩, rfl, rfl, trivial⟩
        · exact ⟨⟨_, _, rfl⟩, hm06.new hm8 hn1⟩
      | false =>
        rw [hg] at hgt
        rw [if_neg (by intro h; rcases h with h | h; exact h19 h; exact absurd h.2 (by decide))]
        refine C_region ?_
        refine L (S (P_move rfl) ?_)
        refine L (S (P_move rfl) ?_)
        refine L (S (P_sub rfl rfl (wI64 (c := (n : Int)) (by omega))) ?_)
        refine L (S (P_gt rfl rfl (decide_eq_false (by omega))) ?_)
        refine L (S (P_move rfl) ?_)
        refine L_yes (j := 4) (dj := 79) (b := false) (S (P_move rfl) ?_) rfl
        refine L_yes (j := 4) (dj := 79) (b := false) (S (P_move rfl) ?_) rfl
        refine L_yes (j := 4) (dj := 79) (b := false) (S (P_sub rfl rfl (wI64 (c := (n : Int)) (by omega))) ?_) rfl
        refine L_yes (j := 4) (dj := 79) (b := false) (S (P_eq rfl rfl (decide_eq_true (by omega))) ?_) rfl
        refine L_yes (j := 4) (dj := 79) (b := false) (S (P_move rfl) ?_) rfl
        refine L_yes (j := 9) (dj := 84) (b := true) (S (P_fieldAddr fo_71_1 rfl) ?_) rfl
        refine L_yes (j := 9) (dj := 84) (b := true) (S_load sc_9 rfl (hb86.cell (i := 1) rfl) ?_) rfl
        refine L_yes (j := 9) (dj := 84) (b := true) (S (P_gtT rfl rfl hgt) ?_) rfl
        refine L_yes (j := 4) (dj := 79) (b := false) (S (P_pickT rfl rfl) ?_) rfl
        refine L (S (P_pickF rfl rfl) ?_)
        refine L_nil ?_
        refine then_n ?_
        refine C_false rfl ?_
        refine C_skip ?_
        refine then_n ?_
        refine C_seq ?_
        refine C_region ?_
        refine L (S_loadS st_71 rfl hb86.row rfl ?_)
        refine L (S (P_move rfl) ?_)
        refine L (S_storeS ti_71 rfl rfl (tk_one 3 _ at_) rfl hb46 (by exact Nat.le_refl 3) ?_)
        rintro w8 hb8 hm8
        refine L (S (P_assign rfl) ?_)
        refine L (S (P_assign rfl) ?_)
        refine L_nil ?_
        refine then_n ?_
        refine C_ret ?_
        have hb8' : Blk w8 b4 (tkC 3 ((l.drop at_).take n) at_) 71 := hb8
        refine F_ret (rs := [.cell 4 71, .tmp 5, .tmp 6]) [.agg (tkC 3 ((l.drop at_).take n) at_).toArray, .int .i64 ((at_ + n : Nat) : Int), .int .i64 0] Tryz.results109 ?_ ?_
        · exact ⟨⟨_, rfl, finTk hb8'⟩, rfl, rfl, trivial⟩
        · exact ⟨rfl, hm06.new hm8 hn1⟩
    · rw [if_neg (by intro h; rcases h with h | h; exact h19 h; exact h19e h.1)]
      refine C_region ?_
      refine L (S (P_move rfl) ?_)
      refine L (S (P_move rfl) ?_)
      refine L (S (P_sub rfl rfl (wI64 (c := (n : Int)) (by omega))) ?_)
      refine L (S (P_gt rfl rfl (decide_eq_false (by omega))) ?_)
      refine L (S (P_move rfl) ?_)
      refine L_yes (j := 4) (dj := 79) (b := false) (S (P_move rfl) ?_) rfl
      refine L_yes (j := 4) (dj := 79) (b := false) (S (P_move rfl) ?_) rfl
      refine L_yes (j := 4) (dj := 79) (b := false) (S (P_sub rfl rfl (wI64 (c := (n : Int)) (by omega))) ?_) rfl
      refine L_yes (j := 4) (dj := 79) (b := false) (S (P_eq rfl rfl (decide_eq_false (by omega))) ?_) rfl
      refine L_yes (j := 4) (dj := 79) (b := false) (S (P_move rfl) ?_) rfl
      refine L_no (j := 9) (dj := 84) (b := true) (b' := false) (d := 85) rfl ?_
      refine L_no (j := 9) (dj := 84) (b := true) (b' := false) (d := 86) rfl ?_
      refine L_no (j := 9) (dj := 84) (b := true) (b' := false) (d := 87) rfl ?_
      refine L_yes (j := 4) (dj := 79) (b := false) (S (P_pickF rfl rfl) ?_) rfl
      refine L (S (P_pickF rfl rfl) ?_)
      refine L_nil ?_
      refine then_n ?_
      refine C_false rfl ?_
      refine C_skip ?_
      refine then_n ?_
      refine C_seq ?_
      refine C_region ?_
      refine L (S_loadS st_71 rfl hb86.row rfl ?_)
      refine L (S (P_move rfl) ?_)
      refine L (S_storeS ti_71 rfl rfl (tk_one 3 _ at_) rfl hb46 (by exact Nat.le_refl 3) ?_)
      rintro w8 hb8 hm8
      refine L (S (P_assign rfl) ?_)
      refine L (S (P_assign rfl) ?_)
      refine L_nil ?_
      refine then_n ?_
      refine C_ret ?_
      have hb8' : Blk w8 b4 (tkC 3 ((l.drop at_).take n) at_) 71 := hb8
      refine F_ret (rs := [.cell 4 71, .tmp 5, .tmp 6]) [.agg (tkC 3 ((l.drop at_).take n) at_).toArray, .int .i64 ((at_ + n : Nat) : Int), .int .i64 0] Tryz.results109 ?_ ?_
      · exact ⟨⟨_, rfl, finTk hb8'⟩, rfl, rfl, trivial⟩
      · exact ⟨rfl, hm06.new hm8 hn1⟩
end
end Go.Proofs.YtnoioimphcmeiaaGreatDoor
