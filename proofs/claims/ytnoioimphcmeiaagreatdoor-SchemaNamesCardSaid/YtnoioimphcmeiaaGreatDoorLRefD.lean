import Derived.Test.YtnoioimphcmeiaaGreatDoorLRefC
namespace Go.Proofs.YtnoioimphcmeiaaGreatDoor
open Go.RowKit
set_option maxRecDepth 20000

theorem kwF_some {w k : List UInt8} (h : kwF w = some k) : k ≠ [] := by
  unfold kwF at h
  split at h
  · rename_i hm
    cases h
    exact (words_caps _ hm).1
  · cases h
theorem ldN_kd (c : Nat) : ldN c = true ↔ (kdN c = 1 ∨ kdN c = 2) := by
  unfold ldN
  rw [kdN_let, kdN_dig, Bool.or_eq_true]
theorem sign_at : ∀ i, i < 11 → ∃ c, signL[i]? = some c := fun i h => ⟨signL[i]'h, List.getElem?_eq_getElem h⟩
section
variable {w : World}
set_option maxHeartbeats 4000000 in
theorem refword_ret {big : List UInt8 → Bool} {V : World → Prop} {T : List UInt8 → Prop} (hpf : PF big V T) (hv : V w) (l : List UInt8) (hT : InT T l) (hl : l.length ≤ 100000) (at_ : Nat) (ha : at_ ≤ l.length) :
    Ret Tryz.prog 66 [.string (str l), .int .i64 (at_ : Int)] w fun v w' => (match nextF big (l.drop at_) with
      | .ok k s n => v = .tuple #[.agg (tkC k s at_).toArray, .int .i64 ((at_ + n : Nat) : Int), .int .i64 0]
      | .er e => ∃ k s x, v = .tuple #[.agg (tkC k s at_).toArray, .int .i64 x, .int .i64 (e : Int)]) ∧ Mv No w w' := by
  have hsz := str_size l
  refine F_enter Tryz.func66 Tryz.ntmps66 rfl rfl ?_
  refine C_seq ?_
  refine C_region ?_
  refine L (S_alloc (zs := [(.int .i64 0), (.string (ByteArray.mk #[])), (.int .i64 0)]) ti_71 rfl ?_)
  rintro b4 w1 hb4 hm1 hn1
  refine L (S (P_assign rfl) ?_)
  refine L (S (P_assign rfl) ?_)
  refine L_nil ?_
  refine then_n ?_
  refine C_seq ?_
  have hb4' : Blk w1 b4 (tkC 0 [] 0) 71 := hb4
  clear hb4
  refine C_region ?_
  refine L (S (P_move rfl) ?_)
  refine L (S (P_buildC (ix := [2]) (l := [.tmp 12]) bi_71_2 rfl (by simp [Value.oneCell']) rfl) ?_)
  refine L (S (P_move rfl) ?_)
  refine L (S_alloc (zs := [(.int .i64 0), (.string (ByteArray.mk #[])), (.int .i64 0)]) ti_71 rfl ?_)
  rintro b8 w2 hb8 hm2 hn2
  refine L (S_storeS ti_71 rfl rfl (tk_one 0 [] at_) rfl hb8 (by exact Nat.le_refl 3) ?_)
  rintro w3 hb8' hm3
  refine L (S (P_assign rfl) ?_)
  refine L_nil ?_
  refine then_n ?_
  refine C_seq ?_
  refine C_seq ?_
  have hb83 : Blk w3 b8 (tkC 0 [] at_) 71 := hb8'
  have hn8 : w.heap.size ≤ b8 := Nat.le_trans hm1.size hn2
  have hm03 : Mv No w w3 := (hm1.no hm2).new hm3 hn8
  have h48 : ¬ b4 = b8 := fun he => by have := hb4'.lt; omega
  have h84 : ¬ b8 = b4 := fun he => h48 he.symm
  have hb43 := (hb4'.no hm2).mv hm3 h48
  clear hb8 hb8' hb4'
  by_cases hend : at_ = l.length
  · rw [List.drop_eq_nil_of_le (by omega)]
    refine C_region ?_
    refine L (S (P_move rfl) ?_)
    refine L (S (P_move rfl) ?_)
    refine L (S (P_lenT Tryz.underlying9 rfl) ?_)
    refine L (S (P_eq rfl rfl (decide_eq_true (by omega))) ?_)
    refine L_nil ?_
    refine then_n ?_
    refine C_true rfl ?_
    refine C_seq ?_
    refine C_region ?_
    refine L (S_loadS st_71 rfl hb83.row rfl ?_)
    refine L (S (P_move rfl) ?_)
    refine L (S_storeS ti_71 rfl rfl (tk_one 0 [] at_) rfl hb43 (by exact Nat.le_refl 3) ?_)
    rintro w4 hb4 hm4
    refine L (S (P_assign rfl) ?_)
    refine L (S (P_assign rfl) ?_)
    refine L_nil ?_
    refine then_n ?_
    refine C_ret ?_
    refine then_r ?_
    have hb4' : Blk w4 b4 (tkC 0 [] at_) 71 := hb4
    refine F_ret (rs := [.cell 4 71, .tmp 5, .tmp 6]) [.agg (tkC 0 [] at_).toArray, .int .i64 (at_ : Int), .int .i64 0] Tryz.results66 ?_ ?_
    · exact ⟨⟨_, rfl, finTk hb4'⟩, rfl, rfl, trivial⟩
    · exact ⟨rfl, hm03.new hm4 hn1⟩
  obtain ⟨c, hc⟩ : ∃ c, l[at_]? = some c := ⟨l[at_], List.getElem?_eq_getElem (by omega)⟩
  have hcl := c.toNat_lt
  have hdr := drop_cons hc
  have hkl := kdN_let c.toNat
  have hkd := kdN_dig c.toNat
  have hk := fun w' => kind_ret (w := w') c
  cases hlet : letN c.toNat with
  | true =>
    have hk1 := hkl.2 hlet
    have hnx : nextF big (l.drop at_) = match kwF ((l.drop at_).take (spanB ldN (l.drop at_))) with
      | some k => .ok 2 k (spanB ldN (l.drop at_))
      | none => if 12 < spanB ldN (l.drop at_) then .er 4 else .ok 1 ((l.drop at_).take (spanB ldN (l.drop at_))) (spanB ldN (l.drop at_)) := by
      rw [hdr, nextF, if_pos hlet]
      cases kwF ((c :: l.drop (at_ + 1)).take (spanB ldN (c :: l.drop (at_ + 1)))) <;> rfl
    rw [hnx]
    clear hnx
    have hsp := spanB_le ldN (l.drop at_)
    rw [List.length_drop] at hsp
    refine C_region ?_
    refine L (S (P_move rfl) ?_)
    refine L (S (P_move rfl) ?_)
    refine L (S (P_lenT Tryz.underlying9 rfl) ?_)
    refine L (S (P_eq rfl rfl (decide_eq_false (by omega))) ?_)
    refine L_nil ?_
    refine then_n ?_
    refine C_false rfl ?_
    refine C_skip ?_
    refine then_n ?_
    refine C_seq ?_
    refine C_block ?_
    refine C_seq ?_
    refine C_region ?_
    refine L (S (P_move rfl) ?_)
    refine L (S (P_move rfl) ?_)
    refine L (S (P_indexT Tryz.underlying9 rfl rfl (j := at_) rfl (str_idx hc)) ?_)
    refine L (S_call cb_65 rfl ((hk _)) ?_)
    rintro _ _ ⟨rfl, rfl⟩
    refine L (S (P_eq rfl rfl (decide_eq_true (by omega))) ?_)
    refine L (S (P_assign rfl) ?_)
    refine L_nil ?_
    refine then_n ?_
    refine C_true rfl ?_
    refine C_seq ?_
    refine C_block ?_
    refine C_loop (γ := Nat) (fun i => [(0, .string (str l)), (1, .int .i64 (at_ : Int)), (4, .pointer (some ⟨b4, 0, none⟩)), (7, .pointer (some ⟨b8, 0, none⟩)), (8, .int .i64 (i : Int))]) (fun i wr => wr = w3 ∧ i ≤ l.length ∧ i + spanB ldN (l.drop i) = at_ + spanB ldN (l.drop at_)) (fun i => l.length - i) at_ (.cons rfl (.cons rfl (.cons rfl (.cons rfl (.cons rfl (.nil _)))))) ⟨rfl, ha, rfl⟩ ?_
    rintro i wr ⟨rfl, hi, he⟩
    by_cases hgo : ∃ d, l[i]? = some d ∧ ldN d.toNat = true
    · obtain ⟨d, hd, hld⟩ := hgo
      have hil := (List.getElem?_eq_some_iff.1 hd).1
      have hkk := (ldN_kd d.toNat).1 hld
      have hke := fun w' => kind_ret (w := w') d
      rw [spanB_drop hd, if_pos hld] at he
      by_cases hd1 : kdN d.toNat = 1
      · refine C_seq ?_
        refine C_seq ?_
        refine C_region ?_
        refine L (S (P_move rfl) ?_)
        refine L (S (P_move rfl) ?_)
        refine L (S (P_lenT Tryz.underlying9 rfl) ?_)
        refine L (S (P_lt rfl rfl (decide_eq_true (by omega))) ?_)
        refine L (S (P_move rfl) ?_)
        refine L_yes (j := 4) (dj := 31) (b := true) (S (P_move rfl) ?_) rfl
        refine L_yes (j := 4) (dj := 31) (b := true) (S (P_move rfl) ?_) rfl
        refine L_yes (j := 4) (dj := 31) (b := true) (S (P_indexT Tryz.underlying9 rfl rfl (j := i) rfl (str_idx hd)) ?_) rfl
        refine L_yes (j := 4) (dj := 31) (b := true) (S_call cb_65 rfl ((hke _)) ?_) rfl
        rintro _ _ ⟨rfl, rfl⟩
        refine L_yes (j := 4) (dj := 31) (b := true) (S (P_eq rfl rfl (decide_eq_true (by omega))) ?_) rfl
        refine L_yes (j := 4) (dj := 31) (b := true) (S (P_move rfl) ?_) rfl
        refine L_no (j := 10) (dj := 37) (b := false) (b' := true) (d := 38) rfl ?_
        refine L_no (j := 10) (dj := 37) (b := false) (b' := true) (d := 39) rfl ?_
        refine L_no (j := 10) (dj := 37) (b := false) (b' := true) (d := 40) rfl ?_
        refine L_no (j := 10) (dj := 37) (b := false) (b' := true) (d := 41) rfl ?_
        refine L_no (j := 10) (dj := 37) (b := false) (b' := true) (d := 42) rfl ?_
        refine L_yes (j := 4) (dj := 31) (b := true) (S (P_pickT rfl rfl) ?_) rfl
        refine L (S (P_pickT rfl rfl) ?_)
        refine L_nil ?_
        refine then_n ?_
        refine C_true rfl ?_
        refine C_skip ?_
        refine then_n ?_
        refine C_block ?_
        refine C_region ?_
        refine L (S (P_move rfl) ?_)
        refine L (S (P_add rfl rfl (wI64 (c := ((i + 1 : Nat) : Int)) (by omega))) ?_)
        refine L (S (P_assign rfl) ?_)
        refine L_nil ?_
        refine blk_n ?_
        refine then_n ?_
        exact ⟨rfl, i + 1, (.cons rfl (.cons rfl (.cons rfl (.cons rfl (.cons rfl (.nil _)))))), ⟨rfl, hil, by omega⟩, by omega⟩
      · refine C_seq ?_
        refine C_seq ?_
        refine C_region ?_
        refine L (S (P_move rfl) ?_)
        refine L (S (P_move rfl) ?_)
        refine L (S (P_lenT Tryz.underlying9 rfl) ?_)
        refine L (S (P_lt rfl rfl (decide_eq_true (by omega))) ?_)
        refine L (S (P_move rfl) ?_)
        refine L_yes (j := 4) (dj := 31) (b := true) (S (P_move rfl) ?_) rfl
        refine L_yes (j := 4) (dj := 31) (b := true) (S (P_move rfl) ?_) rfl
        refine L_yes (j := 4) (dj := 31) (b := true) (S (P_indexT Tryz.underlying9 rfl rfl (j := i) rfl (str_idx hd)) ?_) rfl
        refine L_yes (j := 4) (dj := 31) (b := true) (S_call cb_65 rfl ((hke _)) ?_) rfl
        rintro _ _ ⟨rfl, rfl⟩
        refine L_yes (j := 4) (dj := 31) (b := true) (S (P_eq rfl rfl (decide_eq_false (by omega))) ?_) rfl
        refine L_yes (j := 4) (dj := 31) (b := true) (S (P_move rfl) ?_) rfl
        refine L_yes (j := 10) (dj := 37) (b := false) (S (P_move rfl) ?_) rfl
        refine L_yes (j := 10) (dj := 37) (b := false) (S (P_move rfl) ?_) rfl
        refine L_yes (j := 10) (dj := 37) (b := false) (S (P_indexT Tryz.underlying9 rfl rfl (j := i) rfl (str_idx hd)) ?_) rfl
        refine L_yes (j := 10) (dj := 37) (b := false) (S_call cb_65 rfl ((hke _)) ?_) rfl
        rintro _ _ ⟨rfl, rfl⟩
        refine L_yes (j := 10) (dj := 37) (b := false) (S (P_eq rfl rfl (decide_eq_true (by omega))) ?_) rfl
        refine L_yes (j := 4) (dj := 31) (b := true) (S (P_pickF rfl rfl) ?_) rfl
        refine L (S (P_pickT rfl rfl) ?_)
        refine L_nil ?_
        refine then_n ?_
        refine C_true rfl ?_
        refine C_skip ?_
        refine then_n ?_
        refine C_block ?_
        refine C_region ?_
        refine L (S (P_move rfl) ?_)
        refine L (S (P_add rfl rfl (wI64 (c := ((i + 1 : Nat) : Int)) (by omega))) ?_)
        refine L (S (P_assign rfl) ?_)
        refine L_nil ?_
        refine blk_n ?_
        refine then_n ?_
        exact ⟨rfl, i + 1, (.cons rfl (.cons rfl (.cons rfl (.cons rfl (.cons rfl (.nil _)))))), ⟨rfl, hil, by omega⟩, by omega⟩
    · have hin : i = at_ + spanB ldN (l.drop at_) := by
        rcases Nat.lt_or_ge i l.length with h | h
        · have hd := List.getElem?_eq_getElem h
          rw [spanB_drop hd, if_neg (fun hh => hgo ⟨_, hd, hh⟩)] at he
          omega
        · rw [spanB_end h] at he
          omega
      have hcut : (str l).extract at_ i = str ((l.drop at_).take (spanB ldN (l.drop at_))) := by
        rw [cut_str, show i - at_ = spanB ldN (l.drop at_) by omega]
      have hkwr := fun w' => refkw_ret (w := w') ((l.drop at_).take (spanB ldN (l.drop at_))) (by rw [List.length_take, List.length_drop]; omega)
      clear he
      generalize hn : spanB ldN (l.drop at_) = n at *
      generalize (l.drop at_).take n = tx at *
      subst hin
      refine C_seq ?_
      refine C_seq ?_
      refine C_cutg (γ := Unit) (fun _ => [(0, .string (str l)), (1, .int .i64 (at_ : Int)), (4, .pointer (some ⟨b4, 0, none⟩)), (7, .pointer (some ⟨b8, 0, none⟩)), (8, .int .i64 ((at_ + n : Nat) : Int)), (44, .bool false)]) (fun _ wc => wc = wr) ?_ ?_
      · rcases Nat.lt_or_ge (at_ + n) l.length with h | h
        · have hd := List.getElem?_eq_getElem h
          generalize l[at_ + n] = d at hd
          have hnk : ¬ ldN d.toNat = true := fun hh => hgo ⟨_, hd, hh⟩
          have hk12 : kdN d.toNat ≠ 1 ∧ kdN d.toNat ≠ 2 := ⟨fun h => hnk ((ldN_kd _).2 (.inl h)), fun h => hnk ((ldN_kd _).2 (.inr h))⟩
          have hke := fun w' => kind_ret (w := w') d
          refine C_region ?_
          refine L (S (P_move rfl) ?_)
          refine L (S (P_move rfl) ?_)
          refine L (S (P_lenT Tryz.underlying9 rfl) ?_)
          refine L (S (P_lt rfl rfl (decide_eq_true (by omega))) ?_)
          refine L (S (P_move rfl) ?_)
          refine L_yes (j := 4) (dj := 31) (b := true) (S (P_move rfl) ?_) rfl
          refine L_yes (j := 4) (dj := 31) (b := true) (S (P_move rfl) ?_) rfl
          refine L_yes (j := 4) (dj := 31) (b := true) (S (P_indexT Tryz.underlying9 rfl rfl (j := at_ + n) rfl (str_idx hd)) ?_) rfl
          refine L_yes (j := 4) (dj := 31) (b := true) (S_call cb_65 rfl ((hke _)) ?_) rfl
          rintro _ _ ⟨rfl, rfl⟩
          refine L_yes (j := 4) (dj := 31) (b := true) (S (P_eq rfl rfl (decide_eq_false (by omega))) ?_) rfl
          refine L_yes (j := 4) (dj := 31) (b := true) (S (P_move rfl) ?_) rfl
          refine L_yes (j := 10) (dj := 37) (b := false) (S (P_move rfl) ?_) rfl
          refine L_yes (j := 10) (dj := 37) (b := false) (S (P_move rfl) ?_) rfl
          refine L_yes (j := 10) (dj := 37) (b := false) (S (P_indexT Tryz.underlying9 rfl rfl (j := at_ + n) rfl (str_idx hd)) ?_) rfl
          refine L_yes (j := 10) (dj := 37) (b := false) (S_call cb_65 rfl ((hke _)) ?_) rfl
          rintro _ _ ⟨rfl, rfl⟩
          refine L_yes (j := 10) (dj := 37) (b := false) (S (P_eq rfl rfl (decide_eq_false (by omega))) ?_) rfl
          refine L_yes (j := 4) (dj := 31) (b := true) (S (P_pickF rfl rfl) ?_) rfl
          refine L (S (P_pickT rfl rfl) ?_)
          refine L_nil ?_
          refine then_n ?_
          exact ⟨rfl, (), (.cons rfl (.cons rfl (.cons rfl (.cons rfl (.cons rfl (.cons rfl (.nil _))))))), rfl⟩
        · refine C_region ?_
          refine L (S (P_move rfl) ?_)
          refine L (S (P_move rfl) ?_)
          refine L (S (P_lenT Tryz.underlying9 rfl) ?_)
          refine L (S (P_lt rfl rfl (decide_eq_false (by omega))) ?_)
          refine L (S (P_move rfl) ?_)
          refine L_no (j := 4) (dj := 31) (b := true) (b' := false) (d := 32) rfl ?_
          refine L_no (j := 4) (dj := 31) (b := true) (b' := false) (d := 33) rfl ?_
          refine L_no (j := 4) (dj := 31) (b := true) (b' := false) (d := 34) rfl ?_
          refine L_no (j := 4) (dj := 31) (b := true) (b' := false) (d := 35) rfl ?_
          refine L_no (j := 4) (dj := 31) (b := true) (b' := false) (d := 36) rfl ?_
          refine L_no (j := 4) (dj := 31) (b := true) (b' := false) (d := 37) rfl ?_
          refine L_nou (j := 10) (dj := 37) (b := false) (d := 38) rfl ?_
          refine L_nou (j := 10) (dj := 37) (b := false) (d := 39) rfl ?_
          refine L_nou (j := 10) (dj := 37) (b := false) (d := 40) rfl ?_
          refine L_nou (j := 10) (dj := 37) (b := false) (d := 41) rfl ?_
          refine L_nou (j := 10) (dj := 37) (b := false) (d := 42) rfl ?_
          refine L_no (j := 4) (dj := 31) (b := true) (b' := false) (d := 43) rfl ?_
          refine L (S (P_pickF rfl rfl) ?_)
          refine L_nil ?_
          refine then_n ?_
          exact ⟨rfl, (), (.cons rfl (.cons rfl (.cons rfl (.cons rfl (.cons rfl (.cons rfl (.nil _))))))), rfl⟩
      rintro _ wz rfl f' hf'
      refine C_forget hf' ?_
      clear hf' f'
      refine C_false rfl ?_
      refine C_exit ?_
      refine then_x ?_
      refine then_x ?_
      refine blk_x ?_
      refine then_n ?_
      refine C_seq ?_
      refine C_draw 8 mixed rfl ?_
      refine A_pure (i := 0) rfl (P_move rfl) ?_ (by decide +kernel) (by decide +kernel) (by decide +kernel) (fun _ _ _ _ h => h) rfl rfl rfl
      refine A_pure (i := 1) rfl (P_move rfl) ?_ (by decide +kernel) (by decide +kernel) (by decide +kernel) (fun _ _ _ _ h => h) rfl rfl rfl
      refine A_pure (i := 2) rfl (P_move rfl) ?_ (by decide +kernel) (by decide +kernel) (by decide +kernel) (fun _ _ _ _ h => h) rfl rfl rfl
      refine A_pure (i := 3) rfl (P_sliceT Tryz.underlying9 rfl (bnd_some (j := at_) rfl rfl) (bnd_some (j := at_ + n) rfl rfl) (by omega) (by omega) hcut) ?_ (by decide +kernel) (by decide +kernel) (by decide +kernel) (fun _ _ _ _ h => h) rfl rfl rfl
      refine A_pure (i := 4) rfl (P_fieldAddr fo_71_0 rfl) ?_ (by decide +kernel) (by decide +kernel) (by decide +kernel) (fun _ _ _ _ h => h) rfl rfl rfl
      refine A_one (i := 5) (A_op rfl (S_store ti_3 rfl rfl rfl (hb83.no (Mv.refl _).drew) (by show 0 < 3; omega) ?_)) (by decide +kernel)
      rintro w5 hb5 hm5
      refine A_pure (i := 6) rfl (P_fieldAddr fo_71_1 rfl) ?_ (by decide +kernel) (by decide +kernel) (by decide +kernel) (fun _ _ _ _ h => h) rfl rfl rfl
      refine A_one (i := 7) (A_op rfl (S_store ti_9 rfl rfl rfl hb5 (by show 1 < 3; omega) ?_)) (by decide +kernel)
      rintro w6 hb6 hm6
      refine A_done (by decide +kernel) ?_
      refine then_n ?_
      refine C_seq ?_
      refine C_seq ?_
      have hb86 : Blk w6 b8 (tkC 1 tx at_) 71 := hb6
      have hm56 := hm5.trans hm6 fun _ _ h => h
      have hb46 := hb43.mv ((Mv.refl (S := At b8) _).drew.trans hm56 fun _ _ h => h) h48
      have hm06 : Mv No w w6 := (hm03.drew).new hm56 hn8
      have hkw := hkwr w6
      cases hkf : kwF tx with
      | some k =>
        have hkne := kwF_some hkf
        rw [hkf, Option.getD_some] at hkw
        dsimp only
        refine C_region ?_
        refine L (S (P_fieldAddr fo_71_1 rfl) ?_)
        refine L (S_load sc_9 rfl (hb86.cell (i := 1) rfl) ?_)
        refine L (S_call cb_108 rfl (hkw) ?_)
        rintro _ w7 ⟨rfl, hm7⟩
        refine L (S (P_assign rfl) ?_)
        refine L_nil ?_
        refine then_n ?_
        refine C_seq ?_
        refine C_region ?_
        refine L (S (P_move rfl) ?_)
        refine L (S (P_neT rfl rfl (decide_eq_true (fun h => hkne ((str_nil_iff _).1 h)))) ?_)
        refine L_nil ?_
        refine then_n ?_
        refine C_true rfl ?_
        refine C_region ?_
        refine L (S (P_move rfl) ?_)
        refine L (S (P_fieldAddr fo_71_0 rfl) ?_)
        refine L (S_store ti_3 rfl rfl rfl (hb86.no hm7) (by show 0 < 3; omega) ?_)
        rintro w8 hb8 hm8
        refine L (S (P_fieldAddr fo_71_1 rfl) ?_)
        refine L (S_store ti_9 rfl rfl rfl hb8 (by show 1 < 3; omega) ?_)
        rintro w9 hb9 hm9
        refine L_nil ?_
        refine then_n ?_
        refine C_seq ?_
        refine C_region ?_
        refine L (S_loadS st_71 rfl (show Blk w9 b8 (tkC 2 k at_) 71 from hb9).row rfl ?_)
        refine L (S (P_move rfl) ?_)
        refine L (S_storeS ti_71 rfl rfl (tk_one 2 k at_) rfl (((hb46.no hm7).mv hm8 h48).mv hm9 h48) (by exact Nat.le_refl 3) ?_)
        rintro w10 hb10 hm10
        refine L (S (P_assign rfl) ?_)
        refine L (S (P_assign rfl) ?_)
        refine L_nil ?_
        refine then_n ?_
        refine C_ret ?_
        refine blk_r ?_
        refine then_r ?_
        have hb10' : Blk w10 b4 (tkC 2 k at_) 71 := hb10
        refine F_ret (rs := [.cell 4 71, .tmp 5, .tmp 6]) [.agg (tkC 2 k at_).toArray, .int .i64 ((at_ + n : Nat) : Int), .int .i64 0] Tryz.results66 ?_ ?_
        · exact ⟨⟨_, rfl, finTk hb10'⟩, rfl, rfl, trivial⟩
        · exact ⟨rfl, (((hm06.no hm7).new hm8 hn8).new hm9 hn8).new hm10 hn1⟩
      | none =>
        rw [hkf] at hkw
        dsimp only
        by_cases h12 : 12 < n
        · rw [if_pos h12]
          refine C_region ?_
          refine L (S (P_fieldAddr fo_71_1 rfl) ?_)
          refine L (S_load sc_9 rfl (hb86.cell (i := 1) rfl) ?_)
          refine L (S_call cb_108 rfl (hkw) ?_)
          rintro _ w7 ⟨rfl, hm7⟩
          refine L (S (P_assign rfl) ?_)
          refine L_nil ?_
          refine then_n ?_
          refine C_seq ?_
          refine C_region ?_
          refine L (S (P_move rfl) ?_)
          refine L (S (P_neT rfl rfl (decide_eq_false (fun h => h rfl))) ?_)
          refine L_nil ?_
          refine then_n ?_
          refine C_false rfl ?_
          refine C_seq ?_
          refine C_region ?_
          refine L (S (P_move rfl) ?_)
          refine L (S (P_move rfl) ?_)
          refine L (S (P_sub rfl rfl (wI64 (c := (n : Int)) (by omega))) ?_)
          refine L (S (P_gt rfl rfl (decide_eq_true (by omega))) ?_)
          refine L_nil ?_
          refine then_n ?_
          refine C_true rfl ?_
          refine C_seq ?_
          refine C_region ?_
          refine L (S_loadS st_71 rfl (hb86.no hm7).row rfl ?_)
          refine L (S (P_move rfl) ?_)
          refine L (S_storeS ti_71 rfl rfl (tk_one 1 tx at_) rfl (hb46.no hm7) (by exact Nat.le_refl 3) ?_)
          rintro w10 hb10 hm10
          refine L (S (P_assign rfl) ?_)
          refine L (S (P_assign rfl) ?_)
          refine L_nil ?_
          refine then_n ?_
          refine C_ret ?_
          refine then_r ?_
          refine blk_r ?_
          refine then_r ?_
          have hb10' : Blk w10 b4 (tkC 1 tx at_) 71 := hb10
          refine F_ret (rs := [.cell 4 71, .tmp 5, .tmp 6]) [.agg (tkC 1 tx at_).toArray, .int .i64 ((at_ + n : Nat) : Int), .int .i64 4] Tryz.results66 ?_ ?_
          · exact ⟨⟨_, rfl, finTk hb10'⟩, rfl, rfl, trivial⟩
          · exact ⟨⟨_, _, _, rfl⟩, (hm06.no hm7).new hm10 hn1⟩
        · rw [if_neg h12]
          refine C_region ?_
          refine L (S (P_fieldAddr fo_71_1 rfl) ?_)
          refine L (S_load sc_9 rfl (hb86.cell (i := 1) rfl) ?_)
          refine L (S_call cb_108 rfl (hkw) ?_)
          rintro _ w7 ⟨rfl, hm7⟩
          refine L (S (P_assign rfl) ?_)
          refine L_nil ?_
          refine then_n ?_
          refine C_seq ?_
          refine C_region ?_
          refine L (S (P_move rfl) ?_)
          refine L (S (P_neT rfl rfl (decide_eq_false (fun h => h rfl))) ?_)
          refine L_nil ?_
          refine then_n ?_
          refine C_false rfl ?_
          refine C_seq ?_
          refine C_region ?_
          refine L (S (P_move rfl) ?_)
          refine L (S (P_move rfl) ?_)
          refine L (S (P_sub rfl rfl (wI64 (c := (n : Int)) (by omega))) ?_)
          refine L (S (P_gt rfl rfl (decide_eq_false (by omega))) ?_)
          refine L_nil ?_
          refine then_n ?_
          refine C_false rfl ?_
          refine C_skip ?_
          refine then_n ?_
          refine C_seq ?_
          refine C_region ?_
          refine L (S_loadS st_71 rfl (hb86.no hm7).row rfl ?_)
          refine L (S (P_move rfl) ?_)
          refine L (S_storeS ti_71 rfl rfl (tk_one 1 tx at_) rfl (hb46.no hm7) (by exact Nat.le_refl 3) ?_)
          rintro w10 hb10 hm10
          refine L (S (P_assign rfl) ?_)
          refine L (S (P_assign rfl) ?_)
          refine L_nil ?_
          refine then_n ?_
          refine C_ret ?_
          refine blk_r ?_
          refine then_r ?_
          have hb10' : Blk w10 b4 (tkC 1 tx at_) 71 := hb10
          refine F_ret (rs := [.cell 4 71, .tmp 5, .tmp 6]) [.agg (tkC 1 tx at_).toArray, .int .i64 ((at_ + n : Nat) : Int), .int .i64 0] Tryz.results66 ?_ ?_
          · exact ⟨⟨_, rfl, finTk hb10'⟩, rfl, rfl, trivial⟩
          · exact ⟨rfl, (hm06.no hm7).new hm10 hn1⟩
  | false =>
    have hk1 : kdN c.toNat ≠ 1 := fun h => by rw [hkl.1 h] at hlet; cases hlet
    cases hdg : digN c.toNat with
    | true =>
      have hk2 := hkd.2 hdg
      have hnx : nextF big (l.drop at_) = numF big (l.drop at_) := by rw [hdr, nextF, if_neg (by rw [hlet]; decide), if_pos hdg]
      rw [hnx]
      have hN := refnum_ret (w := w3) hpf (hpf.mono _ _ hv hm03) l hT hl at_ hc hdg
      cases hnf : numF big (l.drop at_) with
      | ok k s n =>
        rw [hnf] at hN
        refine C_region ?_
        refine L (S (P_move rfl) ?_)
        refine L (S (P_move rfl) ?_)
        refine L (S (P_lenT Tryz.underlying9 rfl) ?_)
        refine L (S (P_eq rfl rfl (decide_eq_false (by omega))) ?_)
        refine L_nil ?_
        refine then_n ?_
        refine C_false rfl ?_
        refine C_skip ?_
        refine then_n ?_
        refine C_seq ?_
        refine C_block ?_
        refine C_seq ?_
        refine C_region ?_
        refine L (S (P_move rfl) ?_)
        refine L (S (P_move rfl) ?_)
        refine L (S (P_indexT Tryz.underlying9 rfl rfl (j := at_) rfl (str_idx hc)) ?_)
        refine L (S_call cb_65 rfl ((hk _)) ?_)
        rintro _ _ ⟨rfl, rfl⟩
        refine L (S (P_eq rfl rfl (decide_eq_false (by omega))) ?_)
        refine L (S (P_assign rfl) ?_)
        refine L_nil ?_
        refine then_n ?_
        refine C_false rfl ?_
        refine C_seq ?_
        refine C_region ?_
        refine L (S (P_move rfl) ?_)
        refine L (S (P_move rfl) ?_)
        refine L (S (P_indexT Tryz.underlying9 rfl rfl (j := at_) rfl (str_idx hc)) ?_)
        refine L (S_call cb_65 rfl ((hk _)) ?_)
        rintro _ _ ⟨rfl, rfl⟩
        refine L (S (P_eq rfl rfl (decide_eq_true (by omega))) ?_)
        refine L (S (P_assign rfl) ?_)
        refine L_nil ?_
        refine then_n ?_
        refine C_true rfl ?_
        refine C_seq ?_
        refine C_region ?_
        refine L (S (P_move rfl) ?_)
        refine L (S (P_move rfl) ?_)
        refine L (S_call cb_109 rfl (hN) ?_)
        rintro _ w4 ⟨rfl, hm4⟩
        refine L (S (P_extract rfl rfl) ?_)
        refine L (S (P_extract rfl rfl) ?_)
        refine L (S (P_extract rfl rfl) ?_)
        refine L (S_storeS ti_71 rfl rfl (tk_one k s at_) rfl (hb43.no hm4) (by exact Nat.le_refl 3) ?_)
        rintro w10 hb10 hm10
        refine L (S (P_assign rfl) ?_)
        refine L (S (P_assign rfl) ?_)
        refine L_nil ?_
        refine then_n ?_
        refine C_ret ?_
        refine blk_r ?_
        refine then_r ?_
        have hb10' : Blk w10 b4 (tkC k s at_) 71 := hb10
        refine F_ret (rs := [.cell 4 71, .tmp 5, .tmp 6]) [.agg (tkC k s at_).toArray, .int .i64 ((at_ + n : Nat) : Int), .int .i64 0] Tryz.results66 ?_ ?_
        · exact ⟨⟨_, rfl, finTk hb10'⟩, rfl, rfl, trivial⟩
        · exact ⟨rfl, (hm03.no hm4).new hm10 hn1⟩
      | er e =>
        rw [hnf] at hN
        refine C_region ?_
        refine L (S (P_move rfl) ?_)
        refine L (S (P_move rfl) ?_)
        refine L (S (P_lenT Tryz.underlying9 rfl) ?_)
        refine L (S (P_eq rfl rfl (decide_eq_false (by omega))) ?_)
        refine L_nil ?_
        refine then_n ?_
        refine C_false rfl ?_
        refine C_skip ?_
        refine then_n ?_
        refine C_seq ?_
        refine C_block ?_
        refine C_seq ?_
        refine C_region ?_
        refine L (S (P_move rfl) ?_)
        refine L (S (P_move rfl) ?_)
        refine L (S (P_indexT Tryz.underlying9 rfl rfl (j := at_) rfl (str_idx hc)) ?_)
        refine L (S_call cb_65 rfl ((hk _)) ?_)
        rintro _ _ ⟨rfl, rfl⟩
        refine L (S (P_eq rfl rfl (decide_eq_false (by omega))) ?_)
        refine L (S (P_assign rfl) ?_)
        refine L_nil ?_
        refine then_n ?_
        refine C_false rfl ?_
        refine C_seq ?_
        refine C_region ?_
        refine L (S (P_move rfl) ?_)
        refine L (S (P_move rfl) ?_)
        refine L (S (P_indexT Tryz.underlying9 rfl rfl (j := at_) rfl (str_idx hc)) ?_)
        refine L (S_call cb_65 rfl ((hk _)) ?_)
        rintro _ _ ⟨rfl, rfl⟩
        refine L (S (P_eq rfl rfl (decide_eq_true (by omega))) ?_)
        refine L (S (P_assign rfl) ?_)
        refine L_nil ?_
        refine then_n ?_
        refine C_true rfl ?_
        refine C_seq ?_
        refine C_region ?_
        refine L (S (P_move rfl) ?_)
        refine L (S (P_move rfl) ?_)
        refine L (S_call cb_109 rfl (hN) ?_)
        rintro _ w4 ⟨⟨k, s, rfl⟩, hm4⟩
        refine L (S (P_extract rfl rfl) ?_)
        refine L (S (P_extract rfl rfl) ?_)
        refine L (S (P_extract rfl rfl) ?_)
        refine L (S_storeS ti_71 rfl rfl (tk_one k s at_) rfl (hb43.no hm4) (by exact Nat.le_refl 3) ?_)
        rintro w10 hb10 hm10
        refine L (S (P_assign rfl) ?_)
        refine L (S (P_assign rfl) ?_)
        refine L_nil ?_
        refine then_n ?_
        refine C_ret ?_
        refine blk_r ?_
        refine then_r ?_
        have hb10' : Blk w10 b4 (tkC k s at_) 71 := hb10
        refine F_ret (rs := [.cell 4 71, .tmp 5, .tmp 6]) [.agg (tkC k s at_).toArray, .int .i64 (at_ : Int), .int .i64 (e : Int)] Tryz.results66 ?_ ?_
        · exact ⟨⟨_, rfl, finTk hb10'⟩, rfl, rfl, trivial⟩
        · exact ⟨⟨_, _, _, rfl⟩, (hm03.no hm4).new hm10 hn1⟩
    | false =>
      have hk2 : kdN c.toNat ≠ 2 := fun h => by rw [hkd.1 h] at hdg; cases hdg
      by_cases h39 : c.toNat = 39
      · have hce : c = 39 := UInt8.toNat_inj.1 h39
        have hnx : nextF big (l.drop at_) = match textF (l.drop (at_ + 1)) with
          | some (s, n) => .ok 5 s (n + 1)
          | none => .er 10 := by
          rw [hdr, nextF, if_neg (by rw [hlet]; decide), if_neg (by rw [hdg]; decide), if_pos hce]
          cases textF (l.drop (at_ + 1)) <;> rfl
        rw [hnx]
        have hN := reftext_ret (w := w3) l hl at_ (by omega)
        cases htf : textF (l.drop (at_ + 1)) with
        | some x =>
          obtain ⟨s, n⟩ := x
          rw [htf] at hN
          dsimp only at hN ⊢
          refine C_region ?_
          refine L (S (P_move rfl) ?_)
          refine L (S (P_move rfl) ?_)
          refine L (S (P_lenT Tryz.underlying9 rfl) ?_)
          refine L (S (P_eq rfl rfl (decide_eq_false (by omega))) ?_)
          refine L_nil ?_
          refine then_n ?_
          refine C_false rfl ?_
          refine C_skip ?_
          refine then_n ?_
          refine C_seq ?_
          refine C_block ?_
          refine C_seq ?_
          refine C_region ?_
          refine L (S (P_move rfl) ?_)
          refine L (S (P_move rfl) ?_)
          refine L (S (P_indexT Tryz.underlying9 rfl rfl (j := at_) rfl (str_idx hc)) ?_)
          refine L (S_call cb_65 rfl ((hk _)) ?_)
          rintro _ _ ⟨rfl, rfl⟩
          refine L (S (P_eq rfl rfl (decide_eq_false (by omega))) ?_)
          refine L (S (P_assign rfl) ?_)
          refine L_nil ?_
          refine then_n ?_
          refine C_false rfl ?_
          refine C_seq ?_
          refine C_region ?_
          refine L (S (P_move rfl) ?_)
          refine L (S (P_move rfl) ?_)
          refine L (S (P_indexT Tryz.underlying9 rfl rfl (j := at_) rfl (str_idx hc)) ?_)
          refine L (S_call cb_65 rfl ((hk _)) ?_)
          rintro _ _ ⟨rfl, rfl⟩
          refine L (S (P_eq rfl rfl (decide_eq_false (by omega))) ?_)
          refine L (S (P_assign rfl) ?_)
          refine L_nil ?_
          refine then_n ?_
          refine C_false rfl ?_
          refine C_seq ?_
          refine C_region ?_
          refine L (S (P_move rfl) ?_)
          refine L (S (P_move rfl) ?_)
          refine L (S (P_indexT Tryz.underlying9 rfl rfl (j := at_) rfl (str_idx hc)) ?_)
          refine L (S (P_eq rfl rfl (decide_eq_true (by omega))) ?_)
          refine L (S (P_assign rfl) ?_)
          refine L_nil ?_
          refine then_n ?_
          refine C_true rfl ?_
          refine C_seq ?_
          refine C_region ?_
          refine L (S (P_move rfl) ?_)
          refine L (S (P_move rfl) ?_)
          refine L (S_call cb_110 rfl (hN) ?_)
          rintro _ w4 ⟨rfl, hm4⟩
          refine L (S (P_extract rfl rfl) ?_)
          refine L (S (P_extract rfl rfl) ?_)
          refine L (S (P_extract rfl rfl) ?_)
          refine L (S_storeS ti_71 rfl rfl (tk_one 5 s at_) rfl (hb43.no hm4) (by exact Nat.le_refl 3) ?_)
          rintro w10 hb10 hm10
          refine L (S (P_assign rfl) ?_)
          refine L (S (P_assign rfl) ?_)
          refine L_nil ?_
          refine then_n ?_
          refine C_ret ?_
          refine blk_r ?_
          refine then_r ?_
          have hb10' : Blk w10 b4 (tkC 5 s at_) 71 := hb10
          refine F_ret (rs := [.cell 4 71, .tmp 5, .tmp 6]) [.agg (tkC 5 s at_).toArray, .int .i64 ((at_ + (n + 1) : Nat) : Int), .int .i64 0] Tryz.results66 ?_ ?_
          · exact ⟨⟨_, rfl, finTk hb10'⟩, rfl, rfl, trivial⟩
          · exact ⟨rfl, (hm03.no hm4).new hm10 hn1⟩
        | none =>
          rw [htf] at hN
          dsimp only at hN ⊢
          refine C_region ?_
          refine L (S (P_move rfl) ?_)
          refine L (S (P_move rfl) ?_)
          refine L (S (P_lenT Tryz.underlying9 rfl) ?_)
          refine L (S (P_eq rfl rfl (decide_eq_false (by omega))) ?_)
          refine L_nil ?_
          refine then_n ?_
          refine C_false rfl ?_
          refine C_skip ?_
          refine then_n ?_
          refine C_seq ?_
          refine C_block ?_
          refine C_seq ?_
          refine C_region ?_
          refine L (S (P_move rfl) ?_)
          refine L (S (P_move rfl) ?_)
          refine L (S (P_indexT Tryz.underlying9 rfl rfl (j := at_) rfl (str_idx hc)) ?_)
          refine L (S_call cb_65 rfl ((hk _)) ?_)
          rintro _ _ ⟨rfl, rfl⟩
          refine L (S (P_eq rfl rfl (decide_eq_false (by omega))) ?_)
          refine L (S (P_assign rfl) ?_)
          refine L_nil ?_
          refine then_n ?_
          refine C_false rfl ?_
          refine C_seq ?_
          refine C_region ?_
          refine L (S (P_move rfl) ?_)
          refine L (S (P_move rfl) ?_)
          refine L (S (P_indexT Tryz.underlying9 rfl rfl (j := at_) rfl (str_idx hc)) ?_)
          refine L (S_call cb_65 rfl ((hk _)) ?_)
          rintro _ _ ⟨rfl, rfl⟩
          refine L (S (P_eq rfl rfl (decide_eq_false (by omega))) ?_)
          refine L (S (P_assign rfl) ?_)
          refine L_nil ?_
          refine then_n ?_
          refine C_false rfl ?_
          refine C_seq ?_
          refine C_region ?_
          refine L (S (P_move rfl) ?_)
          refine L (S (P_move rfl) ?_)
          refine L (S (P_indexT Tryz.underlying9 rfl rfl (j := at_) rfl (str_idx hc)) ?_)
          refine L (S (P_eq rfl rfl (decide_eq_true (by omega))) ?_)
          refine L (S (P_assign rfl) ?_)
          refine L_nil ?_
          refine then_n ?_
          refine C_true rfl ?_
          refine C_seq ?_
          refine C_region ?_
          refine L (S (P_move rfl) ?_)
          refine L (S (P_move rfl) ?_)
          refine L (S_call cb_110 rfl (hN) ?_)
          rintro _ w4 ⟨⟨k, s, rfl⟩, hm4⟩
          refine L (S (P_extract rfl rfl) ?_)
          refine L (S (P_extract rfl rfl) ?_)
          refine L (S (P_extract rfl rfl) ?_)
          refine L (S_storeS ti_71 rfl rfl (tk_one k s at_) rfl (hb43.no hm4) (by exact Nat.le_refl 3) ?_)
          rintro w10 hb10 hm10
          refine L (S (P_assign rfl) ?_)
          refine L (S (P_assign rfl) ?_)
          refine L_nil ?_
          refine then_n ?_
          refine C_ret ?_
          refine blk_r ?_
          refine then_r ?_
          have hb10' : Blk w10 b4 (tkC k s at_) 71 := hb10
          refine F_ret (rs := [.cell 4 71, .tmp 5, .tmp 6]) [.agg (tkC k s at_).toArray, .int .i64 (at_ : Int), .int .i64 10] Tryz.results66 ?_ ?_
          · exact ⟨⟨_, rfl, finTk hb10'⟩, rfl, rfl, trivial⟩
          · exact ⟨⟨_, _, _, rfl⟩, (hm03.no hm4).new hm10 hn1⟩
      · have hce : c ≠ 39 := fun h => h39 (by rw [h]; rfl)
        have hnx : nextF big (l.drop at_) = if (l.drop at_).take 2 ∈ twoL then .ok 6 ((l.drop at_).take 2) 2 else if c ∈ signL then .ok 6 [c] 1 else .er 100 := by
          rw [hdr, nextF, if_neg (by rw [hlet]; decide), if_neg (by rw [hdg]; decide), if_neg hce]
        rw [hnx]
        clear hnx
        refine C_region ?_
        refine L (S (P_move rfl) ?_)
        refine L (S (P_move rfl) ?_)
        refine L (S (P_lenT Tryz.underlying9 rfl) ?_)
        refine L (S (P_eq rfl rfl (decide_eq_false (by omega))) ?_)
        refine L_nil ?_
        refine then_n ?_
        refine C_false rfl ?_
        refine C_skip ?_
        refine then_n ?_
        refine C_seq ?_
        refine C_block ?_
        refine C_seq ?_
        refine C_region ?_
        refine L (S (P_move rfl) ?_)
        refine L (S (P_move rfl) ?_)
        refine L (S (P_indexT Tryz.underlying9 rfl rfl (j := at_) rfl (str_idx hc)) ?_)
        refine L (S_call cb_65 rfl ((hk _)) ?_)
        rintro _ _ ⟨rfl, rfl⟩
        refine L (S (P_eq rfl rfl (decide_eq_false (by omega))) ?_)
        refine L (S (P_assign rfl) ?_)
        refine L_nil ?_
        refine then_n ?_
        refine C_false rfl ?_
        refine C_seq ?_
        refine C_region ?_
        refine L (S (P_move rfl) ?_)
        refine L (S (P_move rfl) ?_)
        refine L (S (P_indexT Tryz.underlying9 rfl rfl (j := at_) rfl (str_idx hc)) ?_)
        refine L (S_call cb_65 rfl ((hk _)) ?_)
        rintro _ _ ⟨rfl, rfl⟩
        refine L (S (P_eq rfl rfl (decide_eq_false (by omega))) ?_)
        refine L (S (P_assign rfl) ?_)
        refine L_nil ?_
        refine then_n ?_
        refine C_false rfl ?_
        refine C_seq ?_
        refine C_region ?_
        refine L (S (P_move rfl) ?_)
        refine L (S (P_move rfl) ?_)
        refine L (S (P_indexT Tryz.underlying9 rfl rfl (j := at_) rfl (str_idx hc)) ?_)
        refine L (S (P_eq rfl rfl (decide_eq_false (by omega))) ?_)
        refine L (S (P_assign rfl) ?_)
        refine L_nil ?_
        refine then_n ?_
        refine C_false rfl ?_
        refine C_skip ?_
        refine blk_n ?_
        refine then_n ?_
        refine C_seq ?_
        refine C_region ?_
        refine L (S (P_fieldAddr fo_71_0 rfl) ?_)
        refine L (S_store ti_3 rfl rfl rfl hb83 (by show 0 < 3; omega) ?_)
        rintro w4 hb84 hm4
        refine L_nil ?_
        refine then_n ?_
        refine C_seq ?_
        refine C_seq ?_
        have hb84' : Blk w4 b8 (tkC 6 [] at_) 71 := hb84
        have hb44 := hb43.mv hm4 h48
        have hm04 := hm03.new hm4 hn8
        clear hb84 hb83 hb43
        have hlt2 : ∀ e, l[at_ + 1]? = some e → (l.drop at_).take 2 = [c, e] := fun e he => by rw [hdr, drop_cons he]; rfl
        refine C_cutg (γ := Unit) (fun _ => [(0, .string (str l)), (1, .int .i64 (at_ : Int)), (4, .pointer (some ⟨b4, 0, none⟩)), (7, .pointer (some ⟨b8, 0, none⟩)), (121, .bool (decide ((l.drop at_).take 2 ∈ twoL)))]) (fun _ wc => wc = w4) ?_ ?_
        · by_cases h1 : at_ + 1 < l.length
          · have he := List.getElem?_eq_getElem h1
            generalize l[at_ + 1] = e at he
            have h2 := hlt2 e he
            have hcut : (str l).extract at_ (at_ + 2) = str [c, e] := by rw [cut_str, Nat.add_sub_cancel_left, h2]
            rw [h2]
            by_cases q1 : [c, e] = [60, 62]
            · rw [decide_eq_true (show [c, e] ∈ twoL by rw [q1]; decide)]
              refine C_region ?_
              refine L (S (P_move rfl) ?_)
              refine L (S (P_add rfl rfl (wI64 (c := ((at_ + 1 : Nat) : Int)) (by omega))) ?_)
              refine L (S (P_move rfl) ?_)
              refine L (S (P_lenT Tryz.underlying9 rfl) ?_)
              refine L (S (P_lt rfl rfl (decide_eq_true (by omega))) ?_)
              refine L (S (P_move rfl) ?_)
              refine L_yes (j := 5) (dj := 98) (b := true) (S (P_move rfl) ?_) rfl
              refine L_yes (j := 5) (dj := 98) (b := true) (S (P_move rfl) ?_) rfl
              refine L_yes (j := 5) (dj := 98) (b := true) (S (P_move rfl) ?_) rfl
              refine L_yes (j := 5) (dj := 98) (b := true) (S (P_add rfl rfl (wI64 (c := ((at_ + 2 : Nat) : Int)) (by omega))) ?_) rfl
              refine L_yes (j := 5) (dj := 98) (b := true) (S (P_sliceT Tryz.underlying9 rfl (bnd_some (j := at_) rfl rfl) (bnd_some (j := at_ + 2) rfl rfl) (by omega) (by omega) hcut) ?_) rfl
              refine L_yes (j := 5) (dj := 98) (b := true) (S (P_eqT rfl rfl (decide_eq_true (by rw [q1]; rfl))) ?_) rfl
              refine L_yes (j := 5) (dj := 98) (b := true) (S (P_move rfl) ?_) rfl
              refine L_no (j := 12) (dj := 105) (b := false) (b' := true) (d := 106) rfl ?_
              refine L_no (j := 12) (dj := 105) (b := false) (b' := true) (d := 107) rfl ?_
              refine L_no (j := 12) (dj := 105) (b := false) (b' := true) (d := 108) rfl ?_
              refine L_no (j := 12) (dj := 105) (b := false) (b' := true) (d := 109) rfl ?_
              refine L_no (j := 12) (dj := 105) (b := false) (b' := true) (d := 110) rfl ?_
              refine L_no (j := 12) (dj := 105) (b := false) (b' := true) (d := 111) rfl ?_
              refine L_yes (j := 5) (dj := 98) (b := true) (S (P_pickT rfl rfl) ?_) rfl
              refine L_yes (j := 5) (dj := 98) (b := true) (S (P_move rfl) ?_) rfl
              refine L_no (j := 20) (dj := 113) (b := false) (b' := true) (d := 114) rfl ?_
              refine L_no (j := 20) (dj := 113) (b := false) (b' := true) (d := 115) rfl ?_
              refine L_no (j := 20) (dj := 113) (b := false) (b' := true) (d := 116) rfl ?_
              refine L_no (j := 20) (dj := 113) (b := false) (b' := true) (d := 117) rfl ?_
              refine L_no (j := 20) (dj := 113) (b := false) (b' := true) (d := 118) rfl ?_
              refine L_no (j := 20) (dj := 113) (b := false) (b' := true) (d := 119) rfl ?_
              refine L_yes (j := 5) (dj := 98) (b := true) (S (P_pickT rfl rfl) ?_) rfl
              refine L (S (P_pickT rfl rfl) ?_)
              refine L_nil ?_
              refine then_n ?_
              exact ⟨rfl, (), (.cons rfl (.cons rfl (.cons rfl (.cons rfl (.cons rfl (.nil _)))))), rfl⟩
            by_cases q2 : [c, e] = [60, 61]
            · rw [decide_eq_true (show [c, e] ∈ twoL by rw [q2]; decide)]
              refine C_region ?_
              refine L (S (P_move rfl) ?_)
              refine L (S (P_add rfl rfl (wI64 (c := ((at_ + 1 : Nat) : Int)) (by omega))) ?_)
              refine L (S (P_move rfl) ?_)
              refine L (S (P_lenT Tryz.underlying9 rfl) ?_)
              refine L (S (P_lt rfl rfl (decide_eq_true (by omega))) ?_)
              refine L (S (P_move rfl) ?_)
              refine L_yes (j := 5) (dj := 98) (b := true) (S (P_move rfl) ?_) rfl
              refine L_yes (j := 5) (dj := 98) (b := true) (S (P_move rfl) ?_) rfl
              refine L_yes (j := 5) (dj := 98) (b := true) (S (P_move rfl) ?_) rfl
              refine L_yes (j := 5) (dj := 98) (b := true) (S (P_add rfl rfl (wI64 (c := ((at_ + 2 : Nat) : Int)) (by omega))) ?_) rfl
              refine L_yes (j := 5) (dj := 98) (b := true) (S (P_sliceT Tryz.underlying9 rfl (bnd_some (j := at_) rfl rfl) (bnd_some (j := at_ + 2) rfl rfl) (by omega) (by omega) hcut) ?_) rfl
              refine L_yes (j := 5) (dj := 98) (b := true) (S (P_eqT rfl rfl (decide_eq_false (fun h => q1 (str_inj (b := [60, 62]) h)))) ?_) rfl
              refine L_yes (j := 5) (dj := 98) (b := true) (S (P_move rfl) ?_) rfl
              refine L_yes (j := 12) (dj := 105) (b := false) (S (P_move rfl) ?_) rfl
              refine L_yes (j := 12) (dj := 105) (b := false) (S (P_move rfl) ?_) rfl
              refine L_yes (j := 12) (dj := 105) (b := false) (S (P_move rfl) ?_) rfl
              refine L_yes (j := 12) (dj := 105) (b := false) (S (P_add rfl rfl (wI64 (c := ((at_ + 2 : Nat) : Int)) (by omega))) ?_) rfl
              refine L_yes (j := 12) (dj := 105) (b := false) (S (P_sliceT Tryz.underlying9 rfl (bnd_some (j := at_) rfl rfl) (bnd_some (j := at_ + 2) rfl rfl) (by omega) (by omega) hcut) ?_) rfl
              refine L_yes (j := 12) (dj := 105) (b := false) (S (P_eqT rfl rfl (decide_eq_true (by rw [q2]; rfl))) ?_) rfl
              refine L_yes (j := 5) (dj := 98) (b := true) (S (P_pickF rfl rfl) ?_) rfl
              refine L_yes (j := 5) (dj := 98) (b := true) (S (P_move rfl) ?_) rfl
              refine L_no (j := 20) (dj := 113) (b := false) (b' := true) (d := 114) rfl ?_
              refine L_no (j := 20) (dj := 113) (b := false) (b' := true) (d := 115) rfl ?_
              refine L_no (j := 20) (dj := 113) (b := false) (b' := true) (d := 116) rfl ?_
              refine L_no (j := 20) (dj := 113) (b := false) (b' := true) (d := 117) rfl ?_
              refine L_no (j := 20) (dj := 113) (b := false) (b' := true) (d := 118) rfl ?_
              refine L_no (j := 20) (dj := 113) (b := false) (b' := true) (d := 119) rfl ?_
              refine L_yes (j := 5) (dj := 98) (b := true) (S (P_pickT rfl rfl) ?_) rfl
              refine L (S (P_pickT rfl rfl) ?_)
              refine L_nil ?_
              refine then_n ?_
              exact ⟨rfl, (), (.cons rfl (.cons rfl (.cons rfl (.cons rfl (.cons rfl (.nil _)))))), rfl⟩
            by_cases q3 : [c, e] = [62, 61]
            · rw [decide_eq_true (show [c, e] ∈ twoL by rw [q3]; decide)]
              refine C_region ?_
              refine L (S (P_move rfl) ?_)
              refine L (S (P_add rfl rfl (wI64 (c := ((at_ + 1 : Nat) : Int)) (by omega))) ?_)
              refine L (S (P_move rfl) ?_)
              refine L (S (P_lenT Tryz.underlying9 rfl) ?_)
              refine L (S (P_lt rfl rfl (decide_eq_true (by omega))) ?_)
              refine L (S (P_move rfl) ?_)
              refine L_yes (j := 5) (dj := 98) (b := true) (S (P_move rfl) ?_) rfl
              refine L_yes (j := 5) (dj := 98) (b := true) (S (P_move rfl) ?_) rfl
              refine L_yes (j := 5) (dj := 98) (b := true) (S (P_move rfl) ?_) rfl
              refine L_yes (j := 5) (dj := 98) (b := true) (S (P_add rfl rfl (wI64 (c := ((at_ + 2 : Nat) : Int)) (by omega))) ?_) rfl
              refine L_yes (j := 5) (dj := 98) (b := true) (S (P_sliceT Tryz.underlying9 rfl (bnd_some (j := at_) rfl rfl) (bnd_some (j := at_ + 2) rfl rfl) (by omega) (by omega) hcut) ?_) rfl
              refine L_yes (j := 5) (dj := 98) (b := true) (S (P_eqT rfl rfl (decide_eq_false (fun h => q1 (str_inj (b := [60, 62]) h)))) ?_) rfl
              refine L_yes (j := 5) (dj := 98) (b := true) (S (P_move rfl) ?_) rfl
              refine L_yes (j := 12) (dj := 105) (b := false) (S (P_move rfl) ?_) rfl
              refine L_yes (j := 12) (dj := 105) (b := false) (S (P_move rfl) ?_) rfl
              refine L_yes (j := 12) (dj := 105) (b := false) (S (P_move rfl) ?_) rfl
              refine L_yes (j := 12) (dj := 105) (b := false) (S (P_add rfl rfl (wI64 (c := ((at_ + 2 : Nat) : Int)) (by omega))) ?_) rfl
              refine L_yes (j := 12) (dj := 105) (b := false) (S (P_sliceT Tryz.underlying9 rfl (bnd_some (j := at_) rfl rfl) (bnd_some (j := at_ + 2) rfl rfl) (by omega) (by omega) hcut) ?_) rfl
              refine L_yes (j := 12) (dj := 105) (b := false) (S (P_eqT rfl rfl (decide_eq_false (fun h => q2 (str_inj (b := [60, 61]) h)))) ?_) rfl
              refine L_yes (j := 5) (dj := 98) (b := true) (S (P_pickF rfl rfl) ?_) rfl
              refine L_yes (j := 5) (dj := 98) (b := true) (S (P_move rfl) ?_) rfl
              refine L_yes (j := 20) (dj := 113) (b := false) (S (P_move rfl) ?_) rfl
              refine L_yes (j := 20) (dj := 113) (b := false) (S (P_move rfl) ?_) rfl
              refine L_yes (j := 20) (dj := 113) (b := false) (S (P_move rfl) ?_) rfl
              refine L_yes (j := 20) (dj := 113) (b := false) (S (P_add rfl rfl (wI64 (c := ((at_ + 2 : Nat) : Int)) (by omega))) ?_) rfl
              refine L_yes (j := 20) (dj := 113) (b := false) (S (P_sliceT Tryz.underlying9 rfl (bnd_some (j := at_) rfl rfl) (bnd_some (j := at_ + 2) rfl rfl) (by omega) (by omega) hcut) ?_) rfl
              refine L_yes (j := 20) (dj := 113) (b := false) (S (P_eqT rfl rfl (decide_eq_true (by rw [q3]; rfl))) ?_) rfl
              refine L_yes (j := 5) (dj := 98) (b := true) (S (P_pickF rfl rfl) ?_) rfl
              refine L (S (P_pickT rfl rfl) ?_)
              refine L_nil ?_
              refine then_n ?_
              exact ⟨rfl, (), (.cons rfl (.cons rfl (.cons rfl (.cons rfl (.cons rfl (.nil _)))))), rfl⟩
            · rw [decide_eq_false (show ¬ [c, e] ∈ twoL by
                intro h
                simp only [twoL, List.mem_cons, List.not_mem_nil, or_false] at h
                rcases h with h | h | h
                · exact q1 h
                · exact q2 h
                · exact q3 h)]
              refine C_region ?_
              refine L (S (P_move rfl) ?_)
              refine L (S (P_add rfl rfl (wI64 (c := ((at_ + 1 : Nat) : Int)) (by omega))) ?_)
              refine L (S (P_move rfl) ?_)
              refine L (S (P_lenT Tryz.underlying9 rfl) ?_)
              refine L (S (P_lt rfl rfl (decide_eq_true (by omega))) ?_)
              refine L (S (P_move rfl) ?_)
              refine L_yes (j := 5) (dj := 98) (b := true) (S (P_move rfl) ?_) rfl
              refine L_yes (j := 5) (dj := 98) (b := true) (S (P_move rfl) ?_) rfl
              refine L_yes (j := 5) (dj := 98) (b := true) (S (P_move rfl) ?_) rfl
              refine L_yes (j := 5) (dj := 98) (b := true) (S (P_add rfl rfl (wI64 (c := ((at_ + 2 : Nat) : Int)) (by omega))) ?_) rfl
              refine L_yes (j := 5) (dj := 98) (b := true) (S (P_sliceT Tryz.underlying9 rfl (bnd_some (j := at_) rfl rfl) (bnd_some (j := at_ + 2) rfl rfl) (by omega) (by omega) hcut) ?_) rfl
              refine L_yes (j := 5) (dj := 98) (b := true) (S (P_eqT rfl rfl (decide_eq_false (fun h => q1 (str_inj (b := [60, 62]) h)))) ?_) rfl
              refine L_yes (j := 5) (dj := 98) (b := true) (S (P_move rfl) ?_) rfl
              refine L_yes (j := 12) (dj := 105) (b := false) (S (P_move rfl) ?_) rfl
              refine L_yes (j := 12) (dj := 105) (b := false) (S (P_move rfl) ?_) rfl
              refine L_yes (j := 12) (dj := 105) (b := false) (S (P_move rfl) ?_) rfl
              refine L_yes (j := 12) (dj := 105) (b := false) (S (P_add rfl rfl (wI64 (c := ((at_ + 2 : Nat) : Int)) (by omega))) ?_) rfl
              refine L_yes (j := 12) (dj := 105) (b := false) (S (P_sliceT Tryz.underlying9 rfl (bnd_some (j := at_) rfl rfl) (bnd_some (j := at_ + 2) rfl rfl) (by omega) (by omega) hcut) ?_) rfl
              refine L_yes (j := 12) (dj := 105) (b := false) (S (P_eqT rfl rfl (decide_eq_false (fun h => q2 (str_inj (b := [60, 61]) h)))) ?_) rfl
              refine L_yes (j := 5) (dj := 98) (b := true) (S (P_pickF rfl rfl) ?_) rfl
              refine L_yes (j := 5) (dj := 98) (b := true) (S (P_move rfl) ?_) rfl
              refine L_yes (j := 20) (dj := 113) (b := false) (S (P_move rfl) ?_) rfl
              refine L_yes (j := 20) (dj := 113) (b := false) (S (P_move rfl) ?_) rfl
              refine L_yes (j := 20) (dj := 113) (b := false) (S (P_move rfl) ?_) rfl
              refine L_yes (j := 20) (dj := 113) (b := false) (S (P_add rfl rfl (wI64 (c := ((at_ + 2 : Nat) : Int)) (by omega))) ?_) rfl
              refine L_yes (j := 20) (dj := 113) (b := false) (S (P_sliceT Tryz.underlying9 rfl (bnd_some (j := at_) rfl rfl) (bnd_some (j := at_ + 2) rfl rfl) (by omega) (by omega) hcut) ?_) rfl
              refine L_yes (j := 20) (dj := 113) (b := false) (S (P_eqT rfl rfl (decide_eq_false (fun h => q3 (str_inj (b := [62, 61]) h)))) ?_) rfl
              refine L_yes (j := 5) (dj := 98) (b := true) (S (P_pickF rfl rfl) ?_) rfl
              refine L (S (P_pickT rfl rfl) ?_)
              refine L_nil ?_
              refine then_n ?_
              exact ⟨rfl, (), (.cons rfl (.cons rfl (.cons rfl (.cons rfl (.cons rfl (.nil _)))))), rfl⟩
          · have h2 : ¬ (l.drop at_).take 2 ∈ twoL := by
              rw [hdr, List.drop_eq_nil_of_le (by omega)]
              intro h
              simp [twoL] at h
            rw [decide_eq_false h2]
            refine C_region ?_
            refine L (S (P_move rfl) ?_)
            refine L (S (P_add rfl rfl (wI64 (c := ((at_ + 1 : Nat) : Int)) (by omega))) ?_)
            refine L (S (P_move rfl) ?_)
            refine L (S (P_lenT Tryz.underlying9 rfl) ?_)
            refine L (S (P_lt rfl rfl (decide_eq_false (by omega))) ?_)
            refine L (S (P_move rfl) ?_)
            refine L_no (j := 5) (dj := 98) (b := true) (b' := false) (d := 99) rfl ?_
            refine L_no (j := 5) (dj := 98) (b := true) (b' := false) (d := 100) rfl ?_
            refine L_no (j := 5) (dj := 98) (b := true) (b' := false) (d := 101) rfl ?_
            refine L_no (j := 5) (dj := 98) (b := true) (b' := false) (d := 102) rfl ?_
            refine L_no (j := 5) (dj := 98) (b := true) (b' := false) (d := 103) rfl ?_
            refine L_no (j := 5) (dj := 98) (b := true) (b' := false) (d := 104) rfl ?_
            refine L_no (j := 5) (dj := 98) (b := true) (b' := false) (d := 105) rfl ?_
            refine L_nou (j := 12) (dj := 105) (b := false) (d := 106) rfl ?_
            refine L_nou (j := 12) (dj := 105) (b := false) (d := 107) rfl ?_
            refine L_nou (j := 12) (dj := 105) (b := false) (d := 108) rfl ?_
            refine L_nou (j := 12) (dj := 105) (b := false) (d := 109) rfl ?_
            refine L_nou (j := 12) (dj := 105) (b := false) (d := 110) rfl ?_
            refine L_nou (j := 12) (dj := 105) (b := false) (d := 111) rfl ?_
            refine L_no (j := 5) (dj := 98) (b := true) (b' := false) (d := 112) rfl ?_
            refine L_no (j := 5) (dj := 98) (b := true) (b' := false) (d := 113) rfl ?_
            refine L_nou (j := 20) (dj := 113) (b := false) (d := 114) rfl ?_
            refine L_nou (j := 20) (dj := 113) (b := false) (d := 115) rfl ?_
            refine L_nou (j := 20) (dj := 113) (b := false) (d := 116) rfl ?_
            refine L_nou (j := 20) (dj := 113) (b := false) (d := 117) rfl ?_
            refine L_nou (j := 20) (dj := 113) (b := false) (d := 118) rfl ?_
            refine L_nou (j := 20) (dj := 113) (b := false) (d := 119) rfl ?_
            refine L_no (j := 5) (dj := 98) (b := true) (b' := false) (d := 120) rfl ?_
            refine L (S (P_pickF rfl rfl) ?_)
            refine L_nil ?_
            refine then_n ?_
            exact ⟨rfl, (), (.cons rfl (.cons rfl (.cons rfl (.cons rfl (.cons rfl (.nil _)))))), rfl⟩
        rintro _ wz rfl f' hf'
        refine C_forget hf' ?_
        clear hf' f'
        by_cases htwo : (l.drop at_).take 2 ∈ twoL
        · have hlen2 : at_ + 2 ≤ l.length := by
            have h2 : ((l.drop at_).take 2).length = 2 := by
              simp only [twoL, List.mem_cons, List.not_mem_nil, or_false] at htwo
              rcases htwo with ht | ht | ht <;> rw [ht] <;> rfl
            rw [List.length_take, List.length_drop] at h2
            omega
          have hcut : (str l).extract at_ (at_ + 2) = str ((l.drop at_).take 2) := by rw [cut_str, Nat.add_sub_cancel_left]
          rw [if_pos htwo, decide_eq_true htwo]
          generalize (l.drop at_).take 2 = tx at *
          refine C_true rfl ?_
          refine C_seq ?_
          refine C_region ?_
          refine L (S (P_move rfl) ?_)
          refine L (S (P_move rfl) ?_)
          refine L (S (P_move rfl) ?_)
          refine L (S (P_add rfl rfl (wI64 (c := ((at_ + 2 : Nat) : Int)) (by omega))) ?_)
          refine L (S (P_sliceT Tryz.underlying9 rfl (bnd_some (j := at_) rfl rfl) (bnd_some (j := at_ + 2) rfl rfl) (by omega) (by omega) hcut) ?_)
          refine L (S (P_fieldAddr fo_71_1 rfl) ?_)
          refine L (S_store ti_9 rfl rfl rfl hb84' (by show 1 < 3; omega) ?_)
          rintro w9 hb9 hm9
          refine L_nil ?_
          refine then_n ?_
          refine C_seq ?_
          refine C_region ?_
          refine L (S_loadS st_71 rfl (show Blk w9 b8 (tkC 6 tx at_) 71 from hb9).row rfl ?_)
          refine L (S (P_move rfl) ?_)
          refine L (S (P_add rfl rfl (wI64 (c := ((at_ + 2 : Nat) : Int)) (by omega))) ?_)
          refine L (S_storeS ti_71 rfl rfl (tk_one 6 tx at_) rfl (hb44.mv hm9 h48) (by exact Nat.le_refl 3) ?_)
          rintro w10 hb10 hm10
          refine L (S (P_assign rfl) ?_)
          refine L (S (P_assign rfl) ?_)
          refine L_nil ?_
          refine then_n ?_
          refine C_ret ?_
          refine then_r ?_
          have hb10' : Blk w10 b4 (tkC 6 tx at_) 71 := hb10
          refine F_ret (rs := [.cell 4 71, .tmp 5, .tmp 6]) [.agg (tkC 6 tx at_).toArray, .int .i64 ((at_ + 2 : Nat) : Int), .int .i64 0] Tryz.results66 ?_ ?_
          · exact ⟨⟨_, rfl, finTk hb10'⟩, rfl, rfl, trivial⟩
          · exact ⟨rfl, (hm04.new hm9 hn8).new hm10 hn1⟩
        · rw [if_neg htwo, decide_eq_false htwo]
          refine C_false rfl ?_
          refine C_skip ?_
          refine then_n ?_
          refine C_seq ?_
          refine C_region ?_
          refine L (S (P_assign rfl) ?_)
          refine L_nil ?_
          refine then_n ?_
          refine C_seq ?_
          refine C_seq ?_
          refine C_region ?_
          refine L (S (P_assign rfl) ?_)
          refine L_nil ?_
          refine then_n ?_
          refine C_block ?_
          refine C_loop (γ := Nat) (fun i => [(0, .string (str l)), (1, .int .i64 (at_ : Int)), (4, .pointer (some ⟨b4, 0, none⟩)), (7, .pointer (some ⟨b8, 0, none⟩)), (10, .string (str signL)), (11, .int .i64 (i : Int))]) (fun i wr => Mv No wz wr ∧ i ≤ 11 ∧ ∀ j, j < i → signL[j]? ≠ some c) (fun i => 11 - i) 0 (.cons rfl (.cons rfl (.cons rfl (.cons rfl (.cons rfl (.cons rfl (.nil _))))))) ⟨Mv.refl wz, by omega, fun j hj => absurd hj (Nat.not_lt_zero j)⟩ ?_
          rintro i wr ⟨hmz, hi, hall⟩
          replace hb84' := hb84'.no hmz
          replace hb44 := hb44.no hmz
          replace hm04 := hm04.no hmz
          have hss : (str signL).size = 11 := rfl
          by_cases hi11 : i < 11
          · obtain ⟨d, hd⟩ := sign_at i hi11
            by_cases hdc : d.toNat = c.toNat
            · have hdc' : d = c := UInt8.toNat_inj.1 hdc
              have hmem : c ∈ signL := by rw [← hdc']; exact List.mem_of_getElem? hd
              have hcut : (str l).extract at_ (at_ + 1) = str [c] := by
                rw [cut_str, Nat.add_sub_cancel_left, hdr]
                rfl
              rw [if_pos hmem]
              refine C_seq ?_
              refine C_seq ?_
              refine C_region ?_
              refine L (S (P_move rfl) ?_)
              refine L (S (P_move rfl) ?_)
              refine L (S (P_lenT Tryz.underlying9 rfl) ?_)
              refine L (S (P_lt rfl rfl (decide_eq_true (by omega))) ?_)
              refine L_nil ?_
              refine then_n ?_
              refine C_true rfl ?_
              refine C_skip ?_
              refine then_n ?_
              refine C_seq ?_
              refine C_block ?_
              refine C_seq ?_
              refine C_draw 7 mixed rfl ?_
              refine A_pure (i := 0) rfl (P_move rfl) ?_ (by decide +kernel) (by decide +kernel) (by decide +kernel) (fun _ _ _ _ h => h) rfl rfl rfl
              refine A_pure (i := 1) rfl (P_move rfl) ?_ (by decide +kernel) (by decide +kernel) (by decide +kernel) (fun _ _ _ _ h => h) rfl rfl rfl
              refine A_pure (i := 2) rfl (P_indexT Tryz.underlying9 rfl rfl (j := i) rfl (str_idx hd)) ?_ (by decide +kernel) (by decide +kernel) (by decide +kernel) (fun _ _ _ _ h => h) rfl rfl rfl
              refine A_pure (i := 3) rfl (P_move rfl) ?_ (by decide +kernel) (by decide +kernel) (by decide +kernel) (fun _ _ _ _ h => h) rfl rfl rfl
              refine A_pure (i := 4) rfl (P_move rfl) ?_ (by decide +kernel) (by decide +kernel) (by decide +kernel) (fun _ _ _ _ h => h) rfl rfl rfl
              refine A_pure (i := 5) rfl (P_indexT Tryz.underlying9 rfl rfl (j := at_) rfl (str_idx hc)) ?_ (by decide +kernel) (by decide +kernel) (by decide +kernel) (fun _ _ _ _ h => h) rfl rfl rfl
              refine A_pure (i := 6) rfl (P_eq rfl rfl (decide_eq_true (by omega))) ?_ (by decide +kernel) (by decide +kernel) (by decide +kernel) (fun _ _ _ _ h => h) rfl rfl rfl
              refine A_done (by decide +kernel) ?_
              refine then_n ?_
              refine C_true rfl ?_
              refine C_seq ?_
              refine C_region ?_
              refine L (S (P_move rfl) ?_)
              refine L (S (P_move rfl) ?_)
              refine L (S (P_move rfl) ?_)
              refine L (S (P_add rfl rfl (wI64 (c := ((at_ + 1 : Nat) : Int)) (by omega))) ?_)
              refine L (S (P_sliceT Tryz.underlying9 rfl (bnd_some (j := at_) rfl rfl) (bnd_some (j := at_ + 1) rfl rfl) (by omega) (by omega) hcut) ?_)
              refine L (S (P_fieldAddr fo_71_1 rfl) ?_)
              refine L (S_store ti_9 rfl rfl rfl (hb84'.no (Mv.refl _).drew) (by show 1 < 3; omega) ?_)
              rintro w9 hb9 hm9
              refine L_nil ?_
              refine then_n ?_
              refine C_seq ?_
              refine C_region ?_
              refine L (S_loadS st_71 rfl (show Blk w9 b8 (tkC 6 [c] at_) 71 from hb9).row rfl ?_)
              refine L (S (P_move rfl) ?_)
              refine L (S (P_add rfl rfl (wI64 (c := ((at_ + 1 : Nat) : Int)) (by omega))) ?_)
              refine L (S_storeS ti_71 rfl rfl (tk_one 6 [c] at_) rfl ((hb44.no (Mv.refl _).drew).mv hm9 h48) (by exact Nat.le_refl 3) ?_)
              rintro w10 hb10 hm10
              refine L (S (P_assign rfl) ?_)
              refine L (S (P_assign rfl) ?_)
              refine L_nil ?_
              refine then_n ?_
              refine C_ret ?_
              refine blk_r ?_
              refine then_r ?_
              refine then_r ?_
              refine blk_r ?_
              refine then_r ?_
              have hb10' : Blk w10 b4 (tkC 6 [c] at_) 71 := hb10
              refine F_ret (rs := [.cell 4 71, .tmp 5, .tmp 6]) [.agg (tkC 6 [c] at_).toArray, .int .i64 ((at_ + 1 : Nat) : Int), .int .i64 0] Tryz.results66 ?_ ?_
              · exact ⟨⟨_, rfl, finTk hb10'⟩, rfl, rfl, trivial⟩
              · exact ⟨rfl, (hm04.drew.new hm9 hn8).new hm10 hn1⟩
            · refine C_seq ?_
              refine C_seq ?_
              refine C_region ?_
              refine L (S (P_move rfl) ?_)
              refine L (S (P_move rfl) ?_)
              refine L (S (P_lenT Tryz.underlying9 rfl) ?_)
              refine L (S (P_lt rfl rfl (decide_eq_true (by omega))) ?_)
              refine L_nil ?_
              refine then_n ?_
              refine C_true rfl ?_
              refine C_skip ?_
              refine then_n ?_
              refine C_seq ?_
              refine C_block ?_
              refine C_seq ?_
              refine C_draw 7 mixed rfl ?_
              refine A_pure (i := 0) rfl (P_move rfl) ?_ (by decide +kernel) (by decide +kernel) (by decide +kernel) (fun _ _ _ _ h => h) rfl rfl rfl
              refine A_pure (i := 1) rfl (P_move rfl) ?_ (by decide +kernel) (by decide +kernel) (by decide +kernel) (fun _ _ _ _ h => h) rfl rfl rfl
              refine A_pure (i := 2) rfl (P_indexT Tryz.underlying9 rfl rfl (j := i) rfl (str_idx hd)) ?_ (by decide +kernel) (by decide +kernel) (by decide +kernel) (fun _ _ _ _ h => h) rfl rfl rfl
              refine A_pure (i := 3) rfl (P_move rfl) ?_ (by decide +kernel) (by decide +kernel) (by decide +kernel) (fun _ _ _ _ h => h) rfl rfl rfl
              refine A_pure (i := 4) rfl (P_move rfl) ?_ (by decide +kernel) (by decide +kernel) (by decide +kernel) (fun _ _ _ _ h => h) rfl rfl rfl
              refine A_pure (i := 5) rfl (P_indexT Tryz.underlying9 rfl rfl (j := at_) rfl (str_idx hc)) ?_ (by decide +kernel) (by decide +kernel) (by decide +kernel) (fun _ _ _ _ h => h) rfl rfl rfl
              refine A_pure (i := 6) rfl (P_eq rfl rfl (decide_eq_false (by omega))) ?_ (by decide +kernel) (by decide +kernel) (by decide +kernel) (fun _ _ _ _ h => h) rfl rfl rfl
              refine A_done (by decide +kernel) ?_
              refine then_n ?_
              refine C_false rfl ?_
              refine C_skip ?_
              refine blk_n ?_
              refine then_n ?_
              refine C_region ?_
              refine L (S (P_move rfl) ?_)
              refine L (S (P_add rfl rfl (wI64 (c := ((i + 1 : Nat) : Int)) (by omega))) ?_)
              refine L (S (P_assign rfl) ?_)
              refine L_nil ?_
              refine then_n ?_
              exact ⟨rfl, i + 1, (.cons rfl (.cons rfl (.cons rfl (.cons rfl (.cons rfl (.cons rfl (.nil _))))))), ⟨hmz.drew, by omega, fun j hj => by
                by_cases hji : j = i
                · subst hji
                  rw [hd]
                  intro h
                  exact hdc (by rw [Option.some.inj h])
                · exact hall j (by omega)⟩, by omega⟩
          · have hmem : ¬ c ∈ signL := fun h => by
              obtain ⟨j, hj⟩ := List.mem_iff_getElem?.1 h
              have hjl := (List.getElem?_eq_some_iff.1 hj).1
              have : signL.length = 11 := rfl
              exact hall j (by omega) hj
            rw [if_neg hmem]
            refine C_seq ?_
            refine C_seq ?_
            refine C_region ?_
            refine L (S (P_move rfl) ?_)
            refine L (S (P_move rfl) ?_)
            refine L (S (P_lenT Tryz.underlying9 rfl) ?_)
            refine L (S (P_lt rfl rfl (decide_eq_false (by omega))) ?_)
            refine L_nil ?_
            refine then_n ?_
            refine C_false rfl ?_
            refine C_exit ?_
            refine then_x ?_
            refine then_x ?_
            refine blk_x ?_
            refine then_n ?_
            refine C_seq ?_
            refine C_region ?_
            refine L (S_loadS st_71 rfl hb84'.row rfl ?_)
            refine L (S (P_move rfl) ?_)
            refine L (S_storeS ti_71 rfl rfl (tk_one 6 [] at_) rfl hb44 (by exact Nat.le_refl 3) ?_)
            rintro w10 hb10 hm10
            refine L (S (P_assign rfl) ?_)
            refine L (S (P_assign rfl) ?_)
            refine L_nil ?_
            refine then_n ?_
            refine C_ret ?_
            have hb10' : Blk w10 b4 (tkC 6 [] at_) 71 := hb10
            refine F_ret (rs := [.cell 4 71, .tmp 5, .tmp 6]) [.agg (tkC 6 [] at_).toArray, .int .i64 (at_ : Int), .int .i64 100] Tryz.results66 ?_ ?_
            · exact ⟨⟨_, rfl, finTk hb10'⟩, rfl, rfl, trivial⟩
            · exact ⟨⟨_, _, _, rfl⟩, hm04.new hm10 hn1⟩
end
end Go.Proofs.YtnoioimphcmeiaaGreatDoor
