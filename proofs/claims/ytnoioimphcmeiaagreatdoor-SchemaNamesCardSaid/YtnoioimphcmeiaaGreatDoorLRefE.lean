import Derived.Test.YtnoioimphcmeiaaGreatDoorLRefD
namespace Go.Proofs.YtnoioimphcmeiaaGreatDoor
open Go.RowKit
set_option maxRecDepth 20000

section
variable {w : World}
set_option maxHeartbeats 2000000 in
theorem reflex_ret {big : List UInt8 → Bool} {V : World → Prop} {T : List UInt8 → Prop} (hpf : PF big V T) (hv : V w) (l : List UInt8) (hT : InT T l) (hl : l.length ≤ 100000) (most : Int) :
    Ret Tryz.prog 32 [.string (str l), .int .i64 most] w fun v w' => (if most < l.length then v = .tuple #[.slice none 0 0, .int .i64 0, .int .i64 4] else LexOut w' v (lexA big l)) ∧ Mv No w w' := by
  have hsz := str_size l
  refine F_enter Tryz.func32 Tryz.ntmps32 rfl rfl ?_
  refine C_seq ?_
  refine C_region ?_
  refine L (S (P_assign rfl) ?_)
  refine L (S (P_assign rfl) ?_)
  refine L (S (P_assign rfl) ?_)
  refine L_nil ?_
  refine then_n ?_
  refine C_seq ?_
  refine C_seq ?_
  by_cases hm : most < l.length
  · refine C_region ?_
    refine L (S (P_move rfl) ?_)
    refine L (S (P_lenT Tryz.underlying9 rfl) ?_)
    refine L (S (P_move rfl) ?_)
    refine L (S (P_gt rfl rfl (decide_eq_true (by omega))) ?_)
    refine L_nil ?_
    refine then_n ?_
    refine C_true rfl ?_
    refine C_seq ?_
    refine C_region ?_
    refine L (S (P_assign rfl) ?_)
    refine L (S (P_assign rfl) ?_)
    refine L (S (P_assign rfl) ?_)
    refine L_nil ?_
    refine then_n ?_
    refine C_ret ?_
    refine then_r ?_
    refine F_ret3 Tryz.results32 rfl rfl rfl ?_
    exact ⟨by rw [if_pos hm], Mv.refl w⟩
  refine C_region ?_
  refine L (S (P_move rfl) ?_)
  refine L (S (P_lenT Tryz.underlying9 rfl) ?_)
  refine L (S (P_move rfl) ?_)
  refine L (S (P_gt rfl rfl (decide_eq_false (by omega))) ?_)
  refine L_nil ?_
  refine then_n ?_
  refine C_false rfl ?_
  refine C_skip ?_
  refine then_n ?_
  refine C_seq ?_
  refine C_region ?_
  refine L (S (P_assign rfl) ?_)
  refine L_nil ?_
  refine then_n ?_
  refine C_seq ?_
  refine C_region ?_
  refine L (S (P_assign rfl) ?_)
  refine L_nil ?_
  refine then_n ?_
  refine C_block ?_
  refine C_loop (γ := Nat × Nat × List Tk × Value) (fun q => [(0, .string (str l)), (7, q.2.2.2), (8, .int .i64 (q.1 : Int))]) (fun q wr => q.1 ≤ l.length ∧ l.length - q.1 < q.2.1 ∧ lexA big l = (q.2.2.1 ++ (lexF big q.2.1 (l.drop q.1) q.1).1, (lexF big q.2.1 (l.drop q.1) q.1).2) ∧ wr.ownsRow w.heap.size 71 3 q.2.2.2 q.2.2.1.length (flat q.2.2.1) ∧ q.2.2.1.length ≤ q.1 ∧ Mv No w wr) (fun q => q.2.1) (0, l.length + 1, [], .slice none 0 0) (.cons rfl (.cons rfl (.cons rfl (.nil _)))) ⟨Nat.zero_le _, by dsimp only; omega, by simp [lexA], own_nil, Nat.le_refl _, Mv.refl w⟩ ?_
  rintro ⟨at_, fuel, done, v7⟩ wr ⟨ha, hfu, hall, hown, hdl, hmr⟩
  dsimp only at ha hfu hall hown hdl
  obtain ⟨fu, rfl⟩ : ∃ f, fuel = f + 1 := ⟨fuel - 1, by omega⟩
  have hsp := spanB_le blN (l.drop at_)
  rw [List.length_drop] at hsp
  dsimp only
  refine C_block ?_
  refine C_seq ?_
  refine C_cutg (γ := Unit) (fun _ => [(0, .string (str l)), (7, v7), (8, .int .i64 ((at_ + spanB blN (l.drop at_) : Nat) : Int))]) (fun _ wc => wc = wr) ?_ ?_
  · refine C_block ?_
    refine C_loop (γ := Nat) (fun i => [(0, .string (str l)), (7, v7), (8, .int .i64 (i : Int))]) (fun i wq => wq = wr ∧ i ≤ l.length ∧ i + spanB blN (l.drop i) = at_ + spanB blN (l.drop at_)) (fun i => l.length - i) at_ (.cons rfl (.cons rfl (.cons rfl (.nil _)))) ⟨rfl, ha, rfl⟩ ?_
    rintro i wq ⟨rfl, hi, he⟩
    rw [← he]
    rcases Nat.lt_or_ge i l.length with hlt | hge
    · obtain ⟨c, hc⟩ : ∃ c, l[i]? = some c := ⟨l[i], List.getElem?_eq_getElem hlt⟩
      have hk := kdN_bl c.toNat
      have hkr := kind_ret (w := wq) c
      rw [spanB_drop hc] at he ⊢
      by_cases hd : blN c.toNat = true
      · rw [if_pos hd] at he ⊢
        have hk2 := hk.2 hd
        refine C_seq ?_
        refine C_seq ?_
        refine C_region ?_
        refine L (S (P_move rfl) ?_)
        refine L (S (P_move rfl) ?_)
        refine L (S (P_lenT Tryz.underlying9 rfl) ?_)
        refine L (S (P_lt rfl rfl (decide_eq_true (by omega))) ?_)
        refine L (S (P_move rfl) ?_)
        refine L_yes (j := 4) (dj := 20) (b := true) (S (P_move rfl) ?_) rfl
        refine L_yes (j := 4) (dj := 20) (b := true) (S (P_move rfl) ?_) rfl
        refine L_yes (j := 4) (dj := 20) (b := true) (S (P_indexT Tryz.underlying9 rfl rfl (j := i) rfl (str_idx hc)) ?_) rfl
        refine L_yes (j := 4) (dj := 20) (b := true) (S_call cb_65 rfl (hkr) ?_) rfl
        rintro _ _ ⟨rfl, rfl⟩
        refine L_yes (j := 4) (dj := 20) (b := true) (S (P_eq rfl rfl (decide_eq_true (by omega))) ?_) rfl
        refine L (S (P_pickT rfl rfl) ?_)
        refine L_nil ?_
        refine then_n ?_
        refine C_true rfl ?_
        refine C_skip ?_
        refine then_n ?_
        refine C_block ?_
        refine C_region ?_
        refine L (S (P_move rfl) ?_)
        refine L (S (P_add rfl rfl (wI64 (c := ((i + 1 : Nat) : Int)) (by omega))) ?_)
        refine L (S (P_assign rfl) ?_)
        refine L_nil ?_
        refine blk_n ?_
        refine then_n ?_
        exact ⟨rfl, i + 1, (.cons rfl (.cons rfl (.cons rfl (.nil _)))), ⟨rfl, hlt, by omega⟩, by omega⟩
      · rw [if_neg hd] at he ⊢
        have hk2 : kdN c.toNat ≠ 3 := fun h => hd (hk.1 h)
        refine C_seq ?_
        refine C_seq ?_
        refine C_region ?_
        refine L (S (P_move rfl) ?_)
        refine L (S (P_move rfl) ?_)
        refine L (S (P_lenT Tryz.underlying9 rfl) ?_)
        refine L (S (P_lt rfl rfl (decide_eq_true (by omega))) ?_)
        refine L (S (P_move rfl) ?_)
        refine L_yes (j := 4) (dj := 20) (b := true) (S (P_move rfl) ?_) rfl
        refine L_yes (j := 4) (dj := 20) (b := true) (S (P_move rfl) ?_) rfl
        refine L_yes (j := 4) (dj := 20) (b := true) (S (P_indexT Tryz.underlying9 rfl rfl (j := i) rfl (str_idx hc)) ?_) rfl
        refine L_yes (j := 4) (dj := 20) (b := true) (S_call cb_65 rfl (hkr) ?_) rfl
        rintro _ _ ⟨rfl, rfl⟩
        refine L_yes (j := 4) (dj := 20) (b := true) (S (P_eq rfl rfl (decide_eq_false (by omega))) ?_) rfl
        refine L (S (P_pickT rfl rfl) ?_)
        refine L_nil ?_
        refine then_n ?_
        refine C_false rfl ?_
        refine C_exit ?_
        refine then_x ?_
        refine then_x ?_
        refine blk_x ?_
        refine then_n ?_
        exact ⟨rfl, (), (.cons rfl (.cons rfl (.cons rfl (.nil _)))), rfl⟩
    · rw [spanB_end hge]
      refine C_seq ?_
      refine C_seq ?_
      refine C_region ?_
      refine L (S (P_move rfl) ?_)
      refine L (S (P_move rfl) ?_)
      refine L (S (P_lenT Tryz.underlying9 rfl) ?_)
      refine L (S (P_lt rfl rfl (decide_eq_false (by omega))) ?_)
      refine L (S (P_move rfl) ?_)
      refine L_no (j := 4) (dj := 20) (b := true) (b' := false) (d := 21) rfl ?_
      refine L_no (j := 4) (dj := 20) (b := true) (b' := false) (d := 22) rfl ?_
      refine L_no (j := 4) (dj := 20) (b := true) (b' := false) (d := 23) rfl ?_
      refine L_no (j := 4) (dj := 20) (b := true) (b' := false) (d := 24) rfl ?_
      refine L_no (j := 4) (dj := 20) (b := true) (b' := false) (d := 25) rfl ?_
      refine L (S (P_pickF rfl rfl) ?_)
      refine L_nil ?_
      refine then_n ?_
      refine C_false rfl ?_
      refine C_exit ?_
      refine then_x ?_
      refine then_x ?_
      refine blk_x ?_
      refine then_n ?_
      exact ⟨rfl, (), (.cons rfl (.cons rfl (.cons rfl (.nil _)))), rfl⟩
  rintro _ w2 rfl f' hf'
  refine C_forget hf' ?_
  clear hf' f'
  have hnx := refword_ret (w := w2) hpf (hpf.mono _ _ hv hmr) l hT hl (at_ + spanB blN (l.drop at_)) (by omega)
  have hdd : (l.drop at_).drop (spanB blN (l.drop at_)) = l.drop (at_ + spanB blN (l.drop at_)) := List.drop_drop
  cases hn : nextF big ((l.drop at_).drop (spanB blN (l.drop at_))) with
  | er e =>
    rw [← hdd, hn] at hnx
    rw [lexF_er hn, List.append_nil] at hall
    rw [hall]
    have he0 : 0 < e := by
      rcases Nat.eq_zero_or_pos e with h | h
      · subst h; exact absurd hn (nextF_er _ _)
      · exact h
    generalize hpe : at_ + spanB blN (l.drop at_) = p at *
    refine C_seq ?_
    refine C_region ?_
    refine L (S (P_move rfl) ?_)
    refine L (S (P_move rfl) ?_)
    refine L (S_call cb_66 rfl (hnx) ?_)
    rintro _ w3 ⟨⟨k, s, x, rfl⟩, hm3⟩
    refine L (S (P_move rfl) ?_)
    refine L (S (P_extract rfl rfl) ?_)
    refine L (S (P_extract rfl rfl) ?_)
    refine L (S (P_extract rfl rfl) ?_)
    refine L (S_alloc (zs := [(.int .i64 0), (.string (ByteArray.mk #[])), (.int .i64 0)]) ti_71 rfl ?_)
    rintro b9 w4 hb4 hm4 hn4
    refine L (S_storeS ti_71 rfl rfl (tk_one k s p) rfl hb4 (by exact Nat.le_refl 3) ?_)
    rintro w5 hb5 hm5
    refine L (S (P_assign rfl) ?_)
    refine L (S (P_assign rfl) ?_)
    refine L_nil ?_
    refine then_n ?_
    refine C_seq ?_
    refine C_seq ?_
    refine C_region ?_
    refine L (S (P_move rfl) ?_)
    refine L (S (P_ne rfl rfl (decide_eq_true (by omega))) ?_)
    refine L_nil ?_
    refine then_n ?_
    refine C_true rfl ?_
    refine C_seq ?_
    refine C_region ?_
    refine L (S (P_move rfl) ?_)
    refine L (S (P_move rfl) ?_)
    refine L (S (P_assign rfl) ?_)
    refine L (S (P_assign rfl) ?_)
    refine L (S (P_assign rfl) ?_)
    refine L_nil ?_
    refine then_n ?_
    refine C_ret ?_
    refine then_r ?_
    refine blk_r ?_
    refine then_r ?_
    refine blk_r ?_
    refine F_ret3 Tryz.results32 rfl rfl rfl ?_
    exact ⟨by rw [if_neg hm]; rfl, ((hmr.no hm3).no hm4).new hm5 (Nat.le_trans (hmr.no hm3).size hn4)⟩
  | ok k s n =>
    rw [← hdd, hn] at hnx
    have hok := nextF_ok hn
    rw [List.length_drop, List.length_drop] at hok
    by_cases hk : k = 0
    · subst hk
      rw [lexF_end hn] at hall
      rw [hall]
      obtain ⟨-, -, hs0, hn0⟩ := hok.resolve_right (fun h => by omega)
      subst hs0 hn0
      generalize hpe : at_ + spanB blN (l.drop at_) = p at *
      refine C_seq ?_
      refine C_region ?_
      refine L (S (P_move rfl) ?_)
      refine L (S (P_move rfl) ?_)
      refine L (S_call cb_66 rfl (hnx) ?_)
      rintro _ w3 ⟨rfl, hm3⟩
      refine L (S (P_move rfl) ?_)
      refine L (S (P_extract rfl rfl) ?_)
      refine L (S (P_extract rfl rfl) ?_)
      refine L (S (P_extract rfl rfl) ?_)
      refine L (S_alloc (zs := [(.int .i64 0), (.string (ByteArray.mk #[])), (.int .i64 0)]) ti_71 rfl ?_)
      rintro b9 w4 hb4 hm4 hn4
      refine L (S_storeS ti_71 rfl rfl (tk_one 0 [] p) rfl hb4 (by exact Nat.le_refl 3) ?_)
      rintro w6 hb6 hm6
      refine L (S (P_assign rfl) ?_)
      refine L (S (P_assign rfl) ?_)
      refine L_nil ?_
      refine then_n ?_
      refine C_seq ?_
      refine C_seq ?_
      refine C_region ?_
      refine L (S (P_move rfl) ?_)
      refine L (S (P_ne rfl rfl (decide_eq_false (by decide))) ?_)
      refine L_nil ?_
      refine then_n ?_
      refine C_false rfl ?_
      refine C_skip ?_
      refine then_n ?_
      refine C_seq ?_
      have hb6' : Blk w6 b9 (tkC 0 [] p) 71 := hb6
      have hm06 : Mv No w w6 := ((hmr.no hm3).no hm4).new hm6 (Nat.le_trans (hmr.no hm3).size hn4)
      have hown6 := own_mv (own_no (own_no hown hm3) hm4) hm6 (fun x hx he => by have := (own_lt (own_no hown hm3) hx).2; have : x = b9 := he; omega)
      refine C_region ?_
      refine L (S (P_move rfl) ?_)
      refine L (S_loadS st_71 rfl hb6'.row rfl ?_)
      refine L (S_buildSliceS (l := [.tmp 41]) (vss := [tkC 0 [] p]) Tryz.underlying67 ti_71 (by decide) rfl (by simp [tkC]) rfl (by decide) (by decide) ?_)
      rintro b7 w7 hb7 hm7 hn7
      refine L (S_append Tryz.underlying67 ti_71 rfl (by decide) rfl (own_no hown6 hm7) rfl (.inr ⟨b7, 0, rfl, hb7.row⟩) rfl (by simpa using tk_one 0 [] p) (hm06.no hm7).size (by unfold maxLen; omega) (by omega) ?_)
      rintro v8 w8 ho8 hm8 hf8
      refine L (S (P_assign rfl) ?_)
      refine L_nil ?_
      refine then_n ?_
      refine C_seq ?_
      refine C_seq ?_
      have hm08 : Mv No w w8 := Mv.own (hm06.no hm7) hm8 (own_no hown6 hm7) (Nat.le_refl _)
      have hb8 : Blk w8 b9 (tkC 0 [] p) 71 := (hb6'.no hm7).mv hm8 (fun hx => by have := (own_lt (own_no hown hm3) hx).2; omega)
      refine C_region ?_
      refine L (S (P_fieldAddr fo_71_0 rfl) ?_)
      refine L (S_load sc_3 rfl (hb8.cell (i := 0) rfl) ?_)
      refine L (S (P_eq rfl rfl (decide_eq_true rfl)) ?_)
      refine L_nil ?_
      refine then_n ?_
      refine C_true rfl ?_
      refine C_seq ?_
      refine C_region ?_
      refine L (S (P_move rfl) ?_)
      refine L (S (P_assign rfl) ?_)
      refine L (S (P_assign rfl) ?_)
      refine L (S (P_assign rfl) ?_)
      refine L_nil ?_
      refine then_n ?_
      refine C_ret ?_
      refine then_r ?_
      refine blk_r ?_
      refine then_r ?_
      refine blk_r ?_
      obtain ⟨A, c, rfl, hr, hc, -⟩ := own_reads ho8
      have hr' : SlR w8 A (flat (done ++ [⟨0, [], p⟩])) := by rw [flat_snoc]; simpa using hr
      refine F_ret3 Tryz.results32 rfl rfl rfl ?_
      refine ⟨?_, hm08⟩
      rw [if_neg hm]
      exact ⟨A, c, by simp, hr', by simpa using hc⟩
    · obtain ⟨hk1, hk2, hn1, hn2, hn3⟩ := hok.resolve_left (fun h => hk h.1)
      rw [lexF_ok hn hk] at hall
      have hdd2 : (l.drop at_).drop (spanB blN (l.drop at_) + n) = l.drop (at_ + spanB blN (l.drop at_) + n) := by rw [List.drop_drop, Nat.add_assoc]
      rw [hdd2] at hall
      generalize hpe : at_ + spanB blN (l.drop at_) = p at *
      refine C_seq ?_
      refine C_region ?_
      refine L (S (P_move rfl) ?_)
      refine L (S (P_move rfl) ?_)
      refine L (S_call cb_66 rfl (hnx) ?_)
      rintro _ w3 ⟨rfl, hm3⟩
      refine L (S (P_move rfl) ?_)
      refine L (S (P_extract rfl rfl) ?_)
      refine L (S (P_extract rfl rfl) ?_)
      refine L (S (P_extract rfl rfl) ?_)
      refine L (S_alloc (zs := [(.int .i64 0), (.string (ByteArray.mk #[])), (.int .i64 0)]) ti_71 rfl ?_)
      rintro b9 w4 hb4 hm4 hn4
      refine L (S_storeS ti_71 rfl rfl (tk_one k s p) rfl hb4 (by exact Nat.le_refl 3) ?_)
      rintro w6 hb6 hm6
      refine L (S (P_assign rfl) ?_)
      refine L (S (P_assign rfl) ?_)
      refine L_nil ?_
      refine then_n ?_
      refine C_seq ?_
      refine C_seq ?_
      refine C_region ?_
      refine L (S (P_move rfl) ?_)
      refine L (S (P_ne rfl rfl (decide_eq_false (by decide))) ?_)
      refine L_nil ?_
      refine then_n ?_
      refine C_false rfl ?_
      refine C_skip ?_
      refine then_n ?_
      refine C_seq ?_
      have hb6' : Blk w6 b9 (tkC k s p) 71 := hb6
      have hm06 : Mv No w w6 := ((hmr.no hm3).no hm4).new hm6 (Nat.le_trans (hmr.no hm3).size hn4)
      have hown6 := own_mv (own_no (own_no hown hm3) hm4) hm6 (fun x hx he => by have := (own_lt (own_no hown hm3) hx).2; have : x = b9 := he; omega)
      refine C_region ?_
      refine L (S (P_move rfl) ?_)
      refine L (S_loadS st_71 rfl hb6'.row rfl ?_)
      refine L (S_buildSliceS (l := [.tmp 41]) (vss := [tkC k s p]) Tryz.underlying67 ti_71 (by decide) rfl (by simp [tkC]) rfl (by decide) (by decide) ?_)
      rintro b7 w7 hb7 hm7 hn7
      refine L (S_append Tryz.underlying67 ti_71 rfl (by decide) rfl (own_no hown6 hm7) rfl (.inr ⟨b7, 0, rfl, hb7.row⟩) rfl (by simpa using tk_one k s p) (hm06.no hm7).size (by unfold maxLen; omega) (by omega) ?_)
      rintro v8 w8 ho8 hm8 hf8
      refine L (S (P_assign rfl) ?_)
      refine L_nil ?_
      refine then_n ?_
      refine C_seq ?_
      refine C_seq ?_
      have hm08 : Mv No w w8 := Mv.own (hm06.no hm7) hm8 (own_no hown6 hm7) (Nat.le_refl _)
      have hb8 : Blk w8 b9 (tkC k s p) 71 := (hb6'.no hm7).mv hm8 (fun hx => by have := (own_lt (own_no hown hm3) hx).2; omega)
      refine C_region ?_
      refine L (S (P_fieldAddr fo_71_0 rfl) ?_)
      refine L (S_load sc_3 rfl (hb8.cell (i := 0) rfl) ?_)
      refine L (S (P_eq rfl rfl (decide_eq_false (by omega))) ?_)
      refine L_nil ?_
      refine then_n ?_
      refine C_false rfl ?_
      refine C_skip ?_
      refine then_n ?_
      refine C_region ?_
      refine L (S (P_move rfl) ?_)
      refine L (S (P_assign rfl) ?_)
      refine L_nil ?_
      refine blk_n ?_
      refine then_n ?_
      exact ⟨rfl, (p + n, fu, done ++ [⟨k, s, p⟩], v8), (.cons rfl (.cons rfl (.cons rfl (.nil _)))), ⟨by dsimp only; omega, by dsimp only; omega, by simpa using hall, by simpa [flat_snoc] using ho8, by simp; omega, hm08⟩, by dsimp only; omega⟩
end
end Go.Proofs.YtnoioimphcmeiaaGreatDoor
