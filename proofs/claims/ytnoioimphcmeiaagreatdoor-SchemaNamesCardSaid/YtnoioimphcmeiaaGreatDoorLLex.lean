import Derived.Test.YtnoioimphcmeiaaGreatDoorLNext
namespace Go.Proofs.YtnoioimphcmeiaaGreatDoor
open Go.RowKit
set_option maxRecDepth 20000

/-- The cells of tokens. -/
def flat (l : List Tk) : List Value := l.flatMap fun t => tkC t.kind t.s t.at_
theorem flat_len : ∀ l : List Tk, (flat l).length = l.length * 3
  | [] => rfl
  | t :: r => by
    have := flat_len r
    simp only [flat, List.flatMap_cons, List.length_append, List.length_cons] at *
    rw [this]
    simp [tkC]
    omega
theorem flat_snoc (l : List Tk) (t : Tk) : flat (l ++ [t]) = flat l ++ tkC t.kind t.s t.at_ := by simp [flat]
/-- The words of a text. -/
def lexA (big : List UInt8 → Bool) (s : List UInt8) : List Tk × Option (Nat × Nat) := lexF big (s.length + 1) s 0
/-- What Lex hands back. -/
def LexOut (w' : World) (v : Value) (r : List Tk × Option (Nat × Nat)) : Prop := match r.2 with
  | none => ∃ A c, v = .tuple #[.slice A r.1.length c, .int .i64 0, .int .i64 0] ∧ SlR w' A (flat r.1) ∧ r.1.length ≤ c
  | some (a, e) => v = .tuple #[.slice none 0 0, .int .i64 (a : Int), .int .i64 (e : Int)]
theorem nextF_er (big : List UInt8 → Bool) (l : List UInt8) : nextF big l ≠ .er 0 := by
  intro h
  cases l with
  | nil => simp [nextF] at h
  | cons c r =>
    simp only [nextF] at h
    split at h
    · split at h
      · cases h
      · split at h <;> cases h
    · split at h
      · unfold numF at h
        split at h
        · cases h
        · split at h
          · split at h <;> cases h
          · split at h <;> cases h
      · split at h
        · split at h <;> cases h
        · split at h
          · cases h
          · split at h <;> cases h
theorem lexF_er {big : List UInt8 → Bool} {fuel a e : Nat} {l : List UInt8} (h : nextF big (l.drop (spanB blN l)) = .er e) : lexF big (fuel + 1) l a = ([], some (a + spanB blN l, e)) := by
  rw [lexF, h]
theorem lexF_end {big : List UInt8 → Bool} {fuel a n : Nat} {l s : List UInt8} (h : nextF big (l.drop (spanB blN l)) = .ok 0 s n) : lexF big (fuel + 1) l a = ([⟨0, s, a + spanB blN l⟩], none) := by
  rw [lexF, h]; rfl
theorem lexF_ok {big : List UInt8 → Bool} {fuel a k n : Nat} {l s : List UInt8} (h : nextF big (l.drop (spanB blN l)) = .ok k s n) (hk : k ≠ 0) : lexF big (fuel + 1) l a = (⟨k, s, a + spanB blN l⟩ :: (lexF big fuel (l.drop (spanB blN l + n)) (a + spanB blN l + n)).1, (lexF big fuel (l.drop (spanB blN l + n)) (a + spanB blN l + n)).2) := by
  rw [lexF, h]
  simp only [if_neg hk]

section
variable {w : World}
set_option maxHeartbeats 2000000 in
theorem lex_ret {big : List UInt8 → Bool} {V : World → Prop} {T : List UInt8 → Prop} (hpf : PF big V T) (hv : V w) (l : List UInt8) (hT : InT T l) (hl : l.length ≤ 100000) (most : Int) :
    Ret Tryz.prog 31 [.string (str l), .int .i64 most] w fun v w' => (if most < l.length then v = .tuple #[.slice none 0 0, .int .i64 0, .int .i64 4] else LexOut w' v (lexA big l)) ∧ Mv No w w' := by
  have hsz := str_size l
  refine F_enter Tryz.func31 Tryz.ntmps31 rfl rfl ?_
  refine C_seq ?_
  refine C_region ?_
  refine L (S (P_assign rfl) ?_)
  refine L (S (P_assign rfl) ?_)
  refine L (S (P_assign rfl) ?_)
  refine L_nil ?_
  refine then_n ?_
  refine C_seq ?_
  refine C_seq ?_
  by_cases hm : most < l.length
  · refine C_region ?_
    refine L (S (P_move rfl) ?_)
    refine L (S (P_lenT Tryz.underlying9 rfl) ?_)
    refine L (S (P_move rfl) ?_)
    refine L (S (P_gt rfl rfl (decide_eq_true (by omega))) ?_)
    refine L_nil ?_
    refine then_n ?_
    refine C_true rfl ?_
    refine C_seq ?_
    refine C_region ?_
    refine L (S (P_assign rfl) ?_)
    refine L (S (P_assign rfl) ?_)
    refine L (S (P_assign rfl) ?_)
    refine L_nil ?_
    refine then_n ?_
    refine C_ret ?_
    refine then_r ?_
    refine F_ret3 Tryz.results31 rfl rfl rfl ?_
    exact ⟨by rw [if_pos hm], Mv.refl w⟩
  refine C_region ?_
  refine L (S (P_move rfl) ?_)
  refine L (S (P_lenT Tryz.underlying9 rfl) ?_)
  refine L (S (P_move rfl) ?_)
  refine L (S (P_gt rfl rfl (decide_eq_false (by omega))) ?_)
  refine L_nil ?_
  refine then_n ?_
  refine C_false rfl ?_
  refine C_skip ?_
  refine then_n ?_
  refine C_seq ?_
  refine C_region ?_
  refine L (S (P_assign rfl) ?_)
  refine L_nil ?_
  refine then_n ?_
  refine C_seq ?_
  refine C_region ?_
  refine L (S (P_assign rfl) ?_)
  refine L_nil ?_
  refine then_n ?_
  refine C_block ?_
  refine C_loop (γ := Nat × Nat × List Tk × Value) (fun q => [(0, .string (str l)), (7, q.2.2.2), (8, .int .i64 (q.1 : Int))]) (fun q wr => q.1 ≤ l.length ∧ l.length - q.1 < q.2.1 ∧ lexA big l = (q.2.2.1 ++ (lexF big q.2.1 (l.drop q.1) q.1).1, (lexF big q.2.1 (l.drop q.1) q.1).2) ∧ wr.ownsRow w.heap.size 71 3 q.2.2.2 q.2.2.1.length (flat q.2.2.1) ∧ q.2.2.1.length ≤ q.1 ∧ Mv No w wr) (fun q => q.2.1) (0, l.length + 1, [], .slice none 0 0) (.cons rfl (.cons rfl (.cons rfl (.nil _)))) ⟨Nat.zero_le _, by dsimp only; omega, by simp [lexA], own_nil, Nat.le_refl _, Mv.refl w⟩ ?_
  rintro ⟨at_, fuel, done, v7⟩ wr ⟨ha, hfu, hall, hown, hdl, hmr⟩
  dsimp only at ha hfu hall hown hdl
  obtain ⟨fu, rfl⟩ : ∃ f, fuel = f + 1 := ⟨fuel - 1, by omega⟩
  have hsp := spanB_le blN (l.drop at_)
  rw [List.length_drop] at hsp
  dsimp only
  refine C_block ?_
  refine C_seq ?_
  refine C_region ?_
  refine L (S (P_move rfl) ?_)
  refine L (S (P_move rfl) ?_)
  refine L (S (P_move rfl) ?_)
  refine L (S (P_sliceT Tryz.underlying9 rfl (bnd_some (j := at_) rfl rfl) bnd_none (by omega) (Nat.le_refl _) str_from) ?_)
  refine L (S_call cb_62 rfl (span_ret (l.drop at_) pred_bl (by rw [List.length_drop]; omega)) ?_)
  rintro _ w2 ⟨rfl, hm2⟩
  refine L (S (P_add rfl rfl (wI64 (c := ((at_ + spanB blN (l.drop at_) : Nat) : Int)) (by omega))) ?_)
  refine L (S (P_assign rfl) ?_)
  refine L_nil ?_
  refine then_n ?_
  refine C_seq ?_
  have hmr2 := hmr.no hm2
  have hown2 := own_no hown hm2
  have hnx := next_ret (w := w2) hpf (hpf.mono _ _ hv hmr2) ((l.drop at_).drop (spanB blN (l.drop at_))) ((hT.drop _).drop _) (by rw [List.length_drop, List.length_drop]; omega)
  have hdd : (l.drop at_).drop (spanB blN (l.drop at_)) = l.drop (at_ + spanB blN (l.drop at_)) := List.drop_drop
  cases hn : nextF big ((l.drop at_).drop (spanB blN (l.drop at_))) with
  | er e =>
    rw [hn, hdd] at hnx
    rw [lexF_er hn, List.append_nil] at hall
    rw [hall]
    have he0 : 0 < e := by
      rcases Nat.eq_zero_or_pos e with h | h
      · subst h; exact absurd hn (nextF_er _ _)
      · exact h
    generalize hpe : at_ + spanB blN (l.drop at_) = p at *
    refine C_region ?_
    refine L (S (P_move rfl) ?_)
    refine L (S (P_move rfl) ?_)
    refine L (S (P_sliceT Tryz.underlying9 rfl (bnd_some (j := p) rfl rfl) bnd_none (by omega) (Nat.le_refl _) str_from) ?_)
    refine L (S_call cb_64 rfl (hnx) ?_)
    rintro _ w3 ⟨rfl, hm3⟩
    refine L (S (P_move rfl) ?_)
    refine L (S (P_extract rfl rfl) ?_)
    refine L (S (P_extract rfl rfl) ?_)
    refine L (S (P_extract rfl rfl) ?_)
    refine L (S_alloc (zs := [(.int .i64 0), (.string (ByteArray.mk #[])), (.int .i64 0)]) ti_71 rfl ?_)
    rintro b9 w4 hb4 hm4 hn4
    refine L (S_storeS ti_71 rfl rfl (tk_one 0 [] 0) rfl hb4 (by exact Nat.le_refl 3) ?_)
    rintro w5 hb5 hm5
    refine L (S (P_assign rfl) ?_)
    refine L (S (P_assign rfl) ?_)
    refine L_nil ?_
    refine then_n ?_
    refine C_seq ?_
    refine C_seq ?_
    refine C_region ?_
    refine L (S (P_move rfl) ?_)
    refine L (S (P_ne rfl rfl (decide_eq_true (by omega))) ?_)
    refine L_nil ?_
    refine then_n ?_
    refine C_true rfl ?_
    refine C_seq ?_
    refine C_region ?_
    refine L (S (P_move rfl) ?_)
    refine L (S (P_move rfl) ?_)
    refine L (S (P_assign rfl) ?_)
    refine L (S (P_assign rfl) ?_)
    refine L (S (P_assign rfl) ?_)
    refine L_nil ?_
    refine then_n ?_
    refine C_ret ?_
    refine then_r ?_
    refine blk_r ?_
    refine then_r ?_
    refine blk_r ?_
    refine F_ret3 Tryz.results31 rfl rfl rfl ?_
    exact ⟨by rw [if_neg hm]; rfl, ((hmr2.no hm3).no hm4).new hm5 (Nat.le_trans (hmr2.no hm3).size hn4)⟩
  | ok k s n =>
    rw [hn, hdd] at hnx
    have hok := nextF_ok hn
    rw [List.length_drop, List.length_drop] at hok
    by_cases hk : k = 0
    · subst hk
      rw [lexF_end hn] at hall
      rw [hall]
      obtain ⟨-, -, hs0, hn0⟩ := hok.resolve_right (fun h => by omega)
      subst hs0 hn0
      generalize hpe : at_ + spanB blN (l.drop at_) = p at *
      refine C_region ?_
      refine L (S (P_move rfl) ?_)
      refine L (S (P_move rfl) ?_)
      refine L (S (P_sliceT Tryz.underlying9 rfl (bnd_some (j := p) rfl rfl) bnd_none (by omega) (Nat.le_refl _) str_from) ?_)
      refine L (S_call cb_64 rfl (hnx) ?_)
      rintro _ w3 ⟨rfl, hm3⟩
      refine L (S (P_move rfl) ?_)
      refine L (S (P_extract rfl rfl) ?_)
      refine L (S (P_extract rfl rfl) ?_)
      refine L (S (P_extract rfl rfl) ?_)
      refine L (S_alloc (zs := [(.int .i64 0), (.string (ByteArray.mk #[])), (.int .i64 0)]) ti_71 rfl ?_)
      rintro b9 w4 hb4 hm4 hn4
      refine L (S_storeS ti_71 rfl rfl (tk_one 0 [] 0) rfl hb4 (by exact Nat.le_refl 3) ?_)
      rintro w5 hb5 hm5
      refine L (S (P_assign rfl) ?_)
      refine L (S (P_assign rfl) ?_)
      refine L_nil ?_
      refine then_n ?_
      refine C_seq ?_
      refine C_seq ?_
      refine C_region ?_
      refine L (S (P_move rfl) ?_)
      refine L (S (P_ne rfl rfl (decide_eq_false (by decide))) ?_)
      refine L_nil ?_
      refine then_n ?_
      refine C_false rfl ?_
      refine C_skip ?_
      refine then_n ?_
      refine C_seq ?_
      refine C_region ?_
      refine L (S (P_move rfl) ?_)
      refine L (S (P_fieldAddr fo_71_2 rfl) ?_)
      have hm05 : Mv No w w5 := ((hmr2.no hm3).no hm4).new hm5 (Nat.le_trans (hmr2.no hm3).size hn4)
      have hown5 := own_mv (own_no (own_no hown2 hm3) hm4) hm5 (fun x hx he => by have := (own_lt (own_no hown2 hm3) hx).2; have : x = b9 := he; omega)
      have hb5' : Blk w5 b9 (tkC 0 [] 0) 71 := hb5
      refine L (S_store ti_3 rfl rfl rfl hb5' (by show 2 < 3; omega) ?_)
      rintro w6 hb6 hm6
      refine L_nil ?_
      refine then_n ?_
      refine C_seq ?_
      have hb6' : Blk w6 b9 (tkC 0 [] p) 71 := hb6
      have hlt5 := hb5'.lt
      have hm06 : Mv No w w6 := hm05.new hm6 (Nat.le_trans (hmr2.no hm3).size hn4)
      have hown6 := own_mv hown5 hm6 (fun x hx he => by have := (own_lt (own_no hown2 hm3) hx).2; have : x = b9 := he; omega)
      refine C_region ?_
      refine L (S (P_move rfl) ?_)
      refine L (S_loadS st_71 rfl hb6'.row rfl ?_)
      refine L (S_buildSliceS (l := [.tmp 37]) (vss := [tkC 0 [] p]) Tryz.underlying67 ti_71 (by decide) rfl (by simp [tkC]) rfl (by decide) (by decide) ?_)
      rintro b7 w7 hb7 hm7 hn7
      refine L (S_append Tryz.underlying67 ti_71 rfl (by decide) rfl (own_no hown6 hm7) rfl (.inr ⟨b7, 0, rfl, hb7.row⟩) rfl (by simpa using tk_one 0 [] p) (hm06.no hm7).size (by unfold maxLen; omega) (by omega) ?_)
      rintro v8 w8 ho8 hm8 hf8
      refine L (S (P_assign rfl) ?_)
      refine L_nil ?_
      refine then_n ?_
      refine C_seq ?_
      refine C_seq ?_
      have hm08 : Mv No w w8 := Mv.own (hm06.no hm7) hm8 (own_no hown6 hm7) (Nat.le_refl _)
      have hb8 : Blk w8 b9 (tkC 0 [] p) 71 := (hb6'.no hm7).mv hm8 (fun hx => by have := (own_lt (own_no hown2 hm3) hx).2; omega)
      refine C_region ?_
      refine L (S (P_fieldAddr fo_71_0 rfl) ?_)
      refine L (S_load sc_3 rfl (hb8.cell (i := 0) rfl) ?_)
      refine L (S (P_eq rfl rfl (decide_eq_true rfl)) ?_)
      refine L_nil ?_
      refine then_n ?_
      refine C_true rfl ?_
      refine C_seq ?_
      refine C_region ?_
      refine L (S (P_move rfl) ?_)
      refine L (S (P_assign rfl) ?_)
      refine L (S (P_assign rfl) ?_)
      refine L (S (P_assign rfl) ?_)
      refine L_nil ?_
      refine then_n ?_
      refine C_ret ?_
      refine then_r ?_
      refine blk_r ?_
      refine then_r ?_
      refine blk_r ?_
      obtain ⟨A, c, rfl, hr, hc, -⟩ := own_reads ho8
      have hr' : SlR w8 A (flat (done ++ [⟨0, [], p⟩])) := by rw [flat_snoc]; simpa using hr
      refine F_ret3 Tryz.results31 rfl rfl rfl ?_
      refine ⟨?_, hm08⟩
      rw [if_neg hm]
      exact ⟨A, c, by simp, hr', by simpa using hc⟩
    · obtain ⟨hk1, hk2, hn1, hn2, hn3⟩ := hok.resolve_left (fun h => hk h.1)
      rw [lexF_ok hn hk] at hall
      have hdd2 : (l.drop at_).drop (spanB blN (l.drop at_) + n) = l.drop (at_ + spanB blN (l.drop at_) + n) := by rw [List.drop_drop, Nat.add_assoc]
      rw [hdd2] at hall
      generalize hpe : at_ + spanB blN (l.drop at_) = p at *
      refine C_region ?_
      refine L (S (P_move rfl) ?_)
      refine L (S (P_move rfl) ?_)
      refine L (S (P_sliceT Tryz.underlying9 rfl (bnd_some (j := p) rfl rfl) bnd_none (by omega) (Nat.le_refl _) str_from) ?_)
      refine L (S_call cb_64 rfl (hnx) ?_)
      rintro _ w3 ⟨rfl, hm3⟩
      refine L (S (P_move rfl) ?_)
      refine L (S (P_extract rfl rfl) ?_)
      refine L (S (P_extract rfl rfl) ?_)
      refine L (S (P_extract rfl rfl) ?_)
      refine L (S_alloc (zs := [(.int .i64 0), (.string (ByteArray.mk #[])), (.int .i64 0)]) ti_71 rfl ?_)
      rintro b9 w4 hb4 hm4 hn4
      refine L (S_storeS ti_71 rfl rfl (tk_one k s 0) rfl hb4 (by exact Nat.le_refl 3) ?_)
      rintro w5 hb5 hm5
      refine L (S (P_assign rfl) ?_)
      refine L (S (P_assign rfl) ?_)
      refine L_nil ?_
      refine then_n ?_
      refine C_seq ?_
      refine C_seq ?_
      refine C_region ?_
      refine L (S (P_move rfl) ?_)
      refine L (S (P_ne rfl rfl (decide_eq_false (by decide))) ?_)
      refine L_nil ?_
      refine then_n ?_
      refine C_false rfl ?_
      refine C_skip ?_
      refine then_n ?_
      refine C_seq ?_
      refine C_region ?_
      refine L (S (P_move rfl) ?_)
      refine L (S (P_fieldAddr fo_71_2 rfl) ?_)
      have hm05 : Mv No w w5 := ((hmr2.no hm3).no hm4).new hm5 (Nat.le_trans (hmr2.no hm3).size hn4)
      have hown5 := own_mv (own_no (own_no hown2 hm3) hm4) hm5 (fun x hx he => by have := (own_lt (own_no hown2 hm3) hx).2; have : x = b9 := he; omega)
      have hb5' : Blk w5 b9 (tkC k s 0) 71 := hb5
      refine L (S_store ti_3 rfl rfl rfl hb5' (by show 2 < 3; omega) ?_)
      rintro w6 hb6 hm6
      refine L_nil ?_
      refine then_n ?_
      refine C_seq ?_
      have hb6' : Blk w6 b9 (tkC k s p) 71 := hb6
      have hlt5 := hb5'.lt
      have hm06 : Mv No w w6 := hm05.new hm6 (Nat.le_trans (hmr2.no hm3).size hn4)
      have hown6 := own_mv hown5 hm6 (fun x hx he => by have := (own_lt (own_no hown2 hm3) hx).2; have : x = b9 := he; omega)
      refine C_region ?_
      refine L (S (P_move rfl) ?_)
      refine L (S_loadS st_71 rfl hb6'.row rfl ?_)
      refine L (S_buildSliceS (l := [.tmp 37]) (vss := [tkC k s p]) Tryz.underlying67 ti_71 (by decide) rfl (by simp [tkC]) rfl (by decide) (by decide) ?_)
      rintro b7 w7 hb7 hm7 hn7
      refine L (S_append Tryz.underlying67 ti_71 rfl (by decide) rfl (own_no hown6 hm7) rfl (.inr ⟨b7, 0, rfl, hb7.row⟩) rfl (by simpa using tk_one k s p) (hm06.no hm7).size (by unfold maxLen; omega) (by omega) ?_)
      rintro v8 w8 ho8 hm8 hf8
      refine L (S (P_assign rfl) ?_)
      refine L_nil ?_
      refine then_n ?_
      refine C_seq ?_
      refine C_seq ?_
      have hm08 : Mv No w w8 := Mv.own (hm06.no hm7) hm8 (own_no hown6 hm7) (Nat.le_refl _)
      have hb8 : Blk w8 b9 (tkC k s p) 71 := (hb6'.no hm7).mv hm8 (fun hx => by have := (own_lt (own_no hown2 hm3) hx).2; omega)
      refine C_region ?_
      refine L (S (P_fieldAddr fo_71_0 rfl) ?_)
      refine L (S_load sc_3 rfl (hb8.cell (i := 0) rfl) ?_)
      refine L (S (P_eq rfl rfl (decide_eq_false (by omega))) ?_)
      refine L_nil ?_
      refine then_n ?_
      refine C_false rfl ?_
      refine C_skip ?_
      refine then_n ?_
      refine C_region ?_
      refine L (S (P_move rfl) ?_)
      refine L (S (P_move rfl) ?_)
      refine L (S (P_add rfl rfl (wI64 (c := ((p + n : Nat) : Int)) (by omega))) ?_)
      refine L (S (P_assign rfl) ?_)
      refine L_nil ?_
      refine blk_n ?_
      refine then_n ?_
      exact ⟨rfl, (p + n, fu, done ++ [⟨k, s, p⟩], v8), .cons rfl (.cons rfl (.cons rfl (.nil _))), ⟨by dsimp only; omega, by dsimp only; omega, by simpa using hall, by simpa [flat_snoc] using ho8, by simp; omega, hm08⟩, by dsimp only; omega⟩
theorem lex_ok {big : List UInt8 → Bool} {V : World → Prop} {T : List UInt8 → Prop} (hpf : PF big V T) (hv : V w) (l : List UInt8) (hT : InT T l) (hl : l.length ≤ 100000) {most : Int} (hm : ¬ most < l.length) {toks : List Tk} (h : lexA big l = (toks, none)) :
    Ret Tryz.prog 31 [.string (str l), .int .i64 most] w fun v w' => ∃ A c, v = .tuple #[.slice A toks.length c, .int .i64 0, .int .i64 0] ∧ SlR w' A (flat toks) ∧ toks.length ≤ c ∧ Mv No w w' :=
  (lex_ret hpf hv l hT hl most).mono fun v w' ⟨h1, h2⟩ => by
    rw [if_neg hm, h] at h1
    obtain ⟨A, c, h3, h4, h5⟩ := h1
    exact ⟨A, c, h3, h4, h5, h2⟩
theorem lex_bad {big : List UInt8 → Bool} {V : World → Prop} {T : List UInt8 → Prop} (hpf : PF big V T) (hv : V w) (l : List UInt8) (hT : InT T l) (hl : l.length ≤ 100000) {most : Int} (hm : ¬ most < l.length) {toks : List Tk} {a e : Nat} (h : lexA big l = (toks, some (a, e))) :
    Ret Tryz.prog 31 [.string (str l), .int .i64 most] w fun v w' => v = .tuple #[.slice none 0 0, .int .i64 (a : Int), .int .i64 (e : Int)] ∧ Mv No w w' :=
  (lex_ret hpf hv l hT hl most).mono fun v w' ⟨h1, h2⟩ => by
    rw [if_neg hm, h] at h1
    exact ⟨h1, h2⟩
theorem lex_long {big : List UInt8 → Bool} {V : World → Prop} {T : List UInt8 → Prop} (hpf : PF big V T) (hv : V w) (l : List UInt8) (hT : InT T l) (hl : l.length ≤ 100000) {most : Int} (hm : most < l.length) :
    Ret Tryz.prog 31 [.string (str l), .int .i64 most] w fun v w' => v = .tuple #[.slice none 0 0, .int .i64 0, .int .i64 4] ∧ Mv No w w' :=
  (lex_ret hpf hv l hT hl most).mono fun v w' ⟨h1, h2⟩ => by
    rw [if_pos hm] at h1
    exact ⟨h1, h2⟩
end
end Go.Proofs.YtnoioimphcmeiaaGreatDoor
