import Derived.Test.YtmfogoehocjedaaDoorLPlaceP
namespace Go.Proofs.YtmfogoehocjedaaDoor
open Go.RowKit
set_option maxRecDepth 20000

theorem flat_at : ∀ (l : List Tk) (i : Nat) (t : Tk), l[i]? = some t → ((flat l).drop (3 * i)).take 3 = tkC t.kind t.s t.at_
  | [], i, t, h => by simp at h
  | x :: r, 0, t, h => by
    have : x = t := by simpa using h
    subst this
    simp [flat, tkC]
  | x :: r, i + 1, t, h => by
    have ih := flat_at r i t (by simpa using h)
    rw [show 3 * (i + 1) = 3 + 3 * i by omega, ← List.drop_drop]
    have e : (flat (x :: r)).drop 3 = flat r := by simp [flat, tkC]
    rw [e]
    exact ih
theorem lexF_len {big : List UInt8 → Bool} : ∀ f l a, (lexF big f l a).1.length ≤ f
  | 0, _, _ => Nat.le_refl _
  | f + 1, l, a => by
    cases h : nextF big (l.drop (spanB blN l)) with
    | er e => rw [lexF_er h]; exact Nat.zero_le _
    | ok k s n =>
      by_cases hk : k = 0
      · subst hk
        rw [lexF_end h]
        exact Nat.le_add_left 1 f
      · rw [lexF_ok h hk]
        have := lexF_len (big := big) f (l.drop (spanB blN l + n)) (a + spanB blN l + n)
        rw [List.length_cons]
        omega
theorem lex_er_pos {big : List UInt8 → Bool} : ∀ (f : Nat) (l : List UInt8) (a x e : Nat), l.length < f → (lexF big f l a).2 = some (x, e) → 0 < e := by
  intro f
  induction f with
  | zero => intro l a x e h; omega
  | succ f ih =>
    intro l a x e hl h
    have hsp := spanB_le blN l
    cases hn : nextF big (l.drop (spanB blN l)) with
    | er y =>
      rw [lexF_er hn] at h
      cases h
      rcases Nat.eq_zero_or_pos e with h | h
      · subst h; exact absurd hn (nextF_er _ _)
      · exact h
    | ok k s n =>
      by_cases hk : k = 0
      · subst hk; rw [lexF_end hn] at h; cases h
      · rw [lexF_ok hn hk] at h
        obtain ⟨hk1, hk2, hn1, hn2, hn3⟩ := (nextF_ok hn).resolve_left (fun h => hk h.1)
        rw [List.length_drop] at hn2
        exact ih _ _ _ _ (by rw [List.length_drop]; omega) h
section
variable {w : World}
set_option maxHeartbeats 2000000 in
theorem lexPlaces_ret (hv : Vr w) (l : List UInt8) (hl : l.length < 9223372036854775808) : Ret Tryd.prog 5 [.string (str l)] w fun v w' => v = .bool true ∧ Mv No w w' := by
  have hsz := str_size l
  have hli := fun w' (h : Mv No w w') => lives_ret (hv.no h).mx
  refine F_enter Tryd.func5 Tryd.ntmps5 rfl rfl ?_
  by_cases h1000 : 1000 < l.length
  · refine C_seq ?_
    refine C_region ?_
    refine L (S (P_assign rfl) ?_)
    refine L_nil ?_
    refine then_n ?_
    refine C_seq ?_
    refine C_seq ?_
    refine C_region ?_
    refine L (S_call cb_7 rfl ((hli _ (Mv.refl w))) ?_)
    rintro _ w1 ⟨rfl, hm1⟩
    refine L (S (P_not rfl rfl) ?_)
    refine L (S (P_move rfl) ?_)
    refine L_yes (j := 2) (dj := 14) (b := false) (S (P_move rfl) ?_) rfl
    refine L_yes (j := 2) (dj := 14) (b := false) (S (P_lenT Tryd.underlying9 rfl) ?_) rfl
    refine L_yes (j := 2) (dj := 14) (b := false) (S (P_gt rfl rfl (decide_eq_true (by omega))) ?_) rfl
    refine L (S (P_pickF rfl rfl) ?_)
    refine L_nil ?_
    refine then_n ?_
    refine C_true rfl ?_
    refine C_seq ?_
    refine C_region ?_
    refine L (S_call cb_7 rfl ((hli _ hm1)) ?_)
    rintro _ w2 ⟨rfl, hm2⟩
    refine L (S (P_assign rfl) ?_)
    refine L_nil ?_
    refine then_n ?_
    refine C_ret ?_
    refine then_r ?_
    refine F_ret1 Tryd.results5 rfl ?_
    exact ⟨rfl, hm1.no hm2⟩
  have hlen := lexF_len (big := bigF) (l.length + 1) l 0
  cases hx : lexA bigF l with
  | mk toks o =>
  have hA := fun w' (h : Mv No w w') => lex_ret pf_all (hv.no h) l (inT_len (by omega)) (by omega) 1000
  have hlx : lexF bigF (l.length + 1) l 0 = (toks, o) := hx
  rw [hlx] at hlen
  cases o with
  | some q =>
    obtain ⟨x, e⟩ := q
    have hpos := lex_er_pos (big := bigF) (l.length + 1) l 0 x e (by omega) (by rw [hlx])
    have hB := fun w' (h : Mv No w w') => lex_bad pf_all (hv.no h) l (inT_len (by omega)) (by omega) (most := 1000) (by omega) hx
    refine C_seq ?_
    refine C_region ?_
    refine L (S (P_assign rfl) ?_)
    refine L_nil ?_
    refine then_n ?_
    refine C_seq ?_
    refine C_seq ?_
    refine C_region ?_
    refine L (S_call cb_7 rfl ((hli _ (Mv.refl w))) ?_)
    rintro _ w1 ⟨rfl, hm1⟩
    refine L (S (P_not rfl rfl) ?_)
    refine L (S (P_move rfl) ?_)
    refine L_yes (j := 2) (dj := 14) (b := false) (S (P_move rfl) ?_) rfl
    refine L_yes (j := 2) (dj := 14) (b := false) (S (P_lenT Tryd.underlying9 rfl) ?_) rfl
    refine L_yes (j := 2) (dj := 14) (b := false) (S (P_gt rfl rfl (decide_eq_false (by omega))) ?_) rfl
    refine L (S (P_pickF rfl rfl) ?_)
    refine L_nil ?_
    refine then_n ?_
    refine C_false rfl ?_
    refine C_skip ?_
    refine then_n ?_
    refine C_seq ?_
    refine C_region ?_
    refine L (S (P_move rfl) ?_)
    refine L (S_call cb_11 rfl ((hB _ hm1)) ?_)
    rintro _ w2 ⟨rfl, hm2⟩
    refine L (S (P_move rfl) ?_)
    refine L (S (P_extract rfl rfl) ?_)
    refine L (S (P_extract rfl rfl) ?_)
    refine L (S (P_extract rfl rfl) ?_)
    refine L (S (P_assign rfl) ?_)
    refine L (S (P_assign rfl) ?_)
    refine L (S (P_assign rfl) ?_)
    refine L_nil ?_
    refine then_n ?_
    refine C_seq ?_
    refine C_seq ?_
    refine C_region ?_
    refine L (S (P_move rfl) ?_)
    refine L (S (P_ne rfl rfl (decide_eq_true (by omega))) ?_)
    refine L_nil ?_
    refine then_n ?_
    refine C_true rfl ?_
    refine C_seq ?_
    refine C_region ?_
    refine L (S (P_move rfl) ?_)
    refine L (S (P_lenS Tryd.underlying31 rfl) ?_)
    refine L (S (P_eq rfl rfl (decide_eq_true rfl)) ?_)
    refine L (S (P_assign rfl) ?_)
    refine L_nil ?_
    refine then_n ?_
    refine C_ret ?_
    refine then_r ?_
    refine F_ret1 Tryd.results5 rfl ?_
    exact ⟨rfl, hm1.no hm2⟩
  | none =>
  have hB := fun w' (h : Mv No w w') => lex_ok pf_all (hv.no h) l (inT_len (by omega)) (by omega) (most := 1000) (by omega) hx
  refine C_seq ?_
  refine C_region ?_
  refine L (S (P_assign rfl) ?_)
  refine L_nil ?_
  refine then_n ?_
  refine C_seq ?_
  refine C_seq ?_
  refine C_region ?_
  refine L (S_call cb_7 rfl ((hli _ (Mv.refl w))) ?_)
  rintro _ w1 ⟨rfl, hm1⟩
  refine L (S (P_not rfl rfl) ?_)
  refine L (S (P_move rfl) ?_)
  refine L_yes (j := 2) (dj := 14) (b := false) (S (P_move rfl) ?_) rfl
  refine L_yes (j := 2) (dj := 14) (b := false) (S (P_lenT Tryd.underlying9 rfl) ?_) rfl
  refine L_yes (j := 2) (dj := 14) (b := false) (S (P_gt rfl rfl (decide_eq_false (by omega))) ?_) rfl
  refine L (S (P_pickF rfl rfl) ?_)
  refine L_nil ?_
  refine then_n ?_
  refine C_false rfl ?_
  refine C_skip ?_
  refine then_n ?_
  refine C_seq ?_
  refine C_region ?_
  refine L (S (P_move rfl) ?_)
  refine L (S_call cb_11 rfl ((hB _ hm1)) ?_)
  rintro _ w2 ⟨A, c, rfl, hA2, hc2, hm2⟩
  refine L (S (P_move rfl) ?_)
  refine L (S (P_extract rfl rfl) ?_)
  refine L (S (P_extract rfl rfl) ?_)
  refine L (S (P_extract rfl rfl) ?_)
  refine L (S (P_assign rfl) ?_)
  refine L (S (P_assign rfl) ?_)
  refine L (S (P_assign rfl) ?_)
  refine L_nil ?_
  refine then_n ?_
  refine C_seq ?_
  refine C_seq ?_
  refine C_region ?_
  refine L (S (P_move rfl) ?_)
  refine L (S (P_ne rfl rfl (decide_eq_false (by omega))) ?_)
  refine L_nil ?_
  refine then_n ?_
  refine C_false rfl ?_
  refine C_skip ?_
  refine then_n ?_
  refine C_seq ?_
  refine C_region ?_
  refine L (S (P_assign rfl) ?_)
  refine L_nil ?_
  refine then_n ?_
  refine C_seq ?_
  refine C_seq ?_
  refine C_region ?_
  refine L (S (P_move rfl) ?_)
  refine L (S (P_lenS Tryd.underlying31 rfl) ?_)
  refine L (S (P_move rfl) ?_)
  refine L_nil ?_
  refine then_n ?_
  refine C_block ?_
  have hm02 := hm1.no hm2
  dsimp only at hlen
  refine C_loop (γ := Nat × Nat × Nat) (fun q => [(0, .string (str l)), (3, .slice A toks.length c), (6, .int .i64 (q.2.1 : Int)), (31, .slice A toks.length c), (32, .int .i64 (toks.length : Int)), (33, .int .i64 (q.1 : Int))]) (fun q wr => Mv No w2 wr ∧ q.1 ≤ toks.length ∧ q.2.1 ≤ l.length ∧ ((q.1 < toks.length ∧ lexF bigF q.2.2 (l.drop q.2.1) q.2.1 = (toks.drop q.1, none)) ∨ (q.1 = toks.length ∧ q.2.1 = l.length))) (fun q => toks.length - q.1) (0, 0, l.length + 1) (.cons rfl (.cons rfl (.cons rfl (.cons rfl (.cons rfl (.cons rfl (.nil _))))))) ⟨Mv.refl w2, Nat.zero_le _, Nat.zero_le _, .inl ⟨by
    have := lexF_ne (big := bigF) (f := l.length + 1) (a := 0) (l := l) (by rw [hlx])
    rw [hlx] at this
    exact List.length_pos_iff.2 this, hlx⟩⟩ ?_
  rintro ⟨i, e, f⟩ wr ⟨hmr, hi, hel, hcase⟩
  dsimp only at hi hel hcase
  dsimp only
  rcases hcase with ⟨hlt, hlf⟩ | ⟨hie, hee⟩
  · obtain ⟨t, r, n, hts, hat, hpn, hwl, hwr, hk0, hnext⟩ := lexF_next hel hlf
    have ht : toks[i]? = some t := by
      have := congrArg (·[0]?) hts
      simpa using this
    have hr : r = toks.drop (i + 1) := by
      have := congrArg List.tail hts
      rw [List.tail_drop] at this
      exact this.symm
    have hsp := spanB_le blN (l.drop e)
    rw [List.length_drop] at hsp
    have hrl : r = [] ↔ i + 1 = toks.length := by
      rw [hr]
      constructor
      · intro h
        have := congrArg List.length h
        rw [List.length_drop, List.length_nil] at this
        omega
      · intro h; exact List.drop_eq_nil_of_le (by omega)
    have hfl := flat_at toks i t ht
    have hflen := flat_len toks
    obtain ⟨ba, oa, rfl, hra⟩ := (hA2.no hmr).form (i := 3 * i) (by omega)
    have hra' : Row wr ba (oa + 3 * i) (tkC t.kind t.s t.at_) := by rw [← hfl]; exact (hra.drop (3 * i)).take 3
    have hcut1 : (str l).extract e t.at_ = str ((l.drop e).take (spanB blN (l.drop e))) := by rw [cut_str, show t.at_ - e = spanB blN (l.drop e) by omega]
    have hbl := spanB_all blN (l.drop e)
    have hbll : ((l.drop e).take (spanB blN (l.drop e))).length = spanB blN (l.drop e) := by rw [List.length_take, List.length_drop]; omega
    generalize (l.drop e).take (spanB blN (l.drop e)) = bl at *
    refine C_seq ?_
    refine C_region ?_
    refine L (S (P_lt rfl rfl (decide_eq_true (by omega))) ?_)
    refine L_nil ?_
    refine then_n ?_
    refine C_seq ?_
    refine C_true rfl ?_
    refine C_skip ?_
    refine then_n ?_
    refine C_seq ?_
    refine C_block ?_
    refine C_seq ?_
    refine C_region ?_
    refine L (S (P_move rfl) ?_)
    refine L (S (P_indexAddr Tryd.underlying31 (csz_of ti_36) rfl rfl (j := i) rfl (by omega) (p := oa + 3 * i) (by omega)) ?_)
    refine L (S_loadS st_36 rfl hra' rfl ?_)
    refine L (S_alloc (zs := [(.int .i64 0), (.string (ByteArray.mk #[])), (.int .i64 0)]) ti_36 rfl ?_)
    rintro b8 w4 hb8 hm4 hn4
    refine L (S (P_assign rfl) ?_)
    refine L (S_storeS ti_36 rfl rfl (tk_one t.kind t.s t.at_) rfl hb8 (by exact Nat.le_refl 3) ?_)
    rintro w5 hb5 hm5
    refine L_nil ?_
    refine then_n ?_
    refine C_seq ?_
    refine C_seq ?_
    have hb5' : Blk w5 b8 (tkC t.kind t.s t.at_) 36 := hb5
    have hm45 : Mv No wr w5 := hm4.new hm5 hn4
    have hat5 : w5.cell? ⟨b8, 2, none⟩ = some (.int .i64 (t.at_ : Int)) := hb5'.cell (i := 2) rfl
    refine C_region ?_
    refine L (S (P_fieldAddr fo_36_2 rfl) ?_)
    refine L (S_load sc_3 rfl hat5 ?_)
    refine L (S (P_move rfl) ?_)
    refine L (S (P_lt rfl rfl (decide_eq_false (by omega))) ?_)
    refine L (S (P_move rfl) ?_)
    refine L_yes (j := 4) (dj := 42) (b := false) (S (P_fieldAddr fo_36_2 rfl) ?_) rfl
    refine L_yes (j := 4) (dj := 42) (b := false) (S_load sc_3 rfl hat5 ?_) rfl
    refine L_yes (j := 4) (dj := 42) (b := false) (S (P_move rfl) ?_) rfl
    refine L_yes (j := 4) (dj := 42) (b := false) (S (P_lenT Tryd.underlying9 rfl) ?_) rfl
    refine L_yes (j := 4) (dj := 42) (b := false) (S (P_gt rfl rfl (decide_eq_false (by omega))) ?_) rfl
    refine L (S (P_pickF rfl rfl) ?_)
    refine L_nil ?_
    refine then_n ?_
    refine C_false rfl ?_
    refine C_skip ?_
    refine then_n ?_
    refine C_seq ?_
    refine C_seq ?_
    refine C_region ?_
    refine L (S (P_move rfl) ?_)
    refine L (S (P_move rfl) ?_)
    refine L (S (P_fieldAddr fo_36_2 rfl) ?_)
    refine L (S_load sc_3 rfl hat5 ?_)
    refine L (S (P_sliceT Tryd.underlying9 rfl (bnd_some (j := e) rfl rfl) (bnd_some (j := t.at_) rfl rfl) (by omega) (by omega) hcut1) ?_)
    refine L (S_strByt Tryd.underlying9 Tryd.underlying26 Tryd.underlying5 rfl ?_)
    rintro b9 w6 c9 hb9 hm9 hn9
    refine L (S (P_lenS Tryd.underlying26 rfl) ?_)
    refine L (S (P_move rfl) ?_)
    refine L_nil ?_
    refine then_n ?_
    have hm56 := hm45.no hm9
    have hw6 := hb5'.no hm9
    refine C_cutg (γ := Unit) (fun _ => [(0, .string (str l)), (3, .slice (some ⟨ba, oa, none⟩) toks.length c), (7, .int .i64 (i : Int)), (8, .pointer (some ⟨b8, 0, none⟩)), (31, .slice (some ⟨ba, oa, none⟩) toks.length c), (32, .int .i64 (toks.length : Int)), (33, .int .i64 (i : Int))]) (fun _ wc => wc = w6) ?_ ?_
    · refine C_block ?_
      refine C_loop (γ := Nat) (fun j => [(0, .string (str l)), (3, .slice (some ⟨ba, oa, none⟩) toks.length c), (7, .int .i64 (i : Int)), (8, .pointer (some ⟨b8, 0, none⟩)), (31, .slice (some ⟨ba, oa, none⟩) toks.length c), (32, .int .i64 (toks.length : Int)), (33, .int .i64 (i : Int)), (54, .slice (some ⟨b9, 0, none⟩) bl.length c9), (55, .int .i64 (bl.length : Int)), (56, .int .i64 (j : Int))]) (fun j wq => wq = w6 ∧ j ≤ bl.length) (fun j => bl.length - j) 0 (.cons rfl (.cons rfl (.cons rfl (.cons rfl (.cons rfl (.cons rfl (.cons rfl (.cons rfl (.cons rfl (.cons rfl (.nil _))))))))))) ⟨rfl, Nat.zero_le _⟩ ?_
      rintro j wq ⟨rfl, hj⟩
      by_cases hjl : j < bl.length
      · have hc := List.getElem?_eq_getElem hjl
        have hb := hbl _ (List.getElem_mem hjl)
        generalize bl[j] = d at hc hb
        have hcell := hb9.cell hc
        have hd : d.toNat = 32 ∨ d.toNat = 9 ∨ d.toNat = 10 ∨ d.toNat = 13 := of_decide_eq_true hb
        by_cases q1 : d.toNat = 32
        · refine C_seq ?_
          refine C_region ?_
          refine L (S (P_lt rfl rfl (decide_eq_true (by omega))) ?_)
          refine L_nil ?_
          refine then_n ?_
          refine C_seq ?_
          refine C_true rfl ?_
          refine C_skip ?_
          refine then_n ?_
          refine C_seq ?_
          refine C_block ?_
          refine C_seq ?_
          refine C_region ?_
          refine L (S (P_indexAddr Tryd.underlying26 (csz_of ti_5) rfl rfl (j := j) rfl (by omega) (p := j) (by omega)) ?_)
          refine L (S_load sc_5 rfl hcell ?_)
          refine L (S (P_assign rfl) ?_)
          refine L_nil ?_
          refine then_n ?_
          refine C_seq ?_
          refine C_region ?_
          refine L (S (P_move rfl) ?_)
          refine L (S (P_ne rfl rfl (decide_eq_false (by omega))) ?_)
          refine L (S (P_move rfl) ?_)
          refine L_no (j := 2) (dj := 62) (b := true) (b' := false) (d := 63) rfl ?_
          refine L_no (j := 2) (dj := 62) (b := true) (b' := false) (d := 64) rfl ?_
          refine L (S (P_pickF rfl rfl) ?_)
          refine L (S (P_move rfl) ?_)
          refine L_no (j := 6) (dj := 66) (b := true) (b' := false) (d := 67) rfl ?_
          refine L_no (j := 6) (dj := 66) (b := true) (b' := false) (d := 68) rfl ?_
          refine L (S (P_pickF rfl rfl) ?_)
          refine L (S (P_move rfl) ?_)
          refine L_no (j := 10) (dj := 70) (b := true) (b' := false) (d := 71) rfl ?_
          refine L_no (j := 10) (dj := 70) (b := true) (b' := false) (d := 72) rfl ?_
          refine L (S (P_pickF rfl rfl) ?_)
          refine L_nil ?_
          refine then_n ?_
          refine C_false rfl ?_
          refine C_skip ?_
          refine blk_n ?_
          refine then_n ?_
          refine C_region ?_
          refine L (S (P_add rfl rfl (wI64 (c := ((j + 1 : Nat) : Int)) (by omega))) ?_)
          refine L (S (P_move rfl) ?_)
          refine L_nil ?_
          refine then_n ?_
          exact ⟨rfl, j + 1, (.cons rfl (.cons rfl (.cons rfl (.cons rfl (.cons rfl (.cons rfl (.cons rfl (.cons rfl (.cons rfl (.cons rfl (.nil _))))))))))), ⟨rfl, hjl⟩, by omega⟩
        by_cases q2 : d.toNat = 9
        · refine C_seq ?_
          refine C_region ?_
          refine L (S (P_lt rfl rfl (decide_eq_true (by omega))) ?_)
          refine L_nil ?_
          refine then_n ?_
          refine C_seq ?_
          refine C_true rfl ?_
          refine C_skip ?_
          refine then_n ?_
          refine C_seq ?_
          refine C_block ?_
          refine C_seq ?_
          refine C_region ?_
          refine L (S (P_indexAddr Tryd.underlying26 (csz_of ti_5) rfl rfl (j := j) rfl (by omega) (p := j) (by omega)) ?_)
          refine L (S_load sc_5 rfl hcell ?_)
          refine L (S (P_assign rfl) ?_)
          refine L_nil ?_
          refine then_n ?_
          refine C_seq ?_
          refine C_region ?_
          refine L (S (P_move rfl) ?_)
          refine L (S (P_ne rfl rfl (decide_eq_true (by omega))) ?_)
          refine L (S (P_move rfl) ?_)
          refine L_yes (j := 2) (dj := 62) (b := true) (S (P_move rfl) ?_) rfl
          refine L_yes (j := 2) (dj := 62) (b := true) (S (P_ne rfl rfl (decide_eq_false (by omega))) ?_) rfl
          refine L (S (P_pickT rfl rfl) ?_)
          refine L (S (P_move rfl) ?_)
          refine L_no (j := 6) (dj := 66) (b := true) (b' := false) (d := 67) rfl ?_
          refine L_no (j := 6) (dj := 66) (b := true) (b' := false) (d := 68) rfl ?_
          refine L (S (P_pickF rfl rfl) ?_)
          refine L (S (P_move rfl) ?_)
          refine L_no (j := 10) (dj := 70) (b := true) (b' := false) (d := 71) rfl ?_
          refine L_no (j := 10) (dj := 70) (b := true) (b' := false) (d := 72) rfl ?_
          refine L (S (P_pickF rfl rfl) ?_)
          refine L_nil ?_
          refine then_n ?_
          refine C_false rfl ?_
          refine C_skip ?_
          refine blk_n ?_
          refine then_n ?_
          refine C_region ?_
          refine L (S (P_add rfl rfl (wI64 (c := ((j + 1 : Nat) : Int)) (by omega))) ?_)
          refine L (S (P_move rfl) ?_)
          refine L_nil ?_
          refine then_n ?_
          exact ⟨rfl, j + 1, (.cons rfl (.cons rfl (.cons rfl (.cons rfl (.cons rfl (.cons rfl (.cons rfl (.cons rfl (.cons rfl (.cons rfl (.nil _))))))))))), ⟨rfl, hjl⟩, by omega⟩
        by_cases q3 : d.toNat = 10
        · refine C_seq ?_
          refine C_region ?_
          refine L (S (P_lt rfl rfl (decide_eq_true (by omega))) ?_)
          refine L_nil ?_
          refine then_n ?_
          refine C_seq ?_
          refine C_true rfl ?_
          refine C_skip ?_
          refine then_n ?_
          refine C_seq ?_
          refine C_block ?_
          refine C_seq ?_
          refine C_region ?_
          refine L (S (P_indexAddr Tryd.underlying26 (csz_of ti_5) rfl rfl (j := j) rfl (by omega) (p := j) (by omega)) ?_)
          refine L (S_load sc_5 rfl hcell ?_)
          refine L (S (P_assign rfl) ?_)
          refine L_nil ?_
          refine then_n ?_
          refine C_seq ?_
          refine C_region ?_
          refine L (S (P_move rfl) ?_)
          refine L (S (P_ne rfl rfl (decide_eq_true (by omega))) ?_)
          refine L (S (P_move rfl) ?_)
          refine L_yes (j := 2) (dj := 62) (b := true) (S (P_move rfl) ?_) rfl
          refine L_yes (j := 2) (dj := 62) (b := true) (S (P_ne rfl rfl (decide_eq_true (by omega))) ?_) rfl
          refine L (S (P_pickT rfl rfl) ?_)
          refine L (S (P_move rfl) ?_)
          refine L_yes (j := 6) (dj := 66) (b := true) (S (P_move rfl) ?_) rfl
          refine L_yes (j := 6) (dj := 66) (b := true) (S (P_ne rfl rfl (decide_eq_false (by omega))) ?_) rfl
          refine L (S (P_pickT rfl rfl) ?_)
          refine L (S (P_move rfl) ?_)
          refine L_no (j := 10) (dj := 70) (b := true) (b' := false) (d := 71) rfl ?_
          refine L_no (j := 10) (dj := 70) (b := true) (b' := false) (d := 72) rfl ?_
          refine L (S (P_pickF rfl rfl) ?_)
          refine L_nil ?_
          refine then_n ?_
          refine C_false rfl ?_
          refine C_skip ?_
          refine blk_n ?_
          refine then_n ?_
          refine C_region ?_
          refine L (S (P_add rfl rfl (wI64 (c := ((j + 1 : Nat) : Int)) (by omega))) ?_)
          refine L (S (P_move rfl) ?_)
          refine L_nil ?_
          refine then_n ?_
          exact ⟨rfl, j + 1, (.cons rfl (.cons rfl (.cons rfl (.cons rfl (.cons rfl (.cons rfl (.cons rfl (.cons rfl (.cons rfl (.cons rfl (.nil _))))))))))), ⟨rfl, hjl⟩, by omega⟩
        · refine C_seq ?_
          refine C_region ?_
          refine L (S (P_lt rfl rfl (decide_eq_true (by omega))) ?_)
          refine L_nil ?_
          refine then_n ?_
          refine C_seq ?_
          refine C_true rfl ?_
          refine C_skip ?_
          refine then_n ?_
          refine C_seq ?_
          refine C_block ?_
          refine C_seq ?_
          refine C_region ?_
          refine L (S (P_indexAddr Tryd.underlying26 (csz_of ti_5) rfl rfl (j := j) rfl (by omega) (p := j) (by omega)) ?_)
          refine L (S_load sc_5 rfl hcell ?_)
          refine L (S (P_assign rfl) ?_)
          refine L_nil ?_
          refine then_n ?_
          refine C_seq ?_
          refine C_region ?_
          refine L (S (P_move rfl) ?_)
          refine L (S (P_ne rfl rfl (decide_eq_true (by omega))) ?_)
          refine L (S (P_move rfl) ?_)
          refine L_yes (j := 2) (dj := 62) (b := true) (S (P_move rfl) ?_) rfl
          refine L_yes (j := 2) (dj := 62) (b := true) (S (P_ne rfl rfl (decide_eq_true (by omega))) ?_) rfl
          refine L (S (P_pickT rfl rfl) ?_)
          refine L (S (P_move rfl) ?_)
          refine L_yes (j := 6) (dj := 66) (b := true) (S (P_move rfl) ?_) rfl
          refine L_yes (j := 6) (dj := 66) (b := true) (S (P_ne rfl rfl (decide_eq_true (by omega))) ?_) rfl
          refine L (S (P_pickT rfl rfl) ?_)
          refine L (S (P_move rfl) ?_)
          refine L_yes (j := 10) (dj := 70) (b := true) (S (P_move rfl) ?_) rfl
          refine L_yes (j := 10) (dj := 70) (b := true) (S (P_ne rfl rfl (decide_eq_false (by omega))) ?_) rfl
          refine L (S (P_pickT rfl rfl) ?_)
          refine L_nil ?_
          refine then_n ?_
          refine C_false rfl ?_
          refine C_skip ?_
          refine blk_n ?_
          refine then_n ?_
          refine C_region ?_
          refine L (S (P_add rfl rfl (wI64 (c := ((j + 1 : Nat) : Int)) (by omega))) ?_)
          refine L (S (P_move rfl) ?_)
          refine L_nil ?_
          refine then_n ?_
          exact ⟨rfl, j + 1, (.cons rfl (.cons rfl (.cons rfl (.cons rfl (.cons rfl (.cons rfl (.cons rfl (.cons rfl (.cons rfl (.cons rfl (.nil _))))))))))), ⟨rfl, hjl⟩, by omega⟩
      · refine C_seq ?_
        refine C_region ?_
        refine L (S (P_lt rfl rfl (decide_eq_false (by omega))) ?_)
        refine L_nil ?_
        refine then_n ?_
        refine C_seq ?_
        refine C_false rfl ?_
        refine C_exit ?_
        refine then_x ?_
        refine then_x ?_
        refine blk_x ?_
        refine then_n ?_
        exact ⟨rfl, (), (.cons rfl (.cons rfl (.cons rfl (.cons rfl (.cons rfl (.cons rfl (.cons rfl (.nil _)))))))), rfl⟩
    rintro _ w7 rfl f' hf'
    refine C_forget hf' ?_
    clear hf' f'
    have hwl' := str_size (wrF t.kind t.s)
    have hsl : t.s.length ≤ 100000 := by
      have : t.s.length ≤ (wrF t.kind t.s).length := by
        unfold wrF
        split
        · have : ∀ s : List UInt8, s.length ≤ (esc s).length := by
            intro s
            induction s with
            | nil => exact Nat.le_refl _
            | cons c r ih =>
              have e : esc (c :: r) = (if c = 39 then [39, 39] else [c]) ++ esc r := rfl
              rw [e, List.length_append, List.length_cons]
              split <;> simp <;> omega
          have := this t.s
          simp only [List.length_append, List.length_cons]
          omega
        · exact Nat.le_refl _
      omega
    have hW := fun w' => write_ret (w := w') t.kind t.s t.at_ hsl
    have hcut2 : t.kind ≠ 2 → (str l).extract t.at_ (t.at_ + n) = str (wrF t.kind t.s) := fun h => by rw [cut_str, Nat.add_sub_cancel_left, hwr h]
    have hdn : ∀ wq, Mv No w7 wq → (Mv No w2 wq ∧ i + 1 ≤ toks.length ∧ t.at_ + n ≤ l.length ∧ ∃ f', ((i + 1 < toks.length ∧ lexF bigF f' (l.drop (t.at_ + n)) (t.at_ + n) = (toks.drop (i + 1), none)) ∨ (i + 1 = toks.length ∧ t.at_ + n = l.length))) := fun wq h => ⟨(hmr.no hm56).no h, by omega, hpn, by
      rcases hnext with ⟨h1, h2⟩ | ⟨f', h1, h2, h3⟩
      · exact ⟨0, .inr ⟨hrl.1 h1, h2⟩⟩
      · refine ⟨f', .inl ⟨?_, by rw [← hr]; exact h3⟩⟩
        have : i + 1 ≠ toks.length := fun h => h2 (hrl.2 h)
        omega⟩
    generalize wrF t.kind t.s = tx at *
    have hk7 : w7.cell? ⟨b8, 0, none⟩ = some (.int .i64 (t.kind : Int)) := hw6.cell (i := 0) rfl
    have ha7 : ∀ wq, Mv No w7 wq → wq.cell? ⟨b8, 2, none⟩ = some (.int .i64 (t.at_ : Int)) := fun wq h => (hw6.no h).cell (i := 2) rfl
    have hk8 : ∀ wq, Mv No w7 wq → wq.cell? ⟨b8, 0, none⟩ = some (.int .i64 (t.kind : Int)) := fun wq h => (hw6.no h).cell (i := 0) rfl
    have hβ : decide ((t.kind : Int) = 0) = decide ((i : Int) = (toks.length : Int) - 1) := by
      by_cases hk : t.kind = 0
      · have := hrl.1 (hk0.1 hk)
        rw [decide_eq_true (by omega), decide_eq_true (by omega)]
      · have : i + 1 ≠ toks.length := fun h => hk (hk0.2 (hrl.2 h))
        rw [decide_eq_false (by omega), decide_eq_false (by omega)]
    by_cases hk2 : t.kind = 2
    · refine C_seq ?_
      refine C_seq ?_
      refine C_region ?_
      refine L (S (P_fieldAddr fo_36_0 rfl) ?_)
      refine L (S_load sc_3 rfl hk7 ?_)
      refine L (S (P_eq rfl rfl (β := decide ((t.kind : Int) = 0)) rfl) ?_)
      refine L (S (P_move rfl) ?_)
      refine L (S (P_move rfl) ?_)
      refine L (S (P_lenS Tryd.underlying31 rfl) ?_)
      refine L (S (P_sub rfl rfl (wI64 (c := (toks.length : Int) - 1) (by omega))) ?_)
      refine L (S (P_eq rfl rfl (β := decide ((i : Int) = (toks.length : Int) - 1)) rfl) ?_)
      refine L (S (P_neB (β := false) Tryd.underlying4 rfl rfl (by rw [hβ]; simp)) ?_)
      refine L_nil ?_
      refine then_n ?_
      refine C_false rfl ?_
      refine C_skip ?_
      refine then_n ?_
      refine C_seq ?_
      refine C_region ?_
      refine L (S_loadS st_36 rfl hw6.row rfl ?_)
      refine L (S_call cb_12 rfl ((hW _)) ?_)
      rintro _ w9 ⟨rfl, hm10⟩
      refine L (S (P_assign rfl) ?_)
      refine L_nil ?_
      refine then_n ?_
      refine C_seq ?_
      refine C_seq ?_
      refine C_region ?_
      refine L (S (P_move rfl) ?_)
      refine L (S (P_lenT Tryd.underlying9 rfl) ?_)
      refine L (S (P_move rfl) ?_)
      refine L (S (P_lenT Tryd.underlying9 rfl) ?_)
      refine L (S (P_fieldAddr fo_36_2 rfl) ?_)
      refine L (S_load sc_3 rfl (ha7 _ hm10) ?_)
      refine L (S (P_sub rfl rfl (wI64 (c := (l.length : Int) - (t.at_ : Int)) (by omega))) ?_)
      refine L (S (P_gt rfl rfl (decide_eq_false (by omega))) ?_)
      refine L_nil ?_
      refine then_n ?_
      refine C_false rfl ?_
      refine C_skip ?_
      refine then_n ?_
      refine C_seq ?_
      refine C_seq ?_
      refine C_region ?_
      refine L (S (P_fieldAddr fo_36_0 rfl) ?_)
      refine L (S_load sc_3 rfl (hk8 _ hm10) ?_)
      refine L (S (P_ne rfl rfl (decide_eq_false (by omega))) ?_)
      refine L (S (P_move rfl) ?_)
      refine L_no (j := 3) (dj := 97) (b := true) (b' := false) (d := 98) rfl ?_
      refine L_no (j := 3) (dj := 97) (b := true) (b' := false) (d := 99) rfl ?_
      refine L_no (j := 3) (dj := 97) (b := true) (b' := false) (d := 100) rfl ?_
      refine L_no (j := 3) (dj := 97) (b := true) (b' := false) (d := 101) rfl ?_
      refine L_no (j := 3) (dj := 97) (b := true) (b' := false) (d := 102) rfl ?_
      refine L_no (j := 3) (dj := 97) (b := true) (b' := false) (d := 103) rfl ?_
      refine L_no (j := 3) (dj := 97) (b := true) (b' := false) (d := 104) rfl ?_
      refine L_no (j := 3) (dj := 97) (b := true) (b' := false) (d := 105) rfl ?_
      refine L_no (j := 3) (dj := 97) (b := true) (b' := false) (d := 106) rfl ?_
      refine L_no (j := 3) (dj := 97) (b := true) (b' := false) (d := 107) rfl ?_
      refine L_no (j := 3) (dj := 97) (b := true) (b' := false) (d := 108) rfl ?_
      refine L (S (P_pickF rfl rfl) ?_)
      refine L_nil ?_
      refine then_n ?_
      refine C_false rfl ?_
      refine C_skip ?_
      refine then_n ?_
      refine C_region ?_
      refine L (S (P_fieldAddr fo_36_2 rfl) ?_)
      refine L (S_load sc_3 rfl (ha7 _ hm10) ?_)
      refine L (S (P_move rfl) ?_)
      refine L (S (P_lenT Tryd.underlying9 rfl) ?_)
      refine L (S (P_add rfl rfl (wI64 (c := ((t.at_ + n : Nat) : Int)) (by omega))) ?_)
      refine L (S (P_assign rfl) ?_)
      refine L_nil ?_
      refine blk_n ?_
      refine then_n ?_
      refine C_region ?_
      refine L (S (P_add rfl rfl (wI64 (c := ((i + 1 : Nat) : Int)) (by omega))) ?_)
      refine L (S (P_move rfl) ?_)
      refine L_nil ?_
      refine then_n ?_
      obtain ⟨d1, d2, d3, f', d4⟩ := hdn _ hm10
      exact ⟨rfl, (i + 1, t.at_ + n, f'), (.cons rfl (.cons rfl (.cons rfl (.cons rfl (.cons rfl (.cons rfl (.nil _))))))), ⟨d1, d2, d3, d4⟩, by dsimp only; omega⟩
    · have hcut2' := hcut2 hk2
      refine C_seq ?_
      refine C_seq ?_
      refine C_region ?_
      refine L (S (P_fieldAddr fo_36_0 rfl) ?_)
      refine L (S_load sc_3 rfl hk7 ?_)
      refine L (S (P_eq rfl rfl (β := decide ((t.kind : Int) = 0)) rfl) ?_)
      refine L (S (P_move rfl) ?_)
      refine L (S (P_move rfl) ?_)
      refine L (S (P_lenS Tryd.underlying31 rfl) ?_)
      refine L (S (P_sub rfl rfl (wI64 (c := (toks.length : Int) - 1) (by omega))) ?_)
      refine L (S (P_eq rfl rfl (β := decide ((i : Int) = (toks.length : Int) - 1)) rfl) ?_)
      refine L (S (P_neB (β := false) Tryd.underlying4 rfl rfl (by rw [hβ]; simp)) ?_)
      refine L_nil ?_
      refine then_n ?_
      refine C_false rfl ?_
      refine C_skip ?_
      refine then_n ?_
      refine C_seq ?_
      refine C_region ?_
      refine L (S_loadS st_36 rfl hw6.row rfl ?_)
      refine L (S_call cb_12 rfl ((hW _)) ?_)
      rintro _ w9 ⟨rfl, hm10⟩
      refine L (S (P_assign rfl) ?_)
      refine L_nil ?_
      refine then_n ?_
      refine C_seq ?_
      refine C_seq ?_
      refine C_region ?_
      refine L (S (P_move rfl) ?_)
      refine L (S (P_lenT Tryd.underlying9 rfl) ?_)
      refine L (S (P_move rfl) ?_)
      refine L (S (P_lenT Tryd.underlying9 rfl) ?_)
      refine L (S (P_fieldAddr fo_36_2 rfl) ?_)
      refine L (S_load sc_3 rfl (ha7 _ hm10) ?_)
      refine L (S (P_sub rfl rfl (wI64 (c := (l.length : Int) - (t.at_ : Int)) (by omega))) ?_)
      refine L (S (P_gt rfl rfl (decide_eq_false (by omega))) ?_)
      refine L_nil ?_
      refine then_n ?_
      refine C_false rfl ?_
      refine C_skip ?_
      refine then_n ?_
      refine C_seq ?_
      refine C_seq ?_
      refine C_region ?_
      refine L (S (P_fieldAddr fo_36_0 rfl) ?_)
      refine L (S_load sc_3 rfl (hk8 _ hm10) ?_)
      refine L (S (P_ne rfl rfl (decide_eq_true (by omega))) ?_)
      refine L (S (P_move rfl) ?_)
      refine L_yes (j := 3) (dj := 97) (b := true) (S (P_move rfl) ?_) rfl
      refine L_yes (j := 3) (dj := 97) (b := true) (S (P_fieldAddr fo_36_2 rfl) ?_) rfl
      refine L_yes (j := 3) (dj := 97) (b := true) (S_load sc_3 rfl (ha7 _ hm10) ?_) rfl
      refine L_yes (j := 3) (dj := 97) (b := true) (S (P_fieldAddr fo_36_2 rfl) ?_) rfl
      refine L_yes (j := 3) (dj := 97) (b := true) (S_load sc_3 rfl (ha7 _ hm10) ?_) rfl
      refine L_yes (j := 3) (dj := 97) (b := true) (S (P_move rfl) ?_) rfl
      refine L_yes (j := 3) (dj := 97) (b := true) (S (P_lenT Tryd.underlying9 rfl) ?_) rfl
      refine L_yes (j := 3) (dj := 97) (b := true) (S (P_add rfl rfl (wI64 (c := ((t.at_ + n : Nat) : Int)) (by omega))) ?_) rfl
      refine L_yes (j := 3) (dj := 97) (b := true) (S (P_sliceT Tryd.underlying9 rfl (bnd_some (j := t.at_) rfl rfl) (bnd_some (j := t.at_ + n) rfl rfl) (by omega) (by omega) hcut2') ?_) rfl
      refine L_yes (j := 3) (dj := 97) (b := true) (S (P_move rfl) ?_) rfl
      refine L_yes (j := 3) (dj := 97) (b := true) (S (P_neT rfl rfl (decide_eq_false (fun h => h rfl))) ?_) rfl
      refine L (S (P_pickT rfl rfl) ?_)
      refine L_nil ?_
      refine then_n ?_
      refine C_false rfl ?_
      refine C_skip ?_
      refine then_n ?_
      refine C_region ?_
      refine L (S (P_fieldAddr fo_36_2 rfl) ?_)
      refine L (S_load sc_3 rfl (ha7 _ hm10) ?_)
      refine L (S (P_move rfl) ?_)
      refine L (S (P_lenT Tryd.underlying9 rfl) ?_)
      refine L (S (P_add rfl rfl (wI64 (c := ((t.at_ + n : Nat) : Int)) (by omega))) ?_)
      refine L (S (P_assign rfl) ?_)
      refine L_nil ?_
      refine blk_n ?_
      refine then_n ?_
      refine C_region ?_
      refine L (S (P_add rfl rfl (wI64 (c := ((i + 1 : Nat) : Int)) (by omega))) ?_)
      refine L (S (P_move rfl) ?_)
      refine L_nil ?_
      refine then_n ?_
      obtain ⟨d1, d2, d3, f', d4⟩ := hdn _ hm10
      exact ⟨rfl, (i + 1, t.at_ + n, f'), (.cons rfl (.cons rfl (.cons rfl (.cons rfl (.cons rfl (.cons rfl (.nil _))))))), ⟨d1, d2, d3, d4⟩, by dsimp only; omega⟩
  · refine C_seq ?_
    refine C_region ?_
    refine L (S (P_lt rfl rfl (decide_eq_false (by omega))) ?_)
    refine L_nil ?_
    refine then_n ?_
    refine C_seq ?_
    refine C_false rfl ?_
    refine C_exit ?_
    refine then_x ?_
    refine then_x ?_
    refine blk_x ?_
    refine then_n ?_
    refine C_seq ?_
    refine C_region ?_
    refine L (S (P_move rfl) ?_)
    refine L (S (P_move rfl) ?_)
    refine L (S (P_lenT Tryd.underlying9 rfl) ?_)
    refine L (S (P_eq rfl rfl (decide_eq_true (by omega))) ?_)
    refine L (S (P_assign rfl) ?_)
    refine L_nil ?_
    refine then_n ?_
    refine C_ret ?_
    refine F_ret1 Tryd.results5 rfl ?_
    exact ⟨rfl, hm02.no hmr⟩
end
end Go.Proofs.YtmfogoehocjedaaDoor
