import Derived.Test.YtmfogoehocjedaaDoorLBehindP
import Derived.Test.YtmfogoehocjedaaDoorLPlacesL
namespace Go.Proofs.YtmfogoehocjedaaDoor
open Go.RowKit
set_option maxRecDepth 20000

theorem out_any {big : List UInt8 → Bool} {l : List UInt8} {most : Int} {v : Value} {w : World} (h : if most < l.length then v = .tuple #[.slice none 0 0, .int .i64 0, .int .i64 4] else LexOut w v (lexA big l)) : ∃ A n c a e, v = .tuple #[.slice A n c, .int .i64 a, .int .i64 e] := by
  split at h
  · exact ⟨_, _, _, _, _, h⟩
  · unfold LexOut at h
    cases hx : (lexA big l).2 with
    | none => rw [hx] at h; obtain ⟨A, c, h1, _⟩ := h; exact ⟨_, _, _, _, _, h1⟩
    | some x => rw [hx] at h; exact ⟨_, _, _, _, _, h⟩
section
variable {w : World}
set_option maxHeartbeats 2000000 in
theorem lexBehind_ret (hv : Vr w) (l more : List UInt8) (hl : l.length < 9223372036854775808) (hl2 : more.length < 9223372036854775808) : Ret Tryd.prog 6 [.string (str l), .string (str more)] w fun v w' => v = .bool true ∧ Mv No w w' := by
  have hsz := str_size l
  have hsz2 := str_size more
  have hli := fun w' (h : Mv No w w') => lives_ret (hv.no h).mx
  refine F_enter Tryd.func6 Tryd.ntmps6 rfl rfl ?_
  by_cases h1 : 500 < l.length
  · refine C_seq ?_
    refine C_region ?_
    refine L (S (P_assign rfl) ?_)
    refine L_nil ?_
    refine then_n ?_
    refine C_seq ?_
    refine C_seq ?_
    refine C_region ?_
    refine L (S_call cb_7 rfl ((hli _ (Mv.refl w))) ?_)
    rintro _ w1 ⟨rfl, hm1⟩
    refine L (S (P_not rfl rfl) ?_)
    refine L (S (P_move rfl) ?_)
    refine L_yes (j := 2) (dj := 15) (b := false) (S (P_move rfl) ?_) rfl
    refine L_yes (j := 2) (dj := 15) (b := false) (S (P_lenT Tryd.underlying9 rfl) ?_) rfl
    refine L_yes (j := 2) (dj := 15) (b := false) (S (P_gt rfl rfl (decide_eq_true (by omega))) ?_) rfl
    refine L (S (P_pickF rfl rfl) ?_)
    refine L (S (P_move rfl) ?_)
    refine L_no (j := 7) (dj := 20) (b := false) (b' := true) (d := 21) rfl ?_
    refine L_no (j := 7) (dj := 20) (b := false) (b' := true) (d := 22) rfl ?_
    refine L_no (j := 7) (dj := 20) (b := false) (b' := true) (d := 23) rfl ?_
    refine L (S (P_pickT rfl rfl) ?_)
    refine L_nil ?_
    refine then_n ?_
    refine C_true rfl ?_
    refine C_seq ?_
    refine C_region ?_
    refine L (S_call cb_7 rfl ((hli _ hm1)) ?_)
    rintro _ w2 ⟨rfl, hm2⟩
    refine L (S (P_assign rfl) ?_)
    refine L_nil ?_
    refine then_n ?_
    refine C_ret ?_
    refine then_r ?_
    refine F_ret1 Tryd.results6 rfl ?_
    exact ⟨rfl, hm1.no hm2⟩
  by_cases h2 : 500 < more.length
  · refine C_seq ?_
    refine C_region ?_
    refine L (S (P_assign rfl) ?_)
    refine L_nil ?_
    refine then_n ?_
    refine C_seq ?_
    refine C_seq ?_
    refine C_region ?_
    refine L (S_call cb_7 rfl ((hli _ (Mv.refl w))) ?_)
    rintro _ w1 ⟨rfl, hm1⟩
    refine L (S (P_not rfl rfl) ?_)
    refine L (S (P_move rfl) ?_)
    refine L_yes (j := 2) (dj := 15) (b := false) (S (P_move rfl) ?_) rfl
    refine L_yes (j := 2) (dj := 15) (b := false) (S (P_lenT Tryd.underlying9 rfl) ?_) rfl
    refine L_yes (j := 2) (dj := 15) (b := false) (S (P_gt rfl rfl (decide_eq_false (by omega))) ?_) rfl
    refine L (S (P_pickF rfl rfl) ?_)
    refine L (S (P_move rfl) ?_)
    refine L_yes (j := 7) (dj := 20) (b := false) (S (P_move rfl) ?_) rfl
    refine L_yes (j := 7) (dj := 20) (b := false) (S (P_lenT Tryd.underlying9 rfl) ?_) rfl
    refine L_yes (j := 7) (dj := 20) (b := false) (S (P_gt rfl rfl (decide_eq_true (by omega))) ?_) rfl
    refine L (S (P_pickF rfl rfl) ?_)
    refine L_nil ?_
    refine then_n ?_
    refine C_true rfl ?_
    refine C_seq ?_
    refine C_region ?_
    refine L (S_call cb_7 rfl ((hli _ hm1)) ?_)
    rintro _ w2 ⟨rfl, hm2⟩
    refine L (S (P_assign rfl) ?_)
    refine L_nil ?_
    refine then_n ?_
    refine C_ret ?_
    refine then_r ?_
    refine F_ret1 Tryd.results6 rfl ?_
    exact ⟨rfl, hm1.no hm2⟩
  have hlen2 : (l ++ 10 :: more).length ≤ 1001 := by rw [List.length_append, List.length_cons]; omega
  have hstr : str l ++ str [10] ++ str more = str (l ++ 10 :: more) := by rw [str_append, str_append, List.append_assoc]; rfl
  have hbeh := lexF_behind (big := bigF) (c := 10) (rest := more) (by decide) (l.length + 1) l 0 ((l ++ 10 :: more).length + 1) (by omega) (by omega)
  have hlenA := lexF_len (big := bigF) (l.length + 1) l 0
  have hlenB := lexF_len (big := bigF) ((l ++ 10 :: more).length + 1) (l ++ 10 :: more) 0
  cases hx : lexA bigF l with
  | mk toks o =>
  cases hy : lexA bigF (l ++ 10 :: more) with
  | mk m p =>
  have hlx : lexF bigF (l.length + 1) l 0 = (toks, o) := hx
  have hly : lexF bigF ((l ++ 10 :: more).length + 1) (l ++ 10 :: more) 0 = (m, p) := hy
  rw [hlx, hly] at hbeh
  rw [hlx] at hlenA
  rw [hly] at hlenB
  have hszA : (str l ++ str [10]).size = l.length + 1 := by rw [str_append, str_size, List.length_append]; rfl
  cases o with
  | some q =>
    obtain ⟨x, e⟩ := q
    have hpos := lex_er_pos (big := bigF) (l.length + 1) l 0 x e (by omega) (by rw [hlx])
    have hB := fun w' (h : Mv No w w') => lex_bad pf_all (hv.no h) l (inT_len (by omega)) (by omega) (most := 500) (by omega) hx
    by_cases he10 : e = 10
    · subst he10
      have hC := fun w' (h : Mv No w w') => (lex_ret pf_all (hv.no h) (l ++ 10 :: more) (inT_len (by omega)) (by omega) 1001).mono fun v w'' ⟨h1, h2⟩ => (⟨out_any h1, h2⟩ : (∃ A n c a e, v = Value.tuple #[Value.slice A n c, Value.int .i64 a, Value.int .i64 e]) ∧ Mv No w' w'')
      rw [← hstr] at hC
      refine C_seq ?_
      refine C_region ?_
      refine L (S (P_assign rfl) ?_)
      refine L_nil ?_
      refine then_n ?_
      refine C_seq ?_
      refine C_seq ?_
      refine C_region ?_
      refine L (S_call cb_7 rfl ((hli _ (Mv.refl w))) ?_)
      rintro _ w1 ⟨rfl, hm1⟩
      refine L (S (P_not rfl rfl) ?_)
      refine L (S (P_move rfl) ?_)
      refine L_yes (j := 2) (dj := 15) (b := false) (S (P_move rfl) ?_) rfl
      refine L_yes (j := 2) (dj := 15) (b := false) (S (P_lenT Tryd.underlying9 rfl) ?_) rfl
      refine L_yes (j := 2) (dj := 15) (b := false) (S (P_gt rfl rfl (decide_eq_false (by omega))) ?_) rfl
      refine L (S (P_pickF rfl rfl) ?_)
      refine L (S (P_move rfl) ?_)
      refine L_yes (j := 7) (dj := 20) (b := false) (S (P_move rfl) ?_) rfl
      refine L_yes (j := 7) (dj := 20) (b := false) (S (P_lenT Tryd.underlying9 rfl) ?_) rfl
      refine L_yes (j := 7) (dj := 20) (b := false) (S (P_gt rfl rfl (decide_eq_false (by omega))) ?_) rfl
      refine L (S (P_pickF rfl rfl) ?_)
      refine L_nil ?_
      refine then_n ?_
      refine C_false rfl ?_
      refine C_skip ?_
      refine then_n ?_
      refine C_seq ?_
      refine C_region ?_
      refine L (S (P_move rfl) ?_)
      refine L (S_call cb_11 rfl ((hB _ hm1)) ?_)
      rintro _ w2 ⟨rfl, hm2⟩
      refine L (S (P_move rfl) ?_)
      refine L (S (P_extract rfl rfl) ?_)
      refine L (S (P_extract rfl rfl) ?_)
      refine L (S (P_extract rfl rfl) ?_)
      refine L (S (P_assign rfl) ?_)
      refine L (S (P_assign rfl) ?_)
      refine L (S (P_assign rfl) ?_)
      refine L_nil ?_
      refine then_n ?_
      refine C_seq ?_
      refine C_region ?_
      refine L (S (P_move rfl) ?_)
      refine L (S (P_addT rfl rfl (by rw [hsz]; show l.length + 1 ≤ _; omega)) ?_)
      refine L (S (P_move rfl) ?_)
      refine L (S (P_addT rfl rfl (by show (str l ++ str [10]).size + _ ≤ _; rw [hszA, hsz2]; omega)) ?_)
      refine L (S_call cb_11 rfl ((hC _ (hm1.no hm2))) ?_)
      rintro _ w3 ⟨⟨A, n, c, y, g, rfl⟩, hm3⟩
      refine L (S (P_move rfl) ?_)
      refine L (S (P_extract rfl rfl) ?_)
      refine L (S (P_extract rfl rfl) ?_)
      refine L (S (P_extract rfl rfl) ?_)
      refine L (S (P_assign rfl) ?_)
      refine L (S (P_assign rfl) ?_)
      refine L (S (P_assign rfl) ?_)
      refine L_nil ?_
      refine then_n ?_
      refine C_seq ?_
      refine C_seq ?_
      refine C_region ?_
      refine L (S (P_move rfl) ?_)
      refine L (S (P_eq rfl rfl (decide_eq_true (by omega))) ?_)
      refine L_nil ?_
      refine then_n ?_
      refine C_true rfl ?_
      refine C_seq ?_
      refine C_region ?_
      refine L (S (P_assign rfl) ?_)
      refine L_nil ?_
      refine then_n ?_
      refine C_ret ?_
      refine then_r ?_
      refine F_ret1 Tryd.results6 rfl ?_
      exact ⟨rfl, (hm1.no hm2).no hm3⟩
    · have hp : p = some (x, e) := hbeh.2 x e rfl he10
      subst hp
      have hC := fun w' (h : Mv No w w') => lex_bad pf_all (hv.no h) (l ++ 10 :: more) (inT_len (by omega)) (by omega) (most := 1001) (by omega) hy
      rw [← hstr] at hC
      refine C_seq ?_
      refine C_region ?_
      refine L (S (P_assign rfl) ?_)
      refine L_nil ?_
      refine then_n ?_
      refine C_seq ?_
      refine C_seq ?_
      refine C_region ?_
      refine L (S_call cb_7 rfl ((hli _ (Mv.refl w))) ?_)
      rintro _ w1 ⟨rfl, hm1⟩
      refine L (S (P_not rfl rfl) ?_)
      refine L (S (P_move rfl) ?_)
      refine L_yes (j := 2) (dj := 15) (b := false) (S (P_move rfl) ?_) rfl
      refine L_yes (j := 2) (dj := 15) (b := false) (S (P_lenT Tryd.underlying9 rfl) ?_) rfl
      refine L_yes (j := 2) (dj := 15) (b := false) (S (P_gt rfl rfl (decide_eq_false (by omega))) ?_) rfl
      refine L (S (P_pickF rfl rfl) ?_)
      refine L (S (P_move rfl) ?_)
      refine L_yes (j := 7) (dj := 20) (b := false) (S (P_move rfl) ?_) rfl
      refine L_yes (j := 7) (dj := 20) (b := false) (S (P_lenT Tryd.underlying9 rfl) ?_) rfl
      refine L_yes (j := 7) (dj := 20) (b := false) (S (P_gt rfl rfl (decide_eq_false (by omega))) ?_) rfl
      refine L (S (P_pickF rfl rfl) ?_)
      refine L_nil ?_
      refine then_n ?_
      refine C_false rfl ?_
      refine C_skip ?_
      refine then_n ?_
      refine C_seq ?_
      refine C_region ?_
      refine L (S (P_move rfl) ?_)
      refine L (S_call cb_11 rfl ((hB _ hm1)) ?_)
      rintro _ w2 ⟨rfl, hm2⟩
      refine L (S (P_move rfl) ?_)
      refine L (S (P_extract rfl rfl) ?_)
      refine L (S (P_extract rfl rfl) ?_)
      refine L (S (P_extract rfl rfl) ?_)
      refine L (S (P_assign rfl) ?_)
      refine L (S (P_assign rfl) ?_)
      refine L (S (P_assign rfl) ?_)
      refine L_nil ?_
      refine then_n ?_
      refine C_seq ?_
      refine C_region ?_
      refine L (S (P_move rfl) ?_)
      refine L (S (P_addT rfl rfl (by rw [hsz]; show l.length + 1 ≤ _; omega)) ?_)
      refine L (S (P_move rfl) ?_)
      refine L (S (P_addT rfl rfl (by show (str l ++ str [10]).size + _ ≤ _; rw [hszA, hsz2]; omega)) ?_)
      refine L (S_call cb_11 rfl ((hC _ (hm1.no hm2))) ?_)
      rintro _ w3 ⟨rfl, hm3⟩
      refine L (S (P_move rfl) ?_)
      refine L (S (P_extract rfl rfl) ?_)
      refine L (S (P_extract rfl rfl) ?_)
      refine L (S (P_extract rfl rfl) ?_)
      refine L (S (P_assign rfl) ?_)
      refine L (S (P_assign rfl) ?_)
      refine L (S (P_assign rfl) ?_)
      refine L_nil ?_
      refine then_n ?_
      refine C_seq ?_
      refine C_seq ?_
      refine C_region ?_
      refine L (S (P_move rfl) ?_)
      refine L (S (P_eq rfl rfl (decide_eq_false (by omega))) ?_)
      refine L_nil ?_
      refine then_n ?_
      refine C_false rfl ?_
      refine C_skip ?_
      refine then_n ?_
      refine C_seq ?_
      refine C_seq ?_
      refine C_region ?_
      refine L (S (P_move rfl) ?_)
      refine L (S (P_ne rfl rfl (decide_eq_true (by omega))) ?_)
      refine L_nil ?_
      refine then_n ?_
      refine C_true rfl ?_
      refine C_seq ?_
      refine C_region ?_
      refine L (S (P_move rfl) ?_)
      refine L (S (P_move rfl) ?_)
      refine L (S (P_eq rfl rfl (decide_eq_true rfl)) ?_)
      refine L (S (P_move rfl) ?_)
      refine L_yes (j := 3) (dj := 48) (b := true) (S (P_move rfl) ?_) rfl
      refine L_yes (j := 3) (dj := 48) (b := true) (S (P_move rfl) ?_) rfl
      refine L_yes (j := 3) (dj := 48) (b := true) (S (P_eq rfl rfl (decide_eq_true rfl)) ?_) rfl
      refine L (S (P_pickT rfl rfl) ?_)
      refine L (S (P_assign rfl) ?_)
      refine L_nil ?_
      refine then_n ?_
      refine C_ret ?_
      refine then_r ?_
      refine F_ret1 Tryd.results6 rfl ?_
      exact ⟨rfl, (hm1.no hm2).no hm3⟩
  | none =>
    have hB := fun w' (h : Mv No w w') => lex_ok pf_all (hv.no h) l (inT_len (by omega)) (by omega) (most := 500) (by omega) hx
    cases p with
    | some q =>
      obtain ⟨y, g⟩ := q
      have hpos := lex_er_pos (big := bigF) ((l ++ 10 :: more).length + 1) (l ++ 10 :: more) 0 y g (by omega) (by rw [hly])
      have hgt := (hbeh.1 toks rfl).2 y g rfl
      have hC := fun w' (h : Mv No w w') => lex_bad pf_all (hv.no h) (l ++ 10 :: more) (inT_len (by omega)) (by omega) (most := 1001) (by omega) hy
      rw [← hstr] at hC
      refine C_seq ?_
      refine C_region ?_
      refine L (S (P_assign rfl) ?_)
      refine L_nil ?_
      refine then_n ?_
      refine C_seq ?_
      refine C_seq ?_
      refine C_region ?_
      refine L (S_call cb_7 rfl ((hli _ (Mv.refl w))) ?_)
      rintro _ w1 ⟨rfl, hm1⟩
      refine L (S (P_not rfl rfl) ?_)
      refine L (S (P_move rfl) ?_)
      refine L_yes (j := 2) (dj := 15) (b := false) (S (P_move rfl) ?_) rfl
      refine L_yes (j := 2) (dj := 15) (b := false) (S (P_lenT Tryd.underlying9 rfl) ?_) rfl
      refine L_yes (j := 2) (dj := 15) (b := false) (S (P_gt rfl rfl (decide_eq_false (by omega))) ?_) rfl
      refine L (S (P_pickF rfl rfl) ?_)
      refine L (S (P_move rfl) ?_)
      refine L_yes (j := 7) (dj := 20) (b := false) (S (P_move rfl) ?_) rfl
      refine L_yes (j := 7) (dj := 20) (b := false) (S (P_lenT Tryd.underlying9 rfl) ?_) rfl
      refine L_yes (j := 7) (dj := 20) (b := false) (S (P_gt rfl rfl (decide_eq_false (by omega))) ?_) rfl
      refine L (S (P_pickF rfl rfl) ?_)
      refine L_nil ?_
      refine then_n ?_
      refine C_false rfl ?_
      refine C_skip ?_
      refine then_n ?_
      refine C_seq ?_
      refine C_region ?_
      refine L (S (P_move rfl) ?_)
      refine L (S_call cb_11 rfl ((hB _ hm1)) ?_)
      rintro _ w2 ⟨A, c, rfl, hA2, hc2, hm2⟩
      refine L (S (P_move rfl) ?_)
      refine L (S (P_extract rfl rfl) ?_)
      refine L (S (P_extract rfl rfl) ?_)
      refine L (S (P_extract rfl rfl) ?_)
      refine L (S (P_assign rfl) ?_)
      refine L (S (P_assign rfl) ?_)
      refine L (S (P_assign rfl) ?_)
      refine L_nil ?_
      refine then_n ?_
      refine C_seq ?_
      refine C_region ?_
      refine L (S (P_move rfl) ?_)
      refine L (S (P_addT rfl rfl (by rw [hsz]; show l.length + 1 ≤ _; omega)) ?_)
      refine L (S (P_move rfl) ?_)
      refine L (S (P_addT rfl rfl (by show (str l ++ str [10]).size + _ ≤ _; rw [hszA, hsz2]; omega)) ?_)
      refine L (S_call cb_11 rfl ((hC _ (hm1.no hm2))) ?_)
      rintro _ w3 ⟨rfl, hm3⟩
      refine L (S (P_move rfl) ?_)
      refine L (S (P_extract rfl rfl) ?_)
      refine L (S (P_extract rfl rfl) ?_)
      refine L (S (P_extract rfl rfl) ?_)
      refine L (S (P_assign rfl) ?_)
      refine L (S (P_assign rfl) ?_)
      refine L (S (P_assign rfl) ?_)
      refine L_nil ?_
      refine then_n ?_
      refine C_seq ?_
      refine C_seq ?_
      refine C_region ?_
      refine L (S (P_move rfl) ?_)
      refine L (S (P_eq rfl rfl (decide_eq_false (by omega))) ?_)
      refine L_nil ?_
      refine then_n ?_
      refine C_false rfl ?_
      refine C_skip ?_
      refine then_n ?_
      refine C_seq ?_
      refine C_seq ?_
      refine C_region ?_
      refine L (S (P_move rfl) ?_)
      refine L (S (P_ne rfl rfl (decide_eq_false (by omega))) ?_)
      refine L_nil ?_
      refine then_n ?_
      refine C_false rfl ?_
      refine C_skip ?_
      refine then_n ?_
      refine C_seq ?_
      refine C_seq ?_
      refine C_region ?_
      refine L (S (P_move rfl) ?_)
      refine L (S (P_ne rfl rfl (decide_eq_true (by omega))) ?_)
      refine L_nil ?_
      refine then_n ?_
      refine C_true rfl ?_
      refine C_seq ?_
      refine C_region ?_
      refine L (S (P_move rfl) ?_)
      refine L (S (P_move rfl) ?_)
      refine L (S (P_lenT Tryd.underlying9 rfl) ?_)
      refine L (S (P_gt rfl rfl (decide_eq_true (by omega))) ?_)
      refine L (S (P_assign rfl) ?_)
      refine L_nil ?_
      refine then_n ?_
      refine C_ret ?_
      refine then_r ?_
      refine F_ret1 Tryd.results6 rfl ?_
      exact ⟨rfl, (hm1.no hm2).no hm3⟩
    | none =>
      obtain ⟨hle, hsame⟩ := (hbeh.1 toks rfl).1 m rfl
      have hne : 0 < toks.length := by
        have := lexF_ne (big := bigF) (f := l.length + 1) (a := 0) (l := l) (by rw [hlx])
        rw [hlx] at this
        exact List.length_pos_iff.2 this
      have hC := fun w' (h : Mv No w w') => lex_ok pf_all (hv.no h) (l ++ 10 :: more) (inT_len (by omega)) (by omega) (most := 1001) (by omega) hy
      rw [← hstr] at hC
      dsimp only at hlenA hlenB
      refine C_seq ?_
      refine C_region ?_
      refine L (S (P_assign rfl) ?_)
      refine L_nil ?_
      refine then_n ?_
      refine C_seq ?_
      refine C_seq ?_
      refine C_region ?_
      refine L (S_call cb_7 rfl ((hli _ (Mv.refl w))) ?_)
      rintro _ w1 ⟨rfl, hm1⟩
      refine L (S (P_not rfl rfl) ?_)
      refine L (S (P_move rfl) ?_)
      refine L_yes (j := 2) (dj := 15) (b := false) (S (P_move rfl) ?_) rfl
      refine L_yes (j := 2) (dj := 15) (b := false) (S (P_lenT Tryd.underlying9 rfl) ?_) rfl
      refine L_yes (j := 2) (dj := 15) (b := false) (S (P_gt rfl rfl (decide_eq_false (by omega))) ?_) rfl
      refine L (S (P_pickF rfl rfl) ?_)
      refine L (S (P_move rfl) ?_)
      refine L_yes (j := 7) (dj := 20) (b := false) (S (P_move rfl) ?_) rfl
      refine L_yes (j := 7) (dj := 20) (b := false) (S (P_lenT Tryd.underlying9 rfl) ?_) rfl
      refine L_yes (j := 7) (dj := 20) (b := false) (S (P_gt rfl rfl (decide_eq_false (by omega))) ?_) rfl
      refine L (S (P_pickF rfl rfl) ?_)
      refine L_nil ?_
      refine then_n ?_
      refine C_false rfl ?_
      refine C_skip ?_
      refine then_n ?_
      refine C_seq ?_
      refine C_region ?_
      refine L (S (P_move rfl) ?_)
      refine L (S_call cb_11 rfl ((hB _ hm1)) ?_)
      rintro _ w2 ⟨A, c, rfl, hA2, hc2, hm2⟩
      refine L (S (P_move rfl) ?_)
      refine L (S (P_extract rfl rfl) ?_)
      refine L (S (P_extract rfl rfl) ?_)
      refine L (S (P_extract rfl rfl) ?_)
      refine L (S (P_assign rfl) ?_)
      refine L (S (P_assign rfl) ?_)
      refine L (S (P_assign rfl) ?_)
      refine L_nil ?_
      refine then_n ?_
      refine C_seq ?_
      refine C_region ?_
      refine L (S (P_move rfl) ?_)
      refine L (S (P_addT rfl rfl (by rw [hsz]; show l.length + 1 ≤ _; omega)) ?_)
      refine L (S (P_move rfl) ?_)
      refine L (S (P_addT rfl rfl (by show (str l ++ str [10]).size + _ ≤ _; rw [hszA, hsz2]; omega)) ?_)
      refine L (S_call cb_11 rfl ((hC _ (hm1.no hm2))) ?_)
      rintro _ w3 ⟨B, d, rfl, hB3, hd3, hm3⟩
      refine L (S (P_move rfl) ?_)
      refine L (S (P_extract rfl rfl) ?_)
      refine L (S (P_extract rfl rfl) ?_)
      refine L (S (P_extract rfl rfl) ?_)
      refine L (S (P_assign rfl) ?_)
      refine L (S (P_assign rfl) ?_)
      refine L (S (P_assign rfl) ?_)
      refine L_nil ?_
      refine then_n ?_
      refine C_seq ?_
      refine C_seq ?_
      refine C_region ?_
      refine L (S (P_move rfl) ?_)
      refine L (S (P_eq rfl rfl (decide_eq_false (by omega))) ?_)
      refine L_nil ?_
      refine then_n ?_
      refine C_false rfl ?_
      refine C_skip ?_
      refine then_n ?_
      refine C_seq ?_
      refine C_seq ?_
      refine C_region ?_
      refine L (S (P_move rfl) ?_)
      refine L (S (P_ne rfl rfl (decide_eq_false (by omega))) ?_)
      refine L_nil ?_
      refine then_n ?_
      refine C_false rfl ?_
      refine C_skip ?_
      refine then_n ?_
      refine C_seq ?_
      refine C_seq ?_
      refine C_region ?_
      refine L (S (P_move rfl) ?_)
      refine L (S (P_ne rfl rfl (decide_eq_false (by omega))) ?_)
      refine L_nil ?_
      refine then_n ?_
      refine C_false rfl ?_
      refine C_skip ?_
      refine then_n ?_
      refine C_seq ?_
      refine C_seq ?_
      refine C_region ?_
      refine L (S (P_move rfl) ?_)
      refine L (S (P_lenS Tryd.underlying31 rfl) ?_)
      refine L (S (P_move rfl) ?_)
      refine L (S (P_lenS Tryd.underlying31 rfl) ?_)
      refine L (S (P_lt rfl rfl (decide_eq_false (by omega))) ?_)
      refine L_nil ?_
      refine then_n ?_
      refine C_false rfl ?_
      refine C_skip ?_
      refine then_n ?_
      refine C_seq ?_
      refine C_seq ?_
      refine C_region ?_
      refine L (S (P_move rfl) ?_)
      refine L (S (P_move rfl) ?_)
      refine L (S (P_lenS Tryd.underlying31 rfl) ?_)
      refine L (S (P_sub rfl rfl (wI64 (c := ((toks.length - 1 : Nat) : Int)) (by omega))) ?_)
      refine L (S (P_slice Tryd.underlying31 (csz_of ti_36) rfl bnd_none (bnd_some (j := toks.length - 1) rfl rfl) (Nat.zero_le _) (by omega)) ?_)
      refine L (S (P_lenS Tryd.underlying31 rfl) ?_)
      refine L (S (P_move rfl) ?_)
      refine L_nil ?_
      refine then_n ?_
      refine C_block ?_
      have hA3 := (hA2.cut (l := 0) (m := 3) (cap := c) (by rw [flat_len]; omega)).no hm3
      rw [Nat.zero_mul, List.drop_zero] at hA3
      generalize cutA A 0 3 c = A' at *
      have hm03 := (hm1.no hm2).no hm3
      refine C_loop (γ := Nat) (fun i => [(8, .slice B m.length d), (68, .slice A' (toks.length - 1 - 0) (c - 0)), (69, .int .i64 ((toks.length - 1 - 0 : Nat) : Int)), (70, .int .i64 (i : Int))]) (fun i wr => Mv No w3 wr ∧ i + 1 ≤ toks.length) (fun i => toks.length - i) 0 (.cons rfl (.cons rfl (.cons rfl (.cons rfl (.nil _))))) ⟨Mv.refl w3, by omega⟩ ?_
      rintro i wr ⟨hmr, hi⟩
      by_cases hlt : i + 1 < toks.length
      · have ht := List.getElem?_eq_getElem (show i < toks.length by omega)
        generalize toks[i] = t at ht
        have htm := hsame i hlt
        rw [ht] at htm
        have hfl := flat_at toks i t ht
        have hfm := flat_at m i t htm
        have hflen := flat_len toks
        have hmlen := flat_len m
        obtain ⟨ba, oa, rfl, hra⟩ := (hA3.no hmr).form (i := 3 * i) (by omega)
        obtain ⟨bb, ob, rfl, hrb⟩ := (hB3.no hmr).form (i := 3 * i) (by omega)
        have hra' : Row wr ba (oa + 3 * i) (tkC t.kind t.s t.at_) := by rw [← hfl]; exact (hra.drop (3 * i)).take 3
        have hrb' : Row wr bb (ob + 3 * i) (tkC t.kind t.s t.at_) := by rw [← hfm]; exact (hrb.drop (3 * i)).take 3
        refine C_seq ?_
        refine C_region ?_
        refine L (S (P_lt rfl rfl (decide_eq_true (by omega))) ?_)
        refine L_nil ?_
        refine then_n ?_
        refine C_seq ?_
        refine C_true rfl ?_
        refine C_skip ?_
        refine then_n ?_
        refine C_seq ?_
        refine C_block ?_
        refine C_seq ?_
        refine C_region ?_
        refine L (S (P_move rfl) ?_)
        refine L (S (P_indexAddr Tryd.underlying31 (csz_of ti_36) rfl rfl (j := i) rfl (by omega) (p := oa + 3 * i) (by omega)) ?_)
        refine L (S_loadS st_36 rfl hra' rfl ?_)
        refine L (S_alloc (zs := [(.int .i64 0), (.string (ByteArray.mk #[])), (.int .i64 0)]) ti_36 rfl ?_)
        rintro b12 w4 hb12 hm4 hn4
        refine L (S (P_assign rfl) ?_)
        refine L (S_storeS ti_36 rfl rfl (tk_one t.kind t.s t.at_) rfl hb12 (by exact Nat.le_refl 3) ?_)
        rintro w5 hb5 hm5
        refine L_nil ?_
        refine then_n ?_
        refine C_seq ?_
        have hb5' : Blk w5 b12 (tkC t.kind t.s t.at_) 36 := hb5
        have hm45 : Mv No wr w5 := hm4.new hm5 hn4
        have hrb5 := hrb'.no hm45
        refine C_drawQ 6 mixed rfl (fun hH => ?_)
        refine H_pure (i := 0) rfl (PureV.toS (P_move rfl)) ?_ (by assumption) (by decide +kernel) (by decide +kernel) (by decide +kernel) (fun _ _ _ _ h => h) rfl rfl rfl
        refine H_pure (i := 1) rfl (PureV.toS (P_move rfl)) ?_ (by assumption) (by decide +kernel) (by decide +kernel) (by decide +kernel) (fun _ _ _ _ h => h) rfl rfl rfl
        refine H_pure (i := 2) rfl (PureV.toS (P_indexAddr Tryd.underlying31 (csz_of ti_36) rfl rfl (j := i) rfl (by omega) (p := ob + 3 * i) (by omega))) ?_ (by assumption) (by decide +kernel) (by decide +kernel) (by decide +kernel) (fun _ _ _ _ h => h) rfl rfl rfl
        refine H_pure (i := 3) rfl (PS_loadS st_36 rfl (fun _ h => hrb5.no h) rfl) ?_ (by assumption) (by decide +kernel) (by decide +kernel) (by decide +kernel) (fun _ _ _ _ h => h) rfl rfl rfl
        refine H_pure (i := 4) rfl (PS_loadS st_36 rfl (fun _ h => (hb5'.no h).row) rfl) ?_ (by assumption) (by decide +kernel) (by decide +kernel) (by decide +kernel) (fun _ _ _ _ h => h) rfl rfl rfl
        refine H_pure (i := 5) rfl (PureV.toS (P_neTrip (β := false) tripTk rfl rfl ⟨⟨_, rfl⟩, ⟨_, rfl⟩⟩ ⟨⟨_, rfl⟩, ⟨_, rfl⟩⟩ ⟨⟨_, rfl⟩, ⟨_, rfl⟩⟩ (by simp [eqSc, bs_self]))) ?_ (by assumption) (by decide +kernel) (by decide +kernel) (by decide +kernel) (fun _ _ _ _ h => h) rfl rfl rfl
        refine H_done (by decide +kernel) ?_
        refine then_n ?_
        refine C_false rfl ?_
        refine C_skip ?_
        refine blk_n ?_
        refine then_n ?_
        refine C_region ?_
        refine L (S (P_add rfl rfl (wI64 (c := ((i + 1 : Nat) : Int)) (by omega))) ?_)
        refine L (S (P_move rfl) ?_)
        refine L_nil ?_
        refine then_n ?_
        exact ⟨rfl, i + 1, (.cons rfl (.cons rfl (.cons rfl (.cons rfl (.nil _))))), ⟨(hmr.no hm45).no hH, by omega⟩, by omega⟩
      · refine C_seq ?_
        refine C_region ?_
        refine L (S (P_lt rfl rfl (decide_eq_false (by omega))) ?_)
        refine L_nil ?_
        refine then_n ?_
        refine C_seq ?_
        refine C_false rfl ?_
        refine C_exit ?_
        refine then_x ?_
        refine then_x ?_
        refine blk_x ?_
        refine then_n ?_
        refine C_seq ?_
        refine C_region ?_
        refine L (S (P_assign rfl) ?_)
        refine L_nil ?_
        refine then_n ?_
        refine C_ret ?_
        refine F_ret1 Tryd.results6 rfl ?_
        exact ⟨rfl, hm03.no hmr⟩
end
end Go.Proofs.YtmfogoehocjedaaDoor
