import Derived.Test.YtmfogoehocjedaaGreatDoorLRefE
import Derived.Test.YtmfogoehocjedaaGreatDoorLLives
import Derived.Test.YtmfogoehocjedaaGreatDoorFPF
import Derived.Test.YtmfogoehocjedaaGreatDoorRowVars
namespace Go.Proofs.YtmfogoehocjedaaGreatDoor
open Go.RowKit
set_option maxRecDepth 20000

theorem bs_self (s : ByteArray) : (s == s) = true := by
  cases s with | mk d => exact beq_self_eq_true d
/-- What Lex says of a text: the words, a place, an error. -/
def lxR (big : List UInt8 → Bool) (l : List UInt8) (most : Int) : List Tk × Nat × Nat :=
  if most < l.length then ([], 0, 4) else
  match (lexA big l).2 with
  | none => ((lexA big l).1, 0, 0)
  | some (a, e) => ([], a, e)
def ResOut (w : World) (v : Value) (r : List Tk × Nat × Nat) : Prop := ∃ A c, v = .tuple #[.slice A r.1.length c, .int .i64 (r.2.1 : Int), .int .i64 (r.2.2 : Int)] ∧ SlR w A (flat r.1)
theorem res_of {big : List UInt8 → Bool} {l : List UInt8} {most : Int} {v : Value} {w : World} (h : if most < l.length then v = .tuple #[.slice none 0 0, .int .i64 0, .int .i64 4] else LexOut w v (lexA big l)) : ResOut w v (lxR big l most) := by
  unfold lxR
  split at h
  · rename_i hm
    rw [if_pos hm]
    exact ⟨none, 0, h, .inl rfl⟩
  · rename_i hm
    rw [if_neg hm]
    unfold LexOut at h
    cases hx : (lexA big l).2 with
    | none =>
      rw [hx] at h
      obtain ⟨A, c, h1, h2, _⟩ := h
      exact ⟨A, c, h1, h2⟩
    | some x =>
      rw [hx] at h
      exact ⟨none, 0, h, .inl rfl⟩
theorem flat_at : ∀ (l : List Tk) (i : Nat) (t : Tk), l[i]? = some t → ((flat l).drop (3 * i)).take 3 = tkC t.kind t.s t.at_
  | [], i, t, h => by simp at h
  | x :: r, 0, t, h => by
    have : x = t := by simpa using h
    subst this
    simp [flat, tkC]
  | x :: r, i + 1, t, h => by
    have ih := flat_at r i t (by simpa using h)
    rw [show 3 * (i + 1) = 3 + 3 * i by omega, ← List.drop_drop]
    have e : (flat (x :: r)).drop 3 = flat r := by simp [flat, tkC]
    rw [e]
    exact ih
theorem lexF_len {big : List UInt8 → Bool} : ∀ f l a, (lexF big f l a).1.length ≤ f
  | 0, _, _ => Nat.le_refl _
  | f + 1, l, a => by
    cases h : nextF big (l.drop (spanB blN l)) with
    | er e => rw [lexF_er h]; exact Nat.zero_le _
    | ok k s n =>
      by_cases hk : k = 0
      · subst hk
        rw [lexF_end h]
        exact Nat.le_add_left 1 f
      · rw [lexF_ok h hk]
        have := lexF_len (big := big) f (l.drop (spanB blN l + n)) (a + spanB blN l + n)
        rw [List.length_cons]
        omega
theorem lxR_len (big : List UInt8 → Bool) (l : List UInt8) (most : Int) : (lxR big l most).1.length ≤ l.length + 1 := by
  unfold lxR
  split
  · exact Nat.zero_le _
  · split
    · exact lexF_len _ _ _
    · exact Nat.zero_le _
theorem inT_len {l : List UInt8} (h : l.length ≤ 100000) : InT (fun x => x.length ≤ 100000) l := fun x hx _ => Nat.le_trans hx.length_le h
section
variable {w : World}
theorem lexReads_ret (hv : Vr w) (l : List UInt8) (hl : l.length < 9223372036854775808) (most : Int) : Ret Tryz.prog 3 [.string (str l), .int .i64 most] w fun v w' => v = .bool true ∧ Mv No w w' := by
  have hsz := str_size l
  have hli := fun w' (h : Mv No w w') => lives_ret (hv.no h).mx
  refine F_enter Tryz.func3 Tryz.ntmps3 rfl rfl ?_
  by_cases h1500 : 1500 < l.length
  · refine C_seq ?_
    refine C_region ?_
    refine L (S (P_assign rfl) ?_)
    refine L_nil ?_
    refine then_n ?_
    refine C_seq ?_
    refine C_seq ?_
    refine C_region ?_
    refine L (S_call cb_4 rfl ((hli _ (Mv.refl w))) ?_)
    rintro _ w1 ⟨rfl, hm1⟩
    refine L (S (P_not rfl rfl) ?_)
    refine L (S (P_move rfl) ?_)
    refine L_yes (j := 2) (dj := 15) (b := false) (S (P_move rfl) ?_) rfl
    refine L_yes (j := 2) (dj := 15) (b := false) (S (P_lenT Tryz.underlying9 rfl) ?_) rfl
    refine L_yes (j := 2) (dj := 15) (b := false) (S (P_gt rfl rfl (decide_eq_true (by omega))) ?_) rfl
    refine L (S (P_pickF rfl rfl) ?_)
    refine L_nil ?_
    refine then_n ?_
    refine C_true rfl ?_
    refine C_seq ?_
    refine C_region ?_
    refine L (S_call cb_4 rfl ((hli _ hm1)) ?_)
    rintro _ w2 ⟨rfl, hm2⟩
    refine L (S (P_assign rfl) ?_)
    refine L_nil ?_
    refine then_n ?_
    refine C_ret ?_
    refine then_r ?_
    refine F_ret1 Tryz.results3 rfl ?_
    exact ⟨rfl, hm1.no hm2⟩
  have hA := fun w' (h : Mv No w w') => (lex_ret pf_all (hv.no h) l (inT_len (by omega)) (by omega) most).mono fun v w'' ⟨h1, h2⟩ => (⟨res_of h1, h2⟩ : ResOut w'' v (lxR bigF l most) ∧ Mv No w' w'')
  have hB := fun w' (h : Mv No w w') => (reflex_ret pf_all (hv.no h) l (inT_len (by omega)) (by omega) most).mono fun v w'' ⟨h1, h2⟩ => (⟨res_of h1, h2⟩ : ResOut w'' v (lxR bigF l most) ∧ Mv No w' w'')
  have hsl := lxR_len bigF l most
  generalize lxR bigF l most = r at *
  obtain ⟨toks, a, e⟩ := r
  dsimp only at *
  refine C_seq ?_
  refine C_region ?_
  refine L (S (P_assign rfl) ?_)
  refine L_nil ?_
  refine then_n ?_
  refine C_seq ?_
  refine C_seq ?_
  refine C_region ?_
  refine L (S_call cb_4 rfl ((hli _ (Mv.refl w))) ?_)
  rintro _ w1 ⟨rfl, hm1⟩
  refine L (S (P_not rfl rfl) ?_)
  refine L (S (P_move rfl) ?_)
  refine L_yes (j := 2) (dj := 15) (b := false) (S (P_move rfl) ?_) rfl
  refine L_yes (j := 2) (dj := 15) (b := false) (S (P_lenT Tryz.underlying9 rfl) ?_) rfl
  refine L_yes (j := 2) (dj := 15) (b := false) (S (P_gt rfl rfl (decide_eq_false (by omega))) ?_) rfl
  refine L (S (P_pickF rfl rfl) ?_)
  refine L_nil ?_
  refine then_n ?_
  refine C_false rfl ?_
  refine C_skip ?_
  refine then_n ?_
  refine C_seq ?_
  refine C_region ?_
  refine L (S (P_move rfl) ?_)
  refine L (S (P_move rfl) ?_)
  refine L (S_call cb_5 rfl ((hA _ hm1)) ?_)
  rintro _ w2 ⟨⟨A, c, rfl, hA2⟩, hm2⟩
  refine L (S (P_move rfl) ?_)
  refine L (S (P_extract rfl rfl) ?_)
  refine L (S (P_extract rfl rfl) ?_)
  refine L (S (P_extract rfl rfl) ?_)
  refine L (S (P_assign rfl) ?_)
  refine L (S (P_assign rfl) ?_)
  refine L (S (P_assign rfl) ?_)
  refine L_nil ?_
  refine then_n ?_
  refine C_seq ?_
  refine C_region ?_
  refine L (S (P_move rfl) ?_)
  refine L (S (P_move rfl) ?_)
  refine L (S_call cb_6 rfl ((hB _ (hm1.no hm2))) ?_)
  rintro _ w3 ⟨⟨B, d, rfl, hB3⟩, hm3⟩
  refine L (S (P_move rfl) ?_)
  refine L (S (P_extract rfl rfl) ?_)
  refine L (S (P_extract rfl rfl) ?_)
  refine L (S (P_extract rfl rfl) ?_)
  refine L (S (P_assign rfl) ?_)
  refine L (S (P_assign rfl) ?_)
  refine L (S (P_assign rfl) ?_)
  refine L_nil ?_
  refine then_n ?_
  refine C_seq ?_
  refine C_seq ?_
  refine C_region ?_
  refine L (S (P_move rfl) ?_)
  refine L (S (P_move rfl) ?_)
  refine L (S (P_ne rfl rfl (decide_eq_false (fun h => h rfl))) ?_)
  refine L (S (P_move rfl) ?_)
  refine L_yes (j := 3) (dj := 38) (b := false) (S (P_move rfl) ?_) rfl
  refine L_yes (j := 3) (dj := 38) (b := false) (S (P_move rfl) ?_) rfl
  refine L_yes (j := 3) (dj := 38) (b := false) (S (P_ne rfl rfl (decide_eq_false (fun h => h rfl))) ?_) rfl
  refine L (S (P_pickF rfl rfl) ?_)
  refine L (S (P_move rfl) ?_)
  refine L_yes (j := 8) (dj := 43) (b := false) (S (P_move rfl) ?_) rfl
  refine L_yes (j := 8) (dj := 43) (b := false) (S (P_lenS Tryz.underlying23 rfl) ?_) rfl
  refine L_yes (j := 8) (dj := 43) (b := false) (S (P_move rfl) ?_) rfl
  refine L_yes (j := 8) (dj := 43) (b := false) (S (P_lenS Tryz.underlying23 rfl) ?_) rfl
  refine L_yes (j := 8) (dj := 43) (b := false) (S (P_ne rfl rfl (decide_eq_false (fun h => h rfl))) ?_) rfl
  refine L (S (P_pickF rfl rfl) ?_)
  refine L_nil ?_
  refine then_n ?_
  refine C_false rfl ?_
  refine C_skip ?_
  refine then_n ?_
  refine C_seq ?_
  refine C_seq ?_
  refine C_region ?_
  refine L (S (P_move rfl) ?_)
  refine L (S (P_lenS Tryz.underlying23 rfl) ?_)
  refine L (S (P_move rfl) ?_)
  refine L_nil ?_
  refine then_n ?_
  refine C_block ?_
  have hA3 := hA2.no hm3
  have hm03 := (hm1.no hm2).no hm3
  clear hA hB hA2
  dsimp only at hA3 hB3
  refine C_loop (γ := Nat) (fun i => [(8, .slice B toks.length d), (50, .slice A toks.length c), (51, .int .i64 (toks.length : Int)), (52, .int .i64 (i : Int))]) (fun i wr => Mv No w3 wr ∧ i ≤ toks.length) (fun i => toks.length - i) 0 (.cons rfl (.cons rfl (.cons rfl (.cons rfl (.nil _))))) ⟨Mv.refl w3, Nat.zero_le _⟩ ?_
  rintro i wr ⟨hmr, hi⟩
  by_cases hlt : i < toks.length
  · have ht := List.getElem?_eq_getElem hlt
    generalize toks[i] = t at ht
    have hfl := flat_at toks i t ht
    have hlen := flat_len toks
    obtain ⟨ba, oa, rfl, hra⟩ := (hA3.no hmr).form (i := 3 * i) (by omega)
    obtain ⟨bb, ob, rfl, hrb⟩ := (hB3.no hmr).form (i := 3 * i) (by omega)
    have hra' : Row wr ba (oa + 3 * i) (tkC t.kind t.s t.at_) := by rw [← hfl]; exact (hra.drop (3 * i)).take 3
    have hrb' : Row wr bb (ob + 3 * i) (tkC t.kind t.s t.at_) := by rw [← hfl]; exact (hrb.drop (3 * i)).take 3
    refine C_seq ?_
    refine C_region ?_
    refine L (S (P_lt rfl rfl (decide_eq_true (by omega))) ?_)
    refine L_nil ?_
    refine then_n ?_
    refine C_seq ?_
    refine C_true rfl ?_
    refine C_skip ?_
    refine then_n ?_
    refine C_seq ?_
    refine C_block ?_
    refine C_seq ?_
    refine C_region ?_
    refine L (S (P_move rfl) ?_)
    refine L (S (P_indexAddr Tryz.underlying23 (csz_of ti_30) rfl rfl (j := i) rfl (by omega) (p := oa + 3 * i) (by omega)) ?_)
    refine L (S_loadS st_30 rfl hra' rfl ?_)
    refine L (S_alloc (zs := [(.int .i64 0), (.string (ByteArray.mk #[])), (.int .i64 0)]) ti_30 rfl ?_)
    rintro b12 w4 hb12 hm4 hn4
    refine L (S (P_assign rfl) ?_)
    refine L (S_storeS ti_30 rfl rfl (tk_one t.kind t.s t.at_) rfl hb12 (by exact Nat.le_refl 3) ?_)
    rintro w5 hb5 hm5
    refine L_nil ?_
    refine then_n ?_
    refine C_seq ?_
    have hb5' : Blk w5 b12 (tkC t.kind t.s t.at_) 30 := hb5
    have hm45 : Mv No wr w5 := hm4.new hm5 hn4
    have hrb5 := hrb'.no hm45
    refine C_drawQ 6 mixed rfl (fun hH => ?_)
    refine H_pure (i := 0) rfl (PS_loadS st_30 rfl (fun _ h => (hb5'.no h).row) rfl) ?_ (by assumption) (by decide +kernel) (by decide +kernel) (by decide +kernel) (fun _ _ _ _ h => h) rfl rfl rfl
    refine H_pure (i := 1) rfl (PureV.toS (P_move rfl)) ?_ (by assumption) (by decide +kernel) (by decide +kernel) (by decide +kernel) (fun _ _ _ _ h => h) rfl rfl rfl
    refine H_pure (i := 2) rfl (PureV.toS (P_move rfl)) ?_ (by assumption) (by decide +kernel) (by decide +kernel) (by decide +kernel) (fun _ _ _ _ h => h) rfl rfl rfl
    refine H_pure (i := 3) rfl (PureV.toS (P_indexAddr Tryz.underlying23 (csz_of ti_30) rfl rfl (j := i) rfl (by omega) (p := ob + 3 * i) (by omega))) ?_ (by assumption) (by decide +kernel) (by decide +kernel) (by decide +kernel) (fun _ _ _ _ h => h) rfl rfl rfl
    refine H_pure (i := 4) rfl (PS_loadS st_30 rfl (fun _ h => hrb5.no h) rfl) ?_ (by assumption) (by decide +kernel) (by decide +kernel) (by decide +kernel) (fun _ _ _ _ h => h) rfl rfl rfl
    refine H_pure (i := 5) rfl (PureV.toS (P_neTrip (β := false) tripTk rfl rfl ⟨⟨_, rfl⟩, ⟨_, rfl⟩⟩ ⟨⟨_, rfl⟩, ⟨_, rfl⟩⟩ ⟨⟨_, rfl⟩, ⟨_, rfl⟩⟩ (by simp [eqSc, bs_self]))) ?_ (by assumption) (by decide +kernel) (by decide +kernel) (by decide +kernel) (fun _ _ _ _ h => h) rfl rfl rfl
    refine H_done (by decide +kernel) ?_
    refine then_n ?_
    refine C_false rfl ?_
    refine C_skip ?_
    refine blk_n ?_
    refine then_n ?_
    refine C_region ?_
    refine L (S (P_add rfl rfl (wI64 (c := ((i + 1 : Nat) : Int)) (by omega))) ?_)
    refine L (S (P_move rfl) ?_)
    refine L_nil ?_
    refine then_n ?_
    exact ⟨rfl, i + 1, (.cons rfl (.cons rfl (.cons rfl (.cons rfl (.nil _))))), ⟨(hmr.no hm45).no hH, by omega⟩, by omega⟩
  · refine C_seq ?_
    refine C_region ?_
    refine L (S (P_lt rfl rfl (decide_eq_false (by omega))) ?_)
    refine L_nil ?_
    refine then_n ?_
    refine C_seq ?_
    refine C_false rfl ?_
    refine C_exit ?_
    refine then_x ?_
    refine then_x ?_
    refine blk_x ?_
    refine then_n ?_
    refine C_seq ?_
    refine C_region ?_
    refine L (S (P_assign rfl) ?_)
    refine L_nil ?_
    refine then_n ?_
    refine C_ret ?_
    refine F_ret1 Tryz.results3 rfl ?_
    exact ⟨rfl, hm03.no hmr⟩
end
end Go.Proofs.YtmfogoehocjedaaGreatDoor
