import Derived.Test.YtnoioimphcmeiaaGreatDoorLRefE
import Derived.Test.YtnoioimphcmeiaaGreatDoorFPF
import Derived.Test.YtnoioimphcmeiaaGreatDoorRowVars
namespace Go.Proofs.YtnoioimphcmeiaaGreatDoor
open Go.RowKit
set_option maxRecDepth 20000

theorem bs_self (s : ByteArray) : (s == s) = true := by
  cases s with | mk d => exact beq_self_eq_true d
theorem inT_len {l : List UInt8} (h : l.length ≤ 100000) : InT (fun x => x.length ≤ 100000) l := fun x hx _ => Nat.le_trans hx.length_le h
/-- What Lex says of a text: the words, a place, an error. -/
def lxR (big : List UInt8 → Bool) (l : List UInt8) (most : Int) : List Tk × Nat × Nat :=
  if most < l.length then ([], 0, 4) else
  match (lexA big l).2 with
  | none => ((lexA big l).1, 0, 0)
  | some (a, e) => ([], a, e)
def ResOut (w : World) (v : Value) (r : List Tk × Nat × Nat) : Prop := ∃ A c, v = .tuple #[.slice A r.1.length c, .int .i64 (r.2.1 : Int), .int .i64 (r.2.2 : Int)] ∧ SlR w A (flat r.1)
theorem res_of {big : List UInt8 → Bool} {l : List UInt8} {most : Int} {v : Value} {w : World} (h : if most < l.length then v = .tuple #[.slice none 0 0, .int .i64 0, .int .i64 4] else LexOut w v (lexA big l)) : ResOut w v (lxR big l most) := by
  unfold lxR
  split at h
  · rename_i hm
    rw [if_pos hm]
    exact ⟨none, 0, h, .inl rfl⟩
  · rename_i hm
    rw [if_neg hm]
    unfold LexOut at h
    cases hx : (lexA big l).2 with
    | none =>
      rw [hx] at h
      obtain ⟨A, c, h1, h2, _⟩ := h
      exact ⟨A, c, h1, h2⟩
    | some x =>
      rw [hx] at h
      exact ⟨none, 0, h, .inl rfl⟩
/-- May a text be a name? -/
def nameB (l : List UInt8) : Bool :=
  let r := lxR bigF l 12
  decide (r.2.2 = 0) && decide (r.1.length = 2) && (r.1.head?.any fun t => decide (t.kind = 1) && decide (t.s = l))
theorem str_dec {a b : List UInt8} : decide (str a = str b) = decide (a = b) := decide_eq_decide.2 ⟨str_inj, congrArg str⟩
section
variable {w : World}
theorem name_ret (hv : Vr w) (l : List UInt8) (hl : l.length ≤ 100000) : Ret Tryz.prog 9 [.string (str l)] w fun v w' => v = .bool (nameB l) ∧ Mv No w w' := by
  have hA := (lex_ret pf_all hv l (inT_len hl) hl 12).mono fun v w'' ⟨h1, h2⟩ => (⟨res_of h1, h2⟩ : ResOut w'' v (lxR bigF l 12) ∧ Mv No w w'')
  unfold nameB
  generalize lxR bigF l 12 = r at *
  obtain ⟨toks, a, e⟩ := r
  simp only [ResOut] at hA ⊢
  refine F_enter Tryz.func9 Tryz.ntmps9 rfl rfl ?_
  by_cases he : e = 0
  rotate_left
  · refine C_seq ?_
    refine C_region ?_
    refine L (S (P_assign rfl) ?_)
    refine L_nil ?_
    refine then_n ?_
    refine C_seq ?_
    refine C_region ?_
    refine L (S (P_move rfl) ?_)
    refine L (S_call cb_31 rfl (hA) ?_)
    rintro _ w1 ⟨⟨A, c, rfl, hA1⟩, hm1⟩
    refine L (S (P_move rfl) ?_)
    refine L (S (P_extract rfl rfl) ?_)
    refine L (S (P_extract rfl rfl) ?_)
    refine L (S (P_extract rfl rfl) ?_)
    refine L (S (P_assign rfl) ?_)
    refine L (S (P_assign rfl) ?_)
    refine L (S (P_assign rfl) ?_)
    refine L_nil ?_
    refine then_n ?_
    refine C_seq ?_
    refine C_region ?_
    refine L (S (P_move rfl) ?_)
    refine L (S (P_eq rfl rfl (decide_eq_false (by omega))) ?_)
    refine L (S (P_move rfl) ?_)
    refine L_no (j := 2) (dj := 14) (b := true) (b' := false) (d := 15) rfl ?_
    refine L_no (j := 2) (dj := 14) (b := true) (b' := false) (d := 16) rfl ?_
    refine L_no (j := 2) (dj := 14) (b := true) (b' := false) (d := 17) rfl ?_
    refine L (S (P_pickF rfl rfl) ?_)
    refine L (S (P_move rfl) ?_)
    refine L_no (j := 7) (dj := 19) (b := true) (b' := false) (d := 20) rfl ?_
    refine L_no (j := 7) (dj := 19) (b := true) (b' := false) (d := 21) rfl ?_
    refine L_no (j := 7) (dj := 19) (b := true) (b' := false) (d := 22) rfl ?_
    refine L_no (j := 7) (dj := 19) (b := true) (b' := false) (d := 23) rfl ?_
    refine L_no (j := 7) (dj := 19) (b := true) (b' := false) (d := 24) rfl ?_
    refine L (S (P_pickF rfl rfl) ?_)
    refine L (S (P_move rfl) ?_)
    refine L_no (j := 14) (dj := 26) (b := true) (b' := false) (d := 27) rfl ?_
    refine L_no (j := 14) (dj := 26) (b := true) (b' := false) (d := 28) rfl ?_
    refine L_no (j := 14) (dj := 26) (b := true) (b' := false) (d := 29) rfl ?_
    refine L_no (j := 14) (dj := 26) (b := true) (b' := false) (d := 30) rfl ?_
    refine L_no (j := 14) (dj := 26) (b := true) (b' := false) (d := 31) rfl ?_
    refine L_no (j := 14) (dj := 26) (b := true) (b' := false) (d := 32) rfl ?_
    refine L (S (P_pickF rfl rfl) ?_)
    refine L (S (P_assign rfl) ?_)
    refine L_nil ?_
    refine then_n ?_
    refine C_ret ?_
    refine F_ret1 Tryz.results9 rfl ?_
    exact ⟨by simp [he], hm1⟩
  by_cases h2 : toks.length = 2
  rotate_left
  · refine C_seq ?_
    refine C_region ?_
    refine L (S (P_assign rfl) ?_)
    refine L_nil ?_
    refine then_n ?_
    refine C_seq ?_
    refine C_region ?_
    refine L (S (P_move rfl) ?_)
    refine L (S_call cb_31 rfl (hA) ?_)
    rintro _ w1 ⟨⟨A, c, rfl, hA1⟩, hm1⟩
    refine L (S (P_move rfl) ?_)
    refine L (S (P_extract rfl rfl) ?_)
    refine L (S (P_extract rfl rfl) ?_)
    refine L (S (P_extract rfl rfl) ?_)
    refine L (S (P_assign rfl) ?_)
    refine L (S (P_assign rfl) ?_)
    refine L (S (P_assign rfl) ?_)
    refine L_nil ?_
    refine then_n ?_
    refine C_seq ?_
    refine C_region ?_
    refine L (S (P_move rfl) ?_)
    refine L (S (P_eq rfl rfl (decide_eq_true (by omega))) ?_)
    refine L (S (P_move rfl) ?_)
    refine L_yes (j := 2) (dj := 14) (b := true) (S (P_move rfl) ?_) rfl
    refine L_yes (j := 2) (dj := 14) (b := true) (S (P_lenS Tryz.underlying67 rfl) ?_) rfl
    refine L_yes (j := 2) (dj := 14) (b := true) (S (P_eq rfl rfl (decide_eq_false (by omega))) ?_) rfl
    refine L (S (P_pickT rfl rfl) ?_)
    refine L (S (P_move rfl) ?_)
    refine L_no (j := 7) (dj := 19) (b := true) (b' := false) (d := 20) rfl ?_
    refine L_no (j := 7) (dj := 19) (b := true) (b' := false) (d := 21) rfl ?_
    refine L_no (j := 7) (dj := 19) (b := true) (b' := false) (d := 22) rfl ?_
    refine L_no (j := 7) (dj := 19) (b := true) (b' := false) (d := 23) rfl ?_
    refine L_no (j := 7) (dj := 19) (b := true) (b' := false) (d := 24) rfl ?_
    refine L (S (P_pickF rfl rfl) ?_)
    refine L (S (P_move rfl) ?_)
    refine L_no (j := 14) (dj := 26) (b := true) (b' := false) (d := 27) rfl ?_
    refine L_no (j := 14) (dj := 26) (b := true) (b' := false) (d := 28) rfl ?_
    refine L_no (j := 14) (dj := 26) (b := true) (b' := false) (d := 29) rfl ?_
    refine L_no (j := 14) (dj := 26) (b := true) (b' := false) (d := 30) rfl ?_
    refine L_no (j := 14) (dj := 26) (b := true) (b' := false) (d := 31) rfl ?_
    refine L_no (j := 14) (dj := 26) (b := true) (b' := false) (d := 32) rfl ?_
    refine L (S (P_pickF rfl rfl) ?_)
    refine L (S (P_assign rfl) ?_)
    refine L_nil ?_
    refine then_n ?_
    refine C_ret ?_
    refine F_ret1 Tryz.results9 rfl ?_
    exact ⟨by simp [h2], hm1⟩
  match toks, h2 with
  | [t, u], _ =>
  subst he
  by_cases hk : t.kind = 1
  rotate_left
  · refine C_seq ?_
    refine C_region ?_
    refine L (S (P_assign rfl) ?_)
    refine L_nil ?_
    refine then_n ?_
    refine C_seq ?_
    refine C_region ?_
    refine L (S (P_move rfl) ?_)
    refine L (S_call cb_31 rfl (hA) ?_)
    rintro _ w1 ⟨⟨A, c, rfl, hA1⟩, hm1⟩
    refine L (S (P_move rfl) ?_)
    refine L (S (P_extract rfl rfl) ?_)
    refine L (S (P_extract rfl rfl) ?_)
    refine L (S (P_extract rfl rfl) ?_)
    refine L (S (P_assign rfl) ?_)
    refine L (S (P_assign rfl) ?_)
    refine L (S (P_assign rfl) ?_)
    refine L_nil ?_
    refine then_n ?_
    refine C_seq ?_
    obtain ⟨b, o, rfl, hr⟩ := hA1.form (i := 0) (by simp [flat, tkC])
    refine C_region ?_
    refine L (S (P_move rfl) ?_)
    refine L (S (P_eq rfl rfl (decide_eq_true (by omega))) ?_)
    refine L (S (P_move rfl) ?_)
    refine L_yes (j := 2) (dj := 14) (b := true) (S (P_move rfl) ?_) rfl
    refine L_yes (j := 2) (dj := 14) (b := true) (S (P_lenS Tryz.underlying67 rfl) ?_) rfl
    refine L_yes (j := 2) (dj := 14) (b := true) (S (P_eq rfl rfl (decide_eq_true rfl)) ?_) rfl
    refine L (S (P_pickT rfl rfl) ?_)
    refine L (S (P_move rfl) ?_)
    refine L_yes (j := 7) (dj := 19) (b := true) (S (P_move rfl) ?_) rfl
    refine L_yes (j := 7) (dj := 19) (b := true) (S (P_indexAddr Tryz.underlying67 (csz_of ti_71) rfl rfl (j := 0) rfl (by simp) (p := o) (by omega)) ?_) rfl
    refine L_yes (j := 7) (dj := 19) (b := true) (S (P_fieldAddr fo_71_0 rfl) ?_) rfl
    refine L_yes (j := 7) (dj := 19) (b := true) (S_load sc_3 rfl (hr 0 _ rfl) ?_) rfl
    refine L_yes (j := 7) (dj := 19) (b := true) (S (P_eq rfl rfl (decide_eq_false (by omega))) ?_) rfl
    refine L (S (P_pickT rfl rfl) ?_)
    refine L (S (P_move rfl) ?_)
    refine L_no (j := 14) (dj := 26) (b := true) (b' := false) (d := 27) rfl ?_
    refine L_no (j := 14) (dj := 26) (b := true) (b' := false) (d := 28) rfl ?_
    refine L_no (j := 14) (dj := 26) (b := true) (b' := false) (d := 29) rfl ?_
    refine L_no (j := 14) (dj := 26) (b := true) (b' := false) (d := 30) rfl ?_
    refine L_no (j := 14) (dj := 26) (b := true) (b' := false) (d := 31) rfl ?_
    refine L_no (j := 14) (dj := 26) (b := true) (b' := false) (d := 32) rfl ?_
    refine L (S (P_pickF rfl rfl) ?_)
    refine L (S (P_assign rfl) ?_)
    refine L_nil ?_
    refine then_n ?_
    refine C_ret ?_
    refine F_ret1 Tryz.results9 rfl ?_
    exact ⟨by simp [hk], hm1⟩
  by_cases hs : t.s = l
  · refine C_seq ?_
    refine C_region ?_
    refine L (S (P_assign rfl) ?_)
    refine L_nil ?_
    refine then_n ?_
    refine C_seq ?_
    refine C_region ?_
    refine L (S (P_move rfl) ?_)
    refine L (S_call cb_31 rfl (hA) ?_)
    rintro _ w1 ⟨⟨A, c, rfl, hA1⟩, hm1⟩
    refine L (S (P_move rfl) ?_)
    refine L (S (P_extract rfl rfl) ?_)
    refine L (S (P_extract rfl rfl) ?_)
    refine L (S (P_extract rfl rfl) ?_)
    refine L (S (P_assign rfl) ?_)
    refine L (S (P_assign rfl) ?_)
    refine L (S (P_assign rfl) ?_)
    refine L_nil ?_
    refine then_n ?_
    refine C_seq ?_
    obtain ⟨b, o, rfl, hr⟩ := hA1.form (i := 0) (by simp [flat, tkC])
    refine C_region ?_
    refine L (S (P_move rfl) ?_)
    refine L (S (P_eq rfl rfl (decide_eq_true (by omega))) ?_)
    refine L (S (P_move rfl) ?_)
    refine L_yes (j := 2) (dj := 14) (b := true) (S (P_move rfl) ?_) rfl
    refine L_yes (j := 2) (dj := 14) (b := true) (S (P_lenS Tryz.underlying67 rfl) ?_) rfl
    refine L_yes (j := 2) (dj := 14) (b := true) (S (P_eq rfl rfl (decide_eq_true rfl)) ?_) rfl
    refine L (S (P_pickT rfl rfl) ?_)
    refine L (S (P_move rfl) ?_)
    refine L_yes (j := 7) (dj := 19) (b := true) (S (P_move rfl) ?_) rfl
    refine L_yes (j := 7) (dj := 19) (b := true) (S (P_indexAddr Tryz.underlying67 (csz_of ti_71) rfl rfl (j := 0) rfl (by simp) (p := o) (by omega)) ?_) rfl
    refine L_yes (j := 7) (dj := 19) (b := true) (S (P_fieldAddr fo_71_0 rfl) ?_) rfl
    refine L_yes (j := 7) (dj := 19) (b := true) (S_load sc_3 rfl (hr 0 _ rfl) ?_) rfl
    refine L_yes (j := 7) (dj := 19) (b := true) (S (P_eq rfl rfl (decide_eq_true (by omega))) ?_) rfl
    refine L (S (P_pickT rfl rfl) ?_)
    refine L (S (P_move rfl) ?_)
    refine L_yes (j := 14) (dj := 26) (b := true) (S (P_move rfl) ?_) rfl
    refine L_yes (j := 14) (dj := 26) (b := true) (S (P_indexAddr Tryz.underlying67 (csz_of ti_71) rfl rfl (j := 0) rfl (by simp) (p := o) (by omega)) ?_) rfl
    refine L_yes (j := 14) (dj := 26) (b := true) (S (P_fieldAddr fo_71_1 rfl) ?_) rfl
    refine L_yes (j := 14) (dj := 26) (b := true) (S_load sc_9 rfl (hr 1 _ rfl) ?_) rfl
    refine L_yes (j := 14) (dj := 26) (b := true) (S (P_move rfl) ?_) rfl
    refine L_yes (j := 14) (dj := 26) (b := true) (S (P_eqT rfl rfl (decide_eq_true (by rw [hs]))) ?_) rfl
    refine L (S (P_pickT rfl rfl) ?_)
    refine L (S (P_assign rfl) ?_)
    refine L_nil ?_
    refine then_n ?_
    refine C_ret ?_
    refine F_ret1 Tryz.results9 rfl ?_
    exact ⟨by simp [hk, hs], hm1⟩
  · refine C_seq ?_
    refine C_region ?_
    refine L (S (P_assign rfl) ?_)
    refine L_nil ?_
    refine then_n ?_
    refine C_seq ?_
    refine C_region ?_
    refine L (S (P_move rfl) ?_)
    refine L (S_call cb_31 rfl (hA) ?_)
    rintro _ w1 ⟨⟨A, c, rfl, hA1⟩, hm1⟩
    refine L (S (P_move rfl) ?_)
    refine L (S (P_extract rfl rfl) ?_)
    refine L (S (P_extract rfl rfl) ?_)
    refine L (S (P_extract rfl rfl) ?_)
    refine L (S (P_assign rfl) ?_)
    refine L (S (P_assign rfl) ?_)
    refine L (S (P_assign rfl) ?_)
    refine L_nil ?_
    refine then_n ?_
    refine C_seq ?_
    obtain ⟨b, o, rfl, hr⟩ := hA1.form (i := 0) (by simp [flat, tkC])
    refine C_region ?_
    refine L (S (P_move rfl) ?_)
    refine L (S (P_eq rfl rfl (decide_eq_true (by omega))) ?_)
    refine L (S (P_move rfl) ?_)
    refine L_yes (j := 2) (dj := 14) (b := true) (S (P_move rfl) ?_) rfl
    refine L_yes (j := 2) (dj := 14) (b := true) (S (P_lenS Tryz.underlying67 rfl) ?_) rfl
    refine L_yes (j := 2) (dj := 14) (b := true) (S (P_eq rfl rfl (decide_eq_true rfl)) ?_) rfl
    refine L (S (P_pickT rfl rfl) ?_)
    refine L (S (P_move rfl) ?_)
    refine L_yes (j := 7) (dj := 19) (b := true) (S (P_move rfl) ?_) rfl
    refine L_yes (j := 7) (dj := 19) (b := true) (S (P_indexAddr Tryz.underlying67 (csz_of ti_71) rfl rfl (j := 0) rfl (by simp) (p := o) (by omega)) ?_) rfl
    refine L_yes (j := 7) (dj := 19) (b := true) (S (P_fieldAddr fo_71_0 rfl) ?_) rfl
    refine L_yes (j := 7) (dj := 19) (b := true) (S_load sc_3 rfl (hr 0 _ rfl) ?_) rfl
    refine L_yes (j := 7) (dj := 19) (b := true) (S (P_eq rfl rfl (decide_eq_true (by omega))) ?_) rfl
    refine L (S (P_pickT rfl rfl) ?_)
    refine L (S (P_move rfl) ?_)
    refine L_yes (j := 14) (dj := 26) (b := true) (S (P_move rfl) ?_) rfl
    refine L_yes (j := 14) (dj := 26) (b := true) (S (P_indexAddr Tryz.underlying67 (csz_of ti_71) rfl rfl (j := 0) rfl (by simp) (p := o) (by omega)) ?_) rfl
    refine L_yes (j := 14) (dj := 26) (b := true) (S (P_fieldAddr fo_71_1 rfl) ?_) rfl
    refine L_yes (j := 14) (dj := 26) (b := true) (S_load sc_9 rfl (hr 1 _ rfl) ?_) rfl
    refine L_yes (j := 14) (dj := 26) (b := true) (S (P_move rfl) ?_) rfl
    refine L_yes (j := 14) (dj := 26) (b := true) (S (P_eqT rfl rfl (decide_eq_false (fun h => hs (str_inj h)))) ?_) rfl
    refine L (S (P_pickT rfl rfl) ?_)
    refine L (S (P_assign rfl) ?_)
    refine L_nil ?_
    refine then_n ?_
    refine C_ret ?_
    refine F_ret1 Tryz.results9 rfl ?_
    exact ⟨by simp [hs], hm1⟩
theorem refname_ret (hv : Vr w) (l : List UInt8) (hl : l.length ≤ 100000) : Ret Tryz.prog 10 [.string (str l)] w fun v w' => v = .bool (nameB l) ∧ Mv No w w' := by
  have hA := (reflex_ret pf_all hv l (inT_len hl) hl 12).mono fun v w'' ⟨h1, h2⟩ => (⟨res_of h1, h2⟩ : ResOut w'' v (lxR bigF l 12) ∧ Mv No w w'')
  unfold nameB
  generalize lxR bigF l 12 = r at *
  obtain ⟨toks, a, e⟩ := r
  simp only [ResOut] at hA ⊢
  refine F_enter Tryz.func10 Tryz.ntmps10 rfl rfl ?_
  by_cases he : e = 0
  rotate_left
  · refine C_seq ?_
    refine C_region ?_
    refine L (S (P_assign rfl) ?_)
    refine L_nil ?_
    refine then_n ?_
    refine C_seq ?_
    refine C_region ?_
    refine L (S (P_move rfl) ?_)
    refine L (S_call cb_32 rfl (hA) ?_)
    rintro _ w1 ⟨⟨A, c, rfl, hA1⟩, hm1⟩
    refine L (S (P_move rfl) ?_)
    refine L (S (P_extract rfl rfl) ?_)
    refine L (S (P_extract rfl rfl) ?_)
    refine L (S (P_extract rfl rfl) ?_)
    refine L (S (P_assign rfl) ?_)
    refine L (S (P_assign rfl) ?_)
    refine L (S (P_assign rfl) ?_)
    refine L_nil ?_
    refine then_n ?_
    refine C_seq ?_
    refine C_region ?_
    refine L (S (P_move rfl) ?_)
    refine L (S (P_eq rfl rfl (decide_eq_false (by omega))) ?_)
    refine L (S (P_move rfl) ?_)
    refine L_no (j := 2) (dj := 14) (b := true) (b' := false) (d := 15) rfl ?_
    refine L_no (j := 2) (dj := 14) (b := true) (b' := false) (d := 16) rfl ?_
    refine L_no (j := 2) (dj := 14) (b := true) (b' := false) (d := 17) rfl ?_
    refine L (S (P_pickF rfl rfl) ?_)
    refine L (S (P_move rfl) ?_)
    refine L_no (j := 7) (dj := 19) (b := true) (b' := false) (d := 20) rfl ?_
    refine L_no (j := 7) (dj := 19) (b := true) (b' := false) (d := 21) rfl ?_
    refine L_no (j := 7) (dj := 19) (b := true) (b' := false) (d := 22) rfl ?_
    refine L_no (j := 7) (dj := 19) (b := true) (b' := false) (d := 23) rfl ?_
    refine L_no (j := 7) (dj := 19) (b := true) (b' := false) (d := 24) rfl ?_
    refine L (S (P_pickF rfl rfl) ?_)
    refine L (S (P_move rfl) ?_)
    refine L_no (j := 14) (dj := 26) (b := true) (b' := false) (d := 27) rfl ?_
    refine L_no (j := 14) (dj := 26) (b := true) (b' := false) (d := 28) rfl ?_
    refine L_no (j := 14) (dj := 26) (b := true) (b' := false) (d := 29) rfl ?_
    refine L_no (j := 14) (dj := 26) (b := true) (b' := false) (d := 30) rfl ?_
    refine L_no (j := 14) (dj := 26) (b := true) (b' := false) (d := 31) rfl ?_
    refine L_no (j := 14) (dj := 26) (b := true) (b' := false) (d := 32) rfl ?_
    refine L (S (P_pickF rfl rfl) ?_)
    refine L (S (P_assign rfl) ?_)
    refine L_nil ?_
    refine then_n ?_
    refine C_ret ?_
    refine F_ret1 Tryz.results10 rfl ?_
    exact ⟨by simp [he], hm1⟩
  by_cases h2 : toks.length = 2
  rotate_left
  · refine C_seq ?_
    refine C_region ?_
    refine L (S (P_assign rfl) ?_)
    refine L_nil ?_
    refine then_n ?_
    refine C_seq ?_
    refine C_region ?_
    refine L (S (P_move rfl) ?_)
    refine L (S_call cb_32 rfl (hA) ?_)
    rintro _ w1 ⟨⟨A, c, rfl, hA1⟩, hm1⟩
    refine L (S (P_move rfl) ?_)
    refine L (S (P_extract rfl rfl) ?_)
    refine L (S (P_extract rfl rfl) ?_)
    refine L (S (P_extract rfl rfl) ?_)
    refine L (S (P_assign rfl) ?_)
    refine L (S (P_assign rfl) ?_)
    refine L (S (P_assign rfl) ?_)
    refine L_nil ?_
    refine then_n ?_
    refine C_seq ?_
    refine C_region ?_
    refine L (S (P_move rfl) ?_)
    refine L (S (P_eq rfl rfl (decide_eq_true (by omega))) ?_)
    refine L (S (P_move rfl) ?_)
    refine L_yes (j := 2) (dj := 14) (b := true) (S (P_move rfl) ?_) rfl
    refine L_yes (j := 2) (dj := 14) (b := true) (S (P_lenS Tryz.underlying67 rfl) ?_) rfl
    refine L_yes (j := 2) (dj := 14) (b := true) (S (P_eq rfl rfl (decide_eq_false (by omega))) ?_) rfl
    refine L (S (P_pickT rfl rfl) ?_)
    refine L (S (P_move rfl) ?_)
    refine L_no (j := 7) (dj := 19) (b := true) (b' := false) (d := 20) rfl ?_
    refine L_no (j := 7) (dj := 19) (b := true) (b' := false) (d := 21) rfl ?_
    refine L_no (j := 7) (dj := 19) (b := true) (b' := false) (d := 22) rfl ?_
    refine L_no (j := 7) (dj := 19) (b := true) (b' := false) (d := 23) rfl ?_
    refine L_no (j := 7) (dj := 19) (b := true) (b' := false) (d := 24) rfl ?_
    refine L (S (P_pickF rfl rfl) ?_)
    refine L (S (P_move rfl) ?_)
    refine L_no (j := 14) (dj := 26) (b := true) (b' := false) (d := 27) rfl ?_
    refine L_no (j := 14) (dj := 26) (b := true) (b' := false) (d := 28) rfl ?_
    refine L_no (j := 14) (dj := 26) (b := true) (b' := false) (d := 29) rfl ?_
    refine L_no (j := 14) (dj := 26) (b := true) (b' := false) (d := 30) rfl ?_
    refine L_no (j := 14) (dj := 26) (b := true) (b' := false) (d := 31) rfl ?_
    refine L_no (j := 14) (dj := 26) (b := true) (b' := false) (d := 32) rfl ?_
    refine L (S (P_pickF rfl rfl) ?_)
    refine L (S (P_assign rfl) ?_)
    refine L_nil ?_
    refine then_n ?_
    refine C_ret ?_
    refine F_ret1 Tryz.results10 rfl ?_
    exact ⟨by simp [h2], hm1⟩
  match toks, h2 with
  | [t, u], _ =>
  subst he
  by_cases hk : t.kind = 1
  rotate_left
  · refine C_seq ?_
    refine C_region ?_
    refine L (S (P_assign rfl) ?_)
    refine L_nil ?_
    refine then_n ?_
    refine C_seq ?_
    refine C_region ?_
    refine L (S (P_move rfl) ?_)
    refine L (S_call cb_32 rfl (hA) ?_)
    rintro _ w1 ⟨⟨A, c, rfl, hA1⟩, hm1⟩
    refine L (S (P_move rfl) ?_)
    refine L (S (P_extract rfl rfl) ?_)
    refine L (S (P_extract rfl rfl) ?_)
    refine L (S (P_extract rfl rfl) ?_)
    refine L (S (P_assign rfl) ?_)
    refine L (S (P_assign rfl) ?_)
    refine L (S (P_assign rfl) ?_)
    refine L_nil ?_
    refine then_n ?_
    refine C_seq ?_
    obtain ⟨b, o, rfl, hr⟩ := hA1.form (i := 0) (by simp [flat, tkC])
    refine C_region ?_
    refine L (S (P_move rfl) ?_)
    refine L (S (P_eq rfl rfl (decide_eq_true (by omega))) ?_)
    refine L (S (P_move rfl) ?_)
    refine L_yes (j := 2) (dj := 14) (b := true) (S (P_move rfl) ?_) rfl
    refine L_yes (j := 2) (dj := 14) (b := true) (S (P_lenS Tryz.underlying67 rfl) ?_) rfl
    refine L_yes (j := 2) (dj := 14) (b := true) (S (P_eq rfl rfl (decide_eq_true rfl)) ?_) rfl
    refine L (S (P_pickT rfl rfl) ?_)
    refine L (S (P_move rfl) ?_)
    refine L_yes (j := 7) (dj := 19) (b := true) (S (P_move rfl) ?_) rfl
    refine L_yes (j := 7) (dj := 19) (b := true) (S (P_indexAddr Tryz.underlying67 (csz_of ti_71) rfl rfl (j := 0) rfl (by simp) (p := o) (by omega)) ?_) rfl
    refine L_yes (j := 7) (dj := 19) (b := true) (S (P_fieldAddr fo_71_0 rfl) ?_) rfl
    refine L_yes (j := 7) (dj := 19) (b := true) (S_load sc_3 rfl (hr 0 _ rfl) ?_) rfl
    refine L_yes (j := 7) (dj := 19) (b := true) (S (P_eq rfl rfl (decide_eq_false (by omega))) ?_) rfl
    refine L (S (P_pickT rfl rfl) ?_)
    refine L (S (P_move rfl) ?_)
    refine L_no (j := 14) (dj := 26) (b := true) (b' := false) (d := 27) rfl ?_
    refine L_no (j := 14) (dj := 26) (b := true) (b' := false) (d := 28) rfl ?_
    refine L_no (j := 14) (dj := 26) (b := true) (b' := false) (d := 29) rfl ?_
    refine L_no (j := 14) (dj := 26) (b := true) (b' := false) (d := 30) rfl ?_
    refine L_no (j := 14) (dj := 26) (b := true) (b' := false) (d := 31) rfl ?_
    refine L_no (j := 14) (dj := 26) (b := true) (b' := false) (d := 32) rfl ?_
    refine L (S (P_pickF rfl rfl) ?_)
    refine L (S (P_assign rfl) ?_)
    refine L_nil ?_
    refine then_n ?_
    refine C_ret ?_
    refine F_ret1 Tryz.results10 rfl ?_
    exact ⟨by simp [hk], hm1⟩
  by_cases hs : t.s = l
  · refine C_seq ?_
    refine C_region ?_
    refine L (S (P_assign rfl) ?_)
    refine L_nil ?_
    refine then_n ?_
    refine C_seq ?_
    refine C_region ?_
    refine L (S (P_move rfl) ?_)
    refine L (S_call cb_32 rfl (hA) ?_)
    rintro _ w1 ⟨⟨A, c, rfl, hA1⟩, hm1⟩
    refine L (S (P_move rfl) ?_)
    refine L (S (P_extract rfl rfl) ?_)
    refine L (S (P_extract rfl rfl) ?_)
    refine L (S (P_extract rfl rfl) ?_)
    refine L (S (P_assign rfl) ?_)
    refine L (S (P_assign rfl) ?_)
    refine L (S (P_assign rfl) ?_)
    refine L_nil ?_
    refine then_n ?_
    refine C_seq ?_
    obtain ⟨b, o, rfl, hr⟩ := hA1.form (i := 0) (by simp [flat, tkC])
    refine C_region ?_
    refine L (S (P_move rfl) ?_)
    refine L (S (P_eq rfl rfl (decide_eq_true (by omega))) ?_)
    refine L (S (P_move rfl) ?_)
    refine L_yes (j := 2) (dj := 14) (b := true) (S (P_move rfl) ?_) rfl
    refine L_yes (j := 2) (dj := 14) (b := true) (S (P_lenS Tryz.underlying67 rfl) ?_) rfl
    refine L_yes (j := 2) (dj := 14) (b := true) (S (P_eq rfl rfl (decide_eq_true rfl)) ?_) rfl
    refine L (S (P_pickT rfl rfl) ?_)
    refine L (S (P_move rfl) ?_)
    refine L_yes (j := 7) (dj := 19) (b := true) (S (P_move rfl) ?_) rfl
    refine L_yes (j := 7) (dj := 19) (b := true) (S (P_indexAddr Tryz.underlying67 (csz_of ti_71) rfl rfl (j := 0) rfl (by simp) (p := o) (by omega)) ?_) rfl
    refine L_yes (j := 7) (dj := 19) (b := true) (S (P_fieldAddr fo_71_0 rfl) ?_) rfl
    refine L_yes (j := 7) (dj := 19) (b := true) (S_load sc_3 rfl (hr 0 _ rfl) ?_) rfl
    refine L_yes (j := 7) (dj := 19) (b := true) (S (P_eq rfl rfl (decide_eq_true (by omega))) ?_) rfl
    refine L (S (P_pickT rfl rfl) ?_)
    refine L (S (P_move rfl) ?_)
    refine L_yes (j := 14) (dj := 26) (b := true) (S (P_move rfl) ?_) rfl
    refine L_yes (j := 14) (dj := 26) (b := true) (S (P_indexAddr Tryz.underlying67 (csz_of ti_71) rfl rfl (j := 0) rfl (by simp) (p := o) (by omega)) ?_) rfl
    refine L_yes (j := 14) (dj := 26) (b := true) (S (P_fieldAddr fo_71_1 rfl) ?_) rfl
    refine L_yes (j := 14) (dj := 26) (b := true) (S_load sc_9 rfl (hr 1 _ rfl) ?_) rfl
    refine L_yes (j := 14) (dj := 26) (b := true) (S (P_move rfl) ?_) rfl
    refine L_yes (j := 14) (dj := 26) (b := true) (S (P_eqT rfl rfl (decide_eq_true (by rw [hs]))) ?_) rfl
    refine L (S (P_pickT rfl rfl) ?_)
    refine L (S (P_assign rfl) ?_)
    refine L_nil ?_
    refine then_n ?_
    refine C_ret ?_
    refine F_ret1 Tryz.results10 rfl ?_
    exact ⟨by simp [hk, hs], hm1⟩
  · refine C_seq ?_
    refine C_region ?_
    refine L (S (P_assign rfl) ?_)
    refine L_nil ?_
    refine then_n ?_
    refine C_seq ?_
    refine C_region ?_
    refine L (S (P_move rfl) ?_)
    refine L (S_call cb_32 rfl (hA) ?_)
    rintro _ w1 ⟨⟨A, c, rfl, hA1⟩, hm1⟩
    refine L (S (P_move rfl) ?_)
    refine L (S (P_extract rfl rfl) ?_)
    refine L (S (P_extract rfl rfl) ?_)
    refine L (S (P_extract rfl rfl) ?_)
    refine L (S (P_assign rfl) ?_)
    refine L (S (P_assign rfl) ?_)
    refine L (S (P_assign rfl) ?_)
    refine L_nil ?_
    refine then_n ?_
    refine C_seq ?_
    obtain ⟨b, o, rfl, hr⟩ := hA1.form (i := 0) (by simp [flat, tkC])
    refine C_region ?_
    refine L (S (P_move rfl) ?_)
    refine L (S (P_eq rfl rfl (decide_eq_true (by omega))) ?_)
    refine L (S (P_move rfl) ?_)
    refine L_yes (j := 2) (dj := 14) (b := true) (S (P_move rfl) ?_) rfl
    refine L_yes (j := 2) (dj := 14) (b := true) (S (P_lenS Tryz.underlying67 rfl) ?_) rfl
    refine L_yes (j := 2) (dj := 14) (b := true) (S (P_eq rfl rfl (decide_eq_true rfl)) ?_) rfl
    refine L (S (P_pickT rfl rfl) ?_)
    refine L (S (P_move rfl) ?_)
    refine L_yes (j := 7) (dj := 19) (b := true) (S (P_move rfl) ?_) rfl
    refine L_yes (j := 7) (dj := 19) (b := true) (S (P_indexAddr Tryz.underlying67 (csz_of ti_71) rfl rfl (j := 0) rfl (by simp) (p := o) (by omega)) ?_) rfl
    refine L_yes (j := 7) (dj := 19) (b := true) (S (P_fieldAddr fo_71_0 rfl) ?_) rfl
    refine L_yes (j := 7) (dj := 19) (b := true) (S_load sc_3 rfl (hr 0 _ rfl) ?_) rfl
    refine L_yes (j := 7) (dj := 19) (b := true) (S (P_eq rfl rfl (decide_eq_true (by omega))) ?_) rfl
    refine L (S (P_pickT rfl rfl) ?_)
    refine L (S (P_move rfl) ?_)
    refine L_yes (j := 14) (dj := 26) (b := true) (S (P_move rfl) ?_) rfl
    refine L_yes (j := 14) (dj := 26) (b := true) (S (P_indexAddr Tryz.underlying67 (csz_of ti_71) rfl rfl (j := 0) rfl (by simp) (p := o) (by omega)) ?_) rfl
    refine L_yes (j := 14) (dj := 26) (b := true) (S (P_fieldAddr fo_71_1 rfl) ?_) rfl
    refine L_yes (j := 14) (dj := 26) (b := true) (S_load sc_9 rfl (hr 1 _ rfl) ?_) rfl
    refine L_yes (j := 14) (dj := 26) (b := true) (S (P_move rfl) ?_) rfl
    refine L_yes (j := 14) (dj := 26) (b := true) (S (P_eqT rfl rfl (decide_eq_false (fun h => hs (str_inj h)))) ?_) rfl
    refine L (S (P_pickT rfl rfl) ?_)
    refine L (S (P_assign rfl) ?_)
    refine L_nil ?_
    refine then_n ?_
    refine C_ret ?_
    refine F_ret1 Tryz.results10 rfl ?_
    exact ⟨by simp [hs], hm1⟩
end
end Go.Proofs.YtnoioimphcmeiaaGreatDoor
