import Derived.Test.YtnoioimphcmeiaaGreatDoorLSpan
import Derived.Test.YtnoioimphcmeiaaGreatDoorShelf
namespace Go.Proofs.YtnoioimphcmeiaaGreatDoor
open Go.RowKit
set_option maxRecDepth 20000

theorem index_infix (sub : List UInt8) : ∀ s : List UInt8, 0 ≤ Lib.index s sub ↔ sub <:+: s
  | [] => by
    simp only [Lib.index]
    cases sub <;> simp
  | b :: l => by
    have ih := index_infix sub l
    have hge := Lib.index_ge l sub
    rw [List.infix_cons_iff]
    simp only [Lib.index]
    by_cases hp : sub.isPrefixOf (b :: l) = true
    · rw [if_pos hp]
      exact ⟨fun _ => .inl (List.isPrefixOf_iff_prefix.1 hp), fun _ => Int.le_refl _⟩
    · rw [if_neg hp]
      have hp' : ¬ sub <+: b :: l := fun h => hp (List.isPrefixOf_iff_prefix.2 h)
      by_cases hi : Lib.index l sub = -1
      · rw [hi] at ih ⊢
        constructor
        · intro h
          exact absurd h (by decide)
        · rintro (h | h)
          · exact absurd h hp'
          · exact absurd (ih.2 h) (by decide)
      · have hb : (Lib.index l sub == -1) = false := by simpa using hi
        rw [hb]
        simp only [Bool.false_eq_true, if_false]
        constructor
        · intro _
          exact .inr (ih.1 (by omega))
        · rintro (h | h)
          · exact absurd h hp'
          · have := ih.2 h; omega
theorem words_caps : ∀ u ∈ wordsL, u ≠ [] ∧ ∀ c ∈ u, capN c.toNat = true := by decide
theorem words_text : wordsT = [32, 83, 69, 76, 69, 67, 84, 32, 70, 82, 79, 77, 32, 87, 72, 69, 82, 69, 32, 71, 82, 79, 85, 80, 32, 66, 89, 32, 79, 82, 68, 69, 82, 32, 65, 83, 67, 32, 68, 69, 83, 67, 32, 76, 73, 77, 73, 84, 32, 65, 83, 32, 74, 79, 73, 78, 32, 79, 78, 32, 65, 78, 68, 32, 79, 82, 32, 78, 79, 84, 32, 73, 83, 32, 78, 85, 76, 76, 32, 84, 82, 85, 69, 32, 70, 65, 76, 83, 69, 32, 67, 79, 85, 78, 84, 32, 83, 85, 77, 32, 77, 73, 78, 32, 77, 65, 88, 32, 73, 78, 83, 69, 82, 84, 32, 73, 78, 84, 79, 32, 86, 65, 76, 85, 69, 83, 32, 85, 80, 68, 65, 84, 69, 32, 83, 69, 84, 32, 68, 69, 76, 69, 84, 69, 32, 67, 82, 69, 65, 84, 69, 32, 84, 65, 66, 76, 69, 32, 68, 82, 79, 80, 32, 73, 78, 84, 32, 82, 69, 65, 76, 32, 84, 69, 88, 84, 32] := by decide
/-- Capitals all, and not none: a keyword just if it stands among the words with a blank about it. -/
theorem contains_words {u : List UInt8} (hne : u ≠ []) (hc : ∀ c ∈ u, capN c.toNat = true) : Lib.contains wordsT ([32] ++ u ++ [32]) = decide (u ∈ wordsL) := by
  have h32 : ∀ {x : List UInt8}, (∀ c ∈ x, capN c.toNat = true) → ∀ c ∈ x, c ≠ 32 := fun h c hx he => by
    have := h c hx
    subst he
    exact absurd this (by decide)
  unfold Lib.contains
  exact decide_eq_decide.2 ((index_infix _ _).trans (infix_word (h32 hc) wordsL (fun x hx => ⟨(words_caps x hx).1, h32 (words_caps x hx).2⟩) hne))
theorem kwF_none {l : List UInt8} {c : UInt8} (hc : c ∈ l) (hn : capN (upC c).toNat = false) : kwF l = none := by
  unfold kwF
  rw [if_neg]
  intro h
  have := (words_caps _ h).2 (upC c) (List.mem_map.2 ⟨c, hc, rfl⟩)
  rw [hn] at this
  cases this
theorem mix_get {l : List UInt8} {i : Nat} {c : UInt8} (hc : l[i]? = some c) : ((l.take i).map upC ++ l.drop i)[i]? = some c := by
  have hi := (List.getElem?_eq_some_iff.1 hc).1
  rw [List.getElem?_append_right (by simp; omega), List.length_map, List.length_take, Nat.min_eq_left (by omega), Nat.sub_self, List.getElem?_drop]
  simpa using hc
theorem mix_set {l : List UInt8} {i : Nat} {c : UInt8} (hc : l[i]? = some c) : ((l.take i).map upC ++ l.drop i).set i (upC c) = (l.take (i + 1)).map upC ++ l.drop (i + 1) := by
  obtain ⟨hi, he⟩ := List.getElem?_eq_some_iff.1 hc
  rw [List.drop_eq_getElem_cons hi, he, List.take_succ_eq_append_getElem hi, he]
  rw [List.set_append_right _ _ (by simp; omega), List.length_map, List.length_take, Nat.min_eq_left (by omega), Nat.sub_self]
  simp
theorem mix_same {l : List UInt8} {i : Nat} {c : UInt8} (hc : l[i]? = some c) (hu : upC c = c) : (l.take i).map upC ++ l.drop i = (l.take (i + 1)).map upC ++ l.drop (i + 1) := by
  obtain ⟨hi, he⟩ := List.getElem?_eq_some_iff.1 hc
  rw [List.drop_eq_getElem_cons hi, he, List.take_succ_eq_append_getElem hi, he]
  simp [hu]
theorem upC_same {c : UInt8} (h : ¬ (97 ≤ c.toNat ∧ c.toNat ≤ 122)) : upC c = c := by unfold upC; rw [if_neg h]
theorem upC_low {c : UInt8} (h : 97 ≤ c.toNat ∧ c.toNat ≤ 122) : bv (upC c) = .int .u8 ((c.toNat : Int) - 32) := by
  have := upC_toNat c
  rw [if_pos h] at this
  unfold bv
  rw [this]
  congr 1
  omega

/-- The library's variable MaxLen is some number. -/
def Mx (w : World) : Prop := ∃ m : Int, w.cell? ⟨0, 0, none⟩ = some (.int .i64 m)
theorem Mx.no {w w' : World} (h : Mx w) (hm : Mv No w w') : Mx w' := by
  obtain ⟨m, h⟩ := h
  exact ⟨m, by rw [World.cell?_of_block (w := w) (hm.block _ (cell_lt h) (fun hf => hf.elim))]; exact h⟩

section
variable {w : World}
theorem contains_call (u : List UInt8) (hx : Mx w) (s t : ByteArray) (hs : s.data.toList = wordsT) (ht : t.data.toList = [32] ++ u ++ [32]) (hne : u ≠ []) (hc : ∀ c ∈ u, capN c.toNat = true) : Ret Tryz.prog 119 [.string s, .string t] w fun v w' => v = .bool (decide (u ∈ wordsL)) ∧ w = w' := by
  obtain ⟨m, hm⟩ := hx
  have hsz : s.size < 4294967281 := by
    have : s.size = s.data.toList.length := by rw [Array.length_toList]; rfl
    rw [this, hs, words_text]
    decide
  refine (Tryz.strings_Contains s t m w hsz hm).mono fun e w' ⟨he, hw⟩ => ⟨_, he, ?_, hw.symm⟩
  rw [hs, ht, contains_words hne hc]

set_option maxHeartbeats 1000000 in
theorem kw_ret (l : List UInt8) (hx : Mx w) (hl : l.length < 4611686018427387904) :
    Ret Tryz.prog 103 [.string (str l)] w fun v w' => v = .tuple #[.string (str ((kwF l).getD [])), .bool (kwF l).isSome] ∧ Mv No w w' := by
  refine F_enter Tryz.func103 Tryz.ntmps103 rfl rfl ?_
  refine C_seq ?_
  refine C_region ?_
  refine L (S (P_assign rfl) ?_)
  refine L (S (P_assign rfl) ?_)
  refine L_nil ?_
  refine then_n ?_
  refine C_seq ?_
  refine C_region ?_
  refine L (S (P_move rfl) ?_)
  refine L (S_strByt Tryz.underlying9 Tryz.underlying56 Tryz.underlying5 rfl ?_)
  rintro b8 w1 c8 hb1 hm1 hn1
  refine L (S (P_assign rfl) ?_)
  refine L_nil ?_
  refine then_n ?_
  refine C_seq ?_
  refine C_seq ?_
  refine C_region ?_
  refine L (S (P_move rfl) ?_)
  refine L (S (P_lenS Tryz.underlying56 rfl) ?_)
  refine L (S (P_move rfl) ?_)
  refine L_nil ?_
  refine then_n ?_
  refine C_block ?_
  refine C_loop (γ := Nat) (fun i => [(0, .string (str l)), (4, .slice (some ⟨b8, 0, none⟩) l.length c8), (9, .slice (some ⟨b8, 0, none⟩) l.length c8), (10, .int .i64 (l.length : Int)), (11, .int .i64 (i : Int))]) (fun i wr => Byt wr b8 5 ((l.take i).map upC ++ l.drop i) ∧ i ≤ l.length ∧ (∀ j, j < i → ∀ c, l[j]? = some c → capN (upC c).toNat = true) ∧ Mv No w wr) (fun i => l.length - i) 0 (.cons rfl (.cons rfl (.cons rfl (.cons rfl (.cons rfl (.nil _)))))) ⟨by simpa using hb1, Nat.zero_le _, fun j hj => by omega, hm1⟩ ?_
  rintro i wr ⟨hb, hle, hall, hmr⟩
  refine C_seq ?_
  refine C_region ?_
  refine L (S (P_lt rfl rfl rfl) ?_)
  refine L_nil ?_
  refine then_n ?_
  refine C_seq ?_
  refine C_ifp rfl rfl (fun hlt => ?_) (fun hge => ?_)
  · have hil : i < l.length := by omega
    obtain ⟨c, hc⟩ : ∃ c, l[i]? = some c := ⟨l[i], List.getElem?_eq_getElem hil⟩
    have hcell := hb.cell (mix_get hc)
    have hmem : c ∈ l := List.mem_of_getElem? hc
    have hcl := c.toNat_lt
    have hall' : capN (upC c).toNat = true → ∀ j, j < i + 1 → ∀ d, l[j]? = some d → capN (upC d).toNat = true := fun h j hj d hd => by
      by_cases hji : j = i
      · subst hji; rw [hc] at hd; cases hd; exact h
      · exact hall j (by omega) d hd
    by_cases h1 : 97 ≤ c.toNat
    · by_cases h2 : c.toNat ≤ 122
      · have hcap : capN (upC c).toNat = true := by
          rw [upC_toNat, if_pos ⟨h1, h2⟩]
          exact decide_eq_true (by omega)
        refine C_skip ?_
        refine then_n ?_
        refine C_seq ?_
        refine C_block ?_
        refine C_seq ?_
        refine C_region ?_
        refine L (S (P_move rfl) ?_)
        refine L (S (P_indexAddr Tryz.underlying56 (csz_of ti_5) rfl rfl (j := i) rfl hil (p := i) (by omega)) ?_)
        refine L (S_load sc_5 rfl hcell ?_)
        refine L (S (P_assign rfl) ?_)
        refine L (S (P_assign rfl) ?_)
        refine L_nil ?_
        refine then_n ?_
        refine C_seq ?_
        refine C_region ?_
        refine L (S (P_move rfl) ?_)
        refine L (S (P_ge rfl rfl (decide_eq_true (by omega))) ?_)
        refine L (S (P_move rfl) ?_)
        refine L_yes (j := 2) (dj := 18) (b := true) (S (P_move rfl) ?_) rfl
        refine L_yes (j := 2) (dj := 18) (b := true) (S (P_le rfl rfl (decide_eq_true (by omega))) ?_) rfl
        refine L (S (P_pickT rfl rfl) ?_)
        refine L_nil ?_
        refine then_n ?_
        refine C_true rfl ?_
        refine C_region ?_
        refine L (S (P_move rfl) ?_)
        refine L (S (P_move rfl) ?_)
        refine L (S (P_move rfl) ?_)
        refine L (S (P_sub rfl rfl (wU8 (c := (c.toNat : Int) - 32) (by omega))) ?_)
        refine L (S (P_indexAddr Tryz.underlying56 (csz_of ti_5) rfl rfl (j := i) rfl hil (p := i) (by omega)) ?_)
        refine L (S_storeByt ti_5 rfl (by rw [upC_low ⟨h1, h2⟩]; rfl) hb (by simp; omega) ?_)
        rintro w2 hb2 hm2
        refine L_nil ?_
        refine blk_n ?_
        refine then_n ?_
        refine C_region ?_
        refine L (S (P_add rfl rfl (wI64 (c := ((i + 1 : Nat) : Int)) (by omega))) ?_)
        refine L (S (P_move rfl) ?_)
        refine L_nil ?_
        refine then_n ?_
        exact ⟨rfl, i + 1, .cons rfl (.cons rfl (.cons rfl (.cons rfl (.cons rfl (.nil _))))), ⟨by rw [mix_set hc] at hb2; exact hb2, hil, hall' hcap, hmr.new hm2 hn1⟩, by omega⟩
      · have hno : kwF l = none := kwF_none hmem (by rw [upC_toNat, if_neg (by omega)]; exact decide_eq_false (by omega))
        rw [hno]
        refine C_skip ?_
        refine then_n ?_
        refine C_seq ?_
        refine C_block ?_
        refine C_seq ?_
        refine C_region ?_
        refine L (S (P_move rfl) ?_)
        refine L (S (P_indexAddr Tryz.underlying56 (csz_of ti_5) rfl rfl (j := i) rfl hil (p := i) (by omega)) ?_)
        refine L (S_load sc_5 rfl hcell ?_)
        refine L (S (P_assign rfl) ?_)
        refine L (S (P_assign rfl) ?_)
        refine L_nil ?_
        refine then_n ?_
        refine C_seq ?_
        refine C_region ?_
        refine L (S (P_move rfl) ?_)
        refine L (S (P_ge rfl rfl (decide_eq_true (by omega))) ?_)
        refine L (S (P_move rfl) ?_)
        refine L_yes (j := 2) (dj := 18) (b := true) (S (P_move rfl) ?_) rfl
        refine L_yes (j := 2) (dj := 18) (b := true) (S (P_le rfl rfl (decide_eq_false (by omega))) ?_) rfl
        refine L (S (P_pickT rfl rfl) ?_)
        refine L_nil ?_
        refine then_n ?_
        refine C_false rfl ?_
        refine C_seq ?_
        refine C_region ?_
        refine L (S (P_move rfl) ?_)
        refine L (S (P_lt rfl rfl (decide_eq_false (by omega))) ?_)
        refine L (S (P_move rfl) ?_)
        refine L_yes (j := 2) (dj := 29) (b := false) (S (P_move rfl) ?_) rfl
        refine L_yes (j := 2) (dj := 29) (b := false) (S (P_gt rfl rfl (decide_eq_true (by omega))) ?_) rfl
        refine L (S (P_pickF rfl rfl) ?_)
        refine L_nil ?_
        refine then_n ?_
        refine C_true rfl ?_
        refine C_seq ?_
        refine C_region ?_
        refine L (S (P_assign rfl) ?_)
        refine L (S (P_assign rfl) ?_)
        refine L_nil ?_
        refine then_n ?_
        refine C_ret ?_
        refine blk_r ?_
        refine then_r ?_
        refine then_r ?_
        refine blk_r ?_
        refine then_r ?_
        refine F_ret2 Tryz.results103 rfl rfl ?_
        exact ⟨rfl, hmr⟩
    · have hup : upC c = c := upC_same (by omega)
      by_cases h3 : c.toNat < 65
      · have hno : kwF l = none := kwF_none hmem (by rw [hup]; exact decide_eq_false (by omega))
        rw [hno]
        refine C_skip ?_
        refine then_n ?_
        refine C_seq ?_
        refine C_block ?_
        refine C_seq ?_
        refine C_region ?_
        refine L (S (P_move rfl) ?_)
        refine L (S (P_indexAddr Tryz.underlying56 (csz_of ti_5) rfl rfl (j := i) rfl hil (p := i) (by omega)) ?_)
        refine L (S_load sc_5 rfl hcell ?_)
        refine L (S (P_assign rfl) ?_)
        refine L (S (P_assign rfl) ?_)
        refine L_nil ?_
        refine then_n ?_
        refine C_seq ?_
        refine C_region ?_
        refine L (S (P_move rfl) ?_)
        refine L (S (P_ge rfl rfl (decide_eq_false (by omega))) ?_)
        refine L (S (P_move rfl) ?_)
        refine L_no (j := 2) (dj := 18) (b := true) (b' := false) (d := 19) rfl ?_
        refine L_no (j := 2) (dj := 18) (b := true) (b' := false) (d := 20) rfl ?_
        refine L (S (P_pickF rfl rfl) ?_)
        refine L_nil ?_
        refine then_n ?_
        refine C_false rfl ?_
        refine C_seq ?_
        refine C_region ?_
        refine L (S (P_move rfl) ?_)
        refine L (S (P_lt rfl rfl (decide_eq_true (by omega))) ?_)
        refine L (S (P_move rfl) ?_)
        refine L_no (j := 2) (dj := 29) (b := false) (b' := true) (d := 30) rfl ?_
        refine L_no (j := 2) (dj := 29) (b := false) (b' := true) (d := 31) rfl ?_
        refine L (S (P_pickT rfl rfl) ?_)
        refine L_nil ?_
        refine then_n ?_
        refine C_true rfl ?_
        refine C_seq ?_
        refine C_region ?_
        refine L (S (P_assign rfl) ?_)
        refine L (S (P_assign rfl) ?_)
        refine L_nil ?_
        refine then_n ?_
        refine C_ret ?_
        refine blk_r ?_
        refine then_r ?_
        refine then_r ?_
        refine blk_r ?_
        refine then_r ?_
        refine F_ret2 Tryz.results103 rfl rfl ?_
        exact ⟨rfl, hmr⟩
      · by_cases h4 : 90 < c.toNat
        · have hno : kwF l = none := kwF_none hmem (by rw [hup]; exact decide_eq_false (by omega))
          rw [hno]
          refine C_skip ?_
          refine then_n ?_
          refine C_seq ?_
          refine C_block ?_
          refine C_seq ?_
          refine C_region ?_
          refine L (S (P_move rfl) ?_)
          refine L (S (P_indexAddr Tryz.underlying56 (csz_of ti_5) rfl rfl (j := i) rfl hil (p := i) (by omega)) ?_)
          refine L (S_load sc_5 rfl hcell ?_)
          refine L (S (P_assign rfl) ?_)
          refine L (S (P_assign rfl) ?_)
          refine L_nil ?_
          refine then_n ?_
          refine C_seq ?_
          refine C_region ?_
          refine L (S (P_move rfl) ?_)
          refine L (S (P_ge rfl rfl (decide_eq_false (by omega))) ?_)
          refine L (S (P_move rfl) ?_)
          refine L_no (j := 2) (dj := 18) (b := true) (b' := false) (d := 19) rfl ?_
          refine L_no (j := 2) (dj := 18) (b := true) (b' := false) (d := 20) rfl ?_
          refine L (S (P_pickF rfl rfl) ?_)
          refine L_nil ?_
          refine then_n ?_
          refine C_false rfl ?_
          refine C_seq ?_
          refine C_region ?_
          refine L (S (P_move rfl) ?_)
          refine L (S (P_lt rfl rfl (decide_eq_false (by omega))) ?_)
          refine L (S (P_move rfl) ?_)
          refine L_yes (j := 2) (dj := 29) (b := false) (S (P_move rfl) ?_) rfl
          refine L_yes (j := 2) (dj := 29) (b := false) (S (P_gt rfl rfl (decide_eq_true (by omega))) ?_) rfl
          refine L (S (P_pickF rfl rfl) ?_)
          refine L_nil ?_
          refine then_n ?_
          refine C_true rfl ?_
          refine C_seq ?_
          refine C_region ?_
          refine L (S (P_assign rfl) ?_)
          refine L (S (P_assign rfl) ?_)
          refine L_nil ?_
          refine then_n ?_
          refine C_ret ?_
          refine blk_r ?_
          refine then_r ?_
          refine then_r ?_
          refine blk_r ?_
          refine then_r ?_
          refine F_ret2 Tryz.results103 rfl rfl ?_
          exact ⟨rfl, hmr⟩
        · have hcap : capN (upC c).toNat = true := by
            rw [hup]
            exact decide_eq_true (by omega)
          refine C_skip ?_
          refine then_n ?_
          refine C_seq ?_
          refine C_block ?_
          refine C_seq ?_
          refine C_region ?_
          refine L (S (P_move rfl) ?_)
          refine L (S (P_indexAddr Tryz.underlying56 (csz_of ti_5) rfl rfl (j := i) rfl hil (p := i) (by omega)) ?_)
          refine L (S_load sc_5 rfl hcell ?_)
          refine L (S (P_assign rfl) ?_)
          refine L (S (P_assign rfl) ?_)
          refine L_nil ?_
          refine then_n ?_
          refine C_seq ?_
          refine C_region ?_
          refine L (S (P_move rfl) ?_)
          refine L (S (P_ge rfl rfl (decide_eq_false (by omega))) ?_)
          refine L (S (P_move rfl) ?_)
          refine L_no (j := 2) (dj := 18) (b := true) (b' := false) (d := 19) rfl ?_
          refine L_no (j := 2) (dj := 18) (b := true) (b' := false) (d := 20) rfl ?_
          refine L (S (P_pickF rfl rfl) ?_)
          refine L_nil ?_
          refine then_n ?_
          refine C_false rfl ?_
          refine C_seq ?_
          refine C_region ?_
          refine L (S (P_move rfl) ?_)
          refine L (S (P_lt rfl rfl (decide_eq_false (by omega))) ?_)
          refine L (S (P_move rfl) ?_)
          refine L_yes (j := 2) (dj := 29) (b := false) (S (P_move rfl) ?_) rfl
          refine L_yes (j := 2) (dj := 29) (b := false) (S (P_gt rfl rfl (decide_eq_false (by omega))) ?_) rfl
          refine L (S (P_pickF rfl rfl) ?_)
          refine L_nil ?_
          refine then_n ?_
          refine C_false rfl ?_
          refine C_skip ?_
          refine blk_n ?_
          refine then_n ?_
          refine C_region ?_
          refine L (S (P_add rfl rfl (wI64 (c := ((i + 1 : Nat) : Int)) (by omega))) ?_)
          refine L (S (P_move rfl) ?_)
          refine L_nil ?_
          refine then_n ?_
          exact ⟨rfl, i + 1, .cons rfl (.cons rfl (.cons rfl (.cons rfl (.cons rfl (.nil _))))), ⟨by rw [mix_same hc hup] at hb; exact hb, hil, hall' hcap, hmr⟩, by omega⟩
  · have hil : i = l.length := by omega
    rw [hil, List.take_of_length_le (Nat.le_refl _), List.drop_eq_nil_of_le (Nat.le_refl _), List.append_nil] at hb
    by_cases h0 : l.length = 0
    · have hnil : l = [] := List.eq_nil_of_length_eq_zero h0
      subst hnil
      refine C_exit ?_
      refine then_x ?_
      refine then_x ?_
      refine blk_x ?_
      refine then_n ?_
      refine C_seq ?_
      refine C_seq ?_
      refine C_region ?_
      refine L (S (P_move rfl) ?_)
      refine L (S (P_lenS Tryz.underlying56 rfl) ?_)
      refine L (S (P_eq rfl rfl (decide_eq_true (by simp))) ?_)
      refine L (S (P_move rfl) ?_)
      refine L_no (j := 3) (dj := 37) (b := false) (b' := true) (d := 38) rfl ?_
      refine L_no (j := 3) (dj := 37) (b := false) (b' := true) (d := 39) rfl ?_
      refine L_no (j := 3) (dj := 37) (b := false) (b' := true) (d := 40) rfl ?_
      refine L_no (j := 3) (dj := 37) (b := false) (b' := true) (d := 41) rfl ?_
      refine L_no (j := 3) (dj := 37) (b := false) (b' := true) (d := 42) rfl ?_
      refine L_no (j := 3) (dj := 37) (b := false) (b' := true) (d := 43) rfl ?_
      refine L (S (P_pickT rfl rfl) ?_)
      refine L_nil ?_
      refine then_n ?_
      refine C_true rfl ?_
      refine C_seq ?_
      refine C_region ?_
      refine L (S (P_assign rfl) ?_)
      refine L (S (P_assign rfl) ?_)
      refine L_nil ?_
      refine then_n ?_
      refine C_ret ?_
      refine then_r ?_
      refine F_ret2 Tryz.results103 rfl rfl ?_
      exact ⟨rfl, hmr⟩
    · have hne : l.map upC ≠ [] := fun h => h0 (by simpa using congrArg List.length h)
      have hcc : ∀ c ∈ l.map upC, capN c.toNat = true := fun c hc => by
        obtain ⟨d, hd, rfl⟩ := List.mem_map.1 hc
        obtain ⟨j, hj⟩ := List.getElem?_of_mem hd
        exact hall j (by rw [hil]; exact (List.getElem?_eq_some_iff.1 hj).1) d hj
      have hsz : (str (l.map upC)).size = l.length := by rw [str_size]; simp
      have hlm : (l.map upC).length = l.length := by simp
      refine C_exit ?_
      refine then_x ?_
      refine then_x ?_
      refine blk_x ?_
      refine then_n ?_
      refine C_seq ?_
      refine C_seq ?_
      refine C_region ?_
      refine L (S (P_move rfl) ?_)
      refine L (S (P_lenS Tryz.underlying56 rfl) ?_)
      refine L (S (P_eq rfl rfl (decide_eq_false (by omega))) ?_)
      refine L (S (P_move rfl) ?_)
      have hcall := contains_call (w := wr) (l.map upC) (hx.no hmr)
      by_cases hin : l.map upC ∈ wordsL
      · have hk : kwF l = some (l.map upC) := by unfold kwF; rw [if_pos hin]
        rw [hk]
        rw [decide_eq_true hin] at hcall
        refine L_yes (j := 3) (dj := 37) (b := false) (S (P_move rfl) ?_) rfl
        refine L_yes (j := 3) (dj := 37) (b := false) (S_bytesStr Tryz.underlying56 Tryz.underlying5 Tryz.underlying9 rfl hb.slr hlm ?_) rfl
        refine L_yes (j := 3) (dj := 37) (b := false) (S (P_addT rfl rfl (by rw [hsz]; show 1 + l.length ≤ _; omega)) ?_) rfl
        refine L_yes (j := 3) (dj := 37) (b := false) (S (P_addT rfl rfl (by rw [ByteArray.size_append, hsz]; show 1 + l.length + 1 ≤ _; omega)) ?_) rfl
        refine L_yes (j := 3) (dj := 37) (b := false) (S_call cb_119 rfl (hcall _ _ words_text.symm (by simp [str]) hne hcc) ?_) rfl
        rintro _ _ ⟨rfl, rfl⟩
        refine L_yes (j := 3) (dj := 37) (b := false) (S (P_not rfl rfl) ?_) rfl
        refine L (S (P_pickF rfl rfl) ?_)
        refine L_nil ?_
        refine then_n ?_
        refine C_false rfl ?_
        refine C_skip ?_
        refine then_n ?_
        refine C_seq ?_
        refine C_region ?_
        refine L (S (P_move rfl) ?_)
        refine L (S_bytesStr Tryz.underlying56 Tryz.underlying5 Tryz.underlying9 rfl hb.slr hlm ?_)
        refine L (S (P_assign rfl) ?_)
        refine L (S (P_assign rfl) ?_)
        refine L_nil ?_
        refine then_n ?_
        refine C_ret ?_
        refine F_ret2 Tryz.results103 rfl rfl ?_
        exact ⟨rfl, hmr⟩
      · have hk : kwF l = none := by unfold kwF; rw [if_neg hin]
        rw [hk]
        rw [decide_eq_false hin] at hcall
        refine L_yes (j := 3) (dj := 37) (b := false) (S (P_move rfl) ?_) rfl
        refine L_yes (j := 3) (dj := 37) (b := false) (S_bytesStr Tryz.underlying56 Tryz.underlying5 Tryz.underlying9 rfl hb.slr hlm ?_) rfl
        refine L_yes (j := 3) (dj := 37) (b := false) (S (P_addT rfl rfl (by rw [hsz]; show 1 + l.length ≤ _; omega)) ?_) rfl
        refine L_yes (j := 3) (dj := 37) (b := false) (S (P_addT rfl rfl (by rw [ByteArray.size_append, hsz]; show 1 + l.length + 1 ≤ _; omega)) ?_) rfl
        refine L_yes (j := 3) (dj := 37) (b := false) (S_call cb_119 rfl (hcall _ _ words_text.symm (by simp [str]) hne hcc) ?_) rfl
        rintro _ _ ⟨rfl, rfl⟩
        refine L_yes (j := 3) (dj := 37) (b := false) (S (P_not rfl rfl) ?_) rfl
        refine L (S (P_pickF rfl rfl) ?_)
        refine L_nil ?_
        refine then_n ?_
        refine C_true rfl ?_
        refine C_seq ?_
        refine C_region ?_
        refine L (S (P_assign rfl) ?_)
        refine L (S (P_assign rfl) ?_)
        refine L_nil ?_
        refine then_n ?_
        refine C_ret ?_
        refine then_r ?_
        refine F_ret2 Tryz.results103 rfl rfl ?_
        exact ⟨rfl, hmr⟩
end
end Go.Proofs.YtnoioimphcmeiaaGreatDoor
