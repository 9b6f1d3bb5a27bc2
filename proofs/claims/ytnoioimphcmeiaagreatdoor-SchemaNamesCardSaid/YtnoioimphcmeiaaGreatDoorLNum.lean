import Derived.Test.YtnoioimphcmeiaaGreatDoorLText
namespace Go.Proofs.YtnoioimphcmeiaaGreatDoor
open Go.RowKit
set_option maxRecDepth 20000

theorem str_from {l : List UInt8} {i : Nat} : (str l).extract i (str l).size = str (l.drop i) := by
  rw [str_cut, str_size, List.take_of_length_le (Nat.le_refl _)]
theorem str_to {l : List UInt8} {j : Nat} : (str l).extract 0 j = str (l.take j) := by
  rw [str_cut, List.drop_zero]
theorem str_list (l : List UInt8) : (str l).toList = l := by rw [ByteArray.toList_eq]; rfl
theorem gtB_eq : ∀ a b : List UInt8, (!(Op.bytesLess a b || a == b)) = gtB a b
  | [], [] => rfl
  | [], _ :: _ => rfl
  | _ :: _, [] => rfl
  | a :: x, b :: y => by
    have ih := gtB_eq x y
    simp only [Op.bytesLess, gtB]
    by_cases hab : a = b
    · subst hab
      have h1 : decide (a < a) = false := decide_eq_false (by rw [UInt8.lt_iff_toNat_lt]; omega)
      rw [if_pos rfl, ← ih, h1]
      simp
    · have hne : a.toNat ≠ b.toNat := fun h => hab (UInt8.toNat_inj.1 h)
      rw [if_neg hab]
      have h2 : (a == b) = false := by simpa using hab
      have h3 : (a :: x == b :: y) = false := by simp [hab]
      rw [h2, h3]
      simp only [Bool.false_and, Bool.or_false]
      by_cases hlt : b.toNat < a.toNat
      · rw [decide_eq_true hlt, decide_eq_false (by rw [UInt8.lt_iff_toNat_lt]; omega)]; rfl
      · rw [decide_eq_false hlt, decide_eq_true (by rw [UInt8.lt_iff_toNat_lt]; omega)]; rfl

/-- Digits, a point, digits. -/
def RealT (l : List UInt8) : Prop := ∃ a b : List UInt8, l = a ++ 46 :: b ∧ a ≠ [] ∧ b ≠ [] ∧ (∀ c ∈ a, digN c.toNat = true) ∧ (∀ c ∈ b, digN c.toNat = true)
theorem take_point {l : List UInt8} {n : Nat} (k : Nat) (h46 : l[n]? = some 46) : l.take (n + 1 + k) = l.take n ++ 46 :: (l.drop (n + 1)).take k := by
  obtain ⟨hlt, he⟩ := List.getElem?_eq_some_iff.1 h46
  rw [show n + 1 + k = n + (k + 1) by omega, List.take_add, List.drop_eq_getElem_cons hlt, he, List.take_succ_cons]
theorem realT_take {l : List UInt8} (h0 : 0 < spanB digN l) (hm : 0 < moreF l) : RealT (l.take (spanB digN l + 1 + moreF l)) := by
  have hle := moreF_le l hm
  have h46 : l[spanB digN l]? = some 46 := by
    unfold moreF at hm
    split at hm
    · assumption
    · omega
  have hmf : moreF l = spanB digN (l.drop (spanB digN l + 1)) := by unfold moreF; rw [if_pos h46]
  have h1 := spanB_all digN l
  have h2 := spanB_all digN (l.drop (spanB digN l + 1))
  rw [← hmf] at h2
  rw [take_point _ h46]
  clear hmf h46
  generalize moreF l = k at *
  generalize spanB digN l = n at *
  refine ⟨l.take n, (l.drop (n + 1)).take k, rfl, ?_, ?_, h1, h2⟩
  · intro h
    have := congrArg List.length h
    rw [List.length_take, List.length_nil] at this
    omega
  · intro h
    have := congrArg List.length h
    rw [List.length_take, List.length_drop, List.length_nil] at this
    omega

/-- All numbers with a point in a text are such. -/
def InT (T : List UInt8 → Prop) (l : List UInt8) : Prop := ∀ x, x <:+: l → RealT x → T x
theorem InT.drop {T : List UInt8 → Prop} {l : List UInt8} (h : InT T l) (i : Nat) : InT T (l.drop i) := fun x hx hr => h x (hx.trans (List.drop_suffix i l).isInfix) hr
/-- What ParseFloat does with digits, a point, digits: is the number 1e15 or more? V: what must hold of the world; T: of the text. -/
structure PF (big : List UInt8 → Bool) (V : World → Prop) (T : List UInt8 → Prop) : Prop where
  mono : ∀ w w', V w → Mv No w w' → V w'
  mx : ∀ w, V w → Mx w
  call : ∀ (w : World) (l : List UInt8), V w → RealT l → T l → Ret Tryz.prog 121 [.string (str l), .int .i64 64] w fun v w' => ∃ (fb : Nat) (e : Value), v = .tuple #[.float .f64 fb, e] ∧ Mv No w w' ∧
    (((e = .nilIface ∧ (FloatKind.f64.format.order fb 4831355200913801216 == some .gt || FloatKind.f64.format.order fb 4831355200913801216 == some .eq) = big l) ∨ (∃ t u, e = .iface t u) ∧ big l = true) ∧ (FloatKind.f64.format.order fb 4831355200913801216 == some .lt) = !(big l))

section
variable {w : World}
theorem hasPrefix_ret (a b : List UInt8) : Ret Tryz.prog 106 [.string (str a), .string (str b)] w fun v w' => v = .bool (b.isPrefixOf a) ∧ w = w' :=
  (Tryz.strings_HasPrefix (str a) (str b) w).mono fun e w' ⟨he, hw⟩ => ⟨_, he, rfl, hw.symm⟩
theorem trimPrefix_ret (a b : List UInt8) : Ret Tryz.prog 120 [.string (str a), .string (str b)] w fun v w' => v = .string (str (if b.isPrefixOf a = true then a.drop b.length else a)) ∧ w = w' :=
  (Tryz.strings_TrimPrefix (str a) (str b) w).mono fun e w' ⟨he, hw⟩ => ⟨_, he, rfl, hw.symm⟩
theorem indexByte_ret (a : List UInt8) (c : UInt8) : Ret Tryz.prog 107 [.string (str a), bv c] w fun v w' => v = .int .i64 (Lib.indexByte a c) ∧ w = w' :=
  (Tryz.strings_IndexByte (str a) (c.toNat : Int) w).mono fun e w' ⟨he, hw⟩ => ⟨_, he, by simp [str], hw.symm⟩

theorem dot_pos {l : List UInt8} {n : Nat} (h : l[n]? = some 46) : [46].isPrefixOf (l.drop n) = true ∧ (l.drop n).drop 1 = l.drop (n + 1) := by
  obtain ⟨hlt, he⟩ := List.getElem?_eq_some_iff.1 h
  rw [List.drop_eq_getElem_cons hlt, he]
  exact ⟨by simp [List.isPrefixOf], rfl⟩
theorem dot_neg {l : List UInt8} {n : Nat} (h : ¬ l[n]? = some 46) : [46].isPrefixOf (l.drop n) = false := by
  cases hd : l.drop n with
  | nil => rfl
  | cons c r =>
    have hc : l[n]? = some c := by
      have := congrArg (·[0]?) hd
      simpa using this
    have : c ≠ 46 := fun he => h (by rw [hc, he])
    simp [List.isPrefixOf]
    exact fun he => this he.symm

theorem trim_pos {l : List UInt8} {n : Nat} (h : l[n]? = some 46) : Ret Tryz.prog 120 [.string (str (l.drop n)), .string (str [46])] w fun v w' => v = .string (str (l.drop (n + 1))) ∧ w = w' :=
  (trimPrefix_ret (l.drop n) [46]).mono fun v w' ⟨h1, h2⟩ => ⟨by rw [h1, if_pos (dot_pos h).1]; exact congrArg (fun x => Value.string (str x)) (dot_pos h).2, h2⟩
theorem trim_neg {l : List UInt8} {n : Nat} (h : ¬ l[n]? = some 46) : Ret Tryz.prog 120 [.string (str (l.drop n)), .string (str [46])] w fun v w' => v = .string (str (l.drop n)) ∧ w = w' :=
  (trimPrefix_ret (l.drop n) [46]).mono fun v w' ⟨h1, h2⟩ => ⟨by rw [h1, if_neg (by rw [dot_neg h]; decide)], h2⟩
theorem has_pos {l : List UInt8} {n : Nat} (h : l[n]? = some 46) : Ret Tryz.prog 106 [.string (str (l.drop n)), .string (str [46])] w fun v w' => v = .bool true ∧ w = w' :=
  (hasPrefix_ret (l.drop n) [46]).mono fun v w' ⟨h1, h2⟩ => ⟨by rw [h1, (dot_pos h).1], h2⟩
theorem has_neg {l : List UInt8} {n : Nat} (h : ¬ l[n]? = some 46) : Ret Tryz.prog 106 [.string (str (l.drop n)), .string (str [46])] w fun v w' => v = .bool false ∧ w = w' :=
  (hasPrefix_ret (l.drop n) [46]).mono fun v w' ⟨h1, h2⟩ => ⟨by rw [h1, dot_neg h], h2⟩

set_option maxHeartbeats 2000000 in
theorem number_ret {big : List UInt8 → Bool} {V : World → Prop} {T : List UInt8 → Prop} (hpf : PF big V T) (hv : V w) (l : List UInt8) (hT : InT T l) (hl : l.length ≤ 100000) (h0 : 0 < spanB digN l) :
    Ret Tryz.prog 104 [.string (str l)] w fun v w' => (match numF big l with
      | .ok k s n => v = .tuple #[.agg (tkC k s 0).toArray, .int .i64 (n : Int), .int .i64 0]
      | .er e => v = .tuple #[.agg (tkC 0 [] 0).toArray, .int .i64 0, .int .i64 (e : Int)]) ∧ Mv No w w' := by
  have hsz := str_size l
  have hn := spanB_le digN l
  have hmore := moreF_le l
  refine F_enter Tryz.func104 Tryz.ntmps104 rfl rfl ?_
  refine C_seq ?_
  refine C_region ?_
  refine L (S_alloc (zs := [(.int .i64 0), (.string (ByteArray.mk #[])), (.int .i64 0)]) ti_71 rfl ?_)
  rintro b2 w1 hb2 hm1 hn1
  refine L (S (P_assign rfl) ?_)
  refine L (S (P_assign rfl) ?_)
  refine L_nil ?_
  refine then_n ?_
  refine C_seq ?_
  have hb2' : Blk w1 b2 (tkC 0 [] 0) 71 := hb2
  have hlt2 := hb2.lt
  refine C_region ?_
  refine L (S (P_move rfl) ?_)
  refine L (S_call cb_62 rfl (span_ret l pred_dig (by omega)) ?_)
  rintro _ w2 ⟨rfl, hm2⟩
  refine L (S (P_assign rfl) ?_)
  refine L_nil ?_
  refine then_n ?_
  refine C_seq ?_
  refine C_seq ?_
  have hm02 := hm1.no hm2
  have hb22 := hb2'.no hm2
  by_cases h7 : 1 < spanB digN l ∧ l[0]? = some 48
  · have he : numF big l = .er 7 := by unfold numF; rw [if_pos h7]
    rw [he]
    refine C_region ?_
    refine L (S (P_move rfl) ?_)
    refine L (S (P_gt rfl rfl (decide_eq_true (by omega))) ?_)
    refine L (S (P_move rfl) ?_)
    refine L_yes (j := 2) (dj := 13) (b := true) (S (P_move rfl) ?_) rfl
    refine L_yes (j := 2) (dj := 13) (b := true) (S (P_indexT Tryz.underlying9 rfl rfl (j := 0) rfl (str_idx h7.2)) ?_) rfl
    refine L_yes (j := 2) (dj := 13) (b := true) (S (P_eq rfl rfl (decide_eq_true rfl)) ?_) rfl
    refine L (S (P_pickT rfl rfl) ?_)
    refine L_nil ?_
    refine then_n ?_
    refine C_true rfl ?_
    refine C_seq ?_
    refine C_region ?_
    refine L (S (P_buildC (ix := []) (l := []) bi_71 rfl (by simp [Value.oneCell']) rfl) ?_)
    refine L (S_storeS ti_71 rfl rfl (tk_one 0 [] 0) rfl hb22 (by exact Nat.le_refl 3) ?_)
    rintro w4 hb4 hm4
    refine L (S (P_assign rfl) ?_)
    refine L (S (P_assign rfl) ?_)
    refine L_nil ?_
    refine then_n ?_
    refine C_ret ?_
    refine then_r ?_
    have hb4' : Blk w4 b2 (tkC 0 [] 0) 71 := hb4
    refine F_ret (rs := [.cell 2 71, .tmp 3, .tmp 4]) [.agg (tkC 0 [] 0).toArray, .int .i64 0, .int .i64 7] Tryz.results104 ?_ ?_
    · exact ⟨⟨_, rfl, finTk hb4'⟩, rfl, rfl, trivial⟩
    · exact ⟨rfl, hm02.new hm4 hn1⟩
  refine C_cutg (γ := Unit) (fun _ => [(0, .string (str l)), (2, .pointer (some ⟨b2, 0, none⟩)), (5, .int .i64 (spanB digN l : Int)), (17, .bool false)]) (fun _ wc => wc = w2) ?_ ?_
  · by_cases h1 : 1 < spanB digN l
    · obtain ⟨c, hc⟩ : ∃ c, l[0]? = some c := ⟨l[0], List.getElem?_eq_getElem (by omega)⟩
      have hcl := c.toNat_lt
      have hc48 : c.toNat ≠ 48 := fun he => h7 ⟨h1, by rw [hc]; congr 1; rw [← UInt8.toNat_inj, he]; rfl⟩
      refine C_region ?_
      refine L (S (P_move rfl) ?_)
      refine L (S (P_gt rfl rfl (decide_eq_true (by omega))) ?_)
      refine L (S (P_move rfl) ?_)
      refine L_yes (j := 2) (dj := 13) (b := true) (S (P_move rfl) ?_) rfl
      refine L_yes (j := 2) (dj := 13) (b := true) (S (P_indexT Tryz.underlying9 rfl rfl (j := 0) rfl (str_idx hc)) ?_) rfl
      refine L_yes (j := 2) (dj := 13) (b := true) (S (P_eq rfl rfl (decide_eq_false (by omega))) ?_) rfl
      refine L (S (P_pickT rfl rfl) ?_)
      refine L_nil ?_
      refine then_n ?_
      exact ⟨rfl, (), .cons rfl (.cons rfl (.cons rfl (.cons rfl (.nil _)))), rfl⟩
    · refine C_region ?_
      refine L (S (P_move rfl) ?_)
      refine L (S (P_gt rfl rfl (decide_eq_false (by omega))) ?_)
      refine L (S (P_move rfl) ?_)
      refine L_no (j := 2) (dj := 13) (b := true) (b' := false) (d := 14) rfl ?_
      refine L_no (j := 2) (dj := 13) (b := true) (b' := false) (d := 15) rfl ?_
      refine L_no (j := 2) (dj := 13) (b := true) (b' := false) (d := 16) rfl ?_
      refine L (S (P_pickF rfl rfl) ?_)
      refine L_nil ?_
      refine then_n ?_
      exact ⟨rfl, (), .cons rfl (.cons rfl (.cons rfl (.cons rfl (.nil _)))), rfl⟩
  rintro _ wz rfl f' hf'
  refine C_forget hf' ?_
  clear hf' f'
  refine C_false rfl ?_
  refine C_skip ?_
  refine then_n ?_
  refine C_seq ?_
  refine C_seq ?_
  refine C_cutg (γ := Unit) (fun _ => [(0, .string (str l)), (2, .pointer (some ⟨b2, 0, none⟩)), (5, .int .i64 (spanB digN l : Int)), (6, .int .i64 (moreF l : Int))]) (fun _ wc => Mv No wz wc) ?_ ?_
  · by_cases h46 : l[spanB digN l]? = some 46
    · have hmf : moreF l = spanB digN (l.drop (spanB digN l + 1)) := by unfold moreF; rw [if_pos h46]
      rw [hmf]
      refine C_region ?_
      refine L (S (P_move rfl) ?_)
      refine L (S (P_move rfl) ?_)
      refine L (S (P_sliceT Tryz.underlying9 rfl (bnd_some (j := spanB digN l) rfl rfl) bnd_none (by omega) (Nat.le_refl _) str_from) ?_)
      refine L (S_call cb_120 rfl (trim_pos h46) ?_)
      rintro _ _ ⟨rfl, rfl⟩
      refine L (S_call cb_62 rfl (span_ret (l.drop (spanB digN l + 1)) pred_dig (by rw [List.length_drop]; omega)) ?_)
      rintro _ w3 ⟨rfl, hm3⟩
      refine L (S (P_assign rfl) ?_)
      refine L_nil ?_
      refine then_n ?_
      exact ⟨rfl, (), .cons rfl (.cons rfl (.cons rfl (.cons rfl (.nil _)))), hm3⟩
    · have hmf : moreF l = spanB digN (l.drop (spanB digN l)) := by
        unfold moreF
        rw [if_neg h46]
        symm
        refine spanB_eq digN _ 0 (Nat.zero_le _) (fun j hj => by omega) (fun c hc => spanB_at digN l c (by simpa using hc))
      rw [hmf]
      refine C_region ?_
      refine L (S (P_move rfl) ?_)
      refine L (S (P_move rfl) ?_)
      refine L (S (P_sliceT Tryz.underlying9 rfl (bnd_some (j := spanB digN l) rfl rfl) bnd_none (by omega) (Nat.le_refl _) str_from) ?_)
      refine L (S_call cb_120 rfl (trim_neg h46) ?_)
      rintro _ _ ⟨rfl, rfl⟩
      refine L (S_call cb_62 rfl (span_ret (l.drop (spanB digN l)) pred_dig (by rw [List.length_drop]; omega)) ?_)
      rintro _ w3 ⟨rfl, hm3⟩
      refine L (S (P_assign rfl) ?_)
      refine L_nil ?_
      refine then_n ?_
      exact ⟨rfl, (), .cons rfl (.cons rfl (.cons rfl (.cons rfl (.nil _)))), hm3⟩
  rintro _ w3 hm3 f' hf'
  refine C_forget hf' ?_
  clear hf' f'
  refine C_seq ?_
  refine C_cutg (γ := Unit) (fun _ => [(0, .string (str l)), (2, .pointer (some ⟨b2, 0, none⟩)), (5, .int .i64 (spanB digN l : Int)), (6, .int .i64 (moreF l : Int)), (31, .bool (decide (0 < moreF l)))]) (fun _ wc => wc = w3) ?_ ?_
  · by_cases h46 : l[spanB digN l]? = some 46
    · by_cases hm : 0 < moreF l
      · rw [decide_eq_true hm]
        refine C_region ?_
        refine L (S (P_move rfl) ?_)
        refine L (S (P_move rfl) ?_)
        refine L (S (P_sliceT Tryz.underlying9 rfl (bnd_some (j := spanB digN l) rfl rfl) bnd_none (by omega) (Nat.le_refl _) str_from) ?_)
        refine L (S_call cb_106 rfl (has_pos h46) ?_)
        rintro _ _ ⟨rfl, rfl⟩
        refine L (S (P_move rfl) ?_)
        refine L_yes (j := 4) (dj := 28) (b := true) (S (P_move rfl) ?_) rfl
        refine L_yes (j := 4) (dj := 28) (b := true) (S (P_gt rfl rfl (decide_eq_true (by omega))) ?_) rfl
        refine L (S (P_pickT rfl rfl) ?_)
        refine L_nil ?_
        refine then_n ?_
        exact ⟨rfl, (), .cons rfl (.cons rfl (.cons rfl (.cons rfl (.cons rfl (.nil _))))), rfl⟩
      · rw [decide_eq_false hm]
        refine C_region ?_
        refine L (S (P_move rfl) ?_)
        refine L (S (P_move rfl) ?_)
        refine L (S (P_sliceT Tryz.underlying9 rfl (bnd_some (j := spanB digN l) rfl rfl) bnd_none (by omega) (Nat.le_refl _) str_from) ?_)
        refine L (S_call cb_106 rfl (has_pos h46) ?_)
        rintro _ _ ⟨rfl, rfl⟩
        refine L (S (P_move rfl) ?_)
        refine L_yes (j := 4) (dj := 28) (b := true) (S (P_move rfl) ?_) rfl
        refine L_yes (j := 4) (dj := 28) (b := true) (S (P_gt rfl rfl (decide_eq_false (by omega))) ?_) rfl
        refine L (S (P_pickT rfl rfl) ?_)
        refine L_nil ?_
        refine then_n ?_
        exact ⟨rfl, (), .cons rfl (.cons rfl (.cons rfl (.cons rfl (.cons rfl (.nil _))))), rfl⟩
    · have hm : ¬ 0 < moreF l := by unfold moreF; rw [if_neg h46]; omega
      rw [decide_eq_false hm]
      refine C_region ?_
      refine L (S (P_move rfl) ?_)
      refine L (S (P_move rfl) ?_)
      refine L (S (P_sliceT Tryz.underlying9 rfl (bnd_some (j := spanB digN l) rfl rfl) bnd_none (by omega) (Nat.le_refl _) str_from) ?_)
      refine L (S_call cb_106 rfl (has_neg h46) ?_)
      rintro _ _ ⟨rfl, rfl⟩
      refine L (S (P_move rfl) ?_)
      refine L_no (j := 4) (dj := 28) (b := true) (b' := false) (d := 29) rfl ?_
      refine L_no (j := 4) (dj := 28) (b := true) (b' := false) (d := 30) rfl ?_
      refine L (S (P_pickF rfl rfl) ?_)
      refine L_nil ?_
      refine then_n ?_
      exact ⟨rfl, (), .cons rfl (.cons rfl (.cons rfl (.cons rfl (.cons rfl (.nil _))))), rfl⟩
  rintro _ w4 rfl f' hf'
  refine C_forget hf' ?_
  clear hf' f'
  have hm04 : Mv No w w4 := hm02.no hm3
  have hb24 := hb22.no hm3
  by_cases hm : 0 < moreF l
  · have hle := hmore hm
    have hreal := realT_take h0 hm
    have hnum : numF big l = if big (l.take (spanB digN l + 1 + moreF l)) = true then .er 4 else .ok 4 (l.take (spanB digN l + 1 + moreF l)) (spanB digN l + 1 + moreF l) := by unfold numF; rw [if_neg h7, if_pos hm]
    rw [hnum, decide_eq_true hm]
    clear hnum
    have hlt4 : T (l.take (spanB digN l + 1 + moreF l)) := hT _ (List.take_prefix _ _).isInfix hreal
    generalize hk : spanB digN l + 1 + moreF l = k at *
    refine C_true rfl ?_
    refine C_seq ?_
    refine C_region ?_
    refine L (S (P_move rfl) ?_)
    refine L (S (P_move rfl) ?_)
    refine L (S (P_add rfl rfl (wI64 (c := ((1 + moreF l : Nat) : Int)) (by omega))) ?_)
    refine L (S (P_add rfl rfl (wI64 (c := (k : Int)) (by omega))) ?_)
    refine L (S (P_assign rfl) ?_)
    refine L_nil ?_
    refine then_n ?_
    refine C_seq ?_
    refine C_seq ?_
    refine C_region ?_
    refine L (S (P_move rfl) ?_)
    refine L (S (P_move rfl) ?_)
    refine L (S (P_sliceT Tryz.underlying9 rfl bnd_none (bnd_some (j := k) rfl rfl) (by omega) (by omega) str_to) ?_)
    refine L (S_call cb_121 rfl (hpf.call w4 (l.take k) (hpf.mono _ _ hv hm04) hreal hlt4) ?_)
    rintro _ w5 ⟨fb, e, rfl, hm5, hcase, -⟩
    refine L (S (P_move rfl) ?_)
    refine L (S (P_extract rfl rfl) ?_)
    refine L (S (P_extract rfl rfl) ?_)
    refine L (S (P_assign rfl) ?_)
    refine L (S (P_assign rfl) ?_)
    refine L_nil ?_
    refine then_n ?_
    refine C_seq ?_
    refine C_cutg (γ := Unit) (fun _ => [(0, .string (str l)), (2, .pointer (some ⟨b2, 0, none⟩)), (5, .int .i64 (k : Int)), (48, .bool (big (l.take k)))]) (fun _ wc => wc = w5) ?_ ?_
    · rcases hcase with ⟨rfl, hge⟩ | ⟨⟨t, u, rfl⟩, hbig⟩
      · refine C_region ?_
        refine L (S (P_move rfl) ?_)
        refine L (S (P_neI Tryz.underlying168 rfl (.inl ⟨rfl, rfl⟩)) ?_)
        refine L (S (P_move rfl) ?_)
        refine L_yes (j := 2) (dj := 45) (b := false) (S (P_move rfl) ?_) rfl
        refine L_yes (j := 2) (dj := 45) (b := false) (S (P_geF rfl rfl hge) ?_) rfl
        refine L (S (P_pickF rfl rfl) ?_)
        refine L_nil ?_
        refine then_n ?_
        exact ⟨rfl, (), .cons rfl (.cons rfl (.cons rfl (.cons rfl (.nil _)))), rfl⟩
      · rw [hbig]
        refine C_region ?_
        refine L (S (P_move rfl) ?_)
        refine L (S (P_neI Tryz.underlying168 rfl (.inr ⟨_, _, rfl, rfl⟩)) ?_)
        refine L (S (P_move rfl) ?_)
        refine L_no (j := 2) (dj := 45) (b := false) (b' := true) (d := 46) rfl ?_
        refine L_no (j := 2) (dj := 45) (b := false) (b' := true) (d := 47) rfl ?_
        refine L (S (P_pickT rfl rfl) ?_)
        refine L_nil ?_
        refine then_n ?_
        exact ⟨rfl, (), .cons rfl (.cons rfl (.cons rfl (.cons rfl (.nil _)))), rfl⟩
    rintro _ w6 rfl f' hf'
    refine C_forget hf' ?_
    clear hf' f'
    have hm06 : Mv No w w6 := hm04.no hm5
    have hb26 := hb24.no hm5
    cases hbig : big (l.take k) with
    | true =>
      rw [if_pos rfl]
      refine C_true rfl ?_
      refine C_seq ?_
      refine C_region ?_
      refine L (S (P_buildC (ix := []) (l := []) bi_71 rfl (by simp [Value.oneCell']) rfl) ?_)
      refine L (S_storeS ti_71 rfl rfl (tk_one 0 [] 0) rfl hb26 (by exact Nat.le_refl 3) ?_)
      rintro w7 hb7 hm7
      refine L (S (P_assign rfl) ?_)
      refine L (S (P_assign rfl) ?_)
      refine L_nil ?_
      refine then_n ?_
      refine C_ret ?_
      refine then_r ?_
      refine then_r ?_
      have hb7' : Blk w7 b2 (tkC 0 [] 0) 71 := hb7
      refine F_ret (rs := [.cell 2 71, .tmp 3, .tmp 4]) [.agg (tkC 0 [] 0).toArray, .int .i64 0, .int .i64 4] Tryz.results104 ?_ ?_
      · exact ⟨⟨_, rfl, finTk hb7'⟩, rfl, rfl, trivial⟩
      · exact ⟨rfl, hm06.new hm7 hn1⟩
    | false =>
      rw [if_neg (by decide)]
      refine C_false rfl ?_
      refine C_skip ?_
      refine then_n ?_
      refine C_seq ?_
      refine C_region ?_
      refine L (S (P_move rfl) ?_)
      refine L (S (P_move rfl) ?_)
      refine L (S (P_sliceT Tryz.underlying9 rfl bnd_none (bnd_some (j := k) rfl rfl) (by omega) (by omega) str_to) ?_)
      refine L (S (P_buildC (ix := [0, 1]) (l := [.const (.int .i64 4), .tmp 52]) bi_71_0_1 rfl (by simp [Value.oneCell']) rfl) ?_)
      refine L (S (P_move rfl) ?_)
      refine L (S_storeS ti_71 rfl rfl (tk_one 4 (l.take k) 0) rfl hb26 (by exact Nat.le_refl 3) ?_)
      rintro w7 hb7 hm7
      refine L (S (P_assign rfl) ?_)
      refine L (S (P_assign rfl) ?_)
      refine L_nil ?_
      refine then_n ?_
      refine C_ret ?_
      refine then_r ?_
      have hb7' : Blk w7 b2 (tkC 4 (l.take k) 0) 71 := hb7
      refine F_ret (rs := [.cell 2 71, .tmp 3, .tmp 4]) [.agg (tkC 4 (l.take k) 0).toArray, .int .i64 (k : Int), .int .i64 0] Tryz.results104 ?_ ?_
      · exact ⟨⟨_, rfl, finTk hb7'⟩, rfl, rfl, trivial⟩
      · exact ⟨rfl, hm06.new hm7 hn1⟩
  · have hnum : numF big l = if 19 < spanB digN l ∨ (spanB digN l = 19 ∧ gtB (l.take 19) bigT = true) then .er 4 else .ok 3 (l.take (spanB digN l)) (spanB digN l) := by unfold numF; rw [if_neg h7, if_neg hm]
    rw [hnum, decide_eq_false hm]
    clear hnum hmore h7
    generalize spanB digN l = n at *
    refine C_false rfl ?_
    refine C_skip ?_
    refine then_n ?_
    refine C_seq ?_
    refine C_seq ?_
    refine C_cutg (γ := Unit) (fun _ => [(0, .string (str l)), (2, .pointer (some ⟨b2, 0, none⟩)), (5, .int .i64 (n : Int)), (66, .bool (decide (19 < n ∨ (n = 19 ∧ gtB (l.take 19) bigT = true))))]) (fun _ wc => wc = w4) ?_ ?_
    · by_cases h19 : 19 < n
      · rw [decide_eq_true (.inl h19)]
        refine C_region ?_
        refine L (S (P_move rfl) ?_)
        refine L (S (P_gt rfl rfl (decide_eq_true (by omega))) ?_)
        refine L (S (P_move rfl) ?_)
        refine L_no (j := 2) (dj := 57) (b := false) (b' := true) (d := 58) rfl ?_
        refine L_no (j := 2) (dj := 57) (b := false) (b' := true) (d := 59) rfl ?_
        refine L_no (j := 2) (dj := 57) (b := false) (b' := true) (d := 60) rfl ?_
        refine L_nou (j := 5) (dj := 60) (b := true) (d := 61) rfl ?_
        refine L_nou (j := 5) (dj := 60) (b := true) (d := 62) rfl ?_
        refine L_nou (j := 5) (dj := 60) (b := true) (d := 63) rfl ?_
        refine L_nou (j := 5) (dj := 60) (b := true) (d := 64) rfl ?_
        refine L_no (j := 2) (dj := 57) (b := false) (b' := true) (d := 65) rfl ?_
        refine L (S (P_pickT rfl rfl) ?_)
        refine L_nil ?_
        refine then_n ?_
        exact ⟨rfl, (), .cons rfl (.cons rfl (.cons rfl (.cons rfl (.nil _)))), rfl⟩
      · by_cases he19 : n = 19
        · subst he19
          have hd : decide (19 < 19 ∨ (19 = 19 ∧ gtB (l.take 19) bigT = true)) = gtB (l.take 19) bigT := by
            cases gtB (l.take 19) bigT <;> simp
          rw [hd]
          have hgt : (!(Op.bytesLess (str (l.take 19)).toList (str bigT).toList || (str (l.take 19)).toList == (str bigT).toList)) = gtB (l.take 19) bigT := by
            rw [str_list, str_list]
            exact gtB_eq _ _
          refine C_region ?_
          refine L (S (P_move rfl) ?_)
          refine L (S (P_gt rfl rfl (decide_eq_false (by omega))) ?_)
          refine L (S (P_move rfl) ?_)
          refine L_yes (j := 2) (dj := 57) (b := false) (S (P_move rfl) ?_) rfl
          refine L_yes (j := 2) (dj := 57) (b := false) (S (P_eq rfl rfl (decide_eq_true rfl)) ?_) rfl
          refine L_yes (j := 2) (dj := 57) (b := false) (S (P_move rfl) ?_) rfl
          refine L_yes (j := 5) (dj := 60) (b := true) (S (P_move rfl) ?_) rfl
          refine L_yes (j := 5) (dj := 60) (b := true) (S (P_move rfl) ?_) rfl
          refine L_yes (j := 5) (dj := 60) (b := true) (S (P_sliceT Tryz.underlying9 rfl bnd_none (bnd_some (j := 19) rfl rfl) (by omega) (by omega) str_to) ?_) rfl
          refine L_yes (j := 5) (dj := 60) (b := true) (S (P_gtT rfl rfl hgt) ?_) rfl
          refine L_yes (j := 2) (dj := 57) (b := false) (S (P_pickT rfl rfl) ?_) rfl
          refine L (S (P_pickF rfl rfl) ?_)
          refine L_nil ?_
          refine then_n ?_
          exact ⟨rfl, (), .cons rfl (.cons rfl (.cons rfl (.cons rfl (.nil _)))), rfl⟩
        · rw [decide_eq_false (by omega)]
          refine C_region ?_
          refine L (S (P_move rfl) ?_)
          refine L (S (P_gt rfl rfl (decide_eq_false (by omega))) ?_)
          refine L (S (P_move rfl) ?_)
          refine L_yes (j := 2) (dj := 57) (b := false) (S (P_move rfl) ?_) rfl
          refine L_yes (j := 2) (dj := 57) (b := false) (S (P_eq rfl rfl (decide_eq_false (by omega))) ?_) rfl
          refine L_yes (j := 2) (dj := 57) (b := false) (S (P_move rfl) ?_) rfl
          refine L_no (j := 5) (dj := 60) (b := true) (b' := false) (d := 61) rfl ?_
          refine L_no (j := 5) (dj := 60) (b := true) (b' := false) (d := 62) rfl ?_
          refine L_no (j := 5) (dj := 60) (b := true) (b' := false) (d := 63) rfl ?_
          refine L_no (j := 5) (dj := 60) (b := true) (b' := false) (d := 64) rfl ?_
          refine L_yes (j := 2) (dj := 57) (b := false) (S (P_pickF rfl rfl) ?_) rfl
          refine L (S (P_pickF rfl rfl) ?_)
          refine L_nil ?_
          refine then_n ?_
          exact ⟨rfl, (), .cons rfl (.cons rfl (.cons rfl (.cons rfl (.nil _)))), rfl⟩
    rintro _ w6 rfl f' hf'
    refine C_forget hf' ?_
    clear hf' f'
    by_cases hbig : 19 < n ∨ (n = 19 ∧ gtB (l.take 19) bigT = true)
    · rw [if_pos hbig, decide_eq_true hbig]
      refine C_true rfl ?_
      refine C_seq ?_
      refine C_region ?_
      refine L (S (P_buildC (ix := []) (l := []) bi_71 rfl (by simp [Value.oneCell']) rfl) ?_)
      refine L (S_storeS ti_71 rfl rfl (tk_one 0 [] 0) rfl hb24 (by exact Nat.le_refl 3) ?_)
      rintro w7 hb7 hm7
      refine L (S (P_assign rfl) ?_)
      refine L (S (P_assign rfl) ?_)
      refine L_nil ?_
      refine then_n ?_
      refine C_ret ?_
      refine then_r ?_
      have hb7' : Blk w7 b2 (tkC 0 [] 0) 71 := hb7
      refine F_ret (rs := [.cell 2 71, .tmp 3, .tmp 4]) [.agg (tkC 0 [] 0).toArray, .int .i64 0, .int .i64 4] Tryz.results104 ?_ ?_
      · exact ⟨⟨_, rfl, finTk hb7'⟩, rfl, rfl, trivial⟩
      · exact ⟨rfl, hm04.new hm7 hn1⟩
    · rw [if_neg hbig, decide_eq_false hbig]
      refine C_false rfl ?_
      refine C_skip ?_
      refine then_n ?_
      refine C_seq ?_
      refine C_region ?_
      refine L (S (P_move rfl) ?_)
      refine L (S (P_move rfl) ?_)
      refine L (S (P_sliceT Tryz.underlying9 rfl bnd_none (bnd_some (j := n) rfl rfl) (by omega) (by omega) str_to) ?_)
      refine L (S (P_buildC (ix := [0, 1]) (l := [.const (.int .i64 3), .tmp 70]) bi_71_0_1 rfl (by simp [Value.oneCell']) rfl) ?_)
      refine L (S (P_move rfl) ?_)
      refine L (S_storeS ti_71 rfl rfl (tk_one 3 (l.take n) 0) rfl hb24 (by exact Nat.le_refl 3) ?_)
      rintro w7 hb7 hm7
      refine L (S (P_assign rfl) ?_)
      refine L (S (P_assign rfl) ?_)
      refine L_nil ?_
      refine then_n ?_
      refine C_ret ?_
      have hb7' : Blk w7 b2 (tkC 3 (l.take n) 0) 71 := hb7
      refine F_ret (rs := [.cell 2 71, .tmp 3, .tmp 4]) [.agg (tkC 3 (l.take n) 0).toArray, .int .i64 (n : Int), .int .i64 0] Tryz.results104 ?_ ?_
      · exact ⟨⟨_, rfl, finTk hb7'⟩, rfl, rfl, trivial⟩
      · exact ⟨rfl, hm04.new hm7 hn1⟩
end
end Go.Proofs.YtnoioimphcmeiaaGreatDoor
