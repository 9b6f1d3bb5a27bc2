/- Texts of this claim, joined by a program: LNum, LNext, LLex, LRefA, LRefB, LRefC, LRefD, LRefE, OpsF, FVars, FFast. -/
import Derived.Test.YtnoioimphcmeiaaGreatDoorK1
import Derived.Scope
import Derived.Test.YtnoioimphcmeiaaGreatDoorRows
import GoSem.PinnedTables
set_option linter.unusedVariables false
set_option linter.unusedSimpArgs false
namespace Go.Proofs.YtnoioimphcmeiaaGreatDoor
open Go.RowKit
set_option maxRecDepth 20000

theorem YD {l : List UInt8} {i : Nat} : (str l).extract i (str l).size = str (l.drop i) := by
  rw [str_cut, yR, List.take_of_length_le (Nat.le_refl _)]
theorem str_to {l : List UInt8} {j : Nat} : (str l).extract 0 j = str (l.take j) := by
  rw [str_cut, List.drop_zero]
theorem str_list (l : List UInt8) : (str l).toList = l := by rw [ByteArray.toList_eq]; rfl
theorem gtB_eq : ∀ a b : List UInt8, (!(Op.bytesLess a b || a == b)) = gtB a b
  | [], [] => rfl
  | [], _ :: _ => rfl
  | _ :: _, [] => rfl
  | a :: x, b :: y => by
    have ih := gtB_eq x y
    simp only [Op.bytesLess, gtB]
    by_cases hab : a = b
    · subst hab
      have h1 : decide (a < a) = false := decide_eq_false (by rw [UInt8.lt_iff_toNat_lt]; omega)
      rw [if_pos rfl, ← ih, h1]
      simp
    · have hne : a.toNat ≠ b.toNat := fun h => hab (UInt8.toNat_inj.1 h)
      rw [if_neg hab]
      have h2 : (a == b) = false := by simpa using hab
      have h3 : (a :: x == b :: y) = false := by simp [hab]
      rw [h2, h3]
      simp only [Bool.false_and, Bool.or_false]
      by_cases hlt : b.toNat < a.toNat
      · rw [decide_eq_true hlt, decide_eq_false (by rw [UInt8.lt_iff_toNat_lt]; omega)]; rfl
      · rw [decide_eq_false hlt, decide_eq_true (by rw [UInt8.lt_iff_toNat_lt]; omega)]; rfl

/-- Digits, a point, digits. -/
def RealT (l : List UInt8) : Prop := ∃ a b : List UInt8, l = a ++ 46 :: b ∧ a ≠ [] ∧ b ≠ [] ∧ (∀ c ∈ a, yL c.toNat = true) ∧ (∀ c ∈ b, yL c.toNat = true)
theorem take_point {l : List UInt8} {n : Nat} (k : Nat) (h46 : l[n]? = some 46) : l.take (n + 1 + k) = l.take n ++ 46 :: (l.drop (n + 1)).take k := by
  obtain ⟨hlt, he⟩ := List.getElem?_eq_some_iff.1 h46
  rw [show n + 1 + k = n + (k + 1) by omega, List.take_add, List.drop_eq_getElem_cons hlt, he, List.take_succ_cons]
theorem realT_take {l : List UInt8} (h0 : 0 < zQ yL l) (hm : 0 < ZF l) : RealT (l.take (zQ yL l + 1 + ZF l)) := by
  have hle := moreF_le l hm
  have h46 : l[zQ yL l]? = some 46 := by
    unfold ZF at hm
    split at hm
    · assumption
    · omega
  have hmf : ZF l = zQ yL (l.drop (zQ yL l + 1)) := by unfold ZF; rw [if_pos h46]
  have h1 := spanB_all yL l
  have h2 := spanB_all yL (l.drop (zQ yL l + 1))
  rw [← hmf] at h2
  rw [take_point _ h46]
  clear hmf h46
  generalize ZF l = k at *
  generalize zQ yL l = n at *
  refine ⟨l.take n, (l.drop (n + 1)).take k, rfl, ?_, ?_, h1, h2⟩
  · intro h
    have := congrArg List.length h
    rw [List.length_take, List.length_nil] at this
    omega
  · intro h
    have := congrArg List.length h
    rw [List.length_take, List.length_drop, List.length_nil] at this
    omega

/-- All numbers with a point in a text are such. -/
def InT (T : List UInt8 → Prop) (l : List UInt8) : Prop := ∀ x, x <:+: l → RealT x → T x
theorem InT.drop {T : List UInt8 → Prop} {l : List UInt8} (h : InT T l) (i : Nat) : InT T (l.drop i) := fun x hx hr => h x (hx.trans (List.drop_suffix i l).isInfix) hr
/-- What ParseFloat does with digits, a point, digits: is the number 1e15 or more? V: what must hold of the world; T: of the text. -/
structure PF (big : List UInt8 → Bool) (V : World → Prop) (T : List UInt8 → Prop) : Prop where
  mono : ∀ w w', V w → Mv No w w' → V w'
  mx : ∀ w, V w → Mx w
  call : ∀ (w : World) (l : List UInt8), V w → RealT l → T l → Ret Tryz.prog 121 [.string (str l), .int .i64 64] w fun v w' => ∃ (fb : Nat) (e : Value), v = .tuple #[.float .f64 fb, e] ∧ Mv No w w' ∧
    (((e = .nilIface ∧ (FloatKind.f64.format.order fb 4831355200913801216 == some .gt || FloatKind.f64.format.order fb 4831355200913801216 == some .eq) = big l) ∨ (∃ t u, e = .iface t u) ∧ big l = true) ∧ (FloatKind.f64.format.order fb 4831355200913801216 == some .lt) = !(big l))

section
variable {w : World}
theorem hasPrefix_ret (a b : List UInt8) : Ret Tryz.prog 106 [.string (str a), .string (str b)] w fun v w' => v = .bool (b.isPrefixOf a) ∧ w = w' :=
  (Tryz.strings_HasPrefix (str a) (str b) w).mono fun e w' ⟨he, hw⟩ => ⟨_, he, rfl, hw.symm⟩
theorem trimPrefix_ret (a b : List UInt8) : Ret Tryz.prog 120 [.string (str a), .string (str b)] w fun v w' => v = .string (str (if b.isPrefixOf a = true then a.drop b.length else a)) ∧ w = w' :=
  (Tryz.strings_TrimPrefix (str a) (str b) w).mono fun e w' ⟨he, hw⟩ => ⟨_, he, rfl, hw.symm⟩
theorem indexByte_ret (a : List UInt8) (c : UInt8) : Ret Tryz.prog 107 [.string (str a), bv c] w fun v w' => v = .int .i64 (Lib.indexByte a c) ∧ w = w' :=
  (Tryz.strings_IndexByte (str a) (c.toNat : Int) w).mono fun e w' ⟨he, hw⟩ => ⟨_, he, by simp [str], hw.symm⟩

theorem dot_pos {l : List UInt8} {n : Nat} (h : l[n]? = some 46) : [46].isPrefixOf (l.drop n) = true ∧ (l.drop n).drop 1 = l.drop (n + 1) := by
  obtain ⟨hlt, he⟩ := List.getElem?_eq_some_iff.1 h
  rw [List.drop_eq_getElem_cons hlt, he]
  exact ⟨by simp [List.isPrefixOf], rfl⟩
theorem dot_neg {l : List UInt8} {n : Nat} (h : ¬ l[n]? = some 46) : [46].isPrefixOf (l.drop n) = false := by
  cases hd : l.drop n with
  | nil => rfl
  | cons c r =>
    have hc : l[n]? = some c := by
      have := congrArg (·[0]?) hd
      simpa using this
    have : c ≠ 46 := fun he => h (by rw [hc, he])
    simp [List.isPrefixOf]
    exact fun he => this he.symm

theorem trim_pos {l : List UInt8} {n : Nat} (h : l[n]? = some 46) : Ret Tryz.prog 120 [.string (str (l.drop n)), .string (str [46])] w fun v w' => v = .string (str (l.drop (n + 1))) ∧ w = w' :=
  (trimPrefix_ret (l.drop n) [46]).mono fun v w' ⟨h1, h2⟩ => ⟨by rw [h1, if_pos (dot_pos h).1]; exact congrArg (fun x => Value.string (str x)) (dot_pos h).2, h2⟩
theorem trim_neg {l : List UInt8} {n : Nat} (h : ¬ l[n]? = some 46) : Ret Tryz.prog 120 [.string (str (l.drop n)), .string (str [46])] w fun v w' => v = .string (str (l.drop n)) ∧ w = w' :=
  (trimPrefix_ret (l.drop n) [46]).mono fun v w' ⟨h1, h2⟩ => ⟨by rw [h1, if_neg (by rw [dot_neg h]; decide)], h2⟩
theorem has_pos {l : List UInt8} {n : Nat} (h : l[n]? = some 46) : Ret Tryz.prog 106 [.string (str (l.drop n)), .string (str [46])] w fun v w' => v = .bool true ∧ w = w' :=
  (hasPrefix_ret (l.drop n) [46]).mono fun v w' ⟨h1, h2⟩ => ⟨by rw [h1, (dot_pos h).1], h2⟩
theorem has_neg {l : List UInt8} {n : Nat} (h : ¬ l[n]? = some 46) : Ret Tryz.prog 106 [.string (str (l.drop n)), .string (str [46])] w fun v w' => v = .bool false ∧ w = w' :=
  (hasPrefix_ret (l.drop n) [46]).mono fun v w' ⟨h1, h2⟩ => ⟨by rw [h1, dot_neg h], h2⟩

set_option maxHeartbeats 2000000 in
theorem number_ret {big : List UInt8 → Bool} {V : World → Prop} {T : List UInt8 → Prop} (hpf : PF big V T) (hv : V w) (l : List UInt8) (hT : InT T l) (hl : l.length ≤ 100000) (h0 : 0 < zQ yL l) :
    Ret Tryz.prog 104 [.string (str l)] w fun v w' => (match numF big l with
      | .ok k s n => v = .tuple #[.agg (Zf k s 0).toArray, .int .i64 (n : Int), .int .i64 0]
      | .er e => v = .tuple #[.agg (Zf 0 [] 0).toArray, .int .i64 0, .int .i64 (e : Int)]) ∧ Mv No w w' := by
  have hsz := yR l
  have hn := Yr yL l
  have hmore := moreF_le l
  refine zN Tryz.func104 Tryz.ntmps104 rfl rfl ?_
  refine zf (zb ?_)
  refine L (ye (zs := [(.int .i64 0), (.string (ByteArray.mk #[])), (.int .i64 0)]) yD rfl ?_)
  rintro b2 w1 hb2 hm1 hn1
  refine L (S (zd rfl) (L (S (zd rfl) (zg (zc (zf ?_))))))
  have hb2' : Blk w1 b2 (Zf 0 [] 0) 71 := hb2
  have hlt2 := hb2.lt
  refine zb (L (S (za rfl) ?_))
  refine L (zq cb_62 rfl (span_ret l pred_dig (by omega)) ?_)
  rintro _ w2 ⟨rfl, hm2⟩
  refine L (S (zd rfl) (zg (zc (zf (zf ?_)))))
  have hm02 := hm1.no hm2
  have hb22 := hb2'.no hm2
  by_cases h7 : 1 < zQ yL l ∧ l[0]? = some 48
  · have he : numF big l = .er 7 := by unfold numF; rw [if_pos h7]
    rw [he]
    refine zb (L (S (za rfl) ?_))
    refine L (S (yp rfl rfl (decide_eq_true (by omega))) ?_)
    refine L (S (za rfl) (zh (j := 2) (dj := 13) (b := true) (S (za rfl) ?_) rfl))
    refine zh (j := 2) (dj := 13) (b := true) (S (zY Tryz.underlying9 rfl rfl (j := 0) rfl (yd h7.2)) ?_) rfl
    refine zh (j := 2) (dj := 13) (b := true) (S (zR rfl rfl (decide_eq_true rfl)) ?_) rfl
    refine L (S (zt rfl rfl) (zg (zc (zr rfl (zf (zb ?_))))))
    refine L (S (zW (ix := []) (l := []) bi_71 rfl (by simp [Value.oneCell']) rfl) ?_)
    refine L (zw yD rfl rfl (yM 0 [] 0) rfl hb22 (by exact Nat.le_refl 3) ?_)
    rintro w4 hb4 hm4
    refine L (S (zd rfl) (L (S (zd rfl) (zg (zc (zy (zm ?_)))))))
    have hb4' : Blk w4 b2 (Zf 0 [] 0) 71 := hb4
    refine yk (rs := [.cell 2 71, .tmp 3, .tmp 4]) [.agg (Zf 0 [] 0).toArray, .int .i64 0, .int .i64 7] Tryz.results104 ?_ ?_
    · exact ⟨⟨_, rfl, Zv hb4'⟩, rfl, rfl, trivial⟩
    · exact ⟨rfl, hm02.new hm4 hn1⟩
  refine ZG (γ := Unit) (fun _ => [(0, .string (str l)), (2, .pointer (some ⟨b2, 0, none⟩)), (5, .int .i64 (zQ yL l : Int)), (17, .bool false)]) (fun _ wc => wc = w2) ?_ ?_
  · by_cases h1 : 1 < zQ yL l
    · obtain ⟨c, hc⟩ : ∃ c, l[0]? = some c := ⟨l[0], List.getElem?_eq_getElem (by omega)⟩
      have hcl := c.toNat_lt
      have hc48 : c.toNat ≠ 48 := fun he => h7 ⟨h1, by rw [hc]; congr 1; rw [← UInt8.toNat_inj, he]; rfl⟩
      refine zb (L (S (za rfl) ?_))
      refine L (S (yp rfl rfl (decide_eq_true (by omega))) ?_)
      refine L (S (za rfl) (zh (j := 2) (dj := 13) (b := true) (S (za rfl) ?_) rfl))
      refine zh (j := 2) (dj := 13) (b := true) (S (zY Tryz.underlying9 rfl rfl (j := 0) rfl (yd hc)) ?_) rfl
      refine zh (j := 2) (dj := 13) (b := true) (S (zR rfl rfl (decide_eq_false (by omega))) ?_) rfl
      refine L (S (zt rfl rfl) (zg (zc ?_)))
      exact ⟨rfl, (), .cons rfl (.cons rfl (.cons rfl (.cons rfl (.nil _)))), rfl⟩
    · refine zb (L (S (za rfl) ?_))
      refine L (S (yp rfl rfl (decide_eq_false (by omega))) ?_)
      refine L (S (za rfl) (zl (j := 2) (dj := 13) (b := true) (b' := false) (d := 14) rfl (zl (j := 2) (dj := 13) (b := true) (b' := false) (d := 15) rfl (zl (j := 2) (dj := 13) (b := true) (b' := false) (d := 16) rfl (L (S (zj rfl rfl) (zg (zc ?_))))))))
      exact ⟨rfl, (), .cons rfl (.cons rfl (.cons rfl (.cons rfl (.nil _)))), rfl⟩
  rintro _ wz rfl f' hf'
  refine Zb hf' ?_
  clear hf' f'
  refine zk rfl (zo (zc (zf (zf ?_))))
  refine ZG (γ := Unit) (fun _ => [(0, .string (str l)), (2, .pointer (some ⟨b2, 0, none⟩)), (5, .int .i64 (zQ yL l : Int)), (6, .int .i64 (ZF l : Int))]) (fun _ wc => Mv No wz wc) ?_ ?_
  · by_cases h46 : l[zQ yL l]? = some 46
    · have hmf : ZF l = zQ yL (l.drop (zQ yL l + 1)) := by unfold ZF; rw [if_pos h46]
      rw [hmf]
      refine zb (L (S (za rfl) (L (S (za rfl) ?_))))
      refine L (S (yQ Tryz.underlying9 rfl (zV (j := zQ yL l) rfl rfl) yU (by omega) (Nat.le_refl _) YD) ?_)
      refine L (zq cb_120 rfl (trim_pos h46) ?_)
      rintro _ _ ⟨rfl, rfl⟩
      refine L (zq cb_62 rfl (span_ret (l.drop (zQ yL l + 1)) pred_dig (by rw [List.length_drop]; omega)) ?_)
      rintro _ w3 ⟨rfl, hm3⟩
      refine L (S (zd rfl) (zg (zc ?_)))
      exact ⟨rfl, (), .cons rfl (.cons rfl (.cons rfl (.cons rfl (.nil _)))), hm3⟩
    · have hmf : ZF l = zQ yL (l.drop (zQ yL l)) := by
        unfold ZF
        rw [if_neg h46]
        symm
        refine spanB_eq yL _ 0 (Nat.zero_le _) (fun j hj => by omega) (fun c hc => spanB_at yL l c (by simpa using hc))
      rw [hmf]
      refine zb (L (S (za rfl) (L (S (za rfl) ?_))))
      refine L (S (yQ Tryz.underlying9 rfl (zV (j := zQ yL l) rfl rfl) yU (by omega) (Nat.le_refl _) YD) ?_)
      refine L (zq cb_120 rfl (trim_neg h46) ?_)
      rintro _ _ ⟨rfl, rfl⟩
      refine L (zq cb_62 rfl (span_ret (l.drop (zQ yL l)) pred_dig (by rw [List.length_drop]; omega)) ?_)
      rintro _ w3 ⟨rfl, hm3⟩
      refine L (S (zd rfl) (zg (zc ?_)))
      exact ⟨rfl, (), .cons rfl (.cons rfl (.cons rfl (.cons rfl (.nil _)))), hm3⟩
  rintro _ w3 hm3 f' hf'
  refine Zb hf' ?_
  clear hf' f'
  refine zf ?_
  refine ZG (γ := Unit) (fun _ => [(0, .string (str l)), (2, .pointer (some ⟨b2, 0, none⟩)), (5, .int .i64 (zQ yL l : Int)), (6, .int .i64 (ZF l : Int)), (31, .bool (decide (0 < ZF l)))]) (fun _ wc => wc = w3) ?_ ?_
  · by_cases h46 : l[zQ yL l]? = some 46
    · by_cases hm : 0 < ZF l
      · rw [decide_eq_true hm]
        refine zb (L (S (za rfl) (L (S (za rfl) ?_))))
        refine L (S (yQ Tryz.underlying9 rfl (zV (j := zQ yL l) rfl rfl) yU (by omega) (Nat.le_refl _) YD) ?_)
        refine L (zq cb_106 rfl (has_pos h46) ?_)
        rintro _ _ ⟨rfl, rfl⟩
        refine L (S (za rfl) (zh (j := 4) (dj := 28) (b := true) (S (za rfl) ?_) rfl))
        refine zh (j := 4) (dj := 28) (b := true) (S (yp rfl rfl (decide_eq_true (by omega))) ?_) rfl
        refine L (S (zt rfl rfl) (zg (zc ?_)))
        exact ⟨rfl, (), .cons rfl (.cons rfl (.cons rfl (.cons rfl (.cons rfl (.nil _))))), rfl⟩
      · rw [decide_eq_false hm]
        refine zb (L (S (za rfl) (L (S (za rfl) ?_))))
        refine L (S (yQ Tryz.underlying9 rfl (zV (j := zQ yL l) rfl rfl) yU (by omega) (Nat.le_refl _) YD) ?_)
        refine L (zq cb_106 rfl (has_pos h46) ?_)
        rintro _ _ ⟨rfl, rfl⟩
        refine L (S (za rfl) (zh (j := 4) (dj := 28) (b := true) (S (za rfl) ?_) rfl))
        refine zh (j := 4) (dj := 28) (b := true) (S (yp rfl rfl (decide_eq_false (by omega))) ?_) rfl
        refine L (S (zt rfl rfl) (zg (zc ?_)))
        exact ⟨rfl, (), .cons rfl (.cons rfl (.cons rfl (.cons rfl (.cons rfl (.nil _))))), rfl⟩
    · have hm : ¬ 0 < ZF l := by unfold ZF; rw [if_neg h46]; omega
      rw [decide_eq_false hm]
      refine zb (L (S (za rfl) (L (S (za rfl) ?_))))
      refine L (S (yQ Tryz.underlying9 rfl (zV (j := zQ yL l) rfl rfl) yU (by omega) (Nat.le_refl _) YD) ?_)
      refine L (zq cb_106 rfl (has_neg h46) ?_)
      rintro _ _ ⟨rfl, rfl⟩
      refine L (S (za rfl) (zl (j := 4) (dj := 28) (b := true) (b' := false) (d := 29) rfl (zl (j := 4) (dj := 28) (b := true) (b' := false) (d := 30) rfl (L (S (zj rfl rfl) (zg (zc ?_)))))))
      exact ⟨rfl, (), .cons rfl (.cons rfl (.cons rfl (.cons rfl (.cons rfl (.nil _))))), rfl⟩
  rintro _ w4 rfl f' hf'
  refine Zb hf' ?_
  clear hf' f'
  have hm04 : Mv No w w4 := hm02.no hm3
  have hb24 := hb22.no hm3
  by_cases hm : 0 < ZF l
  · have hle := hmore hm
    have hreal := realT_take h0 hm
    have hnum : numF big l = if big (l.take (zQ yL l + 1 + ZF l)) = true then .er 4 else .ok 4 (l.take (zQ yL l + 1 + ZF l)) (zQ yL l + 1 + ZF l) := by unfold numF; rw [if_neg h7, if_pos hm]
    rw [hnum, decide_eq_true hm]
    clear hnum
    have hlt4 : T (l.take (zQ yL l + 1 + ZF l)) := hT _ (List.take_prefix _ _).isInfix hreal
    generalize hk : zQ yL l + 1 + ZF l = k at *
    refine zr rfl (zf (zb (L (S (za rfl) (L (S (za rfl) ?_))))))
    refine L (S (zT rfl rfl (z1 (c := ((1 + ZF l : Nat) : Int)) (by omega))) ?_)
    refine L (S (zT rfl rfl (z1 (c := (k : Int)) (by omega))) ?_)
    refine L (S (zd rfl) (zg (zc (zf (zf (zb (L (S (za rfl) (L (S (za rfl) ?_))))))))))
    refine L (S (yQ Tryz.underlying9 rfl yU (zV (j := k) rfl rfl) (by omega) (by omega) str_to) ?_)
    refine L (zq cb_121 rfl (hpf.call w4 (l.take k) (hpf.mono _ _ hv hm04) hreal hlt4) ?_)
    rintro _ w5 ⟨fb, e, rfl, hm5, hcase, -⟩
    refine L (S (za rfl) (L (S (zv rfl rfl) (L (S (zv rfl rfl) (L (S (zd rfl) (L (S (zd rfl) (zg (zc (zf ?_))))))))))))
    refine ZG (γ := Unit) (fun _ => [(0, .string (str l)), (2, .pointer (some ⟨b2, 0, none⟩)), (5, .int .i64 (k : Int)), (48, .bool (big (l.take k)))]) (fun _ wc => wc = w5) ?_ ?_
    · rcases hcase with ⟨rfl, hge⟩ | ⟨⟨t, u, rfl⟩, hbig⟩
      · refine zb (L (S (za rfl) ?_))
        refine L (S (P_neI Tryz.underlying168 rfl (.inl ⟨rfl, rfl⟩)) ?_)
        refine L (S (za rfl) (zh (j := 2) (dj := 45) (b := false) (S (za rfl) ?_) rfl))
        refine zh (j := 2) (dj := 45) (b := false) (S (P_geF rfl rfl hge) ?_) rfl
        refine L (S (zj rfl rfl) (zg (zc ?_)))
        exact ⟨rfl, (), .cons rfl (.cons rfl (.cons rfl (.cons rfl (.nil _)))), rfl⟩
      · rw [hbig]
        refine zb (L (S (za rfl) ?_))
        refine L (S (P_neI Tryz.underlying168 rfl (.inr ⟨_, _, rfl, rfl⟩)) ?_)
        refine L (S (za rfl) (zl (j := 2) (dj := 45) (b := false) (b' := true) (d := 46) rfl (zl (j := 2) (dj := 45) (b := false) (b' := true) (d := 47) rfl (L (S (zt rfl rfl) (zg (zc ?_)))))))
        exact ⟨rfl, (), .cons rfl (.cons rfl (.cons rfl (.cons rfl (.nil _)))), rfl⟩
    rintro _ w6 rfl f' hf'
    refine Zb hf' ?_
    clear hf' f'
    have hm06 : Mv No w w6 := hm04.no hm5
    have hb26 := hb24.no hm5
    cases hbig : big (l.take k) with
    | true =>
      rw [if_pos rfl]
      refine zr rfl (zf (zb ?_))
      refine L (S (zW (ix := []) (l := []) bi_71 rfl (by simp [Value.oneCell']) rfl) ?_)
      refine L (zw yD rfl rfl (yM 0 [] 0) rfl hb26 (by exact Nat.le_refl 3) ?_)
      rintro w7 hb7 hm7
      refine L (S (zd rfl) (L (S (zd rfl) (zg (zc (zy (zm (zm ?_))))))))
      have hb7' : Blk w7 b2 (Zf 0 [] 0) 71 := hb7
      refine yk (rs := [.cell 2 71, .tmp 3, .tmp 4]) [.agg (Zf 0 [] 0).toArray, .int .i64 0, .int .i64 4] Tryz.results104 ?_ ?_
      · exact ⟨⟨_, rfl, Zv hb7'⟩, rfl, rfl, trivial⟩
      · exact ⟨rfl, hm06.new hm7 hn1⟩
    | false =>
      rw [if_neg (by decide)]
      refine zk rfl (zo (zc (zf (zb (L (S (za rfl) (L (S (za rfl) ?_))))))))
      refine L (S (yQ Tryz.underlying9 rfl yU (zV (j := k) rfl rfl) (by omega) (by omega) str_to) ?_)
      refine L (S (zW (ix := [0, 1]) (l := [.const (.int .i64 4), .tmp 52]) Yy rfl (by simp [Value.oneCell']) rfl) ?_)
      refine L (S (za rfl) ?_)
      refine L (zw yD rfl rfl (yM 4 (l.take k) 0) rfl hb26 (by exact Nat.le_refl 3) ?_)
      rintro w7 hb7 hm7
      refine L (S (zd rfl) (L (S (zd rfl) (zg (zc (zy (zm ?_)))))))
      have hb7' : Blk w7 b2 (Zf 4 (l.take k) 0) 71 := hb7
      refine yk (rs := [.cell 2 71, .tmp 3, .tmp 4]) [.agg (Zf 4 (l.take k) 0).toArray, .int .i64 (k : Int), .int .i64 0] Tryz.results104 ?_ ?_
      · exact ⟨⟨_, rfl, Zv hb7'⟩, rfl, rfl, trivial⟩
      · exact ⟨rfl, hm06.new hm7 hn1⟩
  · have hnum : numF big l = if 19 < zQ yL l ∨ (zQ yL l = 19 ∧ gtB (l.take 19) bigT = true) then .er 4 else .ok 3 (l.take (zQ yL l)) (zQ yL l) := by unfold numF; rw [if_neg h7, if_neg hm]
    rw [hnum, decide_eq_false hm]
    clear hnum hmore h7
    generalize zQ yL l = n at *
    refine zk rfl (zo (zc (zf (zf ?_))))
    refine ZG (γ := Unit) (fun _ => [(0, .string (str l)), (2, .pointer (some ⟨b2, 0, none⟩)), (5, .int .i64 (n : Int)), (66, .bool (decide (19 < n ∨ (n = 19 ∧ gtB (l.take 19) bigT = true))))]) (fun _ wc => wc = w4) ?_ ?_
    · by_cases h19 : 19 < n
      · rw [decide_eq_true (.inl h19)]
        refine zb (L (S (za rfl) ?_))
        refine L (S (yp rfl rfl (decide_eq_true (by omega))) ?_)
        refine L (S (za rfl) (zl (j := 2) (dj := 57) (b := false) (b' := true) (d := 58) rfl (zl (j := 2) (dj := 57) (b := false) (b' := true) (d := 59) rfl (zl (j := 2) (dj := 57) (b := false) (b' := true) (d := 60) rfl (ZE (j := 5) (dj := 60) (b := true) (d := 61) rfl (ZE (j := 5) (dj := 60) (b := true) (d := 62) rfl (ZE (j := 5) (dj := 60) (b := true) (d := 63) rfl (ZE (j := 5) (dj := 60) (b := true) (d := 64) rfl (zl (j := 2) (dj := 57) (b := false) (b' := true) (d := 65) rfl (L (S (zt rfl rfl) (zg (zc ?_)))))))))))))
        exact ⟨rfl, (), .cons rfl (.cons rfl (.cons rfl (.cons rfl (.nil _)))), rfl⟩
      · by_cases he19 : n = 19
        · subst he19
          have hd : decide (19 < 19 ∨ (19 = 19 ∧ gtB (l.take 19) bigT = true)) = gtB (l.take 19) bigT := by
            cases gtB (l.take 19) bigT <;> simp
          rw [hd]
          have hgt : (!(Op.bytesLess (str (l.take 19)).toList (str bigT).toList || (str (l.take 19)).toList == (str bigT).toList)) = gtB (l.take 19) bigT := by
            rw [str_list, str_list]
            exact gtB_eq _ _
          refine zb (L (S (za rfl) ?_))
          refine L (S (yp rfl rfl (decide_eq_false (by omega))) ?_)
          refine L (S (za rfl) (zh (j := 2) (dj := 57) (b := false) (S (za rfl) ?_) rfl))
          refine zh (j := 2) (dj := 57) (b := false) (S (zR rfl rfl (decide_eq_true rfl)) ?_) rfl
          refine zh (j := 2) (dj := 57) (b := false) (S (za rfl) (zh (j := 5) (dj := 60) (b := true) (S (za rfl) (zh (j := 5) (dj := 60) (b := true) (S (za rfl) ?_) rfl)) rfl)) rfl
          refine zh (j := 5) (dj := 60) (b := true) (S (yQ Tryz.underlying9 rfl yU (zV (j := 19) rfl rfl) (by omega) (by omega) str_to) ?_) rfl
          refine zh (j := 5) (dj := 60) (b := true) (S (P_gtT rfl rfl hgt) ?_) rfl
          refine zh (j := 2) (dj := 57) (b := false) (S (zt rfl rfl) (L (S (zj rfl rfl) (zg (zc ?_))))) rfl
          exact ⟨rfl, (), .cons rfl (.cons rfl (.cons rfl (.cons rfl (.nil _)))), rfl⟩
        · rw [decide_eq_false (by omega)]
          refine zb (L (S (za rfl) ?_))
          refine L (S (yp rfl rfl (decide_eq_false (by omega))) ?_)
          refine L (S (za rfl) (zh (j := 2) (dj := 57) (b := false) (S (za rfl) ?_) rfl))
          refine zh (j := 2) (dj := 57) (b := false) (S (zR rfl rfl (decide_eq_false (by omega))) ?_) rfl
          refine zh (j := 2) (dj := 57) (b := false) (S (za rfl) (zl (j := 5) (dj := 60) (b := true) (b' := false) (d := 61) rfl (zl (j := 5) (dj := 60) (b := true) (b' := false) (d := 62) rfl (zl (j := 5) (dj := 60) (b := true) (b' := false) (d := 63) rfl (zl (j := 5) (dj := 60) (b := true) (b' := false) (d := 64) rfl (zh (j := 2) (dj := 57) (b := false) (S (zj rfl rfl) (L (S (zj rfl rfl) (zg (zc ?_))))) rfl)))))) rfl
          exact ⟨rfl, (), .cons rfl (.cons rfl (.cons rfl (.cons rfl (.nil _)))), rfl⟩
    rintro _ w6 rfl f' hf'
    refine Zb hf' ?_
    clear hf' f'
    by_cases hbig : 19 < n ∨ (n = 19 ∧ gtB (l.take 19) bigT = true)
    · rw [if_pos hbig, decide_eq_true hbig]
      refine zr rfl (zf (zb ?_))
      refine L (S (zW (ix := []) (l := []) bi_71 rfl (by simp [Value.oneCell']) rfl) ?_)
      refine L (zw yD rfl rfl (yM 0 [] 0) rfl hb24 (by exact Nat.le_refl 3) ?_)
      rintro w7 hb7 hm7
      refine L (S (zd rfl) (L (S (zd rfl) (zg (zc (zy (zm ?_)))))))
      have hb7' : Blk w7 b2 (Zf 0 [] 0) 71 := hb7
      refine yk (rs := [.cell 2 71, .tmp 3, .tmp 4]) [.agg (Zf 0 [] 0).toArray, .int .i64 0, .int .i64 4] Tryz.results104 ?_ ?_
      · exact ⟨⟨_, rfl, Zv hb7'⟩, rfl, rfl, trivial⟩
      · exact ⟨rfl, hm04.new hm7 hn1⟩
    · rw [if_neg hbig, decide_eq_false hbig]
      refine zk rfl (zo (zc (zf (zb (L (S (za rfl) (L (S (za rfl) ?_))))))))
      refine L (S (yQ Tryz.underlying9 rfl yU (zV (j := n) rfl rfl) (by omega) (by omega) str_to) ?_)
      refine L (S (zW (ix := [0, 1]) (l := [.const (.int .i64 3), .tmp 70]) Yy rfl (by simp [Value.oneCell']) rfl) ?_)
      refine L (S (za rfl) ?_)
      refine L (zw yD rfl rfl (yM 3 (l.take n) 0) rfl hb24 (by exact Nat.le_refl 3) ?_)
      rintro w7 hb7 hm7
      refine L (S (zd rfl) (L (S (zd rfl) (zg (zc (zy ?_))))))
      have hb7' : Blk w7 b2 (Zf 3 (l.take n) 0) 71 := hb7
      refine yk (rs := [.cell 2 71, .tmp 3, .tmp 4]) [.agg (Zf 3 (l.take n) 0).toArray, .int .i64 (n : Int), .int .i64 0] Tryz.results104 ?_ ?_
      · exact ⟨⟨_, rfl, Zv hb7'⟩, rfl, rfl, trivial⟩
      · exact ⟨rfl, hm04.new hm7 hn1⟩
end
end Go.Proofs.YtnoioimphcmeiaaGreatDoor
namespace Go.Proofs.YtnoioimphcmeiaaGreatDoor
open Go.RowKit
set_option maxRecDepth 20000

theorem str_nil_iff (l : List UInt8) : (str l = ⟨#[]⟩) ↔ l = [] := by
  constructor
  · intro h
    exact ZH (b := []) h
  · rintro rfl; rfl
theorem prefix_two (l : List UInt8) (a b : UInt8) : [a, b].isPrefixOf l = decide (l.take 2 = [a, b]) := by
  match l with
  | [] => simp [List.isPrefixOf]
  | [c] => simp [List.isPrefixOf]
  | c :: d :: r =>
    rw [Bool.eq_iff_iff]
    simp only [List.isPrefixOf, List.take_succ_cons, List.take_zero, Bool.and_true, Bool.and_eq_true, beq_iff_eq, decide_eq_true_eq, List.cons.injEq, and_true]
    constructor
    · rintro ⟨rfl, rfl⟩; exact ⟨rfl, rfl⟩
    · rintro ⟨rfl, rfl⟩; exact ⟨rfl, rfl⟩
theorem two_at {i : Nat} (h : i < 3) : ∃ a b, twoL[i]? = some [a, b] := by
  match i, h with
  | 0, _ => exact ⟨60, 62, rfl⟩
  | 1, _ => exact ⟨60, 61, rfl⟩
  | 2, _ => exact ⟨62, 61, rfl⟩
theorem indexByte_neg (c : UInt8) : ∀ l : List UInt8, Lib.indexByte l c < 0 ↔ c ∉ l
  | [] => by simp [Lib.indexByte]
  | b :: l => by
    have ih := indexByte_neg c l
    have hge := Lib.indexByte_ge l c
    simp only [Lib.indexByte]
    by_cases hb : b = c
    · subst hb; simp
    · have hb' : (b == c) = false := by simpa using hb
      rw [hb']
      simp only [Bool.false_eq_true, if_false, List.mem_cons]
      by_cases hi : Lib.indexByte l c = -1
      · rw [hi]
        simp only [beq_self_eq_true, if_true]
        rw [hi] at ih
        have := ih.1 (by decide)
        constructor
        · intro _ h
          rcases h with h | h
          · exact hb h.symm
          · exact this h
        · intro _; decide
      · have hi' : (Lib.indexByte l c == -1) = false := by simpa using hi
        rw [hi']
        simp only [Bool.false_eq_true, if_false]
        constructor
        · intro h; omega
        · intro h
          have := ih.2 (fun hc => h (.inr hc))
          omega

section
variable {w : World}
set_option maxHeartbeats 4000000 in
theorem next_ret {big : List UInt8 → Bool} {V : World → Prop} {T : List UInt8 → Prop} (hpf : PF big V T) (hv : V w) (l : List UInt8) (hT : InT T l) (hl : l.length ≤ 100000) :
    Ret Tryz.prog 64 [.string (str l)] w fun v w' => (match ZY big l with
      | .ok k s n => v = .tuple #[.agg (Zf k s 0).toArray, .int .i64 (n : Int), .int .i64 0]
      | .er e => v = .tuple #[.agg (Zf 0 [] 0).toArray, .int .i64 0, .int .i64 (e : Int)]) ∧ Mv No w w' := by
  have hsz := yR l
  refine zN Tryz.func64 Tryz.ntmps64 rfl rfl ?_
  refine zf (zb ?_)
  refine L (ye (zs := [(.int .i64 0), (.string (ByteArray.mk #[])), (.int .i64 0)]) yD rfl ?_)
  rintro b2 w1 hb2 hm1 hn1
  refine L (S (zd rfl) (L (S (zd rfl) (zg (zc (zf (zf ?_)))))))
  have hb2' : Blk w1 b2 (Zf 0 [] 0) 71 := hb2
  have hlt2 := hb2.lt
  clear hb2
  cases l with
  | nil =>
    refine zb (L (S (za rfl) ?_))
    refine L (S (ZR rfl rfl (decide_eq_true (by decide))) ?_)
    refine zg (zc (zr rfl (zf (zb ?_))))
    refine L (S (zW (ix := []) (l := []) bi_71 rfl (by simp [Value.oneCell']) rfl) ?_)
    refine L (zw yD rfl rfl (yM 0 [] 0) rfl hb2' (by exact Nat.le_refl 3) ?_)
    rintro w4 hb4 hm4
    refine L (S (zd rfl) (L (S (zd rfl) (zg (zc (zy (zm ?_)))))))
    have hb4' : Blk w4 b2 (Zf 0 [] 0) 71 := hb4
    refine yk (rs := [.cell 2 71, .tmp 3, .tmp 4]) [.agg (Zf 0 [] 0).toArray, .int .i64 0, .int .i64 0] Tryz.results64 ?_ ?_
    · exact ⟨⟨_, rfl, Zv hb4'⟩, rfl, rfl, trivial⟩
    · exact ⟨rfl, hm1.new hm4 hn1⟩
  | cons c r =>
    have hcl := c.toNat_lt
    have hne : ¬ str (c :: r) = ⟨#[]⟩ := fun h => by cases (str_nil_iff _).1 h
    have hlen : (c :: r).length = r.length + 1 := rfl
    have hV1 := hpf.mono _ _ hv hm1
    refine zb (L (S (za rfl) ?_))
    refine L (S (ZR rfl rfl (decide_eq_false hne)) ?_)
    refine zg (zc (zk rfl (zo (zc (zf (zb (L (S (za rfl) ?_))))))))
    refine L (S (zY Tryz.underlying9 rfl rfl (j := 0) rfl (yd (bs := c :: r) rfl)) ?_)
    refine L (S (P_conv Tryz.underlying5 Tryz.underlying21 rfl (wI32 (c := (c.toNat : Int)) (by omega))) ?_)
    refine L (S (zd rfl) (zg (zc (zf (zx (zf ?_))))))
    cases hlet : letN c.toNat with
    | true =>
      have hl1 := letter_ret (w := w1) c.toNat
      rw [hlet] at hl1
      have hsp := Yr ldN (c :: r)
      have hnx : ZY big (c :: r) = match kwF ((c :: r).take (zQ ldN (c :: r))) with
        | some k => .ok 2 k (zQ ldN (c :: r))
        | none => if 12 < zQ ldN (c :: r) then .er 4 else .ok 1 ((c :: r).take (zQ ldN (c :: r))) (zQ ldN (c :: r)) := by
        rw [ZY, if_pos hlet]
        cases kwF ((c :: r).take (zQ ldN (c :: r))) <;> rfl
      rw [hnx]
      clear hnx
      refine zb (L (S (za rfl) ?_))
      refine L (zq cb_100 rfl (hl1) ?_)
      rintro _ _ ⟨rfl, rfl⟩
      refine L (S (zd rfl) (zg (zc (zr rfl (zf (zb (L (S (za rfl) ?_))))))))
      refine L (zq cb_62 rfl (span_ret (c :: r) pred_ld (by omega)) ?_)
      rintro _ w2 ⟨rfl, hm2⟩
      refine L (S (zd rfl) (zg (zc (zf (zf ?_)))))
      have hm02 := hm1.no hm2
      have hb22 := hb2'.no hm2
      have hkw := kw_ret (w := w2) ((c :: r).take (zQ ldN (c :: r))) (hpf.mx _ (hpf.mono _ _ hv hm02)) (by rw [List.length_take]; omega)
      generalize zQ ldN (c :: r) = n at *
      cases hk : kwF ((c :: r).take n) with
      | some k =>
        rw [hk] at hkw
        refine zb (L (S (za rfl) (L (S (za rfl) ?_))))
        refine L (S (yQ Tryz.underlying9 rfl yU (zV (j := n) rfl rfl) (by omega) (by omega) str_to) ?_)
        refine L (zq cb_103 rfl (hkw) ?_)
        rintro _ w3 ⟨rfl, hm3⟩
        refine L (S (za rfl) (L (S (zv rfl rfl) (L (S (zv rfl rfl) (L (S (zd rfl) (L (S (zd rfl) (zg (zc (zf (zb (L (S (za rfl) (zg (zc (zr rfl (zf (zb (L (S (za rfl) ?_))))))))))))))))))))))
        refine L (S (zW (ix := [0, 1]) (l := [.const (.int .i64 2), .tmp 30]) Yy rfl (by simp [Value.oneCell']) rfl) ?_)
        refine L (S (za rfl) ?_)
        refine L (zw yD rfl rfl (yM 2 k 0) rfl (hb22.no hm3) (by exact Nat.le_refl 3) ?_)
        rintro w4 hb4 hm4
        refine L (S (zd rfl) (L (S (zd rfl) (zg (zc (zy (zm (zP (zm ?_)))))))))
        have hb4' : Blk w4 b2 (Zf 2 k 0) 71 := hb4
        refine yk (rs := [.cell 2 71, .tmp 3, .tmp 4]) [.agg (Zf 2 k 0).toArray, .int .i64 (n : Int), .int .i64 0] Tryz.results64 ?_ ?_
        · exact ⟨⟨_, rfl, Zv hb4'⟩, rfl, rfl, trivial⟩
        · exact ⟨rfl, (hm02.no hm3).new hm4 hn1⟩
      | none =>
        rw [hk] at hkw
        by_cases h12 : 12 < n
        · dsimp only
          rw [if_pos h12]
          refine zb (L (S (za rfl) (L (S (za rfl) ?_))))
          refine L (S (yQ Tryz.underlying9 rfl yU (zV (j := n) rfl rfl) (by omega) (by omega) str_to) ?_)
          refine L (zq cb_103 rfl (hkw) ?_)
          rintro _ w3 ⟨rfl, hm3⟩
          refine L (S (za rfl) (L (S (zv rfl rfl) (L (S (zv rfl rfl) (L (S (zd rfl) (L (S (zd rfl) (zg (zc (zf (zb (L (S (za rfl) (zg (zc (zk rfl (zo (zc (zf (zf (zb (L (S (za rfl) ?_)))))))))))))))))))))))))
          refine L (S (yp rfl rfl (decide_eq_true (by omega))) ?_)
          refine zg (zc (zr rfl (zf (zb ?_))))
          refine L (S (zW (ix := []) (l := []) bi_71 rfl (by simp [Value.oneCell']) rfl) ?_)
          refine L (zw yD rfl rfl (yM 0 [] 0) rfl (hb22.no hm3) (by exact Nat.le_refl 3) ?_)
          rintro w4 hb4 hm4
          refine L (S (zd rfl) (L (S (zd rfl) (zg (zc (zy (zm (zP (zm ?_)))))))))
          have hb4' : Blk w4 b2 (Zf 0 [] 0) 71 := hb4
          refine yk (rs := [.cell 2 71, .tmp 3, .tmp 4]) [.agg (Zf 0 [] 0).toArray, .int .i64 0, .int .i64 4] Tryz.results64 ?_ ?_
          · exact ⟨⟨_, rfl, Zv hb4'⟩, rfl, rfl, trivial⟩
          · exact ⟨rfl, (hm02.no hm3).new hm4 hn1⟩
        · dsimp only
          rw [if_neg h12]
          refine zb (L (S (za rfl) (L (S (za rfl) ?_))))
          refine L (S (yQ Tryz.underlying9 rfl yU (zV (j := n) rfl rfl) (by omega) (by omega) str_to) ?_)
          refine L (zq cb_103 rfl (hkw) ?_)
          rintro _ w3 ⟨rfl, hm3⟩
          refine L (S (za rfl) (L (S (zv rfl rfl) (L (S (zv rfl rfl) (L (S (zd rfl) (L (S (zd rfl) (zg (zc (zf (zb (L (S (za rfl) (zg (zc (zk rfl (zo (zc (zf (zf (zb (L (S (za rfl) ?_)))))))))))))))))))))))))
          refine L (S (yp rfl rfl (decide_eq_false (by omega))) ?_)
          refine zg (zc (zk rfl (zo (zc (zf (zb (L (S (za rfl) (L (S (za rfl) ?_))))))))))
          refine L (S (yQ Tryz.underlying9 rfl yU (zV (j := n) rfl rfl) (by omega) (by omega) str_to) ?_)
          refine L (S (zW (ix := [0, 1]) (l := [.const (.int .i64 1), .tmp 38]) Yy rfl (by simp [Value.oneCell']) rfl) ?_)
          refine L (S (za rfl) ?_)
          refine L (zw yD rfl rfl (yM 1 ((c :: r).take n) 0) rfl (hb22.no hm3) (by exact Nat.le_refl 3) ?_)
          rintro w4 hb4 hm4
          refine L (S (zd rfl) (L (S (zd rfl) (zg (zc (zy (zP (zm ?_))))))))
          have hb4' : Blk w4 b2 (Zf 1 ((c :: r).take n) 0) 71 := hb4
          refine yk (rs := [.cell 2 71, .tmp 3, .tmp 4]) [.agg (Zf 1 ((c :: r).take n) 0).toArray, .int .i64 (n : Int), .int .i64 0] Tryz.results64 ?_ ?_
          · exact ⟨⟨_, rfl, Zv hb4'⟩, rfl, rfl, trivial⟩
          · exact ⟨rfl, (hm02.no hm3).new hm4 hn1⟩
    | false =>
      have hl1 := letter_ret (w := w1) c.toNat
      rw [hlet] at hl1
      have hd1 := digit_ret (w := w1) c.toNat
      cases hdig : yL c.toNat with
      | true =>
        rw [hdig] at hd1
        have hnx : ZY big (c :: r) = numF big (c :: r) := by rw [ZY, if_neg (by rw [hlet]; decide), if_pos hdig]
        rw [hnx]
        have hnr := number_ret hpf hV1 (c :: r) hT hl (by simp [zQ, hdig])
        cases hnf : numF big (c :: r) with
        | ok k s n =>
          rw [hnf] at hnr
          refine zb (L (S (za rfl) ?_))
          refine L (zq cb_100 rfl (hl1) ?_)
          rintro _ _ ⟨rfl, rfl⟩
          refine L (S (zd rfl) (zg (zc (zk rfl (zf (zb (L (S (za rfl) ?_))))))))
          refine L (zq cb_102 rfl (hd1) ?_)
          rintro _ _ ⟨rfl, rfl⟩
          refine L (S (zd rfl) (zg (zc (zr rfl (zf (zb (L (S (za rfl) ?_))))))))
          refine L (zq cb_104 rfl (hnr) ?_)
          rintro _ w3 ⟨rfl, hm3⟩
          refine L (S (zv rfl rfl) (L (S (zv rfl rfl) (L (S (zv rfl rfl) ?_)))))
          refine L (zw yD rfl rfl (yM k s 0) rfl (hb2'.no hm3) (by exact Nat.le_refl 3) ?_)
          rintro w4 hb4 hm4
          refine L (S (zd rfl) (L (S (zd rfl) (zg (zc (zy (zP (zm ?_))))))))
          have hb4' : Blk w4 b2 (Zf k s 0) 71 := hb4
          refine yk (rs := [.cell 2 71, .tmp 3, .tmp 4]) [.agg (Zf k s 0).toArray, .int .i64 (n : Int), .int .i64 0] Tryz.results64 ?_ ?_
          · exact ⟨⟨_, rfl, Zv hb4'⟩, rfl, rfl, trivial⟩
          · exact ⟨rfl, (hm1.no hm3).new hm4 hn1⟩
        | er e =>
          rw [hnf] at hnr
          refine zb (L (S (za rfl) ?_))
          refine L (zq cb_100 rfl (hl1) ?_)
          rintro _ _ ⟨rfl, rfl⟩
          refine L (S (zd rfl) (zg (zc (zk rfl (zf (zb (L (S (za rfl) ?_))))))))
          refine L (zq cb_102 rfl (hd1) ?_)
          rintro _ _ ⟨rfl, rfl⟩
          refine L (S (zd rfl) (zg (zc (zr rfl (zf (zb (L (S (za rfl) ?_))))))))
          refine L (zq cb_104 rfl (hnr) ?_)
          rintro _ w3 ⟨rfl, hm3⟩
          refine L (S (zv rfl rfl) (L (S (zv rfl rfl) (L (S (zv rfl rfl) ?_)))))
          refine L (zw yD rfl rfl (yM 0 [] 0) rfl (hb2'.no hm3) (by exact Nat.le_refl 3) ?_)
          rintro w4 hb4 hm4
          refine L (S (zd rfl) (L (S (zd rfl) (zg (zc (zy (zP (zm ?_))))))))
          have hb4' : Blk w4 b2 (Zf 0 [] 0) 71 := hb4
          refine yk (rs := [.cell 2 71, .tmp 3, .tmp 4]) [.agg (Zf 0 [] 0).toArray, .int .i64 0, .int .i64 (e : Int)] Tryz.results64 ?_ ?_
          · exact ⟨⟨_, rfl, Zv hb4'⟩, rfl, rfl, trivial⟩
          · exact ⟨rfl, (hm1.no hm3).new hm4 hn1⟩
      | false =>
        rw [hdig] at hd1
        by_cases h39 : c = 39
        · subst h39
          have htx := text_ret (w := w1) (39 :: r) (by omega) (by simp)
          have hnx : ZY big (39 :: r) = match Zr r with
            | some (s, n) => .ok 5 s (n + 1)
            | none => .er 10 := by
            rw [ZY, if_neg (by decide), if_neg (by decide), if_pos rfl]
            cases Zr r <;> rfl
          rw [hnx]
          rw [show List.drop 1 ((39 : UInt8) :: r) = r from rfl] at htx
          cases htf : Zr r with
          | some x =>
            obtain ⟨s, n⟩ := x
            rw [htf] at htx
            refine zb (L (S (za rfl) ?_))
            refine L (zq cb_100 rfl (hl1) ?_)
            rintro _ _ ⟨rfl, rfl⟩
            refine L (S (zd rfl) (zg (zc (zk rfl (zf (zb (L (S (za rfl) ?_))))))))
            refine L (zq cb_102 rfl (hd1) ?_)
            rintro _ _ ⟨rfl, rfl⟩
            refine L (S (zd rfl) (zg (zc (zk rfl (zf (zb (L (S (za rfl) ?_))))))))
            refine L (S (zR rfl rfl (decide_eq_true (by decide))) ?_)
            refine L (S (zd rfl) (zg (zc (zr rfl (zf (zb (L (S (za rfl) ?_))))))))
            refine L (zq cb_105 rfl (htx) ?_)
            rintro _ w3 ⟨rfl, hm3⟩
            refine L (S (zv rfl rfl) (L (S (zv rfl rfl) (L (S (zv rfl rfl) ?_)))))
            refine L (zw yD rfl rfl (yM 5 s 0) rfl (hb2'.no hm3) (by exact Nat.le_refl 3) ?_)
            rintro w4 hb4 hm4
            refine L (S (zd rfl) (L (S (zd rfl) (zg (zc (zy (zP (zm ?_))))))))
            have hb4' : Blk w4 b2 (Zf 5 s 0) 71 := hb4
            refine yk (rs := [.cell 2 71, .tmp 3, .tmp 4]) [.agg (Zf 5 s 0).toArray, .int .i64 ((n + 1 : Nat) : Int), .int .i64 0] Tryz.results64 ?_ ?_
            · exact ⟨⟨_, rfl, Zv hb4'⟩, rfl, rfl, trivial⟩
            · exact ⟨rfl, (hm1.no hm3).new hm4 hn1⟩
          | none =>
            rw [htf] at htx
            refine zb (L (S (za rfl) ?_))
            refine L (zq cb_100 rfl (hl1) ?_)
            rintro _ _ ⟨rfl, rfl⟩
            refine L (S (zd rfl) (zg (zc (zk rfl (zf (zb (L (S (za rfl) ?_))))))))
            refine L (zq cb_102 rfl (hd1) ?_)
            rintro _ _ ⟨rfl, rfl⟩
            refine L (S (zd rfl) (zg (zc (zk rfl (zf (zb (L (S (za rfl) ?_))))))))
            refine L (S (zR rfl rfl (decide_eq_true (by decide))) ?_)
            refine L (S (zd rfl) (zg (zc (zr rfl (zf (zb (L (S (za rfl) ?_))))))))
            refine L (zq cb_105 rfl (htx) ?_)
            rintro _ w3 ⟨rfl, hm3⟩
            refine L (S (zv rfl rfl) (L (S (zv rfl rfl) (L (S (zv rfl rfl) ?_)))))
            refine L (zw yD rfl rfl (yM 0 [] 0) rfl (hb2'.no hm3) (by exact Nat.le_refl 3) ?_)
            rintro w4 hb4 hm4
            refine L (S (zd rfl) (L (S (zd rfl) (zg (zc (zy (zP (zm ?_))))))))
            have hb4' : Blk w4 b2 (Zf 0 [] 0) 71 := hb4
            refine yk (rs := [.cell 2 71, .tmp 3, .tmp 4]) [.agg (Zf 0 [] 0).toArray, .int .i64 0, .int .i64 10] Tryz.results64 ?_ ?_
            · exact ⟨⟨_, rfl, Zv hb4'⟩, rfl, rfl, trivial⟩
            · exact ⟨rfl, (hm1.no hm3).new hm4 hn1⟩
        · have hc39 : c.toNat ≠ 39 := fun he => h39 (by rw [← UInt8.toNat_inj, he]; rfl)
          have hnx : ZY big (c :: r) = if (c :: r).take 2 ∈ twoL then .ok 6 ((c :: r).take 2) 2 else if c ∈ signL then .ok 6 [c] 1 else .er 100 := by
            rw [ZY, if_neg (by rw [hlet]; decide), if_neg (by rw [hdig]; decide), if_neg h39]
          rw [hnx]
          clear hnx
          refine zb (L (S (za rfl) ?_))
          refine L (zq cb_100 rfl (hl1) ?_)
          rintro _ _ ⟨rfl, rfl⟩
          refine L (S (zd rfl) (zg (zc (zk rfl (zf (zb (L (S (za rfl) ?_))))))))
          refine L (zq cb_102 rfl (hd1) ?_)
          rintro _ _ ⟨rfl, rfl⟩
          refine L (S (zd rfl) (zg (zc (zk rfl (zf (zb (L (S (za rfl) ?_))))))))
          refine L (S (zR rfl rfl (decide_eq_false (by omega))) ?_)
          refine L (S (zd rfl) (zg (zc (zk rfl (zo (yj (zc (zf (zf (zb ?_))))))))))
          refine L (S_buildSliceN (l := [.const (.string (ByteArray.mk #[60, 62])), .const (.string (ByteArray.mk #[60, 61])), .const (.string (ByteArray.mk #[62, 61]))]) Tryz.underlying151 ti_9 rfl (vs := twoL.map fun x => Value.string (str x)) (by simp [twoL, Value.oneCell']) rfl (by decide) (by decide) ?_)
          rintro b57 w2 hb57 hm2 hn2
          refine L (S (zH Tryz.underlying151 rfl) ?_)
          refine L (S (za rfl) (zg (zc (zx ?_))))
          refine yF (γ := Nat) (fun i => [(0, .string (str (c :: r))), (2, .pointer (some ⟨b2, 0, none⟩)), (57, .slice (some ⟨b57, 0, none⟩) 3 3), (58, .int .i64 3), (59, .int .i64 (i : Int))]) (fun i wr => wr = w2 ∧ i ≤ 3 ∧ ∀ j, j < i → ¬ twoL[j]? = some ((c :: r).take 2)) (fun i => 3 - i) 0 (.cons rfl (.cons rfl (.cons rfl (.cons rfl (.cons rfl (.nil _)))))) ⟨rfl, by omega, fun j hj => by omega⟩ ?_
          rintro i wr ⟨rfl, hi, hno⟩
          have hm02 := hm1.no hm2
          have hb22 := hb2'.no hm2
          refine zf (zb ?_)
          refine L (S (zG rfl rfl rfl) ?_)
          refine zg (zc (zf ?_))
          refine C_ifp rfl rfl (fun hlt => ?_) (fun hge => ?_)
          · have hi3 : i < 3 := by omega
            obtain ⟨a, b, hab⟩ := two_at hi3
            have hcell : wr.cell? ⟨b57, i, none⟩ = some (.string (str [a, b])) := hb57.cell (by rw [List.getElem?_map, hab]; rfl)
            have hpre := hasPrefix_ret (w := wr) (c :: r) [a, b]
            rw [prefix_two] at hpre
            by_cases htk : (c :: r).take 2 = [a, b]
            · rw [decide_eq_true htk] at hpre
              rw [htk, if_pos (List.mem_of_getElem? hab)]
              refine zo (zc (zf (zx (zf (zb ?_)))))
              refine L (S (zn Tryz.underlying151 (zD ti_9) rfl rfl (j := i) rfl hi3 (p := i) (by omega)) ?_)
              refine L (zi yc rfl hcell ?_)
              refine L (S (zd rfl) (zg (zc (zf (zb (L (S (za rfl) (L (S (za rfl) ?_)))))))))
              refine L (zq cb_106 rfl (hpre) ?_)
              rintro _ _ ⟨rfl, rfl⟩
              refine zg (zc (zr rfl (zf (zb (L (S (za rfl) ?_))))))
              refine L (S (zW (ix := [0, 1]) (l := [.const (.int .i64 6), .tmp 66]) Yy rfl (by simp [Value.oneCell']) rfl) ?_)
              refine L (zw yD rfl rfl (yM 6 [a, b] 0) rfl hb22 (by exact Nat.le_refl 3) ?_)
              rintro w4 hb4 hm4
              refine L (S (zd rfl) (L (S (zd rfl) (zg (zc (zy (zP (zm (zm (zP (zm ?_)))))))))))
              have hb4' : Blk w4 b2 (Zf 6 [a, b] 0) 71 := hb4
              refine yk (rs := [.cell 2 71, .tmp 3, .tmp 4]) [.agg (Zf 6 [a, b] 0).toArray, .int .i64 2, .int .i64 0] Tryz.results64 ?_ ?_
              · exact ⟨⟨_, rfl, Zv hb4'⟩, rfl, rfl, trivial⟩
              · exact ⟨rfl, hm02.new hm4 hn1⟩
            · rw [decide_eq_false htk] at hpre
              refine zo (zc (zf (zx (zf (zb ?_)))))
              refine L (S (zn Tryz.underlying151 (zD ti_9) rfl rfl (j := i) rfl hi3 (p := i) (by omega)) ?_)
              refine L (zi yc rfl hcell ?_)
              refine L (S (zd rfl) (zg (zc (zf (zb (L (S (za rfl) (L (S (za rfl) ?_)))))))))
              refine L (zq cb_106 rfl (hpre) ?_)
              rintro _ _ ⟨rfl, rfl⟩
              refine zg (zc (zk rfl (zo (yj (zc (zb ?_))))))
              refine L (S (zT rfl rfl (z1 (c := ((i + 1 : Nat) : Int)) (by omega))) ?_)
              refine L (S (za rfl) (zg (zc ?_)))
              exact ⟨rfl, i + 1, .cons rfl (.cons rfl (.cons rfl (.cons rfl (.cons rfl (.nil _))))), ⟨rfl, hi3, fun j hj he => by
                by_cases hji : j = i
                · subst hji
                  rw [hab] at he
                  exact htk (Option.some.inj he).symm
                · exact hno j (by omega) he⟩, by omega⟩
          · have hi3 : i = 3 := by omega
            subst hi3
            have hnot : (c :: r).take 2 ∉ twoL := fun h => by
              obtain ⟨j, hj⟩ := List.getElem?_of_mem h
              have hjl : j < twoL.length := (List.getElem?_eq_some_iff.1 hj).1
              exact hno j hjl hj
            rw [if_neg hnot]
            have hix := indexByte_ret (w := wr) signL c
            have hneg := indexByte_neg c signL
            by_cases hsg : c ∈ signL
            · rw [if_pos hsg]
              refine yn (zL (zL (yK (zc (zf (zf (zb (L (S (za rfl) ?_)))))))))
              refine L (S (zY Tryz.underlying9 rfl rfl (j := 0) rfl (yd (bs := c :: r) rfl)) ?_)
              refine L (zq cb_107 rfl (hix) ?_)
              rintro _ _ ⟨rfl, rfl⟩
              refine L (S (zG rfl rfl (decide_eq_false (fun h => hneg.1 h hsg))) ?_)
              refine zg (zc (zk rfl (zo (zc (zf (zb (L (S (za rfl) ?_))))))))
              refine L (S (yQ Tryz.underlying9 rfl yU (zV (j := 1) rfl rfl) (by omega) (by omega) str_to) ?_)
              refine L (S (zW (ix := [0, 1]) (l := [.const (.int .i64 6), .tmp 75]) Yy rfl (by simp [Value.oneCell']) rfl) ?_)
              refine L (zw yD rfl rfl (yM 6 [c] 0) rfl hb22 (by exact Nat.le_refl 3) ?_)
              rintro w4 hb4 hm4
              refine L (S (zd rfl) (L (S (zd rfl) (zg (zc (zy ?_))))))
              have hb4' : Blk w4 b2 (Zf 6 [c] 0) 71 := hb4
              refine yk (rs := [.cell 2 71, .tmp 3, .tmp 4]) [.agg (Zf 6 [c] 0).toArray, .int .i64 1, .int .i64 0] Tryz.results64 ?_ ?_
              · exact ⟨⟨_, rfl, Zv hb4'⟩, rfl, rfl, trivial⟩
              · exact ⟨rfl, hm02.new hm4 hn1⟩
            · rw [if_neg hsg]
              refine yn (zL (zL (yK (zc (zf (zf (zb (L (S (za rfl) ?_)))))))))
              refine L (S (zY Tryz.underlying9 rfl rfl (j := 0) rfl (yd (bs := c :: r) rfl)) ?_)
              refine L (zq cb_107 rfl (hix) ?_)
              rintro _ _ ⟨rfl, rfl⟩
              refine L (S (zG rfl rfl (decide_eq_true (hneg.2 hsg))) ?_)
              refine zg (zc (zr rfl (zf (zb ?_))))
              refine L (S (zW (ix := []) (l := []) bi_71 rfl (by simp [Value.oneCell']) rfl) ?_)
              refine L (zw yD rfl rfl (yM 0 [] 0) rfl hb22 (by exact Nat.le_refl 3) ?_)
              rintro w4 hb4 hm4
              refine L (S (zd rfl) (L (S (zd rfl) (zg (zc (zy (zm ?_)))))))
              have hb4' : Blk w4 b2 (Zf 0 [] 0) 71 := hb4
              refine yk (rs := [.cell 2 71, .tmp 3, .tmp 4]) [.agg (Zf 0 [] 0).toArray, .int .i64 0, .int .i64 100] Tryz.results64 ?_ ?_
              · exact ⟨⟨_, rfl, Zv hb4'⟩, rfl, rfl, trivial⟩
              · exact ⟨rfl, hm02.new hm4 hn1⟩
end
end Go.Proofs.YtnoioimphcmeiaaGreatDoor
namespace Go.Proofs.YtnoioimphcmeiaaGreatDoor
open Go.RowKit
set_option maxRecDepth 20000

/-- The cells of tokens. -/
def flat (l : List Tk) : List Value := l.flatMap fun t => Zf t.kind t.s t.at_
theorem flat_len : ∀ l : List Tk, (flat l).length = l.length * 3
  | [] => rfl
  | t :: r => by
    have := flat_len r
    simp only [flat, List.flatMap_cons, List.length_append, List.length_cons] at *
    rw [this]
    simp [Zf]
    omega
theorem flat_snoc (l : List Tk) (t : Tk) : flat (l ++ [t]) = flat l ++ Zf t.kind t.s t.at_ := by simp [flat]
/-- The words of a text. -/
def lexA (big : List UInt8 → Bool) (s : List UInt8) : List Tk × Option (Nat × Nat) := lexF big (s.length + 1) s 0
/-- What Lex hands back. -/
def LexOut (w' : World) (v : Value) (r : List Tk × Option (Nat × Nat)) : Prop := match r.2 with
  | none => ∃ A c, v = .tuple #[.slice A r.1.length c, .int .i64 0, .int .i64 0] ∧ SlR w' A (flat r.1) ∧ r.1.length ≤ c
  | some (a, e) => v = .tuple #[.slice none 0 0, .int .i64 (a : Int), .int .i64 (e : Int)]
theorem nextF_er (big : List UInt8 → Bool) (l : List UInt8) : ZY big l ≠ .er 0 := by
  intro h
  cases l with
  | nil => simp [ZY] at h
  | cons c r =>
    simp only [ZY] at h
    split at h
    · split at h
      · cases h
      · split at h <;> cases h
    · split at h
      · unfold numF at h
        split at h
        · cases h
        · split at h
          · split at h <;> cases h
          · split at h <;> cases h
      · split at h
        · split at h <;> cases h
        · split at h
          · cases h
          · split at h <;> cases h
theorem lexF_er {big : List UInt8 → Bool} {fuel a e : Nat} {l : List UInt8} (h : ZY big (l.drop (zQ YA l)) = .er e) : lexF big (fuel + 1) l a = ([], some (a + zQ YA l, e)) := by
  rw [lexF, h]
theorem lexF_end {big : List UInt8 → Bool} {fuel a n : Nat} {l s : List UInt8} (h : ZY big (l.drop (zQ YA l)) = .ok 0 s n) : lexF big (fuel + 1) l a = ([⟨0, s, a + zQ YA l⟩], none) := by
  rw [lexF, h]; rfl
theorem lexF_ok {big : List UInt8 → Bool} {fuel a k n : Nat} {l s : List UInt8} (h : ZY big (l.drop (zQ YA l)) = .ok k s n) (hk : k ≠ 0) : lexF big (fuel + 1) l a = (⟨k, s, a + zQ YA l⟩ :: (lexF big fuel (l.drop (zQ YA l + n)) (a + zQ YA l + n)).1, (lexF big fuel (l.drop (zQ YA l + n)) (a + zQ YA l + n)).2) := by
  rw [lexF, h]
  simp only [if_neg hk]

section
variable {w : World}
set_option maxHeartbeats 2000000 in
theorem lex_ret {big : List UInt8 → Bool} {V : World → Prop} {T : List UInt8 → Prop} (hpf : PF big V T) (hv : V w) (l : List UInt8) (hT : InT T l) (hl : l.length ≤ 100000) (most : Int) :
    Ret Tryz.prog 31 [.string (str l), .int .i64 most] w fun v w' => (if most < l.length then v = .tuple #[.slice none 0 0, .int .i64 0, .int .i64 4] else LexOut w' v (lexA big l)) ∧ Mv No w w' := by
  have hsz := yR l
  refine zN Tryz.func31 Tryz.ntmps31 rfl rfl ?_
  refine zf (zb (L (S (zd rfl) (L (S (zd rfl) (L (S (zd rfl) (zg (zc (zf (zf ?_)))))))))))
  by_cases hm : most < l.length
  · refine zb (L (S (za rfl) ?_))
    refine L (S (yi Tryz.underlying9 rfl) ?_)
    refine L (S (za rfl) ?_)
    refine L (S (yp rfl rfl (decide_eq_true (by omega))) ?_)
    refine zg (zc (zr rfl (zf (zb (L (S (zd rfl) (L (S (zd rfl) (L (S (zd rfl) (zg (zc (zy (zm ?_))))))))))))))
    refine Yv Tryz.results31 rfl rfl rfl ?_
    exact ⟨by rw [if_pos hm], Mv.refl w⟩
  refine zb (L (S (za rfl) ?_))
  refine L (S (yi Tryz.underlying9 rfl) ?_)
  refine L (S (za rfl) ?_)
  refine L (S (yp rfl rfl (decide_eq_false (by omega))) ?_)
  refine zg (zc (zk rfl (zo (zc (zf (zb (L (S (zd rfl) (zg (zc (zf (zb (L (S (zd rfl) (zg (zc (zx ?_)))))))))))))))))
  refine yF (γ := Nat × Nat × List Tk × Value) (fun q => [(0, .string (str l)), (7, q.2.2.2), (8, .int .i64 (q.1 : Int))]) (fun q wr => q.1 ≤ l.length ∧ l.length - q.1 < q.2.1 ∧ lexA big l = (q.2.2.1 ++ (lexF big q.2.1 (l.drop q.1) q.1).1, (lexF big q.2.1 (l.drop q.1) q.1).2) ∧ wr.ownsRow w.heap.size 71 3 q.2.2.2 q.2.2.1.length (flat q.2.2.1) ∧ q.2.2.1.length ≤ q.1 ∧ Mv No w wr) (fun q => q.2.1) (0, l.length + 1, [], .slice none 0 0) (.cons rfl (.cons rfl (.cons rfl (.nil _)))) ⟨Nat.zero_le _, by dsimp only; omega, by simp [lexA], Yl, Nat.le_refl _, Mv.refl w⟩ ?_
  rintro ⟨at_, fuel, done, v7⟩ wr ⟨ha, hfu, hall, hown, hdl, hmr⟩
  dsimp only at ha hfu hall hown hdl
  obtain ⟨fu, rfl⟩ : ∃ f, fuel = f + 1 := ⟨fuel - 1, by omega⟩
  have hsp := Yr YA (l.drop at_)
  rw [List.length_drop] at hsp
  dsimp only
  refine zx (zf (zb (L (S (za rfl) (L (S (za rfl) (L (S (za rfl) ?_))))))))
  refine L (S (yQ Tryz.underlying9 rfl (zV (j := at_) rfl rfl) yU (by omega) (Nat.le_refl _) YD) ?_)
  refine L (zq cb_62 rfl (span_ret (l.drop at_) pred_bl (by rw [List.length_drop]; omega)) ?_)
  rintro _ w2 ⟨rfl, hm2⟩
  refine L (S (zT rfl rfl (z1 (c := ((at_ + zQ YA (l.drop at_) : Nat) : Int)) (by omega))) ?_)
  refine L (S (zd rfl) (zg (zc (zf ?_))))
  have hmr2 := hmr.no hm2
  have hown2 := zE hown hm2
  have hnx := next_ret (w := w2) hpf (hpf.mono _ _ hv hmr2) ((l.drop at_).drop (zQ YA (l.drop at_))) ((hT.drop _).drop _) (by rw [List.length_drop, List.length_drop]; omega)
  have hdd : (l.drop at_).drop (zQ YA (l.drop at_)) = l.drop (at_ + zQ YA (l.drop at_)) := List.drop_drop
  cases hn : ZY big ((l.drop at_).drop (zQ YA (l.drop at_))) with
  | er e =>
    rw [hn, hdd] at hnx
    rw [lexF_er hn, List.append_nil] at hall
    rw [hall]
    have he0 : 0 < e := by
      rcases Nat.eq_zero_or_pos e with h | h
      · subst h; exact absurd hn (nextF_er _ _)
      · exact h
    generalize hpe : at_ + zQ YA (l.drop at_) = p at *
    refine zb (L (S (za rfl) (L (S (za rfl) ?_))))
    refine L (S (yQ Tryz.underlying9 rfl (zV (j := p) rfl rfl) yU (by omega) (Nat.le_refl _) YD) ?_)
    refine L (zq cb_64 rfl (hnx) ?_)
    rintro _ w3 ⟨rfl, hm3⟩
    refine L (S (za rfl) (L (S (zv rfl rfl) (L (S (zv rfl rfl) (L (S (zv rfl rfl) ?_)))))))
    refine L (ye (zs := [(.int .i64 0), (.string (ByteArray.mk #[])), (.int .i64 0)]) yD rfl ?_)
    rintro b9 w4 hb4 hm4 hn4
    refine L (zw yD rfl rfl (yM 0 [] 0) rfl hb4 (by exact Nat.le_refl 3) ?_)
    rintro w5 hb5 hm5
    refine L (S (zd rfl) (L (S (zd rfl) (zg (zc (zf (zf (zb (L (S (za rfl) ?_))))))))))
    refine L (S (Za rfl rfl (decide_eq_true (by omega))) ?_)
    refine zg (zc (zr rfl (zf (zb (L (S (za rfl) (L (S (za rfl) (L (S (zd rfl) (L (S (zd rfl) (L (S (zd rfl) (zg (zc (zy (zm (zP (zm (zP ?_)))))))))))))))))))))
    refine Yv Tryz.results31 rfl rfl rfl ?_
    exact ⟨by rw [if_neg hm]; rfl, ((hmr2.no hm3).no hm4).new hm5 (Nat.le_trans (hmr2.no hm3).size hn4)⟩
  | ok k s n =>
    rw [hn, hdd] at hnx
    have hok := nextF_ok hn
    rw [List.length_drop, List.length_drop] at hok
    by_cases hk : k = 0
    · subst hk
      rw [lexF_end hn] at hall
      rw [hall]
      obtain ⟨-, -, hs0, hn0⟩ := hok.resolve_right (fun h => by omega)
      subst hs0 hn0
      generalize hpe : at_ + zQ YA (l.drop at_) = p at *
      refine zb (L (S (za rfl) (L (S (za rfl) ?_))))
      refine L (S (yQ Tryz.underlying9 rfl (zV (j := p) rfl rfl) yU (by omega) (Nat.le_refl _) YD) ?_)
      refine L (zq cb_64 rfl (hnx) ?_)
      rintro _ w3 ⟨rfl, hm3⟩
      refine L (S (za rfl) (L (S (zv rfl rfl) (L (S (zv rfl rfl) (L (S (zv rfl rfl) ?_)))))))
      refine L (ye (zs := [(.int .i64 0), (.string (ByteArray.mk #[])), (.int .i64 0)]) yD rfl ?_)
      rintro b9 w4 hb4 hm4 hn4
      refine L (zw yD rfl rfl (yM 0 [] 0) rfl hb4 (by exact Nat.le_refl 3) ?_)
      rintro w5 hb5 hm5
      refine L (S (zd rfl) (L (S (zd rfl) (zg (zc (zf (zf (zb (L (S (za rfl) ?_))))))))))
      refine L (S (Za rfl rfl (decide_eq_false (by decide))) ?_)
      refine zg (zc (zk rfl (zo (zc (zf (zb (L (S (za rfl) (L (S (ze fo_71_2 rfl) ?_))))))))))
      have hm05 : Mv No w w5 := ((hmr2.no hm3).no hm4).new hm5 (Nat.le_trans (hmr2.no hm3).size hn4)
      have hown5 := yo (zE (zE hown2 hm3) hm4) hm5 (fun x hx he => by have := (ZN (zE hown2 hm3) hx).2; have : x = b9 := he; omega)
      have hb5' : Blk w5 b9 (Zf 0 [] 0) 71 := hb5
      refine L (yv Yf rfl rfl rfl hb5' (by show 2 < 3; omega) ?_)
      rintro w6 hb6 hm6
      refine zg (zc (zf ?_))
      have hb6' : Blk w6 b9 (Zf 0 [] p) 71 := hb6
      have hlt5 := hb5'.lt
      have hm06 : Mv No w w6 := hm05.new hm6 (Nat.le_trans (hmr2.no hm3).size hn4)
      have hown6 := yo hown5 hm6 (fun x hx he => by have := (ZN (zE hown2 hm3) hx).2; have : x = b9 := he; omega)
      refine zb (L (S (za rfl) ?_))
      refine L (zB Yo rfl hb6'.row rfl ?_)
      refine L (zU (l := [.tmp 37]) (vss := [Zf 0 [] p]) Tryz.underlying67 yD (by decide) rfl (by simp [Zf]) rfl (by decide) (by decide) ?_)
      rintro b7 w7 hb7 hm7 hn7
      refine L (S_append Tryz.underlying67 yD rfl (by decide) rfl (zE hown6 hm7) rfl (.inr ⟨b7, 0, rfl, hb7.row⟩) rfl (by simpa using yM 0 [] p) (hm06.no hm7).size (by unfold maxLen; omega) (by omega) ?_)
      rintro v8 w8 ho8 hm8 hf8
      refine L (S (zd rfl) (zg (zc (zf (zf ?_)))))
      have hm08 : Mv No w w8 := Mv.own (hm06.no hm7) hm8 (zE hown6 hm7) (Nat.le_refl _)
      have hb8 : Blk w8 b9 (Zf 0 [] p) 71 := (hb6'.no hm7).mv hm8 (fun hx => by have := (ZN (zE hown2 hm3) hx).2; omega)
      refine zb (L (S (ze Yc rfl) ?_))
      refine L (zi z_ rfl (hb8.cell (i := 0) rfl) ?_)
      refine L (S (zR rfl rfl (decide_eq_true rfl)) ?_)
      refine zg (zc (zr rfl (zf (zb (L (S (za rfl) (L (S (zd rfl) (L (S (zd rfl) (L (S (zd rfl) (zg (zc (zy (zm (zP (zm (zP ?_)))))))))))))))))))
      obtain ⟨A, c, rfl, hr, hc, -⟩ := own_reads ho8
      have hr' : SlR w8 A (flat (done ++ [⟨0, [], p⟩])) := by rw [flat_snoc]; simpa using hr
      refine Yv Tryz.results31 rfl rfl rfl ?_
      refine ⟨?_, hm08⟩
      rw [if_neg hm]
      exact ⟨A, c, by simp, hr', by simpa using hc⟩
    · obtain ⟨hk1, hk2, hn1, hn2, hn3⟩ := hok.resolve_left (fun h => hk h.1)
      rw [lexF_ok hn hk] at hall
      have hdd2 : (l.drop at_).drop (zQ YA (l.drop at_) + n) = l.drop (at_ + zQ YA (l.drop at_) + n) := by rw [List.drop_drop, Nat.add_assoc]
      rw [hdd2] at hall
      generalize hpe : at_ + zQ YA (l.drop at_) = p at *
      refine zb (L (S (za rfl) (L (S (za rfl) ?_))))
      refine L (S (yQ Tryz.underlying9 rfl (zV (j := p) rfl rfl) yU (by omega) (Nat.le_refl _) YD) ?_)
      refine L (zq cb_64 rfl (hnx) ?_)
      rintro _ w3 ⟨rfl, hm3⟩
      refine L (S (za rfl) (L (S (zv rfl rfl) (L (S (zv rfl rfl) (L (S (zv rfl rfl) ?_)))))))
      refine L (ye (zs := [(.int .i64 0), (.string (ByteArray.mk #[])), (.int .i64 0)]) yD rfl ?_)
      rintro b9 w4 hb4 hm4 hn4
      refine L (zw yD rfl rfl (yM k s 0) rfl hb4 (by exact Nat.le_refl 3) ?_)
      rintro w5 hb5 hm5
      refine L (S (zd rfl) (L (S (zd rfl) (zg (zc (zf (zf (zb (L (S (za rfl) ?_))))))))))
      refine L (S (Za rfl rfl (decide_eq_false (by decide))) ?_)
      refine zg (zc (zk rfl (zo (zc (zf (zb (L (S (za rfl) (L (S (ze fo_71_2 rfl) ?_))))))))))
      have hm05 : Mv No w w5 := ((hmr2.no hm3).no hm4).new hm5 (Nat.le_trans (hmr2.no hm3).size hn4)
      have hown5 := yo (zE (zE hown2 hm3) hm4) hm5 (fun x hx he => by have := (ZN (zE hown2 hm3) hx).2; have : x = b9 := he; omega)
      have hb5' : Blk w5 b9 (Zf k s 0) 71 := hb5
      refine L (yv Yf rfl rfl rfl hb5' (by show 2 < 3; omega) ?_)
      rintro w6 hb6 hm6
      refine zg (zc (zf ?_))
      have hb6' : Blk w6 b9 (Zf k s p) 71 := hb6
      have hlt5 := hb5'.lt
      have hm06 : Mv No w w6 := hm05.new hm6 (Nat.le_trans (hmr2.no hm3).size hn4)
      have hown6 := yo hown5 hm6 (fun x hx he => by have := (ZN (zE hown2 hm3) hx).2; have : x = b9 := he; omega)
      refine zb (L (S (za rfl) ?_))
      refine L (zB Yo rfl hb6'.row rfl ?_)
      refine L (zU (l := [.tmp 37]) (vss := [Zf k s p]) Tryz.underlying67 yD (by decide) rfl (by simp [Zf]) rfl (by decide) (by decide) ?_)
      rintro b7 w7 hb7 hm7 hn7
      refine L (S_append Tryz.underlying67 yD rfl (by decide) rfl (zE hown6 hm7) rfl (.inr ⟨b7, 0, rfl, hb7.row⟩) rfl (by simpa using yM k s p) (hm06.no hm7).size (by unfold maxLen; omega) (by omega) ?_)
      rintro v8 w8 ho8 hm8 hf8
      refine L (S (zd rfl) (zg (zc (zf (zf ?_)))))
      have hm08 : Mv No w w8 := Mv.own (hm06.no hm7) hm8 (zE hown6 hm7) (Nat.le_refl _)
      have hb8 : Blk w8 b9 (Zf k s p) 71 := (hb6'.no hm7).mv hm8 (fun hx => by have := (ZN (zE hown2 hm3) hx).2; omega)
      refine zb (L (S (ze Yc rfl) ?_))
      refine L (zi z_ rfl (hb8.cell (i := 0) rfl) ?_)
      refine L (S (zR rfl rfl (decide_eq_false (by omega))) ?_)
      refine zg (zc (zk rfl (zo (zc (zb (L (S (za rfl) (L (S (za rfl) ?_)))))))))
      refine L (S (zT rfl rfl (z1 (c := ((p + n : Nat) : Int)) (by omega))) ?_)
      refine L (S (zd rfl) (zg (yj (zc ?_))))
      exact ⟨rfl, (p + n, fu, done ++ [⟨k, s, p⟩], v8), .cons rfl (.cons rfl (.cons rfl (.nil _))), ⟨by dsimp only; omega, by dsimp only; omega, by simpa using hall, by simpa [flat_snoc] using ho8, by simp; omega, hm08⟩, by dsimp only; omega⟩
theorem lex_ok {big : List UInt8 → Bool} {V : World → Prop} {T : List UInt8 → Prop} (hpf : PF big V T) (hv : V w) (l : List UInt8) (hT : InT T l) (hl : l.length ≤ 100000) {most : Int} (hm : ¬ most < l.length) {toks : List Tk} (h : lexA big l = (toks, none)) :
    Ret Tryz.prog 31 [.string (str l), .int .i64 most] w fun v w' => ∃ A c, v = .tuple #[.slice A toks.length c, .int .i64 0, .int .i64 0] ∧ SlR w' A (flat toks) ∧ toks.length ≤ c ∧ Mv No w w' :=
  (lex_ret hpf hv l hT hl most).mono fun v w' ⟨h1, h2⟩ => by
    rw [if_neg hm, h] at h1
    obtain ⟨A, c, h3, h4, h5⟩ := h1
    exact ⟨A, c, h3, h4, h5, h2⟩
theorem lex_bad {big : List UInt8 → Bool} {V : World → Prop} {T : List UInt8 → Prop} (hpf : PF big V T) (hv : V w) (l : List UInt8) (hT : InT T l) (hl : l.length ≤ 100000) {most : Int} (hm : ¬ most < l.length) {toks : List Tk} {a e : Nat} (h : lexA big l = (toks, some (a, e))) :
    Ret Tryz.prog 31 [.string (str l), .int .i64 most] w fun v w' => v = .tuple #[.slice none 0 0, .int .i64 (a : Int), .int .i64 (e : Int)] ∧ Mv No w w' :=
  (lex_ret hpf hv l hT hl most).mono fun v w' ⟨h1, h2⟩ => by
    rw [if_neg hm, h] at h1
    exact ⟨h1, h2⟩
theorem lex_long {big : List UInt8 → Bool} {V : World → Prop} {T : List UInt8 → Prop} (hpf : PF big V T) (hv : V w) (l : List UInt8) (hT : InT T l) (hl : l.length ≤ 100000) {most : Int} (hm : most < l.length) :
    Ret Tryz.prog 31 [.string (str l), .int .i64 most] w fun v w' => v = .tuple #[.slice none 0 0, .int .i64 0, .int .i64 4] ∧ Mv No w w' :=
  (lex_ret hpf hv l hT hl most).mono fun v w' ⟨h1, h2⟩ => by
    rw [if_pos hm] at h1
    exact ⟨h1, h2⟩
end
end Go.Proofs.YtnoioimphcmeiaaGreatDoor
namespace Go.Proofs.YtnoioimphcmeiaaGreatDoor
open Go.RowKit
set_option maxRecDepth 20000

def kdN (c : Nat) : Nat := if letN c = true then 1 else if yL c = true then 2 else if YA c = true then 3 else 0
theorem spanB_drop {p : Nat → Bool} {l : List UInt8} {i : Nat} {c : UInt8} (h : l[i]? = some c) : zQ p (l.drop i) = if p c.toNat = true then zQ p (l.drop (i + 1)) + 1 else 0 := by
  obtain ⟨hlt, he⟩ := List.getElem?_eq_some_iff.1 h
  rw [List.drop_eq_getElem_cons hlt, he]
  rfl
theorem spanB_end {p : Nat → Bool} {l : List UInt8} {i : Nat} (h : l.length ≤ i) : zQ p (l.drop i) = 0 := by
  rw [List.drop_eq_nil_of_le h]; rfl
theorem cut_str {l : List UInt8} {i j : Nat} : (str l).extract i j = str ((l.drop i).take (j - i)) := by
  rw [str_cut, List.drop_take]

section
variable {w : World}
theorem kind_ret (c : UInt8) : Ret Tryz.prog 65 [bv c] w fun v w' => v = .int .i64 (kdN c.toNat : Int) ∧ w = w' := by
  have hcl := c.toNat_lt
  have hA : (c.toNat = 95 ∨ (97 ≤ c.toNat ∧ c.toNat ≤ 122) ∨ (65 ≤ c.toNat ∧ c.toNat ≤ 90)) → kdN c.toNat = 1 := fun h => by unfold kdN; rw [if_pos (show letN c.toNat = true from decide_eq_true h)]
  have hB : ¬ (c.toNat = 95 ∨ (97 ≤ c.toNat ∧ c.toNat ≤ 122) ∨ (65 ≤ c.toNat ∧ c.toNat ≤ 90)) → (48 ≤ c.toNat ∧ c.toNat ≤ 57) → kdN c.toNat = 2 := fun h h2 => by unfold kdN letN yL; rw [decide_eq_false h, decide_eq_true h2]; rfl
  have hC : ¬ (c.toNat = 95 ∨ (97 ≤ c.toNat ∧ c.toNat ≤ 122) ∨ (65 ≤ c.toNat ∧ c.toNat ≤ 90)) → ¬ (48 ≤ c.toNat ∧ c.toNat ≤ 57) → (c.toNat = 32 ∨ c.toNat = 9 ∨ c.toNat = 10 ∨ c.toNat = 13) → kdN c.toNat = 3 := fun h h2 h3 => by unfold kdN letN yL YA; rw [decide_eq_false h, decide_eq_false h2, decide_eq_true h3]; rfl
  have hD : ¬ (c.toNat = 95 ∨ (97 ≤ c.toNat ∧ c.toNat ≤ 122) ∨ (65 ≤ c.toNat ∧ c.toNat ≤ 90)) → ¬ (48 ≤ c.toNat ∧ c.toNat ≤ 57) → ¬ (c.toNat = 32 ∨ c.toNat = 9 ∨ c.toNat = 10 ∨ c.toNat = 13) → kdN c.toNat = 0 := fun h h2 h3 => by unfold kdN letN yL YA; rw [decide_eq_false h, decide_eq_false h2, decide_eq_false h3]; rfl
  refine zN Tryz.func65 Tryz.ntmps65 rfl rfl ?_
  by_cases h1 : c.toNat = 95
  · rw [hA (by omega)]
    refine zf (zb (L (S (zd rfl) (zg (zc (zf (zx (zf (zb (L (S (za rfl) ?_)))))))))))
    refine L (S (zR rfl rfl (decide_eq_true (by omega))) ?_)
    refine L (S (za rfl) (zl (j := 2) (dj := 6) (b := false) (b' := true) (d := 7) rfl (zl (j := 2) (dj := 6) (b := false) (b' := true) (d := 8) rfl (zl (j := 2) (dj := 6) (b := false) (b' := true) (d := 9) rfl (ZE (j := 5) (dj := 9) (b := true) (d := 10) rfl (ZE (j := 5) (dj := 9) (b := true) (d := 11) rfl (zl (j := 2) (dj := 6) (b := false) (b' := true) (d := 12) rfl (L (S (zt rfl rfl) (L (S (za rfl) (zl (j := 10) (dj := 14) (b := false) (b' := true) (d := 15) rfl (zl (j := 10) (dj := 14) (b := false) (b' := true) (d := 16) rfl (zl (j := 10) (dj := 14) (b := false) (b' := true) (d := 17) rfl (ZE (j := 13) (dj := 17) (b := true) (d := 18) rfl (ZE (j := 13) (dj := 17) (b := true) (d := 19) rfl (zl (j := 10) (dj := 14) (b := false) (b' := true) (d := 20) rfl (L (S (zt rfl rfl) (L (S (zd rfl) (zg (zc (zr rfl (zf (zb (L (S (zd rfl) (zg ?_)))))))))))))))))))))))))))))
    refine zc (zy (zP (zm ?_)))
    refine zC Tryz.results65 rfl ?_
    exact ⟨rfl, rfl⟩
  by_cases h2 : 97 ≤ c.toNat
  · by_cases h3 : c.toNat ≤ 122
    · rw [hA (by omega)]
      refine zf (zb (L (S (zd rfl) (zg (zc (zf (zx (zf (zb (L (S (za rfl) ?_)))))))))))
      refine L (S (zR rfl rfl (decide_eq_false (by omega))) ?_)
      refine L (S (za rfl) (zh (j := 2) (dj := 6) (b := false) (S (za rfl) ?_) rfl))
      refine zh (j := 2) (dj := 6) (b := false) (S (y_ rfl rfl (decide_eq_true (by omega))) ?_) rfl
      refine zh (j := 2) (dj := 6) (b := false) (S (za rfl) (zh (j := 5) (dj := 9) (b := true) (S (za rfl) ?_) rfl)) rfl
      refine zh (j := 5) (dj := 9) (b := true) (S (Yd rfl rfl (decide_eq_true (by omega))) ?_) rfl
      refine zh (j := 2) (dj := 6) (b := false) (S (zt rfl rfl) (L (S (zj rfl rfl) (L (S (za rfl) (zl (j := 10) (dj := 14) (b := false) (b' := true) (d := 15) rfl (zl (j := 10) (dj := 14) (b := false) (b' := true) (d := 16) rfl (zl (j := 10) (dj := 14) (b := false) (b' := true) (d := 17) rfl (ZE (j := 13) (dj := 17) (b := true) (d := 18) rfl (ZE (j := 13) (dj := 17) (b := true) (d := 19) rfl (zl (j := 10) (dj := 14) (b := false) (b' := true) (d := 20) rfl (L (S (zt rfl rfl) (L (S (zd rfl) (zg (zc (zr rfl (zf (zb (L (S (zd rfl) (zg (zc (zy (zP (zm ?_))))))))))))))))))))))))))) rfl
      refine zC Tryz.results65 rfl ?_
      exact ⟨rfl, rfl⟩
    · rw [hD (by omega) (by omega) (by omega)]
      refine zf (zb (L (S (zd rfl) (zg (zc (zf (zx (zf (zb (L (S (za rfl) ?_)))))))))))
      refine L (S (zR rfl rfl (decide_eq_false (by omega))) ?_)
      refine L (S (za rfl) (zh (j := 2) (dj := 6) (b := false) (S (za rfl) ?_) rfl))
      refine zh (j := 2) (dj := 6) (b := false) (S (y_ rfl rfl (decide_eq_true (by omega))) ?_) rfl
      refine zh (j := 2) (dj := 6) (b := false) (S (za rfl) (zh (j := 5) (dj := 9) (b := true) (S (za rfl) ?_) rfl)) rfl
      refine zh (j := 5) (dj := 9) (b := true) (S (Yd rfl rfl (decide_eq_false (by omega))) ?_) rfl
      refine zh (j := 2) (dj := 6) (b := false) (S (zt rfl rfl) (L (S (zj rfl rfl) (L (S (za rfl) (zh (j := 10) (dj := 14) (b := false) (S (za rfl) ?_) rfl)))))) rfl
      refine zh (j := 10) (dj := 14) (b := false) (S (y_ rfl rfl (decide_eq_true (by omega))) ?_) rfl
      refine zh (j := 10) (dj := 14) (b := false) (S (za rfl) (zh (j := 13) (dj := 17) (b := true) (S (za rfl) ?_) rfl)) rfl
      refine zh (j := 13) (dj := 17) (b := true) (S (Yd rfl rfl (decide_eq_false (by omega))) ?_) rfl
      refine zh (j := 10) (dj := 14) (b := false) (S (zt rfl rfl) (L (S (zj rfl rfl) (L (S (zd rfl) (zg (zc (zk rfl (zf (zb (L (S (za rfl) ?_)))))))))))) rfl
      refine L (S (y_ rfl rfl (decide_eq_true (by omega))) ?_)
      refine L (S (za rfl) (zh (j := 2) (dj := 25) (b := true) (S (za rfl) ?_) rfl))
      refine zh (j := 2) (dj := 25) (b := true) (S (Yd rfl rfl (decide_eq_false (by omega))) ?_) rfl
      refine L (S (zt rfl rfl) (L (S (zd rfl) (zg (zc (zk rfl (zf (zb (L (S (za rfl) ?_))))))))))
      refine L (S (zR rfl rfl (decide_eq_false (by omega))) ?_)
      refine L (S (za rfl) (zh (j := 2) (dj := 32) (b := false) (S (za rfl) ?_) rfl))
      refine zh (j := 2) (dj := 32) (b := false) (S (zR rfl rfl (decide_eq_false (by omega))) ?_) rfl
      refine L (S (zj rfl rfl) (L (S (za rfl) (zh (j := 6) (dj := 36) (b := false) (S (za rfl) ?_) rfl))))
      refine zh (j := 6) (dj := 36) (b := false) (S (zR rfl rfl (decide_eq_false (by omega))) ?_) rfl
      refine L (S (zj rfl rfl) (L (S (za rfl) (zh (j := 10) (dj := 40) (b := false) (S (za rfl) ?_) rfl))))
      refine zh (j := 10) (dj := 40) (b := false) (S (zR rfl rfl (decide_eq_false (by omega))) ?_) rfl
      refine L (S (zj rfl rfl) (L (S (zd rfl) (zg (zc (zk rfl (zo (yj (zc (zf (zb (L (S (zd rfl) (zg (zc (zy ?_))))))))))))))))
      refine zC Tryz.results65 rfl ?_
      exact ⟨rfl, rfl⟩
  by_cases h4 : 65 ≤ c.toNat
  · by_cases h5 : c.toNat ≤ 90
    · rw [hA (by omega)]
      refine zf (zb (L (S (zd rfl) (zg (zc (zf (zx (zf (zb (L (S (za rfl) ?_)))))))))))
      refine L (S (zR rfl rfl (decide_eq_false (by omega))) ?_)
      refine L (S (za rfl) (zh (j := 2) (dj := 6) (b := false) (S (za rfl) ?_) rfl))
      refine zh (j := 2) (dj := 6) (b := false) (S (y_ rfl rfl (decide_eq_false (by omega))) ?_) rfl
      refine zh (j := 2) (dj := 6) (b := false) (S (za rfl) (zl (j := 5) (dj := 9) (b := true) (b' := false) (d := 10) rfl (zl (j := 5) (dj := 9) (b := true) (b' := false) (d := 11) rfl (zh (j := 2) (dj := 6) (b := false) (S (zj rfl rfl) (L (S (zj rfl rfl) (L (S (za rfl) (zh (j := 10) (dj := 14) (b := false) (S (za rfl) ?_) rfl)))))) rfl)))) rfl
      refine zh (j := 10) (dj := 14) (b := false) (S (y_ rfl rfl (decide_eq_true (by omega))) ?_) rfl
      refine zh (j := 10) (dj := 14) (b := false) (S (za rfl) (zh (j := 13) (dj := 17) (b := true) (S (za rfl) ?_) rfl)) rfl
      refine zh (j := 13) (dj := 17) (b := true) (S (Yd rfl rfl (decide_eq_true (by omega))) ?_) rfl
      refine zh (j := 10) (dj := 14) (b := false) (S (zt rfl rfl) (L (S (zj rfl rfl) (L (S (zd rfl) (zg (zc (zr rfl (zf (zb (L (S (zd rfl) (zg (zc (zy (zP (zm ?_))))))))))))))))) rfl
      refine zC Tryz.results65 rfl ?_
      exact ⟨rfl, rfl⟩
    · rw [hD (by omega) (by omega) (by omega)]
      refine zf (zb (L (S (zd rfl) (zg (zc (zf (zx (zf (zb (L (S (za rfl) ?_)))))))))))
      refine L (S (zR rfl rfl (decide_eq_false (by omega))) ?_)
      refine L (S (za rfl) (zh (j := 2) (dj := 6) (b := false) (S (za rfl) ?_) rfl))
      refine zh (j := 2) (dj := 6) (b := false) (S (y_ rfl rfl (decide_eq_false (by omega))) ?_) rfl
      refine zh (j := 2) (dj := 6) (b := false) (S (za rfl) (zl (j := 5) (dj := 9) (b := true) (b' := false) (d := 10) rfl (zl (j := 5) (dj := 9) (b := true) (b' := false) (d := 11) rfl (zh (j := 2) (dj := 6) (b := false) (S (zj rfl rfl) (L (S (zj rfl rfl) (L (S (za rfl) (zh (j := 10) (dj := 14) (b := false) (S (za rfl) ?_) rfl)))))) rfl)))) rfl
      refine zh (j := 10) (dj := 14) (b := false) (S (y_ rfl rfl (decide_eq_true (by omega))) ?_) rfl
      refine zh (j := 10) (dj := 14) (b := false) (S (za rfl) (zh (j := 13) (dj := 17) (b := true) (S (za rfl) ?_) rfl)) rfl
      refine zh (j := 13) (dj := 17) (b := true) (S (Yd rfl rfl (decide_eq_false (by omega))) ?_) rfl
      refine zh (j := 10) (dj := 14) (b := false) (S (zt rfl rfl) (L (S (zj rfl rfl) (L (S (zd rfl) (zg (zc (zk rfl (zf (zb (L (S (za rfl) ?_)))))))))))) rfl
      refine L (S (y_ rfl rfl (decide_eq_true (by omega))) ?_)
      refine L (S (za rfl) (zh (j := 2) (dj := 25) (b := true) (S (za rfl) ?_) rfl))
      refine zh (j := 2) (dj := 25) (b := true) (S (Yd rfl rfl (decide_eq_false (by omega))) ?_) rfl
      refine L (S (zt rfl rfl) (L (S (zd rfl) (zg (zc (zk rfl (zf (zb (L (S (za rfl) ?_))))))))))
      refine L (S (zR rfl rfl (decide_eq_false (by omega))) ?_)
      refine L (S (za rfl) (zh (j := 2) (dj := 32) (b := false) (S (za rfl) ?_) rfl))
      refine zh (j := 2) (dj := 32) (b := false) (S (zR rfl rfl (decide_eq_false (by omega))) ?_) rfl
      refine L (S (zj rfl rfl) (L (S (za rfl) (zh (j := 6) (dj := 36) (b := false) (S (za rfl) ?_) rfl))))
      refine zh (j := 6) (dj := 36) (b := false) (S (zR rfl rfl (decide_eq_false (by omega))) ?_) rfl
      refine L (S (zj rfl rfl) (L (S (za rfl) (zh (j := 10) (dj := 40) (b := false) (S (za rfl) ?_) rfl))))
      refine zh (j := 10) (dj := 40) (b := false) (S (zR rfl rfl (decide_eq_false (by omega))) ?_) rfl
      refine L (S (zj rfl rfl) (L (S (zd rfl) (zg (zc (zk rfl (zo (yj (zc (zf (zb (L (S (zd rfl) (zg (zc (zy ?_))))))))))))))))
      refine zC Tryz.results65 rfl ?_
      exact ⟨rfl, rfl⟩
  by_cases h6 : 48 ≤ c.toNat
  · by_cases h7 : c.toNat ≤ 57
    · rw [hB (by omega) (by omega)]
      refine zf (zb (L (S (zd rfl) (zg (zc (zf (zx (zf (zb (L (S (za rfl) ?_)))))))))))
      refine L (S (zR rfl rfl (decide_eq_false (by omega))) ?_)
      refine L (S (za rfl) (zh (j := 2) (dj := 6) (b := false) (S (za rfl) ?_) rfl))
      refine zh (j := 2) (dj := 6) (b := false) (S (y_ rfl rfl (decide_eq_false (by omega))) ?_) rfl
      refine zh (j := 2) (dj := 6) (b := false) (S (za rfl) (zl (j := 5) (dj := 9) (b := true) (b' := false) (d := 10) rfl (zl (j := 5) (dj := 9) (b := true) (b' := false) (d := 11) rfl (zh (j := 2) (dj := 6) (b := false) (S (zj rfl rfl) (L (S (zj rfl rfl) (L (S (za rfl) (zh (j := 10) (dj := 14) (b := false) (S (za rfl) ?_) rfl)))))) rfl)))) rfl
      refine zh (j := 10) (dj := 14) (b := false) (S (y_ rfl rfl (decide_eq_false (by omega))) ?_) rfl
      refine zh (j := 10) (dj := 14) (b := false) (S (za rfl) (zl (j := 13) (dj := 17) (b := true) (b' := false) (d := 18) rfl (zl (j := 13) (dj := 17) (b := true) (b' := false) (d := 19) rfl (zh (j := 10) (dj := 14) (b := false) (S (zj rfl rfl) (L (S (zj rfl rfl) (L (S (zd rfl) (zg (zc (zk rfl (zf (zb (L (S (za rfl) ?_)))))))))))) rfl)))) rfl
      refine L (S (y_ rfl rfl (decide_eq_true (by omega))) ?_)
      refine L (S (za rfl) (zh (j := 2) (dj := 25) (b := true) (S (za rfl) ?_) rfl))
      refine zh (j := 2) (dj := 25) (b := true) (S (Yd rfl rfl (decide_eq_true (by omega))) ?_) rfl
      refine L (S (zt rfl rfl) (L (S (zd rfl) (zg (zc (zr rfl (zf (zb (L (S (zd rfl) (zg (zc (zy (zP (zm ?_)))))))))))))))
      refine zC Tryz.results65 rfl ?_
      exact ⟨rfl, rfl⟩
    · rw [hD (by omega) (by omega) (by omega)]
      refine zf (zb (L (S (zd rfl) (zg (zc (zf (zx (zf (zb (L (S (za rfl) ?_)))))))))))
      refine L (S (zR rfl rfl (decide_eq_false (by omega))) ?_)
      refine L (S (za rfl) (zh (j := 2) (dj := 6) (b := false) (S (za rfl) ?_) rfl))
      refine zh (j := 2) (dj := 6) (b := false) (S (y_ rfl rfl (decide_eq_false (by omega))) ?_) rfl
      refine zh (j := 2) (dj := 6) (b := false) (S (za rfl) (zl (j := 5) (dj := 9) (b := true) (b' := false) (d := 10) rfl (zl (j := 5) (dj := 9) (b := true) (b' := false) (d := 11) rfl (zh (j := 2) (dj := 6) (b := false) (S (zj rfl rfl) (L (S (zj rfl rfl) (L (S (za rfl) (zh (j := 10) (dj := 14) (b := false) (S (za rfl) ?_) rfl)))))) rfl)))) rfl
      refine zh (j := 10) (dj := 14) (b := false) (S (y_ rfl rfl (decide_eq_false (by omega))) ?_) rfl
      refine zh (j := 10) (dj := 14) (b := false) (S (za rfl) (zl (j := 13) (dj := 17) (b := true) (b' := false) (d := 18) rfl (zl (j := 13) (dj := 17) (b := true) (b' := false) (d := 19) rfl (zh (j := 10) (dj := 14) (b := false) (S (zj rfl rfl) (L (S (zj rfl rfl) (L (S (zd rfl) (zg (zc (zk rfl (zf (zb (L (S (za rfl) ?_)))))))))))) rfl)))) rfl
      refine L (S (y_ rfl rfl (decide_eq_true (by omega))) ?_)
      refine L (S (za rfl) (zh (j := 2) (dj := 25) (b := true) (S (za rfl) ?_) rfl))
      refine zh (j := 2) (dj := 25) (b := true) (S (Yd rfl rfl (decide_eq_false (by omega))) ?_) rfl
      refine L (S (zt rfl rfl) (L (S (zd rfl) (zg (zc (zk rfl (zf (zb (L (S (za rfl) ?_))))))))))
      refine L (S (zR rfl rfl (decide_eq_false (by omega))) ?_)
      refine L (S (za rfl) (zh (j := 2) (dj := 32) (b := false) (S (za rfl) ?_) rfl))
      refine zh (j := 2) (dj := 32) (b := false) (S (zR rfl rfl (decide_eq_false (by omega))) ?_) rfl
      refine L (S (zj rfl rfl) (L (S (za rfl) (zh (j := 6) (dj := 36) (b := false) (S (za rfl) ?_) rfl))))
      refine zh (j := 6) (dj := 36) (b := false) (S (zR rfl rfl (decide_eq_false (by omega))) ?_) rfl
      refine L (S (zj rfl rfl) (L (S (za rfl) (zh (j := 10) (dj := 40) (b := false) (S (za rfl) ?_) rfl))))
      refine zh (j := 10) (dj := 40) (b := false) (S (zR rfl rfl (decide_eq_false (by omega))) ?_) rfl
      refine L (S (zj rfl rfl) (L (S (zd rfl) (zg (zc (zk rfl (zo (yj (zc (zf (zb (L (S (zd rfl) (zg (zc (zy ?_))))))))))))))))
      refine zC Tryz.results65 rfl ?_
      exact ⟨rfl, rfl⟩
  by_cases h8 : c.toNat = 32
  · rw [hC (by omega) (by omega) (by omega)]
    refine zf (zb (L (S (zd rfl) (zg (zc (zf (zx (zf (zb (L (S (za rfl) ?_)))))))))))
    refine L (S (zR rfl rfl (decide_eq_false (by omega))) ?_)
    refine L (S (za rfl) (zh (j := 2) (dj := 6) (b := false) (S (za rfl) ?_) rfl))
    refine zh (j := 2) (dj := 6) (b := false) (S (y_ rfl rfl (decide_eq_false (by omega))) ?_) rfl
    refine zh (j := 2) (dj := 6) (b := false) (S (za rfl) (zl (j := 5) (dj := 9) (b := true) (b' := false) (d := 10) rfl (zl (j := 5) (dj := 9) (b := true) (b' := false) (d := 11) rfl (zh (j := 2) (dj := 6) (b := false) (S (zj rfl rfl) (L (S (zj rfl rfl) (L (S (za rfl) (zh (j := 10) (dj := 14) (b := false) (S (za rfl) ?_) rfl)))))) rfl)))) rfl
    refine zh (j := 10) (dj := 14) (b := false) (S (y_ rfl rfl (decide_eq_false (by omega))) ?_) rfl
    refine zh (j := 10) (dj := 14) (b := false) (S (za rfl) (zl (j := 13) (dj := 17) (b := true) (b' := false) (d := 18) rfl (zl (j := 13) (dj := 17) (b := true) (b' := false) (d := 19) rfl (zh (j := 10) (dj := 14) (b := false) (S (zj rfl rfl) (L (S (zj rfl rfl) (L (S (zd rfl) (zg (zc (zk rfl (zf (zb (L (S (za rfl) ?_)))))))))))) rfl)))) rfl
    refine L (S (y_ rfl rfl (decide_eq_false (by omega))) ?_)
    refine L (S (za rfl) (zl (j := 2) (dj := 25) (b := true) (b' := false) (d := 26) rfl (zl (j := 2) (dj := 25) (b := true) (b' := false) (d := 27) rfl (L (S (zj rfl rfl) (L (S (zd rfl) (zg (zc (zk rfl (zf (zb (L (S (za rfl) ?_))))))))))))))
    refine L (S (zR rfl rfl (decide_eq_true (by omega))) ?_)
    refine L (S (za rfl) (zl (j := 2) (dj := 32) (b := false) (b' := true) (d := 33) rfl (zl (j := 2) (dj := 32) (b := false) (b' := true) (d := 34) rfl (L (S (zt rfl rfl) (L (S (za rfl) (zl (j := 6) (dj := 36) (b := false) (b' := true) (d := 37) rfl (zl (j := 6) (dj := 36) (b := false) (b' := true) (d := 38) rfl (L (S (zt rfl rfl) (L (S (za rfl) (zl (j := 10) (dj := 40) (b := false) (b' := true) (d := 41) rfl (zl (j := 10) (dj := 40) (b := false) (b' := true) (d := 42) rfl (L (S (zt rfl rfl) (L (S (zd rfl) (zg (zc (zr rfl (zf (zb (L (S (zd rfl) (zg (zc (zy (zP (zm ?_)))))))))))))))))))))))))))))))
    refine zC Tryz.results65 rfl ?_
    exact ⟨rfl, rfl⟩
  by_cases h9 : c.toNat = 9
  · rw [hC (by omega) (by omega) (by omega)]
    refine zf (zb (L (S (zd rfl) (zg (zc (zf (zx (zf (zb (L (S (za rfl) ?_)))))))))))
    refine L (S (zR rfl rfl (decide_eq_false (by omega))) ?_)
    refine L (S (za rfl) (zh (j := 2) (dj := 6) (b := false) (S (za rfl) ?_) rfl))
    refine zh (j := 2) (dj := 6) (b := false) (S (y_ rfl rfl (decide_eq_false (by omega))) ?_) rfl
    refine zh (j := 2) (dj := 6) (b := false) (S (za rfl) (zl (j := 5) (dj := 9) (b := true) (b' := false) (d := 10) rfl (zl (j := 5) (dj := 9) (b := true) (b' := false) (d := 11) rfl (zh (j := 2) (dj := 6) (b := false) (S (zj rfl rfl) (L (S (zj rfl rfl) (L (S (za rfl) (zh (j := 10) (dj := 14) (b := false) (S (za rfl) ?_) rfl)))))) rfl)))) rfl
    refine zh (j := 10) (dj := 14) (b := false) (S (y_ rfl rfl (decide_eq_false (by omega))) ?_) rfl
    refine zh (j := 10) (dj := 14) (b := false) (S (za rfl) (zl (j := 13) (dj := 17) (b := true) (b' := false) (d := 18) rfl (zl (j := 13) (dj := 17) (b := true) (b' := false) (d := 19) rfl (zh (j := 10) (dj := 14) (b := false) (S (zj rfl rfl) (L (S (zj rfl rfl) (L (S (zd rfl) (zg (zc (zk rfl (zf (zb (L (S (za rfl) ?_)))))))))))) rfl)))) rfl
    refine L (S (y_ rfl rfl (decide_eq_false (by omega))) ?_)
    refine L (S (za rfl) (zl (j := 2) (dj := 25) (b := true) (b' := false) (d := 26) rfl (zl (j := 2) (dj := 25) (b := true) (b' := false) (d := 27) rfl (L (S (zj rfl rfl) (L (S (zd rfl) (zg (zc (zk rfl (zf (zb (L (S (za rfl) ?_))))))))))))))
    refine L (S (zR rfl rfl (decide_eq_false (by omega))) ?_)
    refine L (S (za rfl) (zh (j := 2) (dj := 32) (b := false) (S (za rfl) ?_) rfl))
    refine zh (j := 2) (dj := 32) (b := false) (S (zR rfl rfl (decide_eq_true (by omega))) ?_) rfl
    refine L (S (zj rfl rfl) (L (S (za rfl) (zl (j := 6) (dj := 36) (b := false) (b' := true) (d := 37) rfl (zl (j := 6) (dj := 36) (b := false) (b' := true) (d := 38) rfl (L (S (zt rfl rfl) (L (S (za rfl) (zl (j := 10) (dj := 40) (b := false) (b' := true) (d := 41) rfl (zl (j := 10) (dj := 40) (b := false) (b' := true) (d := 42) rfl (L (S (zt rfl rfl) (L (S (zd rfl) (zg (zc (zr rfl (zf (zb (L (S (zd rfl) (zg (zc (zy (zP (zm ?_)))))))))))))))))))))))))))
    refine zC Tryz.results65 rfl ?_
    exact ⟨rfl, rfl⟩
  by_cases h10 : c.toNat = 10
  · rw [hC (by omega) (by omega) (by omega)]
    refine zf (zb (L (S (zd rfl) (zg (zc (zf (zx (zf (zb (L (S (za rfl) ?_)))))))))))
    refine L (S (zR rfl rfl (decide_eq_false (by omega))) ?_)
    refine L (S (za rfl) (zh (j := 2) (dj := 6) (b := false) (S (za rfl) ?_) rfl))
    refine zh (j := 2) (dj := 6) (b := false) (S (y_ rfl rfl (decide_eq_false (by omega))) ?_) rfl
    refine zh (j := 2) (dj := 6) (b := false) (S (za rfl) (zl (j := 5) (dj := 9) (b := true) (b' := false) (d := 10) rfl (zl (j := 5) (dj := 9) (b := true) (b' := false) (d := 11) rfl (zh (j := 2) (dj := 6) (b := false) (S (zj rfl rfl) (L (S (zj rfl rfl) (L (S (za rfl) (zh (j := 10) (dj := 14) (b := false) (S (za rfl) ?_) rfl)))))) rfl)))) rfl
    refine zh (j := 10) (dj := 14) (b := false) (S (y_ rfl rfl (decide_eq_false (by omega))) ?_) rfl
    refine zh (j := 10) (dj := 14) (b := false) (S (za rfl) (zl (j := 13) (dj := 17) (b := true) (b' := false) (d := 18) rfl (zl (j := 13) (dj := 17) (b := true) (b' := false) (d := 19) rfl (zh (j := 10) (dj := 14) (b := false) (S (zj rfl rfl) (L (S (zj rfl rfl) (L (S (zd rfl) (zg (zc (zk rfl (zf (zb (L (S (za rfl) ?_)))))))))))) rfl)))) rfl
    refine L (S (y_ rfl rfl (decide_eq_false (by omega))) ?_)
    refine L (S (za rfl) (zl (j := 2) (dj := 25) (b := true) (b' := false) (d := 26) rfl (zl (j := 2) (dj := 25) (b := true) (b' := false) (d := 27) rfl (L (S (zj rfl rfl) (L (S (zd rfl) (zg (zc (zk rfl (zf (zb (L (S (za rfl) ?_))))))))))))))
    refine L (S (zR rfl rfl (decide_eq_false (by omega))) ?_)
    refine L (S (za rfl) (zh (j := 2) (dj := 32) (b := false) (S (za rfl) ?_) rfl))
    refine zh (j := 2) (dj := 32) (b := false) (S (zR rfl rfl (decide_eq_false (by omega))) ?_) rfl
    refine L (S (zj rfl rfl) (L (S (za rfl) (zh (j := 6) (dj := 36) (b := false) (S (za rfl) ?_) rfl))))
    refine zh (j := 6) (dj := 36) (b := false) (S (zR rfl rfl (decide_eq_true (by omega))) ?_) rfl
    refine L (S (zj rfl rfl) (L (S (za rfl) (zl (j := 10) (dj := 40) (b := false) (b' := true) (d := 41) rfl (zl (j := 10) (dj := 40) (b := false) (b' := true) (d := 42) rfl (L (S (zt rfl rfl) (L (S (zd rfl) (zg (zc (zr rfl (zf (zb (L (S (zd rfl) (zg (zc (zy (zP (zm ?_)))))))))))))))))))))
    refine zC Tryz.results65 rfl ?_
    exact ⟨rfl, rfl⟩
  by_cases h13 : c.toNat = 13
  · rw [hC (by omega) (by omega) (by omega)]
    refine zf (zb (L (S (zd rfl) (zg (zc (zf (zx (zf (zb (L (S (za rfl) ?_)))))))))))
    refine L (S (zR rfl rfl (decide_eq_false (by omega))) ?_)
    refine L (S (za rfl) (zh (j := 2) (dj := 6) (b := false) (S (za rfl) ?_) rfl))
    refine zh (j := 2) (dj := 6) (b := false) (S (y_ rfl rfl (decide_eq_false (by omega))) ?_) rfl
    refine zh (j := 2) (dj := 6) (b := false) (S (za rfl) (zl (j := 5) (dj := 9) (b := true) (b' := false) (d := 10) rfl (zl (j := 5) (dj := 9) (b := true) (b' := false) (d := 11) rfl (zh (j := 2) (dj := 6) (b := false) (S (zj rfl rfl) (L (S (zj rfl rfl) (L (S (za rfl) (zh (j := 10) (dj := 14) (b := false) (S (za rfl) ?_) rfl)))))) rfl)))) rfl
    refine zh (j := 10) (dj := 14) (b := false) (S (y_ rfl rfl (decide_eq_false (by omega))) ?_) rfl
    refine zh (j := 10) (dj := 14) (b := false) (S (za rfl) (zl (j := 13) (dj := 17) (b := true) (b' := false) (d := 18) rfl (zl (j := 13) (dj := 17) (b := true) (b' := false) (d := 19) rfl (zh (j := 10) (dj := 14) (b := false) (S (zj rfl rfl) (L (S (zj rfl rfl) (L (S (zd rfl) (zg (zc (zk rfl (zf (zb (L (S (za rfl) ?_)))))))))))) rfl)))) rfl
    refine L (S (y_ rfl rfl (decide_eq_false (by omega))) ?_)
    refine L (S (za rfl) (zl (j := 2) (dj := 25) (b := true) (b' := false) (d := 26) rfl (zl (j := 2) (dj := 25) (b := true) (b' := false) (d := 27) rfl (L (S (zj rfl rfl) (L (S (zd rfl) (zg (zc (zk rfl (zf (zb (L (S (za rfl) ?_))))))))))))))
    refine L (S (zR rfl rfl (decide_eq_false (by omega))) ?_)
    refine L (S (za rfl) (zh (j := 2) (dj := 32) (b := false) (S (za rfl) ?_) rfl))
    refine zh (j := 2) (dj := 32) (b := false) (S (zR rfl rfl (decide_eq_false (by omega))) ?_) rfl
    refine L (S (zj rfl rfl) (L (S (za rfl) (zh (j := 6) (dj := 36) (b := false) (S (za rfl) ?_) rfl))))
    refine zh (j := 6) (dj := 36) (b := false) (S (zR rfl rfl (decide_eq_false (by omega))) ?_) rfl
    refine L (S (zj rfl rfl) (L (S (za rfl) (zh (j := 10) (dj := 40) (b := false) (S (za rfl) ?_) rfl))))
    refine zh (j := 10) (dj := 40) (b := false) (S (zR rfl rfl (decide_eq_true (by omega))) ?_) rfl
    refine L (S (zj rfl rfl) (L (S (zd rfl) (zg (zc (zr rfl (zf (zb (L (S (zd rfl) (zg (zc (zy (zP (zm ?_)))))))))))))))
    refine zC Tryz.results65 rfl ?_
    exact ⟨rfl, rfl⟩
  rw [hD (by omega) (by omega) (by omega)]
  refine zf (zb (L (S (zd rfl) (zg (zc (zf (zx (zf (zb (L (S (za rfl) ?_)))))))))))
  refine L (S (zR rfl rfl (decide_eq_false (by omega))) ?_)
  refine L (S (za rfl) (zh (j := 2) (dj := 6) (b := false) (S (za rfl) ?_) rfl))
  refine zh (j := 2) (dj := 6) (b := false) (S (y_ rfl rfl (decide_eq_false (by omega))) ?_) rfl
  refine zh (j := 2) (dj := 6) (b := false) (S (za rfl) (zl (j := 5) (dj := 9) (b := true) (b' := false) (d := 10) rfl (zl (j := 5) (dj := 9) (b := true) (b' := false) (d := 11) rfl (zh (j := 2) (dj := 6) (b := false) (S (zj rfl rfl) (L (S (zj rfl rfl) (L (S (za rfl) (zh (j := 10) (dj := 14) (b := false) (S (za rfl) ?_) rfl)))))) rfl)))) rfl
  refine zh (j := 10) (dj := 14) (b := false) (S (y_ rfl rfl (decide_eq_false (by omega))) ?_) rfl
  refine zh (j := 10) (dj := 14) (b := false) (S (za rfl) (zl (j := 13) (dj := 17) (b := true) (b' := false) (d := 18) rfl (zl (j := 13) (dj := 17) (b := true) (b' := false) (d := 19) rfl (zh (j := 10) (dj := 14) (b := false) (S (zj rfl rfl) (L (S (zj rfl rfl) (L (S (zd rfl) (zg (zc (zk rfl (zf (zb (L (S (za rfl) ?_)))))))))))) rfl)))) rfl
  refine L (S (y_ rfl rfl (decide_eq_false (by omega))) ?_)
  refine L (S (za rfl) (zl (j := 2) (dj := 25) (b := true) (b' := false) (d := 26) rfl (zl (j := 2) (dj := 25) (b := true) (b' := false) (d := 27) rfl (L (S (zj rfl rfl) (L (S (zd rfl) (zg (zc (zk rfl (zf (zb (L (S (za rfl) ?_))))))))))))))
  refine L (S (zR rfl rfl (decide_eq_false (by omega))) ?_)
  refine L (S (za rfl) (zh (j := 2) (dj := 32) (b := false) (S (za rfl) ?_) rfl))
  refine zh (j := 2) (dj := 32) (b := false) (S (zR rfl rfl (decide_eq_false (by omega))) ?_) rfl
  refine L (S (zj rfl rfl) (L (S (za rfl) (zh (j := 6) (dj := 36) (b := false) (S (za rfl) ?_) rfl))))
  refine zh (j := 6) (dj := 36) (b := false) (S (zR rfl rfl (decide_eq_false (by omega))) ?_) rfl
  refine L (S (zj rfl rfl) (L (S (za rfl) (zh (j := 10) (dj := 40) (b := false) (S (za rfl) ?_) rfl))))
  refine zh (j := 10) (dj := 40) (b := false) (S (zR rfl rfl (decide_eq_false (by omega))) ?_) rfl
  refine L (S (zj rfl rfl) (L (S (zd rfl) (zg (zc (zk rfl (zo (yj (zc (zf (zb (L (S (zd rfl) (zg (zc (zy ?_))))))))))))))))
  refine zC Tryz.results65 rfl ?_
  exact ⟨rfl, rfl⟩
theorem let_dig {c : Nat} (h : letN c = true) : yL c = false := by unfold letN at h; unfold yL; have := of_decide_eq_true h; exact decide_eq_false (by omega)
theorem let_bl {c : Nat} (h : letN c = true) : YA c = false := by unfold letN at h; unfold YA; have := of_decide_eq_true h; exact decide_eq_false (by omega)
theorem dig_bl {c : Nat} (h : yL c = true) : YA c = false := by unfold yL at h; unfold YA; have := of_decide_eq_true h; exact decide_eq_false (by omega)
theorem kdN_dig (c : Nat) : kdN c = 2 ↔ yL c = true := by
  unfold kdN
  cases h1 : letN c with
  | true => rw [if_pos rfl, let_dig h1]; simp
  | false =>
    cases h2 : yL c with
    | true => simp
    | false => cases YA c <;> simp
theorem kdN_let (c : Nat) : kdN c = 1 ↔ letN c = true := by
  unfold kdN
  cases h1 : letN c with
  | true => simp
  | false =>
    cases h2 : yL c with
    | true => simp
    | false => cases YA c <;> simp
theorem kdN_bl (c : Nat) : kdN c = 3 ↔ YA c = true := by
  unfold kdN
  cases h1 : letN c with
  | true => rw [let_bl h1]; simp
  | false =>
    cases h2 : yL c with
    | true => rw [dig_bl h2]; simp
    | false => cases YA c <;> simp

theorem digits_ret (l : List UInt8) (hl : l.length ≤ 100000) (at_ : Nat) (ha : at_ ≤ l.length) : Ret Tryz.prog 127 [.string (str l), .int .i64 (at_ : Int)] w fun v w' => v = .int .i64 ((at_ + zQ yL (l.drop at_) : Nat) : Int) ∧ w = w' := by
  have hsz := yR l
  refine zN Tryz.func127 Tryz.ntmps127 rfl rfl ?_
  refine zf (zb (L (S (zd rfl) (zg (zc (zf (zx ?_)))))))
  refine yF (γ := Nat) (fun i => [(0, .string (str l)), (1, .int .i64 (i : Int))]) (fun i wr => wr = w ∧ i ≤ l.length ∧ i + zQ yL (l.drop i) = at_ + zQ yL (l.drop at_)) (fun i => l.length - i) at_ (.cons rfl (.cons rfl (.nil _))) ⟨rfl, ha, rfl⟩ ?_
  rintro i wr ⟨rfl, hi, he⟩
  rw [← he]
  rcases Nat.lt_or_ge i l.length with hlt | hge
  · obtain ⟨c, hc⟩ : ∃ c, l[i]? = some c := ⟨l[i], List.getElem?_eq_getElem hlt⟩
    have hk := kdN_dig c.toNat
    rw [spanB_drop hc] at he ⊢
    by_cases hd : yL c.toNat = true
    · rw [if_pos hd] at he ⊢
      have hk2 := hk.2 hd
      refine zf (zf (zb (L (S (za rfl) (L (S (za rfl) ?_))))))
      refine L (S (yi Tryz.underlying9 rfl) ?_)
      refine L (S (zG rfl rfl (decide_eq_true (by omega))) ?_)
      refine L (S (za rfl) (zh (j := 4) (dj := 9) (b := true) (S (za rfl) (zh (j := 4) (dj := 9) (b := true) (S (za rfl) ?_) rfl)) rfl))
      refine zh (j := 4) (dj := 9) (b := true) (S (zY Tryz.underlying9 rfl rfl (j := i) rfl (yd hc)) ?_) rfl
      refine zh (j := 4) (dj := 9) (b := true) (zq Yp rfl (kind_ret c) ?_) rfl
      rintro _ _ ⟨rfl, rfl⟩
      refine zh (j := 4) (dj := 9) (b := true) (S (zR rfl rfl (decide_eq_true (by omega))) ?_) rfl
      refine L (S (zt rfl rfl) (zg (zc (zr rfl (zo (zc (zx (zb (L (S (za rfl) ?_))))))))))
      refine L (S (zT rfl rfl (z1 (c := ((i + 1 : Nat) : Int)) (by omega))) ?_)
      refine L (S (zd rfl) (zg (yj (zc ?_))))
      exact ⟨rfl, i + 1, (.cons rfl (.cons rfl (.nil _))), ⟨rfl, hlt, by omega⟩, by omega⟩
    · rw [if_neg hd] at he ⊢
      have hk2 : kdN c.toNat ≠ 2 := fun h => hd (hk.1 h)
      refine zf (zf (zb (L (S (za rfl) (L (S (za rfl) ?_))))))
      refine L (S (yi Tryz.underlying9 rfl) ?_)
      refine L (S (zG rfl rfl (decide_eq_true (by omega))) ?_)
      refine L (S (za rfl) (zh (j := 4) (dj := 9) (b := true) (S (za rfl) (zh (j := 4) (dj := 9) (b := true) (S (za rfl) ?_) rfl)) rfl))
      refine zh (j := 4) (dj := 9) (b := true) (S (zY Tryz.underlying9 rfl rfl (j := i) rfl (yd hc)) ?_) rfl
      refine zh (j := 4) (dj := 9) (b := true) (zq Yp rfl (kind_ret c) ?_) rfl
      rintro _ _ ⟨rfl, rfl⟩
      refine zh (j := 4) (dj := 9) (b := true) (S (zR rfl rfl (decide_eq_false (by omega))) ?_) rfl
      refine L (S (zt rfl rfl) (zg (zc (zk rfl (yn (zL (zL (yK (zc (zf (zb (L (S (za rfl) (L (S (zd rfl) (zg (zc (zy ?_))))))))))))))))))
      refine zC Tryz.results127 rfl ?_
      exact ⟨rfl, rfl⟩
  · rw [spanB_end hge]
    refine zf (zf (zb (L (S (za rfl) (L (S (za rfl) ?_))))))
    refine L (S (yi Tryz.underlying9 rfl) ?_)
    refine L (S (zG rfl rfl (decide_eq_false (by omega))) ?_)
    refine L (S (za rfl) (zl (j := 4) (dj := 9) (b := true) (b' := false) (d := 10) rfl (zl (j := 4) (dj := 9) (b := true) (b' := false) (d := 11) rfl (zl (j := 4) (dj := 9) (b := true) (b' := false) (d := 12) rfl (zl (j := 4) (dj := 9) (b := true) (b' := false) (d := 13) rfl (zl (j := 4) (dj := 9) (b := true) (b' := false) (d := 14) rfl (L (S (zj rfl rfl) (zg (zc (zk rfl (yn (zL (zL (yK (zc (zf (zb (L (S (za rfl) (L (S (zd rfl) (zg (zc (zy ?_)))))))))))))))))))))))))
    refine zC Tryz.results127 rfl ?_
    exact ⟨rfl, rfl⟩
end
end Go.Proofs.YtnoioimphcmeiaaGreatDoor
namespace Go.Proofs.YtnoioimphcmeiaaGreatDoor
open Go.RowKit
set_option maxRecDepth 20000

section
variable {w : World}
set_option maxHeartbeats 2000000 in
theorem refnum_ret {big : List UInt8 → Bool} {V : World → Prop} {T : List UInt8 → Prop} (hpf : PF big V T) (hv : V w) (l : List UInt8) (hT : InT T l) (hl : l.length ≤ 100000) (at_ : Nat) {c : UInt8} (hc : l[at_]? = some c) (hd : yL c.toNat = true) :
    Ret Tryz.prog 109 [.string (str l), .int .i64 (at_ : Int)] w fun v w' => (match numF big (l.drop at_) with
      | .ok k s n => v = .tuple #[.agg (Zf k s at_).toArray, .int .i64 ((at_ + n : Nat) : Int), .int .i64 0]
      | .er e => ∃ k s, v = .tuple #[.agg (Zf k s at_).toArray, .int .i64 (at_ : Int), .int .i64 (e : Int)]) ∧ Mv No w w' := by
  have hsz := yR l
  have hal : at_ < l.length := (List.getElem?_eq_some_iff.1 hc).1
  have hnl := Yr yL (l.drop at_)
  rw [List.length_drop] at hnl
  have hn0 : 0 < zQ yL (l.drop at_) := by rw [spanB_drop hc, if_pos hd]; omega
  have hT' := hT.drop at_
  have h0c : (l.drop at_)[0]? = some c := by rw [List.getElem?_drop]; exact hc
  have hdd : ∀ k, (l.drop at_).drop k = l.drop (at_ + k) := fun k => List.drop_drop
  have hget : ∀ k, (l.drop at_)[k]? = l[at_ + k]? := fun k => List.getElem?_drop
  have hmore : ZF (l.drop at_) = if l[at_ + zQ yL (l.drop at_)]? = some 46 then zQ yL (l.drop (at_ + zQ yL (l.drop at_) + 1)) else 0 := by
    unfold ZF
    rw [hget, hdd, Nat.add_assoc]
  have hreal := realT_take hn0
  have hmle := moreF_le (l.drop at_)
  rw [List.length_drop] at hmle
  have hdig1 := digits_ret (w := w) l hl at_ (by omega)
  have hdig2 := fun w' => digits_ret (w := w') l hl (at_ + zQ yL (l.drop at_) + 1)
  refine zN Tryz.func109 Tryz.ntmps109 rfl rfl ?_
  refine zf (zb ?_)
  refine L (ye (zs := [(.int .i64 0), (.string (ByteArray.mk #[])), (.int .i64 0)]) yD rfl ?_)
  rintro b4 w1 hb4 hm1 hn1
  refine L (S (zd rfl) (L (S (zd rfl) (zg (zc (zf ?_))))))
  have hb4' : Blk w1 b4 (Zf 0 [] 0) 71 := hb4
  clear hb4
  refine zb (L (S (za rfl) (L (S (za rfl) ?_))))
  refine L (zq cb_127 rfl ((digits_ret l hl at_ (by omega))) ?_)
  rintro _ _ ⟨rfl, rfl⟩
  refine L (S (zd rfl) (zg (zc (zf (zb (L (S (za rfl) ?_)))))))
  refine L (S (zW (ix := [0, 2]) (l := [.const (.int .i64 3), .tmp 14]) bi_71_0_2 rfl (by simp [Value.oneCell']) rfl) ?_)
  refine L (ye (zs := [(.int .i64 0), (.string (ByteArray.mk #[])), (.int .i64 0)]) yD rfl ?_)
  rintro b8 w2 hb8 hm2 hn2
  refine L (zw yD rfl rfl (yM 3 [] at_) rfl hb8 (by exact Nat.le_refl 3) ?_)
  rintro w3 hb8' hm3
  refine zg (zc (zf (zf ?_)))
  have hb83 : Blk w3 b8 (Zf 3 [] at_) 71 := hb8'
  have hm03 : Mv No w w3 := (hm1.no hm2).new hm3 (Nat.le_trans hm1.size hn2)
  have h48 : ¬ b4 = b8 := fun he => by have := hb4'.lt; omega
  have hb43 := (hb4'.no hm2).mv hm3 h48
  have hn8 : w.heap.size ≤ b8 := Nat.le_trans hm1.size hn2
  clear hb8 hb8' hb4'
  unfold numF
  rw [h0c]
  by_cases h7 : 1 < zQ yL (l.drop at_) ∧ some c = some 48
  · rw [if_pos h7]
    have hc48 : c.toNat = 48 := by rw [Option.some.inj h7.2]; rfl
    refine zb (L (S (za rfl) (L (S (za rfl) ?_))))
    refine L (S (zY Tryz.underlying9 rfl rfl (j := at_) rfl (yd hc)) ?_)
    refine L (S (zR rfl rfl (decide_eq_true (by omega))) ?_)
    refine L (S (za rfl) (zh (j := 4) (dj := 20) (b := true) (S (za rfl) (zh (j := 4) (dj := 20) (b := true) (S (za rfl) ?_) rfl)) rfl))
    refine zh (j := 4) (dj := 20) (b := true) (S (zT rfl rfl (z1 (c := ((at_ + 1 : Nat) : Int)) (by omega))) ?_) rfl
    refine zh (j := 4) (dj := 20) (b := true) (S (yp rfl rfl (decide_eq_true (by omega))) ?_) rfl
    refine L (S (zt rfl rfl) (zg (zc (zr rfl (zf (zb ?_))))))
    refine L (zB Yo rfl hb83.row rfl ?_)
    refine L (S (za rfl) ?_)
    refine L (zw yD rfl rfl (yM 3 [] at_) rfl hb43 (by exact Nat.le_refl 3) ?_)
    rintro w4 hb44 hm4
    refine L (S (zd rfl) (L (S (zd rfl) (zg (zc (zy (zm ?_)))))))
    have hb44' : Blk w4 b4 (Zf 3 [] at_) 71 := hb44
    refine yk (rs := [.cell 4 71, .tmp 5, .tmp 6]) [.agg (Zf 3 [] at_).toArray, .int .i64 (at_ : Int), .int .i64 7] Tryz.results109 ?_ ?_
    · exact ⟨⟨_, rfl, Zv hb44'⟩, rfl, rfl, trivial⟩
    · exact ⟨⟨_, _, rfl⟩, hm03.new hm4 hn1⟩
  rw [if_neg h7]
  refine ZG (γ := Unit) (fun _ => [(0, .string (str l)), (1, .int .i64 (at_ : Int)), (4, .pointer (some ⟨b4, 0, none⟩)), (7, .int .i64 ((at_ + zQ yL (l.drop at_) : Nat) : Int)), (8, .pointer (some ⟨b8, 0, none⟩)), (25, .bool false)]) (fun _ wc => wc = w3) ?_ ?_
  · by_cases hc48 : c.toNat = 48
    · have hce : c = 48 := UInt8.toNat_inj.1 hc48
      have h1 : ¬ 1 < zQ yL (l.drop at_) := fun h => h7 ⟨h, by rw [hce]⟩
      refine zb (L (S (za rfl) (L (S (za rfl) ?_))))
      refine L (S (zY Tryz.underlying9 rfl rfl (j := at_) rfl (yd hc)) ?_)
      refine L (S (zR rfl rfl (decide_eq_true (by omega))) ?_)
      refine L (S (za rfl) (zh (j := 4) (dj := 20) (b := true) (S (za rfl) (zh (j := 4) (dj := 20) (b := true) (S (za rfl) ?_) rfl)) rfl))
      refine zh (j := 4) (dj := 20) (b := true) (S (zT rfl rfl (z1 (c := ((at_ + 1 : Nat) : Int)) (by omega))) ?_) rfl
      refine zh (j := 4) (dj := 20) (b := true) (S (yp rfl rfl (decide_eq_false (by omega))) ?_) rfl
      refine L (S (zt rfl rfl) (zg (zc ?_)))
      exact ⟨rfl, (), (.cons rfl (.cons rfl (.cons rfl (.cons rfl (.cons rfl (.cons rfl (.nil _))))))), rfl⟩
    · refine zb (L (S (za rfl) (L (S (za rfl) ?_))))
      refine L (S (zY Tryz.underlying9 rfl rfl (j := at_) rfl (yd hc)) ?_)
      refine L (S (zR rfl rfl (decide_eq_false (by omega))) ?_)
      refine L (S (za rfl) (zl (j := 4) (dj := 20) (b := true) (b' := false) (d := 21) rfl (zl (j := 4) (dj := 20) (b := true) (b' := false) (d := 22) rfl (zl (j := 4) (dj := 20) (b := true) (b' := false) (d := 23) rfl (zl (j := 4) (dj := 20) (b := true) (b' := false) (d := 24) rfl (L (S (zj rfl rfl) (zg (zc ?_)))))))))
      exact ⟨rfl, (), (.cons rfl (.cons rfl (.cons rfl (.cons rfl (.cons rfl (.cons rfl (.nil _))))))), rfl⟩
  rintro _ wz rfl f' hf'
  refine Zb hf' ?_
  clear hf' f'
  refine zk rfl (zo (zc (zf (zf ?_))))
  refine ZG (γ := Unit) (fun _ => [(0, .string (str l)), (1, .int .i64 (at_ : Int)), (4, .pointer (some ⟨b4, 0, none⟩)), (7, .int .i64 ((at_ + zQ yL (l.drop at_) : Nat) : Int)), (8, .pointer (some ⟨b8, 0, none⟩)), (46, .bool (decide (0 < ZF (l.drop at_))))]) (fun _ wc => wc = wz) ?_ ?_
  · rw [hmore]
    clear hreal hmle hmore
    generalize hn : zQ yL (l.drop at_) = n at *
    by_cases hlen : at_ + n + 1 < l.length
    · obtain ⟨d, hd1⟩ : ∃ d, l[at_ + n]? = some d := ⟨l[at_ + n], List.getElem?_eq_getElem (by omega)⟩
      obtain ⟨e, he1⟩ : ∃ e, l[at_ + n + 1]? = some e := ⟨l[at_ + n + 1], List.getElem?_eq_getElem hlen⟩
      have hke := kdN_dig e.toNat
      rw [hd1, spanB_drop he1]
      by_cases h46 : d.toNat = 46
      · have hd46 : d = 46 := UInt8.toNat_inj.1 h46
        rw [if_pos (by rw [hd46])]
        by_cases hde : yL e.toNat = true
        · have hk2 := hke.2 hde
          rw [if_pos hde, decide_eq_true (by omega)]
          refine zb (L (S (za rfl) ?_))
          refine L (S (zT rfl rfl (z1 (c := ((at_ + n + 1 : Nat) : Int)) (by omega))) ?_)
          refine L (S (za rfl) ?_)
          refine L (S (yi Tryz.underlying9 rfl) ?_)
          refine L (S (zG rfl rfl (decide_eq_true (by omega))) ?_)
          refine L (S (za rfl) (zh (j := 5) (dj := 33) (b := true) (S (za rfl) (zh (j := 5) (dj := 33) (b := true) (S (za rfl) ?_) rfl)) rfl))
          refine zh (j := 5) (dj := 33) (b := true) (S (zY Tryz.underlying9 rfl rfl (j := at_ + n) rfl (yd hd1)) ?_) rfl
          refine zh (j := 5) (dj := 33) (b := true) (S (zR rfl rfl (decide_eq_true (by omega))) ?_) rfl
          refine L (S (zt rfl rfl) (L (S (za rfl) (zh (j := 11) (dj := 39) (b := true) (S (za rfl) (zh (j := 11) (dj := 39) (b := true) (S (za rfl) ?_) rfl)) rfl))))
          refine zh (j := 11) (dj := 39) (b := true) (S (zT rfl rfl (z1 (c := ((at_ + n + 1 : Nat) : Int)) (by omega))) ?_) rfl
          refine zh (j := 11) (dj := 39) (b := true) (S (zY Tryz.underlying9 rfl rfl (j := at_ + n + 1) rfl (yd he1)) ?_) rfl
          refine zh (j := 11) (dj := 39) (b := true) (zq Yp rfl (kind_ret e) ?_) rfl
          rintro _ _ ⟨rfl, rfl⟩
          refine zh (j := 11) (dj := 39) (b := true) (S (zR rfl rfl (decide_eq_true (by omega))) ?_) rfl
          refine L (S (zt rfl rfl) (zg (zc ?_)))
          exact ⟨rfl, (), (.cons rfl (.cons rfl (.cons rfl (.cons rfl (.cons rfl (.cons rfl (.nil _))))))), rfl⟩
        · have hk2 : kdN e.toNat ≠ 2 := fun h => hde (hke.1 h)
          rw [if_neg hde, decide_eq_false (by omega)]
          refine zb (L (S (za rfl) ?_))
          refine L (S (zT rfl rfl (z1 (c := ((at_ + n + 1 : Nat) : Int)) (by omega))) ?_)
          refine L (S (za rfl) ?_)
          refine L (S (yi Tryz.underlying9 rfl) ?_)
          refine L (S (zG rfl rfl (decide_eq_true (by omega))) ?_)
          refine L (S (za rfl) (zh (j := 5) (dj := 33) (b := true) (S (za rfl) (zh (j := 5) (dj := 33) (b := true) (S (za rfl) ?_) rfl)) rfl))
          refine zh (j := 5) (dj := 33) (b := true) (S (zY Tryz.underlying9 rfl rfl (j := at_ + n) rfl (yd hd1)) ?_) rfl
          refine zh (j := 5) (dj := 33) (b := true) (S (zR rfl rfl (decide_eq_true (by omega))) ?_) rfl
          refine L (S (zt rfl rfl) (L (S (za rfl) (zh (j := 11) (dj := 39) (b := true) (S (za rfl) (zh (j := 11) (dj := 39) (b := true) (S (za rfl) ?_) rfl)) rfl))))
          refine zh (j := 11) (dj := 39) (b := true) (S (zT rfl rfl (z1 (c := ((at_ + n + 1 : Nat) : Int)) (by omega))) ?_) rfl
          refine zh (j := 11) (dj := 39) (b := true) (S (zY Tryz.underlying9 rfl rfl (j := at_ + n + 1) rfl (yd he1)) ?_) rfl
          refine zh (j := 11) (dj := 39) (b := true) (zq Yp rfl (kind_ret e) ?_) rfl
          rintro _ _ ⟨rfl, rfl⟩
          refine zh (j := 11) (dj := 39) (b := true) (S (zR rfl rfl (decide_eq_false (by omega))) ?_) rfl
          refine L (S (zt rfl rfl) (zg (zc ?_)))
          exact ⟨rfl, (), (.cons rfl (.cons rfl (.cons rfl (.cons rfl (.cons rfl (.cons rfl (.nil _))))))), rfl⟩
      · rw [if_neg (fun h => h46 (by rw [Option.some.inj h]; rfl)), decide_eq_false (by omega)]
        refine zb (L (S (za rfl) ?_))
        refine L (S (zT rfl rfl (z1 (c := ((at_ + n + 1 : Nat) : Int)) (by omega))) ?_)
        refine L (S (za rfl) ?_)
        refine L (S (yi Tryz.underlying9 rfl) ?_)
        refine L (S (zG rfl rfl (decide_eq_true (by omega))) ?_)
        refine L (S (za rfl) (zh (j := 5) (dj := 33) (b := true) (S (za rfl) (zh (j := 5) (dj := 33) (b := true) (S (za rfl) ?_) rfl)) rfl))
        refine zh (j := 5) (dj := 33) (b := true) (S (zY Tryz.underlying9 rfl rfl (j := at_ + n) rfl (yd hd1)) ?_) rfl
        refine zh (j := 5) (dj := 33) (b := true) (S (zR rfl rfl (decide_eq_false (by omega))) ?_) rfl
        refine L (S (zt rfl rfl) (L (S (za rfl) (zl (j := 11) (dj := 39) (b := true) (b' := false) (d := 40) rfl (zl (j := 11) (dj := 39) (b := true) (b' := false) (d := 41) rfl (zl (j := 11) (dj := 39) (b := true) (b' := false) (d := 42) rfl (zl (j := 11) (dj := 39) (b := true) (b' := false) (d := 43) rfl (zl (j := 11) (dj := 39) (b := true) (b' := false) (d := 44) rfl (zl (j := 11) (dj := 39) (b := true) (b' := false) (d := 45) rfl (L (S (zj rfl rfl) (zg (zc ?_)))))))))))))
        exact ⟨rfl, (), (.cons rfl (.cons rfl (.cons rfl (.cons rfl (.cons rfl (.cons rfl (.nil _))))))), rfl⟩
    · have h0 : (if l[at_ + n]? = some 46 then zQ yL (l.drop (at_ + n + 1)) else 0) = 0 := by
        rw [spanB_end (by omega)]
        split <;> rfl
      rw [h0, decide_eq_false (by omega)]
      refine zb (L (S (za rfl) ?_))
      refine L (S (zT rfl rfl (z1 (c := ((at_ + n + 1 : Nat) : Int)) (by omega))) ?_)
      refine L (S (za rfl) ?_)
      refine L (S (yi Tryz.underlying9 rfl) ?_)
      refine L (S (zG rfl rfl (decide_eq_false (by omega))) ?_)
      refine L (S (za rfl) (zl (j := 5) (dj := 33) (b := true) (b' := false) (d := 34) rfl (zl (j := 5) (dj := 33) (b := true) (b' := false) (d := 35) rfl (zl (j := 5) (dj := 33) (b := true) (b' := false) (d := 36) rfl (zl (j := 5) (dj := 33) (b := true) (b' := false) (d := 37) rfl (L (S (zj rfl rfl) (L (S (za rfl) (zl (j := 11) (dj := 39) (b := true) (b' := false) (d := 40) rfl (zl (j := 11) (dj := 39) (b := true) (b' := false) (d := 41) rfl (zl (j := 11) (dj := 39) (b := true) (b' := false) (d := 42) rfl (zl (j := 11) (dj := 39) (b := true) (b' := false) (d := 43) rfl (zl (j := 11) (dj := 39) (b := true) (b' := false) (d := 44) rfl (zl (j := 11) (dj := 39) (b := true) (b' := false) (d := 45) rfl (L (S (zj rfl rfl) (zg (zc ?_)))))))))))))))))))
      exact ⟨rfl, (), (.cons rfl (.cons rfl (.cons rfl (.cons rfl (.cons rfl (.cons rfl (.nil _))))))), rfl⟩
  rintro _ wy rfl f' hf'
  refine Zb hf' ?_
  clear hf' f'
  by_cases hm : 0 < ZF (l.drop at_)
  · have hreal' := hreal hm
    have hml := hmle hm
    have htl := hT' _ (List.take_prefix _ _).isInfix hreal'
    have hmv : zQ yL (l.drop (at_ + zQ yL (l.drop at_) + 1)) = ZF (l.drop at_) := by
      rw [hmore] at hm ⊢
      split at hm
      · rename_i h; rw [if_pos h]
      · omega
    rw [if_pos hm, decide_eq_true hm]
    rw [hmv] at hdig2
    clear hmore hmle hreal
    generalize ZF (l.drop at_) = mo at *
    generalize hn : zQ yL (l.drop at_) = n at *
    have hcut : (str l).extract at_ (at_ + n + 1 + mo) = str ((l.drop at_).take (n + 1 + mo)) := by
      rw [cut_str, show at_ + n + 1 + mo - at_ = n + 1 + mo by omega]
    generalize (l.drop at_).take (n + 1 + mo) = tx at *
    refine zr rfl (zf (zb (L (S (za rfl) (L (S (za rfl) ?_))))))
    refine L (S (zT rfl rfl (z1 (c := ((at_ + n + 1 : Nat) : Int)) (by omega))) ?_)
    refine L (zq cb_127 rfl ((hdig2 _ (by omega))) ?_)
    rintro _ _ ⟨rfl, rfl⟩
    refine L (S (zd rfl) (zg (zc (zf ?_))))
    refine ZT 8 mixed rfl ?_
    refine zF (i := 0) rfl (za rfl) ?_ (by decide +kernel) (by decide +kernel) (by decide +kernel) (fun _ _ _ _ h => h) rfl rfl rfl
    refine zF (i := 1) rfl (za rfl) ?_ (by decide +kernel) (by decide +kernel) (by decide +kernel) (fun _ _ _ _ h => h) rfl rfl rfl
    refine zF (i := 2) rfl (za rfl) ?_ (by decide +kernel) (by decide +kernel) (by decide +kernel) (fun _ _ _ _ h => h) rfl rfl rfl
    refine zF (i := 3) rfl (yQ Tryz.underlying9 rfl (zV (j := at_) rfl rfl) (zV (j := at_ + n + 1 + mo) rfl rfl) (by omega) (by omega) hcut) ?_ (by decide +kernel) (by decide +kernel) (by decide +kernel) (fun _ _ _ _ h => h) rfl rfl rfl
    refine zF (i := 4) rfl (ze Yc rfl) ?_ (by decide +kernel) (by decide +kernel) (by decide +kernel) (fun _ _ _ _ h => h) rfl rfl rfl
    refine zO (i := 5) (zS rfl (yv Yf rfl rfl rfl (hb83.no (Mv.refl _).drew) (by show 0 < 3; omega) ?_)) (by decide +kernel)
    rintro w5 hb5 hm5
    refine zF (i := 6) rfl (ze ZJ rfl) ?_ (by decide +kernel) (by decide +kernel) (by decide +kernel) (fun _ _ _ _ h => h) rfl rfl rfl
    refine zO (i := 7) (zS rfl (yv ti_9 rfl rfl rfl hb5 (by show 1 < 3; omega) ?_)) (by decide +kernel)
    rintro w6 hb6 hm6
    refine yH (by decide +kernel) ?_
    refine zc (zf ?_)
    have hb86 : Blk w6 b8 (Zf 4 tx at_) 71 := hb6
    have hm56 := hm5.trans hm6 fun _ _ h => h
    have hb46 := hb43.mv ((Mv.refl (S := At b8) _).drew.trans hm56 fun _ _ h => h) h48
    have hm06 : Mv No w w6 := (hm03.drew).new hm56 hn8
    have hcall := hpf.call w6 tx (hpf.mono _ _ hv hm06) hreal' htl
    refine zb (L (S (ze ZJ rfl) ?_))
    refine L (zi yc rfl (hb86.cell (i := 1) rfl) ?_)
    refine L (zq cb_121 rfl (hcall) ?_)
    rintro _ w7 ⟨fb, e, rfl, hm7, -, hlt⟩
    refine L (S (za rfl) (L (S (zv rfl rfl) (L (S (zv rfl rfl) (L (S (zd rfl) (L (S (zd rfl) (zg (zc (zf (zf ?_)))))))))))))
    have hm07 := hm06.no hm7
    have hb87 := hb86.no hm7
    have hb47 := hb46.no hm7
    cases hbig : big tx with
    | true =>
      rw [hbig] at hlt
      rw [if_pos rfl]
      refine zb (L (S (za rfl) ?_))
      refine L (S (P_ltF rfl rfl hlt) ?_)
      refine L (S (yu rfl rfl) (zg (zc (zr rfl (zf (zb ?_))))))
      refine L (zB Yo rfl hb87.row rfl ?_)
      refine L (S (za rfl) ?_)
      refine L (zw yD rfl rfl (yM 4 tx at_) rfl hb47 (by exact Nat.le_refl 3) ?_)
      rintro w8 hb8 hm8
      refine L (S (zd rfl) (L (S (zd rfl) (zg (zc (zy (zm (zm ?_))))))))
      have hb8' : Blk w8 b4 (Zf 4 tx at_) 71 := hb8
      refine yk (rs := [.cell 4 71, .tmp 5, .tmp 6]) [.agg (Zf 4 tx at_).toArray, .int .i64 (at_ : Int), .int .i64 4] Tryz.results109 ?_ ?_
      · exact ⟨⟨_, rfl, Zv hb8'⟩, rfl, rfl, trivial⟩
      · exact ⟨⟨_, _, rfl⟩, hm07.new hm8 hn1⟩
    | false =>
      rw [hbig] at hlt
      rw [if_neg (by decide)]
      refine zb (L (S (za rfl) ?_))
      refine L (S (P_ltF rfl rfl hlt) ?_)
      refine L (S (yu rfl rfl) (zg (zc (zk rfl (zo (zc (zf (zb ?_))))))))
      refine L (zB Yo rfl hb87.row rfl ?_)
      refine L (S (za rfl) ?_)
      refine L (zw yD rfl rfl (yM 4 tx at_) rfl hb47 (by exact Nat.le_refl 3) ?_)
      rintro w8 hb8 hm8
      refine L (S (zd rfl) (L (S (zd rfl) (zg (zc (zy (zm ?_)))))))
      have hb8' : Blk w8 b4 (Zf 4 tx at_) 71 := hb8
      refine yk (rs := [.cell 4 71, .tmp 5, .tmp 6]) [.agg (Zf 4 tx at_).toArray, .int .i64 ((at_ + n + 1 + mo : Nat) : Int), .int .i64 0] Tryz.results109 ?_ ?_
      · exact ⟨⟨_, rfl, Zv hb8'⟩, rfl, rfl, trivial⟩
      · exact ⟨by dsimp only; rw [show at_ + (n + 1 + mo) = at_ + n + 1 + mo by omega]; rfl, hm07.new hm8 hn1⟩
  · rw [if_neg hm, decide_eq_false hm]
    clear hmore hmle hreal hdig2
    generalize hn : zQ yL (l.drop at_) = n at *
    have hcut : (str l).extract at_ (at_ + n) = str ((l.drop at_).take n) := by
      rw [cut_str, show at_ + n - at_ = n by omega]
    have hgt : (!(Op.bytesLess (str ((l.drop at_).take n)).toList (str bigT).toList || (str ((l.drop at_).take n)).toList == (str bigT).toList)) = gtB ((l.drop at_).take n) bigT := by
      rw [str_list, str_list]
      exact gtB_eq _ _
    refine zk rfl (zo (zc (zf (zb (L (S (za rfl) (L (S (za rfl) (L (S (za rfl) ?_))))))))))
    refine L (S (yQ Tryz.underlying9 rfl (zV (j := at_) rfl rfl) (zV (j := at_ + n) rfl rfl) (by omega) (by omega) hcut) ?_)
    refine L (S (ze ZJ rfl) ?_)
    refine L (yv ti_9 rfl rfl rfl hb83 (by show 1 < 3; omega) ?_)
    rintro w6 hb6 hm6
    refine zg (zc (zf (zf ?_)))
    have hb86 : Blk w6 b8 (Zf 3 ((l.drop at_).take n) at_) 71 := hb6
    have hb46 := hb43.mv hm6 h48
    have hm06 : Mv No w w6 := hm03.new hm6 hn8
    by_cases h19 : 19 < n
    · rw [if_pos (.inl h19)]
      refine zb (L (S (za rfl) (L (S (za rfl) ?_))))
      refine L (S (Zd rfl rfl (z1 (c := (n : Int)) (by omega))) ?_)
      refine L (S (yp rfl rfl (decide_eq_true (by omega))) ?_)
      refine L (S (za rfl) (zl (j := 4) (dj := 79) (b := false) (b' := true) (d := 80) rfl (zl (j := 4) (dj := 79) (b := false) (b' := true) (d := 81) rfl (zl (j := 4) (dj := 79) (b := false) (b' := true) (d := 82) rfl (zl (j := 4) (dj := 79) (b := false) (b' := true) (d := 83) rfl (zl (j := 4) (dj := 79) (b := false) (b' := true) (d := 84) rfl (ZE (j := 9) (dj := 84) (b := true) (d := 85) rfl (ZE (j := 9) (dj := 84) (b := true) (d := 86) rfl (ZE (j := 9) (dj := 84) (b := true) (d := 87) rfl (zl (j := 4) (dj := 79) (b := false) (b' := true) (d := 88) rfl (L (S (zt rfl rfl) (zg (zc (zr rfl (zf (zb ?_)))))))))))))))))
      refine L (zB Yo rfl hb86.row rfl ?_)
      refine L (S (za rfl) ?_)
      refine L (zw yD rfl rfl (yM 3 _ at_) rfl hb46 (by exact Nat.le_refl 3) ?_)
      rintro w8 hb8 hm8
      refine L (S (zd rfl) (L (S (zd rfl) (zg (zc (zy (zm ?_)))))))
      have hb8' : Blk w8 b4 (Zf 3 ((l.drop at_).take n) at_) 71 := hb8
      refine yk (rs := [.cell 4 71, .tmp 5, .tmp 6]) [.agg (Zf 3 ((l.drop at_).take n) at_).toArray, .int .i64 (at_ : Int), .int .i64 4] Tryz.results109 ?_ ?_
      · exact ⟨⟨_, rfl, Zv hb8'⟩, rfl, rfl, trivial⟩
      · exact ⟨⟨_, _, rfl⟩, hm06.new hm8 hn1⟩
    by_cases h19e : n = 19
    · have hn19 : (l.drop at_).take 19 = (l.drop at_).take n := by rw [h19e]
      rw [hn19]
      cases hg : gtB ((l.drop at_).take n) bigT with
      | true =>
        rw [hg] at hgt
        rw [if_pos (.inr ⟨h19e, rfl⟩)]
        refine zb (L (S (za rfl) (L (S (za rfl) ?_))))
        refine L (S (Zd rfl rfl (z1 (c := (n : Int)) (by omega))) ?_)
        refine L (S (yp rfl rfl (decide_eq_false (by omega))) ?_)
        refine L (S (za rfl) (zh (j := 4) (dj := 79) (b := false) (S (za rfl) (zh (j := 4) (dj := 79) (b := false) (S (za rfl) ?_) rfl)) rfl))
        refine zh (j := 4) (dj := 79) (b := false) (S (Zd rfl rfl (z1 (c := (n : Int)) (by omega))) ?_) rfl
        refine zh (j := 4) (dj := 79) (b := false) (S (zR rfl rfl (decide_eq_true (by omega))) ?_) rfl
        refine zh (j := 4) (dj := 79) (b := false) (S (za rfl) (zh (j := 9) (dj := 84) (b := true) (S (ze ZJ rfl) ?_) rfl)) rfl
        refine zh (j := 9) (dj := 84) (b := true) (zi yc rfl (hb86.cell (i := 1) rfl) ?_) rfl
        refine zh (j := 9) (dj := 84) (b := true) (S (P_gtT rfl rfl hgt) ?_) rfl
        refine zh (j := 4) (dj := 79) (b := false) (S (zt rfl rfl) (L (S (zj rfl rfl) (zg (zc (zr rfl (zf (zb ?_)))))))) rfl
        refine L (zB Yo rfl hb86.row rfl ?_)
        refine L (S (za rfl) ?_)
        refine L (zw yD rfl rfl (yM 3 _ at_) rfl hb46 (by exact Nat.le_refl 3) ?_)
        rintro w8 hb8 hm8
        refine L (S (zd rfl) (L (S (zd rfl) (zg (zc (zy (zm ?_)))))))
        have hb8' : Blk w8 b4 (Zf 3 ((l.drop at_).take n) at_) 71 := hb8
        refine yk (rs := [.cell 4 71, .tmp 5, .tmp 6]) [.agg (Zf 3 ((l.drop at_).take n) at_).toArray, .int .i64 (at_ : Int), .int .i64 4] Tryz.results109 ?_ ?_
        · exact ⟨⟨_, rfl, Zv hb8'⟩, rfl, rfl, trivial⟩
        · exact ⟨⟨_, _, rfl⟩, hm06.new hm8 hn1⟩
      | false =>
        rw [hg] at hgt
        rw [if_neg (by intro h; rcases h with h | h; exact h19 h; exact absurd h.2 (by decide))]
        refine zb (L (S (za rfl) (L (S (za rfl) ?_))))
        refine L (S (Zd rfl rfl (z1 (c := (n : Int)) (by omega))) ?_)
        refine L (S (yp rfl rfl (decide_eq_false (by omega))) ?_)
        refine L (S (za rfl) (zh (j := 4) (dj := 79) (b := false) (S (za rfl) (zh (j := 4) (dj := 79) (b := false) (S (za rfl) ?_) rfl)) rfl))
        refine zh (j := 4) (dj := 79) (b := false) (S (Zd rfl rfl (z1 (c := (n : Int)) (by omega))) ?_) rfl
        refine zh (j := 4) (dj := 79) (b := false) (S (zR rfl rfl (decide_eq_true (by omega))) ?_) rfl
        refine zh (j := 4) (dj := 79) (b := false) (S (za rfl) (zh (j := 9) (dj := 84) (b := true) (S (ze ZJ rfl) ?_) rfl)) rfl
        refine zh (j := 9) (dj := 84) (b := true) (zi yc rfl (hb86.cell (i := 1) rfl) ?_) rfl
        refine zh (j := 9) (dj := 84) (b := true) (S (P_gtT rfl rfl hgt) ?_) rfl
        refine zh (j := 4) (dj := 79) (b := false) (S (zt rfl rfl) (L (S (zj rfl rfl) (zg (zc (zk rfl (zo (zc (zf (zb ?_)))))))))) rfl
        refine L (zB Yo rfl hb86.row rfl ?_)
        refine L (S (za rfl) ?_)
        refine L (zw yD rfl rfl (yM 3 _ at_) rfl hb46 (by exact Nat.le_refl 3) ?_)
        rintro w8 hb8 hm8
        refine L (S (zd rfl) (L (S (zd rfl) (zg (zc (zy ?_))))))
        have hb8' : Blk w8 b4 (Zf 3 ((l.drop at_).take n) at_) 71 := hb8
        refine yk (rs := [.cell 4 71, .tmp 5, .tmp 6]) [.agg (Zf 3 ((l.drop at_).take n) at_).toArray, .int .i64 ((at_ + n : Nat) : Int), .int .i64 0] Tryz.results109 ?_ ?_
        · exact ⟨⟨_, rfl, Zv hb8'⟩, rfl, rfl, trivial⟩
        · exact ⟨rfl, hm06.new hm8 hn1⟩
    · rw [if_neg (by intro h; rcases h with h | h; exact h19 h; exact h19e h.1)]
      refine zb (L (S (za rfl) (L (S (za rfl) ?_))))
      refine L (S (Zd rfl rfl (z1 (c := (n : Int)) (by omega))) ?_)
      refine L (S (yp rfl rfl (decide_eq_false (by omega))) ?_)
      refine L (S (za rfl) (zh (j := 4) (dj := 79) (b := false) (S (za rfl) (zh (j := 4) (dj := 79) (b := false) (S (za rfl) ?_) rfl)) rfl))
      refine zh (j := 4) (dj := 79) (b := false) (S (Zd rfl rfl (z1 (c := (n : Int)) (by omega))) ?_) rfl
      refine zh (j := 4) (dj := 79) (b := false) (S (zR rfl rfl (decide_eq_false (by omega))) ?_) rfl
      refine zh (j := 4) (dj := 79) (b := false) (S (za rfl) (zl (j := 9) (dj := 84) (b := true) (b' := false) (d := 85) rfl (zl (j := 9) (dj := 84) (b := true) (b' := false) (d := 86) rfl (zl (j := 9) (dj := 84) (b := true) (b' := false) (d := 87) rfl (zh (j := 4) (dj := 79) (b := false) (S (zj rfl rfl) (L (S (zj rfl rfl) (zg (zc (zk rfl (zo (zc (zf (zb ?_)))))))))) rfl))))) rfl
      refine L (zB Yo rfl hb86.row rfl ?_)
      refine L (S (za rfl) ?_)
      refine L (zw yD rfl rfl (yM 3 _ at_) rfl hb46 (by exact Nat.le_refl 3) ?_)
      rintro w8 hb8 hm8
      refine L (S (zd rfl) (L (S (zd rfl) (zg (zc (zy ?_))))))
      have hb8' : Blk w8 b4 (Zf 3 ((l.drop at_).take n) at_) 71 := hb8
      refine yk (rs := [.cell 4 71, .tmp 5, .tmp 6]) [.agg (Zf 3 ((l.drop at_).take n) at_).toArray, .int .i64 ((at_ + n : Nat) : Int), .int .i64 0] Tryz.results109 ?_ ?_
      · exact ⟨⟨_, rfl, Zv hb8'⟩, rfl, rfl, trivial⟩
      · exact ⟨rfl, hm06.new hm8 hn1⟩
end
end Go.Proofs.YtnoioimphcmeiaaGreatDoor
namespace Go.Proofs.YtnoioimphcmeiaaGreatDoor
open Go.RowKit
set_option maxRecDepth 20000

theorem drop_cons {l : List UInt8} {i : Nat} {c : UInt8} (hc : l[i]? = some c) : l.drop i = c :: l.drop (i + 1) := by
  obtain ⟨h2, h3⟩ := List.getElem?_eq_some_iff.1 hc
  rw [List.drop_eq_getElem_cons h2, h3]
section
variable {w : World}
set_option maxHeartbeats 2000000 in
theorem reftext_ret (l : List UInt8) (hl : l.length ≤ 100000) (at_ : Nat) (ha : at_ < l.length) :
    Ret Tryz.prog 110 [.string (str l), .int .i64 (at_ : Int)] w fun v w' => (match Zr (l.drop (at_ + 1)) with
      | some (s, n) => v = .tuple #[.agg (Zf 5 s at_).toArray, .int .i64 ((at_ + (n + 1) : Nat) : Int), .int .i64 0]
      | none => ∃ k s, v = .tuple #[.agg (Zf k s at_).toArray, .int .i64 (at_ : Int), .int .i64 10]) ∧ Mv No w w' := by
  have hsz := yR l
  refine zN Tryz.func110 Tryz.ntmps110 rfl rfl ?_
  refine zf (zb ?_)
  refine L (ye (zs := [(.int .i64 0), (.string (ByteArray.mk #[])), (.int .i64 0)]) yD rfl ?_)
  rintro b4 w1 hb4 hm1 hn1
  refine L (S (zd rfl) (L (S (zd rfl) (zg (zc (zf ?_))))))
  have hb4' : Blk w1 b4 (Zf 0 [] 0) 71 := hb4
  clear hb4
  refine zb (L (S (za rfl) ?_))
  refine L (S (zW (ix := [0, 2]) (l := [.const (.int .i64 5), .tmp 9]) bi_71_0_2 rfl (by simp [Value.oneCell']) rfl) ?_)
  refine L (ye (zs := [(.int .i64 0), (.string (ByteArray.mk #[])), (.int .i64 0)]) yD rfl ?_)
  rintro b8 w2 hb8 hm2 hn2
  refine L (zw yD rfl rfl (yM 5 [] at_) rfl hb8 (by exact Nat.le_refl 3) ?_)
  rintro w3 hb8' hm3
  refine zg (zc (zf (zf (zb (L (S (za rfl) ?_))))))
  refine L (S (zT rfl rfl (z1 (c := ((at_ + 1 : Nat) : Int)) (by omega))) ?_)
  refine L (S (zd rfl) (zg (zc (zx ?_))))
  have hb83 : Blk w3 b8 (Zf 5 [] at_) 71 := hb8'
  have hn8 : w.heap.size ≤ b8 := Nat.le_trans hm1.size hn2
  have hm03 : Mv No w w3 := (hm1.no hm2).new hm3 hn8
  have h48 : ¬ b4 = b8 := fun he => by have := hb4'.lt; omega
  have hb43 := (hb4'.no hm2).mv hm3 h48
  clear hb8 hb8' hb4'
  refine yF (γ := Nat × List UInt8) (fun q => [(0, .string (str l)), (1, .int .i64 (at_ : Int)), (4, .pointer (some ⟨b4, 0, none⟩)), (7, .pointer (some ⟨b8, 0, none⟩)), (8, .int .i64 (q.1 : Int))]) (fun q wr => Blk wr b8 (Zf 5 q.2 at_) 71 ∧ Blk wr b4 (Zf 0 [] 0) 71 ∧ at_ + 1 ≤ q.1 ∧ q.1 ≤ l.length ∧ q.2.length ≤ q.1 ∧ Zr (l.drop (at_ + 1)) = (Zr (l.drop q.1)).map (fun x => (q.2 ++ x.1, x.2 + (q.1 - (at_ + 1)))) ∧ Mv No w wr) (fun q => l.length - q.1) (at_ + 1, []) (.cons rfl (.cons rfl (.cons rfl (.cons rfl (.cons rfl (.nil _)))))) ⟨hb83, hb43, Nat.le_refl _, ha, Nat.zero_le _, by
    dsimp only
    rw [Nat.sub_self]
    cases Zr (l.drop (at_ + 1)) <;> rfl, hm03⟩ ?_
  rintro ⟨i, acc⟩ wr ⟨hb8r, hb4r, hi1, hil, hacc, hgo, hmr⟩
  dsimp only at hb8r hi1 hil hacc hgo
  dsimp only
  have hsa := yR acc
  rcases Nat.lt_or_ge i l.length with hlt | hge
  · obtain ⟨c, hc⟩ : ∃ c, l[i]? = some c := ⟨l[i], List.getElem?_eq_getElem hlt⟩
    have hdrop := drop_cons hc
    rw [hdrop] at hgo
    by_cases hq : c.toNat = 39
    · have hce : c = 39 := UInt8.toNat_inj.1 hq
      subst hce
      by_cases hend : i + 1 = l.length
      · have hn : l.drop (i + 1) = [] := List.drop_eq_nil_of_le (by omega)
        rw [hn] at hgo
        have he : Zr (l.drop (at_ + 1)) = some (acc, i - at_) := by
          rw [hgo]
          simp only [Zr, if_pos, Option.map_some, List.append_nil]
          congr 2
          omega
        rw [he]
        dsimp only
        rw [show at_ + (i - at_ + 1) = i + 1 by omega]
        refine zf (zf (zb (L (S (za rfl) (L (S (za rfl) ?_))))))
        refine L (S (yi Tryz.underlying9 rfl) ?_)
        refine L (S (zG rfl rfl (decide_eq_true (by omega))) ?_)
        refine zg (zc (zr rfl (zo (zc (zf (zx (zf (zf (zb (L (S (za rfl) (L (S (za rfl) ?_)))))))))))))
        refine L (S (zY Tryz.underlying9 rfl rfl (j := i) rfl (yd hc)) ?_)
        refine L (S (Za rfl rfl (decide_eq_false (by omega))) ?_)
        refine zg (zc (zk rfl (zo (zc (zf (zf (zb (L (S (za rfl) ?_)))))))))
        refine L (S (zT rfl rfl (z1 (c := ((i + 1 : Nat) : Int)) (by omega))) ?_)
        refine L (S (za rfl) ?_)
        refine L (S (yi Tryz.underlying9 rfl) ?_)
        refine L (S (zR rfl rfl (decide_eq_true (by omega))) ?_)
        refine L (S (za rfl) (zl (j := 5) (dj := 37) (b := false) (b' := true) (d := 38) rfl (zl (j := 5) (dj := 37) (b := false) (b' := true) (d := 39) rfl (zl (j := 5) (dj := 37) (b := false) (b' := true) (d := 40) rfl (zl (j := 5) (dj := 37) (b := false) (b' := true) (d := 41) rfl (zl (j := 5) (dj := 37) (b := false) (b' := true) (d := 42) rfl (L (S (zt rfl rfl) (zg (zc (zr rfl (zf (zb ?_)))))))))))))
        refine L (zB Yo rfl hb8r.row rfl ?_)
        refine L (S (za rfl) ?_)
        refine L (S (zT rfl rfl (z1 (c := ((i + 1 : Nat) : Int)) (by omega))) ?_)
        refine L (zw yD rfl rfl (yM 5 acc at_) rfl hb4r (by exact Nat.le_refl 3) ?_)
        rintro w4 hb4 hm4
        refine L (S (zd rfl) (L (S (zd rfl) (zg (zc (zy (zm (zP (zm (zm (zP (zm ?_))))))))))))
        have hb4' : Blk w4 b4 (Zf 5 acc at_) 71 := hb4
        refine yk (rs := [.cell 4 71, .tmp 5, .tmp 6]) [.agg (Zf 5 acc at_).toArray, .int .i64 ((i + 1 : Nat) : Int), .int .i64 0] Tryz.results110 ?_ ?_
        · exact ⟨⟨_, rfl, Zv hb4'⟩, rfl, rfl, trivial⟩
        · exact ⟨rfl, hmr.new hm4 hn1⟩
      · obtain ⟨d, hd⟩ : ∃ d, l[i + 1]? = some d := ⟨l[i + 1], List.getElem?_eq_getElem (by omega)⟩
        have hdrop2 := drop_cons hd
        rw [hdrop2] at hgo
        by_cases hq2 : d.toNat = 39
        · have hde : d = 39 := UInt8.toNat_inj.1 hq2
          subst hde
          simp only [Zr, if_pos] at hgo
          refine zf (zf (zb (L (S (za rfl) (L (S (za rfl) ?_))))))
          refine L (S (yi Tryz.underlying9 rfl) ?_)
          refine L (S (zG rfl rfl (decide_eq_true (by omega))) ?_)
          refine zg (zc (zr rfl (zo (zc (zf (zx (zf (zf (zb (L (S (za rfl) (L (S (za rfl) ?_)))))))))))))
          refine L (S (zY Tryz.underlying9 rfl rfl (j := i) rfl (yd hc)) ?_)
          refine L (S (Za rfl rfl (decide_eq_false (by omega))) ?_)
          refine zg (zc (zk rfl (zo (zc (zf (zf (zb (L (S (za rfl) ?_)))))))))
          refine L (S (zT rfl rfl (z1 (c := ((i + 1 : Nat) : Int)) (by omega))) ?_)
          refine L (S (za rfl) ?_)
          refine L (S (yi Tryz.underlying9 rfl) ?_)
          refine L (S (zR rfl rfl (decide_eq_false (by omega))) ?_)
          refine L (S (za rfl) (zh (j := 5) (dj := 37) (b := false) (S (za rfl) (zh (j := 5) (dj := 37) (b := false) (S (za rfl) ?_) rfl)) rfl))
          refine zh (j := 5) (dj := 37) (b := false) (S (zT rfl rfl (z1 (c := ((i + 1 : Nat) : Int)) (by omega))) ?_) rfl
          refine zh (j := 5) (dj := 37) (b := false) (S (zY Tryz.underlying9 rfl rfl (j := i + 1) rfl (yd hd)) ?_) rfl
          refine zh (j := 5) (dj := 37) (b := false) (S (Za rfl rfl (decide_eq_false (by omega))) ?_) rfl
          refine L (S (zj rfl rfl) (zg (zc (zk rfl (zo (zc (zf (zb (L (S (ze ZJ rfl) ?_))))))))))
          refine L (zi yc rfl (hb8r.cell (i := 1) rfl) ?_)
          refine L (S (P_addT rfl rfl (by rw [hsa]; show acc.length + 1 ≤ _; omega)) ?_)
          refine L (S (ze ZJ rfl) ?_)
          refine L (yv ti_9 rfl rfl rfl hb8r (by show 1 < 3; omega) ?_)
          rintro w4 hb84 hm4
          refine zg (zc (zb (L (S (za rfl) ?_))))
          refine L (S (zT rfl rfl (z1 (c := ((i + 1 : Nat) : Int)) (by omega))) ?_)
          refine L (S (zd rfl) (zg (yj (zc (zb (L (S (za rfl) ?_)))))))
          refine L (S (zT rfl rfl (z1 (c := ((i + 2 : Nat) : Int)) (by omega))) ?_)
          refine L (S (zd rfl) (zg (zc ?_)))
          have hb84' : Blk w4 b8 (Zf 5 (acc ++ [39]) at_) 71 := by
            have e : Zf 5 (acc ++ [39]) at_ = [.int .i64 5, .string (str acc ++ str [39]), .int .i64 (at_ : Int)] := by rw [str_append]; rfl
            rw [e]
            exact hb84
          exact ⟨rfl, (i + 2, acc ++ [39]), (.cons rfl (.cons rfl (.cons rfl (.cons rfl (.cons rfl (.nil _)))))), ⟨hb84', hb4r.mv hm4 h48, by dsimp only; omega, by dsimp only; omega, by simp; omega, by
            rw [hgo]
            cases Zr (l.drop (i + 1 + 1)) with
            | none => rfl
            | some x => simp only [Option.map_some, List.append_assoc, List.cons_append, List.nil_append]; congr 2; omega, hmr.new hm4 hn8⟩, by dsimp only; omega⟩
        · have hd39 : d ≠ 39 := fun he => hq2 (by rw [he]; rfl)
          have he : Zr (l.drop (at_ + 1)) = some (acc, i - at_) := by
            rw [hgo]
            simp only [Zr, if_pos, if_neg hd39, Option.map_some, List.append_nil]
            congr 2
            omega
          rw [he]
          dsimp only
          rw [show at_ + (i - at_ + 1) = i + 1 by omega]
          refine zf (zf (zb (L (S (za rfl) (L (S (za rfl) ?_))))))
          refine L (S (yi Tryz.underlying9 rfl) ?_)
          refine L (S (zG rfl rfl (decide_eq_true (by omega))) ?_)
          refine zg (zc (zr rfl (zo (zc (zf (zx (zf (zf (zb (L (S (za rfl) (L (S (za rfl) ?_)))))))))))))
          refine L (S (zY Tryz.underlying9 rfl rfl (j := i) rfl (yd hc)) ?_)
          refine L (S (Za rfl rfl (decide_eq_false (by omega))) ?_)
          refine zg (zc (zk rfl (zo (zc (zf (zf (zb (L (S (za rfl) ?_)))))))))
          refine L (S (zT rfl rfl (z1 (c := ((i + 1 : Nat) : Int)) (by omega))) ?_)
          refine L (S (za rfl) ?_)
          refine L (S (yi Tryz.underlying9 rfl) ?_)
          refine L (S (zR rfl rfl (decide_eq_false (by omega))) ?_)
          refine L (S (za rfl) (zh (j := 5) (dj := 37) (b := false) (S (za rfl) (zh (j := 5) (dj := 37) (b := false) (S (za rfl) ?_) rfl)) rfl))
          refine zh (j := 5) (dj := 37) (b := false) (S (zT rfl rfl (z1 (c := ((i + 1 : Nat) : Int)) (by omega))) ?_) rfl
          refine zh (j := 5) (dj := 37) (b := false) (S (zY Tryz.underlying9 rfl rfl (j := i + 1) rfl (yd hd)) ?_) rfl
          refine zh (j := 5) (dj := 37) (b := false) (S (Za rfl rfl (decide_eq_true (by omega))) ?_) rfl
          refine L (S (zj rfl rfl) (zg (zc (zr rfl (zf (zb ?_))))))
          refine L (zB Yo rfl hb8r.row rfl ?_)
          refine L (S (za rfl) ?_)
          refine L (S (zT rfl rfl (z1 (c := ((i + 1 : Nat) : Int)) (by omega))) ?_)
          refine L (zw yD rfl rfl (yM 5 acc at_) rfl hb4r (by exact Nat.le_refl 3) ?_)
          rintro w4 hb4 hm4
          refine L (S (zd rfl) (L (S (zd rfl) (zg (zc (zy (zm (zP (zm (zm (zP (zm ?_))))))))))))
          have hb4' : Blk w4 b4 (Zf 5 acc at_) 71 := hb4
          refine yk (rs := [.cell 4 71, .tmp 5, .tmp 6]) [.agg (Zf 5 acc at_).toArray, .int .i64 ((i + 1 : Nat) : Int), .int .i64 0] Tryz.results110 ?_ ?_
          · exact ⟨⟨_, rfl, Zv hb4'⟩, rfl, rfl, trivial⟩
          · exact ⟨rfl, hmr.new hm4 hn1⟩
    · have hc39 : c ≠ 39 := fun he => hq (by rw [he]; rfl)
      rw [textF_step hc39] at hgo
      have hcut : (str l).extract i (i + 1) = str [c] := by
        rw [cut_str, Nat.add_sub_cancel_left, hdrop]
        rfl
      refine zf (zf (zb (L (S (za rfl) (L (S (za rfl) ?_))))))
      refine L (S (yi Tryz.underlying9 rfl) ?_)
      refine L (S (zG rfl rfl (decide_eq_true (by omega))) ?_)
      refine zg (zc (zr rfl (zo (zc (zf (zx (zf (zf (zb (L (S (za rfl) (L (S (za rfl) ?_)))))))))))))
      refine L (S (zY Tryz.underlying9 rfl rfl (j := i) rfl (yd hc)) ?_)
      refine L (S (Za rfl rfl (decide_eq_true (by omega))) ?_)
      refine zg (zc (zr rfl (zf ?_)))
      refine ZT 10 mixed rfl ?_
      refine zF (i := 0) rfl (ze ZJ rfl) ?_ (by decide +kernel) (by decide +kernel) (by decide +kernel) (fun _ _ _ _ h => h) rfl rfl rfl
      refine zF (i := 2) rfl (za rfl) ?_ (by decide +kernel) (by decide +kernel) (by decide +kernel) (fun _ _ _ _ h => h) rfl rfl rfl
      refine zF (i := 3) rfl (za rfl) ?_ (by decide +kernel) (by decide +kernel) (by decide +kernel) (fun _ _ _ _ h => h) rfl rfl rfl
      refine zF (i := 4) rfl (za rfl) ?_ (by decide +kernel) (by decide +kernel) (by decide +kernel) (fun _ _ _ _ h => h) rfl rfl rfl
      refine zF (i := 5) rfl (zT rfl rfl (z1 (c := ((i + 1 : Nat) : Int)) (by omega))) ?_ (by decide +kernel) (by decide +kernel) (by decide +kernel) (fun _ _ _ _ h => h) rfl rfl rfl
      refine zF (i := 6) rfl (yQ Tryz.underlying9 rfl (zV (j := i) rfl rfl) (zV (j := i + 1) rfl rfl) (by omega) (by omega) hcut) ?_ (by decide +kernel) (by decide +kernel) (by decide +kernel) (fun _ _ _ _ h => h) rfl rfl rfl
      refine zO (i := 1) (zS rfl (zi yc rfl ((hb8r.no (Mv.refl _).drew).cell (i := 1) rfl) ?_)) (by decide +kernel)
      refine zF (i := 7) rfl (P_addT rfl rfl (by rw [hsa]; show acc.length + 1 ≤ _; omega)) ?_ (by decide +kernel) (by decide +kernel) (by decide +kernel) (fun _ _ _ _ h => h) rfl rfl rfl
      refine zF (i := 8) rfl (ze ZJ rfl) ?_ (by decide +kernel) (by decide +kernel) (by decide +kernel) (fun _ _ _ _ h => h) rfl rfl rfl
      refine zO (i := 9) (zS rfl (yv ti_9 rfl rfl rfl (hb8r.no (Mv.refl _).drew) (by show 1 < 3; omega) ?_)) (by decide +kernel)
      rintro w4 hb84 hm4
      refine yH (by decide +kernel) ?_
      refine zc (yn (zL (yK (zc (zb (L (S (za rfl) ?_)))))))
      refine L (S (zT rfl rfl (z1 (c := ((i + 1 : Nat) : Int)) (by omega))) ?_)
      refine L (S (zd rfl) (zg (zc ?_)))
      have hm4' : Mv (At b8) wr w4 := (Mv.refl (S := At b8) wr).drew.trans hm4 fun _ _ h => h
      have hb84' : Blk w4 b8 (Zf 5 (acc ++ [c]) at_) 71 := by
        have e : Zf 5 (acc ++ [c]) at_ = [.int .i64 5, .string (str acc ++ str [c]), .int .i64 (at_ : Int)] := by rw [str_append]; rfl
        rw [e]
        exact hb84
      exact ⟨rfl, (i + 1, acc ++ [c]), (.cons rfl (.cons rfl (.cons rfl (.cons rfl (.cons rfl (.nil _)))))), ⟨hb84', hb4r.mv hm4' h48, by dsimp only; omega, by dsimp only; omega, by simp; omega, by
        rw [hgo]
        cases Zr (l.drop (i + 1)) with
        | none => rfl
        | some x => simp only [Option.map_some, List.append_assoc, List.cons_append, List.nil_append]; congr 2; omega, hmr.new hm4' hn8⟩, by dsimp only; omega⟩
  · have hn : l.drop i = [] := List.drop_eq_nil_of_le hge
    rw [hn] at hgo
    have he : Zr (l.drop (at_ + 1)) = none := by rw [hgo]; simp [Zr]
    rw [he]
    refine zf (zf (zb (L (S (za rfl) (L (S (za rfl) ?_))))))
    refine L (S (yi Tryz.underlying9 rfl) ?_)
    refine L (S (zG rfl rfl (decide_eq_false (by omega))) ?_)
    refine zg (zc (zk rfl (yn (zL (zL (yK (zc (zf (zb ?_)))))))))
    refine L (zB Yo rfl hb8r.row rfl ?_)
    refine L (S (za rfl) ?_)
    refine L (zw yD rfl rfl (yM 5 acc at_) rfl hb4r (by exact Nat.le_refl 3) ?_)
    rintro w4 hb4 hm4
    refine L (S (zd rfl) (L (S (zd rfl) (zg (zc (zy ?_))))))
    have hb4' : Blk w4 b4 (Zf 5 acc at_) 71 := hb4
    refine yk (rs := [.cell 4 71, .tmp 5, .tmp 6]) [.agg (Zf 5 acc at_).toArray, .int .i64 (at_ : Int), .int .i64 10] Tryz.results110 ?_ ?_
    · exact ⟨⟨_, rfl, Zv hb4'⟩, rfl, rfl, trivial⟩
    · exact ⟨⟨_, _, rfl⟩, hmr.new hm4 hn1⟩
end
end Go.Proofs.YtnoioimphcmeiaaGreatDoor
namespace Go.Proofs.YtnoioimphcmeiaaGreatDoor
open Go.RowKit
set_option maxRecDepth 20000

theorem kwF_some {w k : List UInt8} (h : kwF w = some k) : k ≠ [] := by
  unfold kwF at h
  split at h
  · rename_i hm
    cases h
    exact (words_caps _ hm).1
  · cases h
theorem ldN_kd (c : Nat) : ldN c = true ↔ (kdN c = 1 ∨ kdN c = 2) := by
  unfold ldN
  rw [kdN_let, kdN_dig, Bool.or_eq_true]
theorem sign_at : ∀ i, i < 11 → ∃ c, signL[i]? = some c := fun i h => ⟨signL[i]'h, List.getElem?_eq_getElem h⟩
section
variable {w : World}
set_option maxHeartbeats 4000000 in
theorem refword_ret {big : List UInt8 → Bool} {V : World → Prop} {T : List UInt8 → Prop} (hpf : PF big V T) (hv : V w) (l : List UInt8) (hT : InT T l) (hl : l.length ≤ 100000) (at_ : Nat) (ha : at_ ≤ l.length) :
    Ret Tryz.prog 66 [.string (str l), .int .i64 (at_ : Int)] w fun v w' => (match ZY big (l.drop at_) with
      | .ok k s n => v = .tuple #[.agg (Zf k s at_).toArray, .int .i64 ((at_ + n : Nat) : Int), .int .i64 0]
      | .er e => ∃ k s x, v = .tuple #[.agg (Zf k s at_).toArray, .int .i64 x, .int .i64 (e : Int)]) ∧ Mv No w w' := by
  have hsz := yR l
  refine zN Tryz.func66 Tryz.ntmps66 rfl rfl ?_
  refine zf (zb ?_)
  refine L (ye (zs := [(.int .i64 0), (.string (ByteArray.mk #[])), (.int .i64 0)]) yD rfl ?_)
  rintro b4 w1 hb4 hm1 hn1
  refine L (S (zd rfl) (L (S (zd rfl) (zg (zc (zf ?_))))))
  have hb4' : Blk w1 b4 (Zf 0 [] 0) 71 := hb4
  clear hb4
  refine zb (L (S (za rfl) ?_))
  refine L (S (zW (ix := [2]) (l := [.tmp 12]) bi_71_2 rfl (by simp [Value.oneCell']) rfl) ?_)
  refine L (S (za rfl) ?_)
  refine L (ye (zs := [(.int .i64 0), (.string (ByteArray.mk #[])), (.int .i64 0)]) yD rfl ?_)
  rintro b8 w2 hb8 hm2 hn2
  refine L (zw yD rfl rfl (yM 0 [] at_) rfl hb8 (by exact Nat.le_refl 3) ?_)
  rintro w3 hb8' hm3
  refine L (S (zd rfl) (zg (zc (zf (zf ?_)))))
  have hb83 : Blk w3 b8 (Zf 0 [] at_) 71 := hb8'
  have hn8 : w.heap.size ≤ b8 := Nat.le_trans hm1.size hn2
  have hm03 : Mv No w w3 := (hm1.no hm2).new hm3 hn8
  have h48 : ¬ b4 = b8 := fun he => by have := hb4'.lt; omega
  have h84 : ¬ b8 = b4 := fun he => h48 he.symm
  have hb43 := (hb4'.no hm2).mv hm3 h48
  clear hb8 hb8' hb4'
  by_cases hend : at_ = l.length
  · rw [List.drop_eq_nil_of_le (by omega)]
    refine zb (L (S (za rfl) (L (S (za rfl) ?_))))
    refine L (S (yi Tryz.underlying9 rfl) ?_)
    refine L (S (zR rfl rfl (decide_eq_true (by omega))) ?_)
    refine zg (zc (zr rfl (zf (zb ?_))))
    refine L (zB Yo rfl hb83.row rfl ?_)
    refine L (S (za rfl) ?_)
    refine L (zw yD rfl rfl (yM 0 [] at_) rfl hb43 (by exact Nat.le_refl 3) ?_)
    rintro w4 hb4 hm4
    refine L (S (zd rfl) (L (S (zd rfl) (zg (zc (zy (zm ?_)))))))
    have hb4' : Blk w4 b4 (Zf 0 [] at_) 71 := hb4
    refine yk (rs := [.cell 4 71, .tmp 5, .tmp 6]) [.agg (Zf 0 [] at_).toArray, .int .i64 (at_ : Int), .int .i64 0] Tryz.results66 ?_ ?_
    · exact ⟨⟨_, rfl, Zv hb4'⟩, rfl, rfl, trivial⟩
    · exact ⟨rfl, hm03.new hm4 hn1⟩
  obtain ⟨c, hc⟩ : ∃ c, l[at_]? = some c := ⟨l[at_], List.getElem?_eq_getElem (by omega)⟩
  have hcl := c.toNat_lt
  have hdr := drop_cons hc
  have hkl := kdN_let c.toNat
  have hkd := kdN_dig c.toNat
  have hk := fun w' => kind_ret (w := w') c
  cases hlet : letN c.toNat with
  | true =>
    have hk1 := hkl.2 hlet
    have hnx : ZY big (l.drop at_) = match kwF ((l.drop at_).take (zQ ldN (l.drop at_))) with
      | some k => .ok 2 k (zQ ldN (l.drop at_))
      | none => if 12 < zQ ldN (l.drop at_) then .er 4 else .ok 1 ((l.drop at_).take (zQ ldN (l.drop at_))) (zQ ldN (l.drop at_)) := by
      rw [hdr, ZY, if_pos hlet]
      cases kwF ((c :: l.drop (at_ + 1)).take (zQ ldN (c :: l.drop (at_ + 1)))) <;> rfl
    rw [hnx]
    clear hnx
    have hsp := Yr ldN (l.drop at_)
    rw [List.length_drop] at hsp
    refine zb (L (S (za rfl) (L (S (za rfl) ?_))))
    refine L (S (yi Tryz.underlying9 rfl) ?_)
    refine L (S (zR rfl rfl (decide_eq_false (by omega))) ?_)
    refine zg (zc (zk rfl (zo (zc (zf (zx (zf (zb (L (S (za rfl) (L (S (za rfl) ?_))))))))))))
    refine L (S (zY Tryz.underlying9 rfl rfl (j := at_) rfl (yd hc)) ?_)
    refine L (zq Yp rfl ((hk _)) ?_)
    rintro _ _ ⟨rfl, rfl⟩
    refine L (S (zR rfl rfl (decide_eq_true (by omega))) ?_)
    refine L (S (zd rfl) (zg (zc (zr rfl (zf (zx ?_))))))
    refine yF (γ := Nat) (fun i => [(0, .string (str l)), (1, .int .i64 (at_ : Int)), (4, .pointer (some ⟨b4, 0, none⟩)), (7, .pointer (some ⟨b8, 0, none⟩)), (8, .int .i64 (i : Int))]) (fun i wr => wr = w3 ∧ i ≤ l.length ∧ i + zQ ldN (l.drop i) = at_ + zQ ldN (l.drop at_)) (fun i => l.length - i) at_ (.cons rfl (.cons rfl (.cons rfl (.cons rfl (.cons rfl (.nil _)))))) ⟨rfl, ha, rfl⟩ ?_
    rintro i wr ⟨rfl, hi, he⟩
    by_cases hgo : ∃ d, l[i]? = some d ∧ ldN d.toNat = true
    · obtain ⟨d, hd, hld⟩ := hgo
      have hil := (List.getElem?_eq_some_iff.1 hd).1
      have hkk := (ldN_kd d.toNat).1 hld
      have hke := fun w' => kind_ret (w := w') d
      rw [spanB_drop hd, if_pos hld] at he
      by_cases hd1 : kdN d.toNat = 1
      · refine zf (zf (zb (L (S (za rfl) (L (S (za rfl) ?_))))))
        refine L (S (yi Tryz.underlying9 rfl) ?_)
        refine L (S (zG rfl rfl (decide_eq_true (by omega))) ?_)
        refine L (S (za rfl) (zh (j := 4) (dj := 31) (b := true) (S (za rfl) (zh (j := 4) (dj := 31) (b := true) (S (za rfl) ?_) rfl)) rfl))
        refine zh (j := 4) (dj := 31) (b := true) (S (zY Tryz.underlying9 rfl rfl (j := i) rfl (yd hd)) ?_) rfl
        refine zh (j := 4) (dj := 31) (b := true) (zq Yp rfl ((hke _)) ?_) rfl
        rintro _ _ ⟨rfl, rfl⟩
        refine zh (j := 4) (dj := 31) (b := true) (S (zR rfl rfl (decide_eq_true (by omega))) ?_) rfl
        refine zh (j := 4) (dj := 31) (b := true) (S (za rfl) (zl (j := 10) (dj := 37) (b := false) (b' := true) (d := 38) rfl (zl (j := 10) (dj := 37) (b := false) (b' := true) (d := 39) rfl (zl (j := 10) (dj := 37) (b := false) (b' := true) (d := 40) rfl (zl (j := 10) (dj := 37) (b := false) (b' := true) (d := 41) rfl (zl (j := 10) (dj := 37) (b := false) (b' := true) (d := 42) rfl (zh (j := 4) (dj := 31) (b := true) (S (zt rfl rfl) (L (S (zt rfl rfl) (zg (zc (zr rfl (zo (zc (zx (zb (L (S (za rfl) ?_)))))))))))) rfl))))))) rfl
        refine L (S (zT rfl rfl (z1 (c := ((i + 1 : Nat) : Int)) (by omega))) ?_)
        refine L (S (zd rfl) (zg (yj (zc ?_))))
        exact ⟨rfl, i + 1, (.cons rfl (.cons rfl (.cons rfl (.cons rfl (.cons rfl (.nil _)))))), ⟨rfl, hil, by omega⟩, by omega⟩
      · refine zf (zf (zb (L (S (za rfl) (L (S (za rfl) ?_))))))
        refine L (S (yi Tryz.underlying9 rfl) ?_)
        refine L (S (zG rfl rfl (decide_eq_true (by omega))) ?_)
        refine L (S (za rfl) (zh (j := 4) (dj := 31) (b := true) (S (za rfl) (zh (j := 4) (dj := 31) (b := true) (S (za rfl) ?_) rfl)) rfl))
        refine zh (j := 4) (dj := 31) (b := true) (S (zY Tryz.underlying9 rfl rfl (j := i) rfl (yd hd)) ?_) rfl
        refine zh (j := 4) (dj := 31) (b := true) (zq Yp rfl ((hke _)) ?_) rfl
        rintro _ _ ⟨rfl, rfl⟩
        refine zh (j := 4) (dj := 31) (b := true) (S (zR rfl rfl (decide_eq_false (by omega))) ?_) rfl
        refine zh (j := 4) (dj := 31) (b := true) (S (za rfl) (zh (j := 10) (dj := 37) (b := false) (S (za rfl) (zh (j := 10) (dj := 37) (b := false) (S (za rfl) ?_) rfl)) rfl)) rfl
        refine zh (j := 10) (dj := 37) (b := false) (S (zY Tryz.underlying9 rfl rfl (j := i) rfl (yd hd)) ?_) rfl
        refine zh (j := 10) (dj := 37) (b := false) (zq Yp rfl ((hke _)) ?_) rfl
        rintro _ _ ⟨rfl, rfl⟩
        refine zh (j := 10) (dj := 37) (b := false) (S (zR rfl rfl (decide_eq_true (by omega))) ?_) rfl
        refine zh (j := 4) (dj := 31) (b := true) (S (zj rfl rfl) (L (S (zt rfl rfl) (zg (zc (zr rfl (zo (zc (zx (zb (L (S (za rfl) ?_)))))))))))) rfl
        refine L (S (zT rfl rfl (z1 (c := ((i + 1 : Nat) : Int)) (by omega))) ?_)
        refine L (S (zd rfl) (zg (yj (zc ?_))))
        exact ⟨rfl, i + 1, (.cons rfl (.cons rfl (.cons rfl (.cons rfl (.cons rfl (.nil _)))))), ⟨rfl, hil, by omega⟩, by omega⟩
    · have hin : i = at_ + zQ ldN (l.drop at_) := by
        rcases Nat.lt_or_ge i l.length with h | h
        · have hd := List.getElem?_eq_getElem h
          rw [spanB_drop hd, if_neg (fun hh => hgo ⟨_, hd, hh⟩)] at he
          omega
        · rw [spanB_end h] at he
          omega
      have hcut : (str l).extract at_ i = str ((l.drop at_).take (zQ ldN (l.drop at_))) := by
        rw [cut_str, show i - at_ = zQ ldN (l.drop at_) by omega]
      have hkwr := fun w' => refkw_ret (w := w') ((l.drop at_).take (zQ ldN (l.drop at_))) (by rw [List.length_take, List.length_drop]; omega)
      clear he
      generalize hn : zQ ldN (l.drop at_) = n at *
      generalize (l.drop at_).take n = tx at *
      subst hin
      refine zf (zf ?_)
      refine ZG (γ := Unit) (fun _ => [(0, .string (str l)), (1, .int .i64 (at_ : Int)), (4, .pointer (some ⟨b4, 0, none⟩)), (7, .pointer (some ⟨b8, 0, none⟩)), (8, .int .i64 ((at_ + n : Nat) : Int)), (44, .bool false)]) (fun _ wc => wc = wr) ?_ ?_
      · rcases Nat.lt_or_ge (at_ + n) l.length with h | h
        · have hd := List.getElem?_eq_getElem h
          generalize l[at_ + n] = d at hd
          have hnk : ¬ ldN d.toNat = true := fun hh => hgo ⟨_, hd, hh⟩
          have hk12 : kdN d.toNat ≠ 1 ∧ kdN d.toNat ≠ 2 := ⟨fun h => hnk ((ldN_kd _).2 (.inl h)), fun h => hnk ((ldN_kd _).2 (.inr h))⟩
          have hke := fun w' => kind_ret (w := w') d
          refine zb (L (S (za rfl) (L (S (za rfl) ?_))))
          refine L (S (yi Tryz.underlying9 rfl) ?_)
          refine L (S (zG rfl rfl (decide_eq_true (by omega))) ?_)
          refine L (S (za rfl) (zh (j := 4) (dj := 31) (b := true) (S (za rfl) (zh (j := 4) (dj := 31) (b := true) (S (za rfl) ?_) rfl)) rfl))
          refine zh (j := 4) (dj := 31) (b := true) (S (zY Tryz.underlying9 rfl rfl (j := at_ + n) rfl (yd hd)) ?_) rfl
          refine zh (j := 4) (dj := 31) (b := true) (zq Yp rfl ((hke _)) ?_) rfl
          rintro _ _ ⟨rfl, rfl⟩
          refine zh (j := 4) (dj := 31) (b := true) (S (zR rfl rfl (decide_eq_false (by omega))) ?_) rfl
          refine zh (j := 4) (dj := 31) (b := true) (S (za rfl) (zh (j := 10) (dj := 37) (b := false) (S (za rfl) (zh (j := 10) (dj := 37) (b := false) (S (za rfl) ?_) rfl)) rfl)) rfl
          refine zh (j := 10) (dj := 37) (b := false) (S (zY Tryz.underlying9 rfl rfl (j := at_ + n) rfl (yd hd)) ?_) rfl
          refine zh (j := 10) (dj := 37) (b := false) (zq Yp rfl ((hke _)) ?_) rfl
          rintro _ _ ⟨rfl, rfl⟩
          refine zh (j := 10) (dj := 37) (b := false) (S (zR rfl rfl (decide_eq_false (by omega))) ?_) rfl
          refine zh (j := 4) (dj := 31) (b := true) (S (zj rfl rfl) (L (S (zt rfl rfl) (zg (zc ?_))))) rfl
          exact ⟨rfl, (), (.cons rfl (.cons rfl (.cons rfl (.cons rfl (.cons rfl (.cons rfl (.nil _))))))), rfl⟩
        · refine zb (L (S (za rfl) (L (S (za rfl) ?_))))
          refine L (S (yi Tryz.underlying9 rfl) ?_)
          refine L (S (zG rfl rfl (decide_eq_false (by omega))) ?_)
          refine L (S (za rfl) (zl (j := 4) (dj := 31) (b := true) (b' := false) (d := 32) rfl (zl (j := 4) (dj := 31) (b := true) (b' := false) (d := 33) rfl (zl (j := 4) (dj := 31) (b := true) (b' := false) (d := 34) rfl (zl (j := 4) (dj := 31) (b := true) (b' := false) (d := 35) rfl (zl (j := 4) (dj := 31) (b := true) (b' := false) (d := 36) rfl (zl (j := 4) (dj := 31) (b := true) (b' := false) (d := 37) rfl (ZE (j := 10) (dj := 37) (b := false) (d := 38) rfl (ZE (j := 10) (dj := 37) (b := false) (d := 39) rfl (ZE (j := 10) (dj := 37) (b := false) (d := 40) rfl (ZE (j := 10) (dj := 37) (b := false) (d := 41) rfl (ZE (j := 10) (dj := 37) (b := false) (d := 42) rfl (zl (j := 4) (dj := 31) (b := true) (b' := false) (d := 43) rfl (L (S (zj rfl rfl) (zg (zc ?_)))))))))))))))))
          exact ⟨rfl, (), (.cons rfl (.cons rfl (.cons rfl (.cons rfl (.cons rfl (.cons rfl (.nil _))))))), rfl⟩
      rintro _ wz rfl f' hf'
      refine Zb hf' ?_
      clear hf' f'
      refine zk rfl (yn (zL (zL (yK (zc (zf ?_))))))
      refine ZT 8 mixed rfl ?_
      refine zF (i := 0) rfl (za rfl) ?_ (by decide +kernel) (by decide +kernel) (by decide +kernel) (fun _ _ _ _ h => h) rfl rfl rfl
      refine zF (i := 1) rfl (za rfl) ?_ (by decide +kernel) (by decide +kernel) (by decide +kernel) (fun _ _ _ _ h => h) rfl rfl rfl
      refine zF (i := 2) rfl (za rfl) ?_ (by decide +kernel) (by decide +kernel) (by decide +kernel) (fun _ _ _ _ h => h) rfl rfl rfl
      refine zF (i := 3) rfl (yQ Tryz.underlying9 rfl (zV (j := at_) rfl rfl) (zV (j := at_ + n) rfl rfl) (by omega) (by omega) hcut) ?_ (by decide +kernel) (by decide +kernel) (by decide +kernel) (fun _ _ _ _ h => h) rfl rfl rfl
      refine zF (i := 4) rfl (ze Yc rfl) ?_ (by decide +kernel) (by decide +kernel) (by decide +kernel) (fun _ _ _ _ h => h) rfl rfl rfl
      refine zO (i := 5) (zS rfl (yv Yf rfl rfl rfl (hb83.no (Mv.refl _).drew) (by show 0 < 3; omega) ?_)) (by decide +kernel)
      rintro w5 hb5 hm5
      refine zF (i := 6) rfl (ze ZJ rfl) ?_ (by decide +kernel) (by decide +kernel) (by decide +kernel) (fun _ _ _ _ h => h) rfl rfl rfl
      refine zO (i := 7) (zS rfl (yv ti_9 rfl rfl rfl hb5 (by show 1 < 3; omega) ?_)) (by decide +kernel)
      rintro w6 hb6 hm6
      refine yH (by decide +kernel) ?_
      refine zc (zf (zf ?_))
      have hb86 : Blk w6 b8 (Zf 1 tx at_) 71 := hb6
      have hm56 := hm5.trans hm6 fun _ _ h => h
      have hb46 := hb43.mv ((Mv.refl (S := At b8) _).drew.trans hm56 fun _ _ h => h) h48
      have hm06 : Mv No w w6 := (hm03.drew).new hm56 hn8
      have hkw := hkwr w6
      cases hkf : kwF tx with
      | some k =>
        have hkne := kwF_some hkf
        rw [hkf, Option.getD_some] at hkw
        dsimp only
        refine zb (L (S (ze ZJ rfl) ?_))
        refine L (zi yc rfl (hb86.cell (i := 1) rfl) ?_)
        refine L (zq cb_108 rfl (hkw) ?_)
        rintro _ w7 ⟨rfl, hm7⟩
        refine L (S (zd rfl) (zg (zc (zf (zb (L (S (za rfl) ?_)))))))
        refine L (S (Z4 rfl rfl (decide_eq_true (fun h => hkne ((str_nil_iff _).1 h)))) ?_)
        refine zg (zc (zr rfl (zb (L (S (za rfl) (L (S (ze Yc rfl) ?_)))))))
        refine L (yv Yf rfl rfl rfl (hb86.no hm7) (by show 0 < 3; omega) ?_)
        rintro w8 hb8 hm8
        refine L (S (ze ZJ rfl) ?_)
        refine L (yv ti_9 rfl rfl rfl hb8 (by show 1 < 3; omega) ?_)
        rintro w9 hb9 hm9
        refine zg (zc (zf (zb ?_)))
        refine L (zB Yo rfl (show Blk w9 b8 (Zf 2 k at_) 71 from hb9).row rfl ?_)
        refine L (S (za rfl) ?_)
        refine L (zw yD rfl rfl (yM 2 k at_) rfl (((hb46.no hm7).mv hm8 h48).mv hm9 h48) (by exact Nat.le_refl 3) ?_)
        rintro w10 hb10 hm10
        refine L (S (zd rfl) (L (S (zd rfl) (zg (zc (zy (zP (zm ?_))))))))
        have hb10' : Blk w10 b4 (Zf 2 k at_) 71 := hb10
        refine yk (rs := [.cell 4 71, .tmp 5, .tmp 6]) [.agg (Zf 2 k at_).toArray, .int .i64 ((at_ + n : Nat) : Int), .int .i64 0] Tryz.results66 ?_ ?_
        · exact ⟨⟨_, rfl, Zv hb10'⟩, rfl, rfl, trivial⟩
        · exact ⟨rfl, (((hm06.no hm7).new hm8 hn8).new hm9 hn8).new hm10 hn1⟩
      | none =>
        rw [hkf] at hkw
        dsimp only
        by_cases h12 : 12 < n
        · rw [if_pos h12]
          refine zb (L (S (ze ZJ rfl) ?_))
          refine L (zi yc rfl (hb86.cell (i := 1) rfl) ?_)
          refine L (zq cb_108 rfl (hkw) ?_)
          rintro _ w7 ⟨rfl, hm7⟩
          refine L (S (zd rfl) (zg (zc (zf (zb (L (S (za rfl) ?_)))))))
          refine L (S (Z4 rfl rfl (decide_eq_false (fun h => h rfl))) ?_)
          refine zg (zc (zk rfl (zf (zb (L (S (za rfl) (L (S (za rfl) ?_))))))))
          refine L (S (Zd rfl rfl (z1 (c := (n : Int)) (by omega))) ?_)
          refine L (S (yp rfl rfl (decide_eq_true (by omega))) ?_)
          refine zg (zc (zr rfl (zf (zb ?_))))
          refine L (zB Yo rfl (hb86.no hm7).row rfl ?_)
          refine L (S (za rfl) ?_)
          refine L (zw yD rfl rfl (yM 1 tx at_) rfl (hb46.no hm7) (by exact Nat.le_refl 3) ?_)
          rintro w10 hb10 hm10
          refine L (S (zd rfl) (L (S (zd rfl) (zg (zc (zy (zm (zP (zm ?_)))))))))
          have hb10' : Blk w10 b4 (Zf 1 tx at_) 71 := hb10
          refine yk (rs := [.cell 4 71, .tmp 5, .tmp 6]) [.agg (Zf 1 tx at_).toArray, .int .i64 ((at_ + n : Nat) : Int), .int .i64 4] Tryz.results66 ?_ ?_
          · exact ⟨⟨_, rfl, Zv hb10'⟩, rfl, rfl, trivial⟩
          · exact ⟨⟨_, _, _, rfl⟩, (hm06.no hm7).new hm10 hn1⟩
        · rw [if_neg h12]
          refine zb (L (S (ze ZJ rfl) ?_))
          refine L (zi yc rfl (hb86.cell (i := 1) rfl) ?_)
          refine L (zq cb_108 rfl (hkw) ?_)
          rintro _ w7 ⟨rfl, hm7⟩
          refine L (S (zd rfl) (zg (zc (zf (zb (L (S (za rfl) ?_)))))))
          refine L (S (Z4 rfl rfl (decide_eq_false (fun h => h rfl))) ?_)
          refine zg (zc (zk rfl (zf (zb (L (S (za rfl) (L (S (za rfl) ?_))))))))
          refine L (S (Zd rfl rfl (z1 (c := (n : Int)) (by omega))) ?_)
          refine L (S (yp rfl rfl (decide_eq_false (by omega))) ?_)
          refine zg (zc (zk rfl (zo (zc (zf (zb ?_))))))
          refine L (zB Yo rfl (hb86.no hm7).row rfl ?_)
          refine L (S (za rfl) ?_)
          refine L (zw yD rfl rfl (yM 1 tx at_) rfl (hb46.no hm7) (by exact Nat.le_refl 3) ?_)
          rintro w10 hb10 hm10
          refine L (S (zd rfl) (L (S (zd rfl) (zg (zc (zy (zP (zm ?_))))))))
          have hb10' : Blk w10 b4 (Zf 1 tx at_) 71 := hb10
          refine yk (rs := [.cell 4 71, .tmp 5, .tmp 6]) [.agg (Zf 1 tx at_).toArray, .int .i64 ((at_ + n : Nat) : Int), .int .i64 0] Tryz.results66 ?_ ?_
          · exact ⟨⟨_, rfl, Zv hb10'⟩, rfl, rfl, trivial⟩
          · exact ⟨rfl, (hm06.no hm7).new hm10 hn1⟩
  | false =>
    have hk1 : kdN c.toNat ≠ 1 := fun h => by rw [hkl.1 h] at hlet; cases hlet
    cases hdg : yL c.toNat with
    | true =>
      have hk2 := hkd.2 hdg
      have hnx : ZY big (l.drop at_) = numF big (l.drop at_) := by rw [hdr, ZY, if_neg (by rw [hlet]; decide), if_pos hdg]
      rw [hnx]
      have hN := refnum_ret (w := w3) hpf (hpf.mono _ _ hv hm03) l hT hl at_ hc hdg
      cases hnf : numF big (l.drop at_) with
      | ok k s n =>
        rw [hnf] at hN
        refine zb (L (S (za rfl) (L (S (za rfl) ?_))))
        refine L (S (yi Tryz.underlying9 rfl) ?_)
        refine L (S (zR rfl rfl (decide_eq_false (by omega))) ?_)
        refine zg (zc (zk rfl (zo (zc (zf (zx (zf (zb (L (S (za rfl) (L (S (za rfl) ?_))))))))))))
        refine L (S (zY Tryz.underlying9 rfl rfl (j := at_) rfl (yd hc)) ?_)
        refine L (zq Yp rfl ((hk _)) ?_)
        rintro _ _ ⟨rfl, rfl⟩
        refine L (S (zR rfl rfl (decide_eq_false (by omega))) ?_)
        refine L (S (zd rfl) (zg (zc (zk rfl (zf (zb (L (S (za rfl) (L (S (za rfl) ?_))))))))))
        refine L (S (zY Tryz.underlying9 rfl rfl (j := at_) rfl (yd hc)) ?_)
        refine L (zq Yp rfl ((hk _)) ?_)
        rintro _ _ ⟨rfl, rfl⟩
        refine L (S (zR rfl rfl (decide_eq_true (by omega))) ?_)
        refine L (S (zd rfl) (zg (zc (zr rfl (zf (zb (L (S (za rfl) (L (S (za rfl) ?_))))))))))
        refine L (zq cb_109 rfl (hN) ?_)
        rintro _ w4 ⟨rfl, hm4⟩
        refine L (S (zv rfl rfl) (L (S (zv rfl rfl) (L (S (zv rfl rfl) ?_)))))
        refine L (zw yD rfl rfl (yM k s at_) rfl (hb43.no hm4) (by exact Nat.le_refl 3) ?_)
        rintro w10 hb10 hm10
        refine L (S (zd rfl) (L (S (zd rfl) (zg (zc (zy (zP (zm ?_))))))))
        have hb10' : Blk w10 b4 (Zf k s at_) 71 := hb10
        refine yk (rs := [.cell 4 71, .tmp 5, .tmp 6]) [.agg (Zf k s at_).toArray, .int .i64 ((at_ + n : Nat) : Int), .int .i64 0] Tryz.results66 ?_ ?_
        · exact ⟨⟨_, rfl, Zv hb10'⟩, rfl, rfl, trivial⟩
        · exact ⟨rfl, (hm03.no hm4).new hm10 hn1⟩
      | er e =>
        rw [hnf] at hN
        refine zb (L (S (za rfl) (L (S (za rfl) ?_))))
        refine L (S (yi Tryz.underlying9 rfl) ?_)
        refine L (S (zR rfl rfl (decide_eq_false (by omega))) ?_)
        refine zg (zc (zk rfl (zo (zc (zf (zx (zf (zb (L (S (za rfl) (L (S (za rfl) ?_))))))))))))
        refine L (S (zY Tryz.underlying9 rfl rfl (j := at_) rfl (yd hc)) ?_)
        refine L (zq Yp rfl ((hk _)) ?_)
        rintro _ _ ⟨rfl, rfl⟩
        refine L (S (zR rfl rfl (decide_eq_false (by omega))) ?_)
        refine L (S (zd rfl) (zg (zc (zk rfl (zf (zb (L (S (za rfl) (L (S (za rfl) ?_))))))))))
        refine L (S (zY Tryz.underlying9 rfl rfl (j := at_) rfl (yd hc)) ?_)
        refine L (zq Yp rfl ((hk _)) ?_)
        rintro _ _ ⟨rfl, rfl⟩
        refine L (S (zR rfl rfl (decide_eq_true (by omega))) ?_)
        refine L (S (zd rfl) (zg (zc (zr rfl (zf (zb (L (S (za rfl) (L (S (za rfl) ?_))))))))))
        refine L (zq cb_109 rfl (hN) ?_)
        rintro _ w4 ⟨⟨k, s, rfl⟩, hm4⟩
        refine L (S (zv rfl rfl) (L (S (zv rfl rfl) (L (S (zv rfl rfl) ?_)))))
        refine L (zw yD rfl rfl (yM k s at_) rfl (hb43.no hm4) (by exact Nat.le_refl 3) ?_)
        rintro w10 hb10 hm10
        refine L (S (zd rfl) (L (S (zd rfl) (zg (zc (zy (zP (zm ?_))))))))
        have hb10' : Blk w10 b4 (Zf k s at_) 71 := hb10
        refine yk (rs := [.cell 4 71, .tmp 5, .tmp 6]) [.agg (Zf k s at_).toArray, .int .i64 (at_ : Int), .int .i64 (e : Int)] Tryz.results66 ?_ ?_
        · exact ⟨⟨_, rfl, Zv hb10'⟩, rfl, rfl, trivial⟩
        · exact ⟨⟨_, _, _, rfl⟩, (hm03.no hm4).new hm10 hn1⟩
    | false =>
      have hk2 : kdN c.toNat ≠ 2 := fun h => by rw [hkd.1 h] at hdg; cases hdg
      by_cases h39 : c.toNat = 39
      · have hce : c = 39 := UInt8.toNat_inj.1 h39
        have hnx : ZY big (l.drop at_) = match Zr (l.drop (at_ + 1)) with
          | some (s, n) => .ok 5 s (n + 1)
          | none => .er 10 := by
          rw [hdr, ZY, if_neg (by rw [hlet]; decide), if_neg (by rw [hdg]; decide), if_pos hce]
          cases Zr (l.drop (at_ + 1)) <;> rfl
        rw [hnx]
        have hN := reftext_ret (w := w3) l hl at_ (by omega)
        cases htf : Zr (l.drop (at_ + 1)) with
        | some x =>
          obtain ⟨s, n⟩ := x
          rw [htf] at hN
          dsimp only at hN ⊢
          refine zb (L (S (za rfl) (L (S (za rfl) ?_))))
          refine L (S (yi Tryz.underlying9 rfl) ?_)
          refine L (S (zR rfl rfl (decide_eq_false (by omega))) ?_)
          refine zg (zc (zk rfl (zo (zc (zf (zx (zf (zb (L (S (za rfl) (L (S (za rfl) ?_))))))))))))
          refine L (S (zY Tryz.underlying9 rfl rfl (j := at_) rfl (yd hc)) ?_)
          refine L (zq Yp rfl ((hk _)) ?_)
          rintro _ _ ⟨rfl, rfl⟩
          refine L (S (zR rfl rfl (decide_eq_false (by omega))) ?_)
          refine L (S (zd rfl) (zg (zc (zk rfl (zf (zb (L (S (za rfl) (L (S (za rfl) ?_))))))))))
          refine L (S (zY Tryz.underlying9 rfl rfl (j := at_) rfl (yd hc)) ?_)
          refine L (zq Yp rfl ((hk _)) ?_)
          rintro _ _ ⟨rfl, rfl⟩
          refine L (S (zR rfl rfl (decide_eq_false (by omega))) ?_)
          refine L (S (zd rfl) (zg (zc (zk rfl (zf (zb (L (S (za rfl) (L (S (za rfl) ?_))))))))))
          refine L (S (zY Tryz.underlying9 rfl rfl (j := at_) rfl (yd hc)) ?_)
          refine L (S (zR rfl rfl (decide_eq_true (by omega))) ?_)
          refine L (S (zd rfl) (zg (zc (zr rfl (zf (zb (L (S (za rfl) (L (S (za rfl) ?_))))))))))
          refine L (zq cb_110 rfl (hN) ?_)
          rintro _ w4 ⟨rfl, hm4⟩
          refine L (S (zv rfl rfl) (L (S (zv rfl rfl) (L (S (zv rfl rfl) ?_)))))
          refine L (zw yD rfl rfl (yM 5 s at_) rfl (hb43.no hm4) (by exact Nat.le_refl 3) ?_)
          rintro w10 hb10 hm10
          refine L (S (zd rfl) (L (S (zd rfl) (zg (zc (zy (zP (zm ?_))))))))
          have hb10' : Blk w10 b4 (Zf 5 s at_) 71 := hb10
          refine yk (rs := [.cell 4 71, .tmp 5, .tmp 6]) [.agg (Zf 5 s at_).toArray, .int .i64 ((at_ + (n + 1) : Nat) : Int), .int .i64 0] Tryz.results66 ?_ ?_
          · exact ⟨⟨_, rfl, Zv hb10'⟩, rfl, rfl, trivial⟩
          · exact ⟨rfl, (hm03.no hm4).new hm10 hn1⟩
        | none =>
          rw [htf] at hN
          dsimp only at hN ⊢
          refine zb (L (S (za rfl) (L (S (za rfl) ?_))))
          refine L (S (yi Tryz.underlying9 rfl) ?_)
          refine L (S (zR rfl rfl (decide_eq_false (by omega))) ?_)
          refine zg (zc (zk rfl (zo (zc (zf (zx (zf (zb (L (S (za rfl) (L (S (za rfl) ?_))))))))))))
          refine L (S (zY Tryz.underlying9 rfl rfl (j := at_) rfl (yd hc)) ?_)
          refine L (zq Yp rfl ((hk _)) ?_)
          rintro _ _ ⟨rfl, rfl⟩
          refine L (S (zR rfl rfl (decide_eq_false (by omega))) ?_)
          refine L (S (zd rfl) (zg (zc (zk rfl (zf (zb (L (S (za rfl) (L (S (za rfl) ?_))))))))))
          refine L (S (zY Tryz.underlying9 rfl rfl (j := at_) rfl (yd hc)) ?_)
          refine L (zq Yp rfl ((hk _)) ?_)
          rintro _ _ ⟨rfl, rfl⟩
          refine L (S (zR rfl rfl (decide_eq_false (by omega))) ?_)
          refine L (S (zd rfl) (zg (zc (zk rfl (zf (zb (L (S (za rfl) (L (S (za rfl) ?_))))))))))
          refine L (S (zY Tryz.underlying9 rfl rfl (j := at_) rfl (yd hc)) ?_)
          refine L (S (zR rfl rfl (decide_eq_true (by omega))) ?_)
          refine L (S (zd rfl) (zg (zc (zr rfl (zf (zb (L (S (za rfl) (L (S (za rfl) ?_))))))))))
          refine L (zq cb_110 rfl (hN) ?_)
          rintro _ w4 ⟨⟨k, s, rfl⟩, hm4⟩
          refine L (S (zv rfl rfl) (L (S (zv rfl rfl) (L (S (zv rfl rfl) ?_)))))
          refine L (zw yD rfl rfl (yM k s at_) rfl (hb43.no hm4) (by exact Nat.le_refl 3) ?_)
          rintro w10 hb10 hm10
          refine L (S (zd rfl) (L (S (zd rfl) (zg (zc (zy (zP (zm ?_))))))))
          have hb10' : Blk w10 b4 (Zf k s at_) 71 := hb10
          refine yk (rs := [.cell 4 71, .tmp 5, .tmp 6]) [.agg (Zf k s at_).toArray, .int .i64 (at_ : Int), .int .i64 10] Tryz.results66 ?_ ?_
          · exact ⟨⟨_, rfl, Zv hb10'⟩, rfl, rfl, trivial⟩
          · exact ⟨⟨_, _, _, rfl⟩, (hm03.no hm4).new hm10 hn1⟩
      · have hce : c ≠ 39 := fun h => h39 (by rw [h]; rfl)
        have hnx : ZY big (l.drop at_) = if (l.drop at_).take 2 ∈ twoL then .ok 6 ((l.drop at_).take 2) 2 else if c ∈ signL then .ok 6 [c] 1 else .er 100 := by
          rw [hdr, ZY, if_neg (by rw [hlet]; decide), if_neg (by rw [hdg]; decide), if_neg hce]
        rw [hnx]
        clear hnx
        refine zb (L (S (za rfl) (L (S (za rfl) ?_))))
        refine L (S (yi Tryz.underlying9 rfl) ?_)
        refine L (S (zR rfl rfl (decide_eq_false (by omega))) ?_)
        refine zg (zc (zk rfl (zo (zc (zf (zx (zf (zb (L (S (za rfl) (L (S (za rfl) ?_))))))))))))
        refine L (S (zY Tryz.underlying9 rfl rfl (j := at_) rfl (yd hc)) ?_)
        refine L (zq Yp rfl ((hk _)) ?_)
        rintro _ _ ⟨rfl, rfl⟩
        refine L (S (zR rfl rfl (decide_eq_false (by omega))) ?_)
        refine L (S (zd rfl) (zg (zc (zk rfl (zf (zb (L (S (za rfl) (L (S (za rfl) ?_))))))))))
        refine L (S (zY Tryz.underlying9 rfl rfl (j := at_) rfl (yd hc)) ?_)
        refine L (zq Yp rfl ((hk _)) ?_)
        rintro _ _ ⟨rfl, rfl⟩
        refine L (S (zR rfl rfl (decide_eq_false (by omega))) ?_)
        refine L (S (zd rfl) (zg (zc (zk rfl (zf (zb (L (S (za rfl) (L (S (za rfl) ?_))))))))))
        refine L (S (zY Tryz.underlying9 rfl rfl (j := at_) rfl (yd hc)) ?_)
        refine L (S (zR rfl rfl (decide_eq_false (by omega))) ?_)
        refine L (S (zd rfl) (zg (zc (zk rfl (zo (yj (zc (zf (zb (L (S (ze Yc rfl) ?_)))))))))))
        refine L (yv Yf rfl rfl rfl hb83 (by show 0 < 3; omega) ?_)
        rintro w4 hb84 hm4
        refine zg (zc (zf (zf ?_)))
        have hb84' : Blk w4 b8 (Zf 6 [] at_) 71 := hb84
        have hb44 := hb43.mv hm4 h48
        have hm04 := hm03.new hm4 hn8
        clear hb84 hb83 hb43
        have hlt2 : ∀ e, l[at_ + 1]? = some e → (l.drop at_).take 2 = [c, e] := fun e he => by rw [hdr, drop_cons he]; rfl
        refine ZG (γ := Unit) (fun _ => [(0, .string (str l)), (1, .int .i64 (at_ : Int)), (4, .pointer (some ⟨b4, 0, none⟩)), (7, .pointer (some ⟨b8, 0, none⟩)), (121, .bool (decide ((l.drop at_).take 2 ∈ twoL)))]) (fun _ wc => wc = w4) ?_ ?_
        · by_cases h1 : at_ + 1 < l.length
          · have he := List.getElem?_eq_getElem h1
            generalize l[at_ + 1] = e at he
            have h2 := hlt2 e he
            have hcut : (str l).extract at_ (at_ + 2) = str [c, e] := by rw [cut_str, Nat.add_sub_cancel_left, h2]
            rw [h2]
            by_cases q1 : [c, e] = [60, 62]
            · rw [decide_eq_true (show [c, e] ∈ twoL by rw [q1]; decide)]
              refine zb (L (S (za rfl) ?_))
              refine L (S (zT rfl rfl (z1 (c := ((at_ + 1 : Nat) : Int)) (by omega))) ?_)
              refine L (S (za rfl) ?_)
              refine L (S (yi Tryz.underlying9 rfl) ?_)
              refine L (S (zG rfl rfl (decide_eq_true (by omega))) ?_)
              refine L (S (za rfl) (zh (j := 5) (dj := 98) (b := true) (S (za rfl) (zh (j := 5) (dj := 98) (b := true) (S (za rfl) (zh (j := 5) (dj := 98) (b := true) (S (za rfl) ?_) rfl)) rfl)) rfl))
              refine zh (j := 5) (dj := 98) (b := true) (S (zT rfl rfl (z1 (c := ((at_ + 2 : Nat) : Int)) (by omega))) ?_) rfl
              refine zh (j := 5) (dj := 98) (b := true) (S (yQ Tryz.underlying9 rfl (zV (j := at_) rfl rfl) (zV (j := at_ + 2) rfl rfl) (by omega) (by omega) hcut) ?_) rfl
              refine zh (j := 5) (dj := 98) (b := true) (S (ZR rfl rfl (decide_eq_true (by rw [q1]; rfl))) ?_) rfl
              refine zh (j := 5) (dj := 98) (b := true) (S (za rfl) (zl (j := 12) (dj := 105) (b := false) (b' := true) (d := 106) rfl (zl (j := 12) (dj := 105) (b := false) (b' := true) (d := 107) rfl (zl (j := 12) (dj := 105) (b := false) (b' := true) (d := 108) rfl (zl (j := 12) (dj := 105) (b := false) (b' := true) (d := 109) rfl (zl (j := 12) (dj := 105) (b := false) (b' := true) (d := 110) rfl (zl (j := 12) (dj := 105) (b := false) (b' := true) (d := 111) rfl (zh (j := 5) (dj := 98) (b := true) (S (zt rfl rfl) (zh (j := 5) (dj := 98) (b := true) (S (za rfl) (zl (j := 20) (dj := 113) (b := false) (b' := true) (d := 114) rfl (zl (j := 20) (dj := 113) (b := false) (b' := true) (d := 115) rfl (zl (j := 20) (dj := 113) (b := false) (b' := true) (d := 116) rfl (zl (j := 20) (dj := 113) (b := false) (b' := true) (d := 117) rfl (zl (j := 20) (dj := 113) (b := false) (b' := true) (d := 118) rfl (zl (j := 20) (dj := 113) (b := false) (b' := true) (d := 119) rfl (zh (j := 5) (dj := 98) (b := true) (S (zt rfl rfl) (L (S (zt rfl rfl) (zg (zc ?_))))) rfl)))))))) rfl)) rfl)))))))) rfl
              exact ⟨rfl, (), (.cons rfl (.cons rfl (.cons rfl (.cons rfl (.cons rfl (.nil _)))))), rfl⟩
            by_cases q2 : [c, e] = [60, 61]
            · rw [decide_eq_true (show [c, e] ∈ twoL by rw [q2]; decide)]
              refine zb (L (S (za rfl) ?_))
              refine L (S (zT rfl rfl (z1 (c := ((at_ + 1 : Nat) : Int)) (by omega))) ?_)
              refine L (S (za rfl) ?_)
              refine L (S (yi Tryz.underlying9 rfl) ?_)
              refine L (S (zG rfl rfl (decide_eq_true (by omega))) ?_)
              refine L (S (za rfl) (zh (j := 5) (dj := 98) (b := true) (S (za rfl) (zh (j := 5) (dj := 98) (b := true) (S (za rfl) (zh (j := 5) (dj := 98) (b := true) (S (za rfl) ?_) rfl)) rfl)) rfl))
              refine zh (j := 5) (dj := 98) (b := true) (S (zT rfl rfl (z1 (c := ((at_ + 2 : Nat) : Int)) (by omega))) ?_) rfl
              refine zh (j := 5) (dj := 98) (b := true) (S (yQ Tryz.underlying9 rfl (zV (j := at_) rfl rfl) (zV (j := at_ + 2) rfl rfl) (by omega) (by omega) hcut) ?_) rfl
              refine zh (j := 5) (dj := 98) (b := true) (S (ZR rfl rfl (decide_eq_false (fun h => q1 (ZH (b := [60, 62]) h)))) ?_) rfl
              refine zh (j := 5) (dj := 98) (b := true) (S (za rfl) (zh (j := 12) (dj := 105) (b := false) (S (za rfl) (zh (j := 12) (dj := 105) (b := false) (S (za rfl) (zh (j := 12) (dj := 105) (b := false) (S (za rfl) ?_) rfl)) rfl)) rfl)) rfl
              refine zh (j := 12) (dj := 105) (b := false) (S (zT rfl rfl (z1 (c := ((at_ + 2 : Nat) : Int)) (by omega))) ?_) rfl
              refine zh (j := 12) (dj := 105) (b := false) (S (yQ Tryz.underlying9 rfl (zV (j := at_) rfl rfl) (zV (j := at_ + 2) rfl rfl) (by omega) (by omega) hcut) ?_) rfl
              refine zh (j := 12) (dj := 105) (b := false) (S (ZR rfl rfl (decide_eq_true (by rw [q2]; rfl))) ?_) rfl
              refine zh (j := 5) (dj := 98) (b := true) (S (zj rfl rfl) (zh (j := 5) (dj := 98) (b := true) (S (za rfl) (zl (j := 20) (dj := 113) (b := false) (b' := true) (d := 114) rfl (zl (j := 20) (dj := 113) (b := false) (b' := true) (d := 115) rfl (zl (j := 20) (dj := 113) (b := false) (b' := true) (d := 116) rfl (zl (j := 20) (dj := 113) (b := false) (b' := true) (d := 117) rfl (zl (j := 20) (dj := 113) (b := false) (b' := true) (d := 118) rfl (zl (j := 20) (dj := 113) (b := false) (b' := true) (d := 119) rfl (zh (j := 5) (dj := 98) (b := true) (S (zt rfl rfl) (L (S (zt rfl rfl) (zg (zc ?_))))) rfl)))))))) rfl)) rfl
              exact ⟨rfl, (), (.cons rfl (.cons rfl (.cons rfl (.cons rfl (.cons rfl (.nil _)))))), rfl⟩
            by_cases q3 : [c, e] = [62, 61]
            · rw [decide_eq_true (show [c, e] ∈ twoL by rw [q3]; decide)]
              refine zb (L (S (za rfl) ?_))
              refine L (S (zT rfl rfl (z1 (c := ((at_ + 1 : Nat) : Int)) (by omega))) ?_)
              refine L (S (za rfl) ?_)
              refine L (S (yi Tryz.underlying9 rfl) ?_)
              refine L (S (zG rfl rfl (decide_eq_true (by omega))) ?_)
              refine L (S (za rfl) (zh (j := 5) (dj := 98) (b := true) (S (za rfl) (zh (j := 5) (dj := 98) (b := true) (S (za rfl) (zh (j := 5) (dj := 98) (b := true) (S (za rfl) ?_) rfl)) rfl)) rfl))
              refine zh (j := 5) (dj := 98) (b := true) (S (zT rfl rfl (z1 (c := ((at_ + 2 : Nat) : Int)) (by omega))) ?_) rfl
              refine zh (j := 5) (dj := 98) (b := true) (S (yQ Tryz.underlying9 rfl (zV (j := at_) rfl rfl) (zV (j := at_ + 2) rfl rfl) (by omega) (by omega) hcut) ?_) rfl
              refine zh (j := 5) (dj := 98) (b := true) (S (ZR rfl rfl (decide_eq_false (fun h => q1 (ZH (b := [60, 62]) h)))) ?_) rfl
              refine zh (j := 5) (dj := 98) (b := true) (S (za rfl) (zh (j := 12) (dj := 105) (b := false) (S (za rfl) (zh (j := 12) (dj := 105) (b := false) (S (za rfl) (zh (j := 12) (dj := 105) (b := false) (S (za rfl) ?_) rfl)) rfl)) rfl)) rfl
              refine zh (j := 12) (dj := 105) (b := false) (S (zT rfl rfl (z1 (c := ((at_ + 2 : Nat) : Int)) (by omega))) ?_) rfl
              refine zh (j := 12) (dj := 105) (b := false) (S (yQ Tryz.underlying9 rfl (zV (j := at_) rfl rfl) (zV (j := at_ + 2) rfl rfl) (by omega) (by omega) hcut) ?_) rfl
              refine zh (j := 12) (dj := 105) (b := false) (S (ZR rfl rfl (decide_eq_false (fun h => q2 (ZH (b := [60, 61]) h)))) ?_) rfl
              refine zh (j := 5) (dj := 98) (b := true) (S (zj rfl rfl) (zh (j := 5) (dj := 98) (b := true) (S (za rfl) (zh (j := 20) (dj := 113) (b := false) (S (za rfl) (zh (j := 20) (dj := 113) (b := false) (S (za rfl) (zh (j := 20) (dj := 113) (b := false) (S (za rfl) ?_) rfl)) rfl)) rfl)) rfl)) rfl
              refine zh (j := 20) (dj := 113) (b := false) (S (zT rfl rfl (z1 (c := ((at_ + 2 : Nat) : Int)) (by omega))) ?_) rfl
              refine zh (j := 20) (dj := 113) (b := false) (S (yQ Tryz.underlying9 rfl (zV (j := at_) rfl rfl) (zV (j := at_ + 2) rfl rfl) (by omega) (by omega) hcut) ?_) rfl
              refine zh (j := 20) (dj := 113) (b := false) (S (ZR rfl rfl (decide_eq_true (by rw [q3]; rfl))) ?_) rfl
              refine zh (j := 5) (dj := 98) (b := true) (S (zj rfl rfl) (L (S (zt rfl rfl) (zg (zc ?_))))) rfl
              exact ⟨rfl, (), (.cons rfl (.cons rfl (.cons rfl (.cons rfl (.cons rfl (.nil _)))))), rfl⟩
            · rw [decide_eq_false (show ¬ [c, e] ∈ twoL by
                intro h
                simp only [twoL, List.mem_cons, List.not_mem_nil, or_false] at h
                rcases h with h | h | h
                · exact q1 h
                · exact q2 h
                · exact q3 h)]
              refine zb (L (S (za rfl) ?_))
              refine L (S (zT rfl rfl (z1 (c := ((at_ + 1 : Nat) : Int)) (by omega))) ?_)
              refine L (S (za rfl) ?_)
              refine L (S (yi Tryz.underlying9 rfl) ?_)
              refine L (S (zG rfl rfl (decide_eq_true (by omega))) ?_)
              refine L (S (za rfl) (zh (j := 5) (dj := 98) (b := true) (S (za rfl) (zh (j := 5) (dj := 98) (b := true) (S (za rfl) (zh (j := 5) (dj := 98) (b := true) (S (za rfl) ?_) rfl)) rfl)) rfl))
              refine zh (j := 5) (dj := 98) (b := true) (S (zT rfl rfl (z1 (c := ((at_ + 2 : Nat) : Int)) (by omega))) ?_) rfl
              refine zh (j := 5) (dj := 98) (b := true) (S (yQ Tryz.underlying9 rfl (zV (j := at_) rfl rfl) (zV (j := at_ + 2) rfl rfl) (by omega) (by omega) hcut) ?_) rfl
              refine zh (j := 5) (dj := 98) (b := true) (S (ZR rfl rfl (decide_eq_false (fun h => q1 (ZH (b := [60, 62]) h)))) ?_) rfl
              refine zh (j := 5) (dj := 98) (b := true) (S (za rfl) (zh (j := 12) (dj := 105) (b := false) (S (za rfl) (zh (j := 12) (dj := 105) (b := false) (S (za rfl) (zh (j := 12) (dj := 105) (b := false) (S (za rfl) ?_) rfl)) rfl)) rfl)) rfl
              refine zh (j := 12) (dj := 105) (b := false) (S (zT rfl rfl (z1 (c := ((at_ + 2 : Nat) : Int)) (by omega))) ?_) rfl
              refine zh (j := 12) (dj := 105) (b := false) (S (yQ Tryz.underlying9 rfl (zV (j := at_) rfl rfl) (zV (j := at_ + 2) rfl rfl) (by omega) (by omega) hcut) ?_) rfl
              refine zh (j := 12) (dj := 105) (b := false) (S (ZR rfl rfl (decide_eq_false (fun h => q2 (ZH (b := [60, 61]) h)))) ?_) rfl
              refine zh (j := 5) (dj := 98) (b := true) (S (zj rfl rfl) (zh (j := 5) (dj := 98) (b := true) (S (za rfl) (zh (j := 20) (dj := 113) (b := false) (S (za rfl) (zh (j := 20) (dj := 113) (b := false) (S (za rfl) (zh (j := 20) (dj := 113) (b := false) (S (za rfl) ?_) rfl)) rfl)) rfl)) rfl)) rfl
              refine zh (j := 20) (dj := 113) (b := false) (S (zT rfl rfl (z1 (c := ((at_ + 2 : Nat) : Int)) (by omega))) ?_) rfl
              refine zh (j := 20) (dj := 113) (b := false) (S (yQ Tryz.underlying9 rfl (zV (j := at_) rfl rfl) (zV (j := at_ + 2) rfl rfl) (by omega) (by omega) hcut) ?_) rfl
              refine zh (j := 20) (dj := 113) (b := false) (S (ZR rfl rfl (decide_eq_false (fun h => q3 (ZH (b := [62, 61]) h)))) ?_) rfl
              refine zh (j := 5) (dj := 98) (b := true) (S (zj rfl rfl) (L (S (zt rfl rfl) (zg (zc ?_))))) rfl
              exact ⟨rfl, (), (.cons rfl (.cons rfl (.cons rfl (.cons rfl (.cons rfl (.nil _)))))), rfl⟩
          · have h2 : ¬ (l.drop at_).take 2 ∈ twoL := by
              rw [hdr, List.drop_eq_nil_of_le (by omega)]
              intro h
              simp [twoL] at h
            rw [decide_eq_false h2]
            refine zb (L (S (za rfl) ?_))
            refine L (S (zT rfl rfl (z1 (c := ((at_ + 1 : Nat) : Int)) (by omega))) ?_)
            refine L (S (za rfl) ?_)
            refine L (S (yi Tryz.underlying9 rfl) ?_)
            refine L (S (zG rfl rfl (decide_eq_false (by omega))) ?_)
            refine L (S (za rfl) (zl (j := 5) (dj := 98) (b := true) (b' := false) (d := 99) rfl (zl (j := 5) (dj := 98) (b := true) (b' := false) (d := 100) rfl (zl (j := 5) (dj := 98) (b := true) (b' := false) (d := 101) rfl (zl (j := 5) (dj := 98) (b := true) (b' := false) (d := 102) rfl (zl (j := 5) (dj := 98) (b := true) (b' := false) (d := 103) rfl (zl (j := 5) (dj := 98) (b := true) (b' := false) (d := 104) rfl (zl (j := 5) (dj := 98) (b := true) (b' := false) (d := 105) rfl (ZE (j := 12) (dj := 105) (b := false) (d := 106) rfl (ZE (j := 12) (dj := 105) (b := false) (d := 107) rfl (ZE (j := 12) (dj := 105) (b := false) (d := 108) rfl (ZE (j := 12) (dj := 105) (b := false) (d := 109) rfl (ZE (j := 12) (dj := 105) (b := false) (d := 110) rfl (ZE (j := 12) (dj := 105) (b := false) (d := 111) rfl (zl (j := 5) (dj := 98) (b := true) (b' := false) (d := 112) rfl (zl (j := 5) (dj := 98) (b := true) (b' := false) (d := 113) rfl (ZE (j := 20) (dj := 113) (b := false) (d := 114) rfl (ZE (j := 20) (dj := 113) (b := false) (d := 115) rfl (ZE (j := 20) (dj := 113) (b := false) (d := 116) rfl (ZE (j := 20) (dj := 113) (b := false) (d := 117) rfl (ZE (j := 20) (dj := 113) (b := false) (d := 118) rfl (ZE (j := 20) (dj := 113) (b := false) (d := 119) rfl (zl (j := 5) (dj := 98) (b := true) (b' := false) (d := 120) rfl (L (S (zj rfl rfl) ?_)))))))))))))))))))))))))
            refine zg (zc ?_)
            exact ⟨rfl, (), (.cons rfl (.cons rfl (.cons rfl (.cons rfl (.cons rfl (.nil _)))))), rfl⟩
        rintro _ wz rfl f' hf'
        refine Zb hf' ?_
        clear hf' f'
        by_cases htwo : (l.drop at_).take 2 ∈ twoL
        · have hlen2 : at_ + 2 ≤ l.length := by
            have h2 : ((l.drop at_).take 2).length = 2 := by
              simp only [twoL, List.mem_cons, List.not_mem_nil, or_false] at htwo
              rcases htwo with ht | ht | ht <;> rw [ht] <;> rfl
            rw [List.length_take, List.length_drop] at h2
            omega
          have hcut : (str l).extract at_ (at_ + 2) = str ((l.drop at_).take 2) := by rw [cut_str, Nat.add_sub_cancel_left]
          rw [if_pos htwo, decide_eq_true htwo]
          generalize (l.drop at_).take 2 = tx at *
          refine zr rfl (zf (zb (L (S (za rfl) (L (S (za rfl) (L (S (za rfl) ?_))))))))
          refine L (S (zT rfl rfl (z1 (c := ((at_ + 2 : Nat) : Int)) (by omega))) ?_)
          refine L (S (yQ Tryz.underlying9 rfl (zV (j := at_) rfl rfl) (zV (j := at_ + 2) rfl rfl) (by omega) (by omega) hcut) ?_)
          refine L (S (ze ZJ rfl) ?_)
          refine L (yv ti_9 rfl rfl rfl hb84' (by show 1 < 3; omega) ?_)
          rintro w9 hb9 hm9
          refine zg (zc (zf (zb ?_)))
          refine L (zB Yo rfl (show Blk w9 b8 (Zf 6 tx at_) 71 from hb9).row rfl ?_)
          refine L (S (za rfl) ?_)
          refine L (S (zT rfl rfl (z1 (c := ((at_ + 2 : Nat) : Int)) (by omega))) ?_)
          refine L (zw yD rfl rfl (yM 6 tx at_) rfl (hb44.mv hm9 h48) (by exact Nat.le_refl 3) ?_)
          rintro w10 hb10 hm10
          refine L (S (zd rfl) (L (S (zd rfl) (zg (zc (zy (zm ?_)))))))
          have hb10' : Blk w10 b4 (Zf 6 tx at_) 71 := hb10
          refine yk (rs := [.cell 4 71, .tmp 5, .tmp 6]) [.agg (Zf 6 tx at_).toArray, .int .i64 ((at_ + 2 : Nat) : Int), .int .i64 0] Tryz.results66 ?_ ?_
          · exact ⟨⟨_, rfl, Zv hb10'⟩, rfl, rfl, trivial⟩
          · exact ⟨rfl, (hm04.new hm9 hn8).new hm10 hn1⟩
        · rw [if_neg htwo, decide_eq_false htwo]
          refine zk rfl (zo (zc (zf (zb (L (S (zd rfl) (zg (zc (zf (zf (zb (L (S (zd rfl) (zg (zc (zx ?_))))))))))))))))
          refine yF (γ := Nat) (fun i => [(0, .string (str l)), (1, .int .i64 (at_ : Int)), (4, .pointer (some ⟨b4, 0, none⟩)), (7, .pointer (some ⟨b8, 0, none⟩)), (10, .string (str signL)), (11, .int .i64 (i : Int))]) (fun i wr => Mv No wz wr ∧ i ≤ 11 ∧ ∀ j, j < i → signL[j]? ≠ some c) (fun i => 11 - i) 0 (.cons rfl (.cons rfl (.cons rfl (.cons rfl (.cons rfl (.cons rfl (.nil _))))))) ⟨Mv.refl wz, by omega, fun j hj => absurd hj (Nat.not_lt_zero j)⟩ ?_
          rintro i wr ⟨hmz, hi, hall⟩
          replace hb84' := hb84'.no hmz
          replace hb44 := hb44.no hmz
          replace hm04 := hm04.no hmz
          have hss : (str signL).size = 11 := rfl
          by_cases hi11 : i < 11
          · obtain ⟨d, hd⟩ := sign_at i hi11
            by_cases hdc : d.toNat = c.toNat
            · have hdc' : d = c := UInt8.toNat_inj.1 hdc
              have hmem : c ∈ signL := by rw [← hdc']; exact List.mem_of_getElem? hd
              have hcut : (str l).extract at_ (at_ + 1) = str [c] := by
                rw [cut_str, Nat.add_sub_cancel_left, hdr]
                rfl
              rw [if_pos hmem]
              refine zf (zf (zb (L (S (za rfl) (L (S (za rfl) ?_))))))
              refine L (S (yi Tryz.underlying9 rfl) ?_)
              refine L (S (zG rfl rfl (decide_eq_true (by omega))) ?_)
              refine zg (zc (zr rfl (zo (zc (zf (zx (zf ?_)))))))
              refine ZT 7 mixed rfl ?_
              refine zF (i := 0) rfl (za rfl) ?_ (by decide +kernel) (by decide +kernel) (by decide +kernel) (fun _ _ _ _ h => h) rfl rfl rfl
              refine zF (i := 1) rfl (za rfl) ?_ (by decide +kernel) (by decide +kernel) (by decide +kernel) (fun _ _ _ _ h => h) rfl rfl rfl
              refine zF (i := 2) rfl (zY Tryz.underlying9 rfl rfl (j := i) rfl (yd hd)) ?_ (by decide +kernel) (by decide +kernel) (by decide +kernel) (fun _ _ _ _ h => h) rfl rfl rfl
              refine zF (i := 3) rfl (za rfl) ?_ (by decide +kernel) (by decide +kernel) (by decide +kernel) (fun _ _ _ _ h => h) rfl rfl rfl
              refine zF (i := 4) rfl (za rfl) ?_ (by decide +kernel) (by decide +kernel) (by decide +kernel) (fun _ _ _ _ h => h) rfl rfl rfl
              refine zF (i := 5) rfl (zY Tryz.underlying9 rfl rfl (j := at_) rfl (yd hc)) ?_ (by decide +kernel) (by decide +kernel) (by decide +kernel) (fun _ _ _ _ h => h) rfl rfl rfl
              refine zF (i := 6) rfl (zR rfl rfl (decide_eq_true (by omega))) ?_ (by decide +kernel) (by decide +kernel) (by decide +kernel) (fun _ _ _ _ h => h) rfl rfl rfl
              refine yH (by decide +kernel) ?_
              refine zc (zr rfl (zf (zb (L (S (za rfl) (L (S (za rfl) (L (S (za rfl) ?_)))))))))
              refine L (S (zT rfl rfl (z1 (c := ((at_ + 1 : Nat) : Int)) (by omega))) ?_)
              refine L (S (yQ Tryz.underlying9 rfl (zV (j := at_) rfl rfl) (zV (j := at_ + 1) rfl rfl) (by omega) (by omega) hcut) ?_)
              refine L (S (ze ZJ rfl) ?_)
              refine L (yv ti_9 rfl rfl rfl (hb84'.no (Mv.refl _).drew) (by show 1 < 3; omega) ?_)
              rintro w9 hb9 hm9
              refine zg (zc (zf (zb ?_)))
              refine L (zB Yo rfl (show Blk w9 b8 (Zf 6 [c] at_) 71 from hb9).row rfl ?_)
              refine L (S (za rfl) ?_)
              refine L (S (zT rfl rfl (z1 (c := ((at_ + 1 : Nat) : Int)) (by omega))) ?_)
              refine L (zw yD rfl rfl (yM 6 [c] at_) rfl ((hb44.no (Mv.refl _).drew).mv hm9 h48) (by exact Nat.le_refl 3) ?_)
              rintro w10 hb10 hm10
              refine L (S (zd rfl) (L (S (zd rfl) (zg (zc (zy (zP (zm (zm (zP (zm ?_)))))))))))
              have hb10' : Blk w10 b4 (Zf 6 [c] at_) 71 := hb10
              refine yk (rs := [.cell 4 71, .tmp 5, .tmp 6]) [.agg (Zf 6 [c] at_).toArray, .int .i64 ((at_ + 1 : Nat) : Int), .int .i64 0] Tryz.results66 ?_ ?_
              · exact ⟨⟨_, rfl, Zv hb10'⟩, rfl, rfl, trivial⟩
              · exact ⟨rfl, (hm04.drew.new hm9 hn8).new hm10 hn1⟩
            · refine zf (zf (zb (L (S (za rfl) (L (S (za rfl) ?_))))))
              refine L (S (yi Tryz.underlying9 rfl) ?_)
              refine L (S (zG rfl rfl (decide_eq_true (by omega))) ?_)
              refine zg (zc (zr rfl (zo (zc (zf (zx (zf ?_)))))))
              refine ZT 7 mixed rfl ?_
              refine zF (i := 0) rfl (za rfl) ?_ (by decide +kernel) (by decide +kernel) (by decide +kernel) (fun _ _ _ _ h => h) rfl rfl rfl
              refine zF (i := 1) rfl (za rfl) ?_ (by decide +kernel) (by decide +kernel) (by decide +kernel) (fun _ _ _ _ h => h) rfl rfl rfl
              refine zF (i := 2) rfl (zY Tryz.underlying9 rfl rfl (j := i) rfl (yd hd)) ?_ (by decide +kernel) (by decide +kernel) (by decide +kernel) (fun _ _ _ _ h => h) rfl rfl rfl
              refine zF (i := 3) rfl (za rfl) ?_ (by decide +kernel) (by decide +kernel) (by decide +kernel) (fun _ _ _ _ h => h) rfl rfl rfl
              refine zF (i := 4) rfl (za rfl) ?_ (by decide +kernel) (by decide +kernel) (by decide +kernel) (fun _ _ _ _ h => h) rfl rfl rfl
              refine zF (i := 5) rfl (zY Tryz.underlying9 rfl rfl (j := at_) rfl (yd hc)) ?_ (by decide +kernel) (by decide +kernel) (by decide +kernel) (fun _ _ _ _ h => h) rfl rfl rfl
              refine zF (i := 6) rfl (zR rfl rfl (decide_eq_false (by omega))) ?_ (by decide +kernel) (by decide +kernel) (by decide +kernel) (fun _ _ _ _ h => h) rfl rfl rfl
              refine yH (by decide +kernel) ?_
              refine zc (zk rfl (zo (yj (zc (zb (L (S (za rfl) ?_)))))))
              refine L (S (zT rfl rfl (z1 (c := ((i + 1 : Nat) : Int)) (by omega))) ?_)
              refine L (S (zd rfl) (zg (zc ?_)))
              exact ⟨rfl, i + 1, (.cons rfl (.cons rfl (.cons rfl (.cons rfl (.cons rfl (.cons rfl (.nil _))))))), ⟨hmz.drew, by omega, fun j hj => by
                by_cases hji : j = i
                · subst hji
                  rw [hd]
                  intro h
                  exact hdc (by rw [Option.some.inj h])
                · exact hall j (by omega)⟩, by omega⟩
          · have hmem : ¬ c ∈ signL := fun h => by
              obtain ⟨j, hj⟩ := List.mem_iff_getElem?.1 h
              have hjl := (List.getElem?_eq_some_iff.1 hj).1
              have : signL.length = 11 := rfl
              exact hall j (by omega) hj
            rw [if_neg hmem]
            refine zf (zf (zb (L (S (za rfl) (L (S (za rfl) ?_))))))
            refine L (S (yi Tryz.underlying9 rfl) ?_)
            refine L (S (zG rfl rfl (decide_eq_false (by omega))) ?_)
            refine zg (zc (zk rfl (yn (zL (zL (yK (zc (zf (zb ?_)))))))))
            refine L (zB Yo rfl hb84'.row rfl ?_)
            refine L (S (za rfl) ?_)
            refine L (zw yD rfl rfl (yM 6 [] at_) rfl hb44 (by exact Nat.le_refl 3) ?_)
            rintro w10 hb10 hm10
            refine L (S (zd rfl) (L (S (zd rfl) (zg (zc (zy ?_))))))
            have hb10' : Blk w10 b4 (Zf 6 [] at_) 71 := hb10
            refine yk (rs := [.cell 4 71, .tmp 5, .tmp 6]) [.agg (Zf 6 [] at_).toArray, .int .i64 (at_ : Int), .int .i64 100] Tryz.results66 ?_ ?_
            · exact ⟨⟨_, rfl, Zv hb10'⟩, rfl, rfl, trivial⟩
            · exact ⟨⟨_, _, _, rfl⟩, hm04.new hm10 hn1⟩
end
end Go.Proofs.YtnoioimphcmeiaaGreatDoor
namespace Go.Proofs.YtnoioimphcmeiaaGreatDoor
open Go.RowKit
set_option maxRecDepth 20000

section
variable {w : World}
set_option maxHeartbeats 2000000 in
theorem reflex_ret {big : List UInt8 → Bool} {V : World → Prop} {T : List UInt8 → Prop} (hpf : PF big V T) (hv : V w) (l : List UInt8) (hT : InT T l) (hl : l.length ≤ 100000) (most : Int) :
    Ret Tryz.prog 32 [.string (str l), .int .i64 most] w fun v w' => (if most < l.length then v = .tuple #[.slice none 0 0, .int .i64 0, .int .i64 4] else LexOut w' v (lexA big l)) ∧ Mv No w w' := by
  have hsz := yR l
  refine zN Tryz.func32 Tryz.ntmps32 rfl rfl ?_
  refine zf (zb (L (S (zd rfl) (L (S (zd rfl) (L (S (zd rfl) (zg (zc (zf (zf ?_)))))))))))
  by_cases hm : most < l.length
  · refine zb (L (S (za rfl) ?_))
    refine L (S (yi Tryz.underlying9 rfl) ?_)
    refine L (S (za rfl) ?_)
    refine L (S (yp rfl rfl (decide_eq_true (by omega))) ?_)
    refine zg (zc (zr rfl (zf (zb (L (S (zd rfl) (L (S (zd rfl) (L (S (zd rfl) (zg (zc (zy (zm ?_))))))))))))))
    refine Yv Tryz.results32 rfl rfl rfl ?_
    exact ⟨by rw [if_pos hm], Mv.refl w⟩
  refine zb (L (S (za rfl) ?_))
  refine L (S (yi Tryz.underlying9 rfl) ?_)
  refine L (S (za rfl) ?_)
  refine L (S (yp rfl rfl (decide_eq_false (by omega))) ?_)
  refine zg (zc (zk rfl (zo (zc (zf (zb (L (S (zd rfl) (zg (zc (zf (zb (L (S (zd rfl) (zg (zc (zx ?_)))))))))))))))))
  refine yF (γ := Nat × Nat × List Tk × Value) (fun q => [(0, .string (str l)), (7, q.2.2.2), (8, .int .i64 (q.1 : Int))]) (fun q wr => q.1 ≤ l.length ∧ l.length - q.1 < q.2.1 ∧ lexA big l = (q.2.2.1 ++ (lexF big q.2.1 (l.drop q.1) q.1).1, (lexF big q.2.1 (l.drop q.1) q.1).2) ∧ wr.ownsRow w.heap.size 71 3 q.2.2.2 q.2.2.1.length (flat q.2.2.1) ∧ q.2.2.1.length ≤ q.1 ∧ Mv No w wr) (fun q => q.2.1) (0, l.length + 1, [], .slice none 0 0) (.cons rfl (.cons rfl (.cons rfl (.nil _)))) ⟨Nat.zero_le _, by dsimp only; omega, by simp [lexA], Yl, Nat.le_refl _, Mv.refl w⟩ ?_
  rintro ⟨at_, fuel, done, v7⟩ wr ⟨ha, hfu, hall, hown, hdl, hmr⟩
  dsimp only at ha hfu hall hown hdl
  obtain ⟨fu, rfl⟩ : ∃ f, fuel = f + 1 := ⟨fuel - 1, by omega⟩
  have hsp := Yr YA (l.drop at_)
  rw [List.length_drop] at hsp
  dsimp only
  refine zx (zf ?_)
  refine ZG (γ := Unit) (fun _ => [(0, .string (str l)), (7, v7), (8, .int .i64 ((at_ + zQ YA (l.drop at_) : Nat) : Int))]) (fun _ wc => wc = wr) ?_ ?_
  · refine zx ?_
    refine yF (γ := Nat) (fun i => [(0, .string (str l)), (7, v7), (8, .int .i64 (i : Int))]) (fun i wq => wq = wr ∧ i ≤ l.length ∧ i + zQ YA (l.drop i) = at_ + zQ YA (l.drop at_)) (fun i => l.length - i) at_ (.cons rfl (.cons rfl (.cons rfl (.nil _)))) ⟨rfl, ha, rfl⟩ ?_
    rintro i wq ⟨rfl, hi, he⟩
    rw [← he]
    rcases Nat.lt_or_ge i l.length with hlt | hge
    · obtain ⟨c, hc⟩ : ∃ c, l[i]? = some c := ⟨l[i], List.getElem?_eq_getElem hlt⟩
      have hk := kdN_bl c.toNat
      have hkr := kind_ret (w := wq) c
      rw [spanB_drop hc] at he ⊢
      by_cases hd : YA c.toNat = true
      · rw [if_pos hd] at he ⊢
        have hk2 := hk.2 hd
        refine zf (zf (zb (L (S (za rfl) (L (S (za rfl) ?_))))))
        refine L (S (yi Tryz.underlying9 rfl) ?_)
        refine L (S (zG rfl rfl (decide_eq_true (by omega))) ?_)
        refine L (S (za rfl) (zh (j := 4) (dj := 20) (b := true) (S (za rfl) (zh (j := 4) (dj := 20) (b := true) (S (za rfl) ?_) rfl)) rfl))
        refine zh (j := 4) (dj := 20) (b := true) (S (zY Tryz.underlying9 rfl rfl (j := i) rfl (yd hc)) ?_) rfl
        refine zh (j := 4) (dj := 20) (b := true) (zq Yp rfl (hkr) ?_) rfl
        rintro _ _ ⟨rfl, rfl⟩
        refine zh (j := 4) (dj := 20) (b := true) (S (zR rfl rfl (decide_eq_true (by omega))) ?_) rfl
        refine L (S (zt rfl rfl) (zg (zc (zr rfl (zo (zc (zx (zb (L (S (za rfl) ?_))))))))))
        refine L (S (zT rfl rfl (z1 (c := ((i + 1 : Nat) : Int)) (by omega))) ?_)
        refine L (S (zd rfl) (zg (yj (zc ?_))))
        exact ⟨rfl, i + 1, (.cons rfl (.cons rfl (.cons rfl (.nil _)))), ⟨rfl, hlt, by omega⟩, by omega⟩
      · rw [if_neg hd] at he ⊢
        have hk2 : kdN c.toNat ≠ 3 := fun h => hd (hk.1 h)
        refine zf (zf (zb (L (S (za rfl) (L (S (za rfl) ?_))))))
        refine L (S (yi Tryz.underlying9 rfl) ?_)
        refine L (S (zG rfl rfl (decide_eq_true (by omega))) ?_)
        refine L (S (za rfl) (zh (j := 4) (dj := 20) (b := true) (S (za rfl) (zh (j := 4) (dj := 20) (b := true) (S (za rfl) ?_) rfl)) rfl))
        refine zh (j := 4) (dj := 20) (b := true) (S (zY Tryz.underlying9 rfl rfl (j := i) rfl (yd hc)) ?_) rfl
        refine zh (j := 4) (dj := 20) (b := true) (zq Yp rfl (hkr) ?_) rfl
        rintro _ _ ⟨rfl, rfl⟩
        refine zh (j := 4) (dj := 20) (b := true) (S (zR rfl rfl (decide_eq_false (by omega))) ?_) rfl
        refine L (S (zt rfl rfl) (zg (zc (zk rfl (yn (zL (zL (yK (zc ?_)))))))))
        exact ⟨rfl, (), (.cons rfl (.cons rfl (.cons rfl (.nil _)))), rfl⟩
    · rw [spanB_end hge]
      refine zf (zf (zb (L (S (za rfl) (L (S (za rfl) ?_))))))
      refine L (S (yi Tryz.underlying9 rfl) ?_)
      refine L (S (zG rfl rfl (decide_eq_false (by omega))) ?_)
      refine L (S (za rfl) (zl (j := 4) (dj := 20) (b := true) (b' := false) (d := 21) rfl (zl (j := 4) (dj := 20) (b := true) (b' := false) (d := 22) rfl (zl (j := 4) (dj := 20) (b := true) (b' := false) (d := 23) rfl (zl (j := 4) (dj := 20) (b := true) (b' := false) (d := 24) rfl (zl (j := 4) (dj := 20) (b := true) (b' := false) (d := 25) rfl (L (S (zj rfl rfl) (zg (zc (zk rfl (yn (zL (zL (yK (zc ?_))))))))))))))))
      exact ⟨rfl, (), (.cons rfl (.cons rfl (.cons rfl (.nil _)))), rfl⟩
  rintro _ w2 rfl f' hf'
  refine Zb hf' ?_
  clear hf' f'
  have hnx := refword_ret (w := w2) hpf (hpf.mono _ _ hv hmr) l hT hl (at_ + zQ YA (l.drop at_)) (by omega)
  have hdd : (l.drop at_).drop (zQ YA (l.drop at_)) = l.drop (at_ + zQ YA (l.drop at_)) := List.drop_drop
  cases hn : ZY big ((l.drop at_).drop (zQ YA (l.drop at_))) with
  | er e =>
    rw [← hdd, hn] at hnx
    rw [lexF_er hn, List.append_nil] at hall
    rw [hall]
    have he0 : 0 < e := by
      rcases Nat.eq_zero_or_pos e with h | h
      · subst h; exact absurd hn (nextF_er _ _)
      · exact h
    generalize hpe : at_ + zQ YA (l.drop at_) = p at *
    refine zf (zb (L (S (za rfl) (L (S (za rfl) ?_)))))
    refine L (zq cb_66 rfl (hnx) ?_)
    rintro _ w3 ⟨⟨k, s, x, rfl⟩, hm3⟩
    refine L (S (za rfl) (L (S (zv rfl rfl) (L (S (zv rfl rfl) (L (S (zv rfl rfl) ?_)))))))
    refine L (ye (zs := [(.int .i64 0), (.string (ByteArray.mk #[])), (.int .i64 0)]) yD rfl ?_)
    rintro b9 w4 hb4 hm4 hn4
    refine L (zw yD rfl rfl (yM k s p) rfl hb4 (by exact Nat.le_refl 3) ?_)
    rintro w5 hb5 hm5
    refine L (S (zd rfl) (L (S (zd rfl) (zg (zc (zf (zf (zb (L (S (za rfl) ?_))))))))))
    refine L (S (Za rfl rfl (decide_eq_true (by omega))) ?_)
    refine zg (zc (zr rfl (zf (zb (L (S (za rfl) (L (S (za rfl) (L (S (zd rfl) (L (S (zd rfl) (L (S (zd rfl) (zg (zc (zy (zm (zP (zm (zP ?_)))))))))))))))))))))
    refine Yv Tryz.results32 rfl rfl rfl ?_
    exact ⟨by rw [if_neg hm]; rfl, ((hmr.no hm3).no hm4).new hm5 (Nat.le_trans (hmr.no hm3).size hn4)⟩
  | ok k s n =>
    rw [← hdd, hn] at hnx
    have hok := nextF_ok hn
    rw [List.length_drop, List.length_drop] at hok
    by_cases hk : k = 0
    · subst hk
      rw [lexF_end hn] at hall
      rw [hall]
      obtain ⟨-, -, hs0, hn0⟩ := hok.resolve_right (fun h => by omega)
      subst hs0 hn0
      generalize hpe : at_ + zQ YA (l.drop at_) = p at *
      refine zf (zb (L (S (za rfl) (L (S (za rfl) ?_)))))
      refine L (zq cb_66 rfl (hnx) ?_)
      rintro _ w3 ⟨rfl, hm3⟩
      refine L (S (za rfl) (L (S (zv rfl rfl) (L (S (zv rfl rfl) (L (S (zv rfl rfl) ?_)))))))
      refine L (ye (zs := [(.int .i64 0), (.string (ByteArray.mk #[])), (.int .i64 0)]) yD rfl ?_)
      rintro b9 w4 hb4 hm4 hn4
      refine L (zw yD rfl rfl (yM 0 [] p) rfl hb4 (by exact Nat.le_refl 3) ?_)
      rintro w6 hb6 hm6
      refine L (S (zd rfl) (L (S (zd rfl) (zg (zc (zf (zf (zb (L (S (za rfl) ?_))))))))))
      refine L (S (Za rfl rfl (decide_eq_false (by decide))) ?_)
      refine zg (zc (zk rfl (zo (zc (zf ?_)))))
      have hb6' : Blk w6 b9 (Zf 0 [] p) 71 := hb6
      have hm06 : Mv No w w6 := ((hmr.no hm3).no hm4).new hm6 (Nat.le_trans (hmr.no hm3).size hn4)
      have hown6 := yo (zE (zE hown hm3) hm4) hm6 (fun x hx he => by have := (ZN (zE hown hm3) hx).2; have : x = b9 := he; omega)
      refine zb (L (S (za rfl) ?_))
      refine L (zB Yo rfl hb6'.row rfl ?_)
      refine L (zU (l := [.tmp 41]) (vss := [Zf 0 [] p]) Tryz.underlying67 yD (by decide) rfl (by simp [Zf]) rfl (by decide) (by decide) ?_)
      rintro b7 w7 hb7 hm7 hn7
      refine L (S_append Tryz.underlying67 yD rfl (by decide) rfl (zE hown6 hm7) rfl (.inr ⟨b7, 0, rfl, hb7.row⟩) rfl (by simpa using yM 0 [] p) (hm06.no hm7).size (by unfold maxLen; omega) (by omega) ?_)
      rintro v8 w8 ho8 hm8 hf8
      refine L (S (zd rfl) (zg (zc (zf (zf ?_)))))
      have hm08 : Mv No w w8 := Mv.own (hm06.no hm7) hm8 (zE hown6 hm7) (Nat.le_refl _)
      have hb8 : Blk w8 b9 (Zf 0 [] p) 71 := (hb6'.no hm7).mv hm8 (fun hx => by have := (ZN (zE hown hm3) hx).2; omega)
      refine zb (L (S (ze Yc rfl) ?_))
      refine L (zi z_ rfl (hb8.cell (i := 0) rfl) ?_)
      refine L (S (zR rfl rfl (decide_eq_true rfl)) ?_)
      refine zg (zc (zr rfl (zf (zb (L (S (za rfl) (L (S (zd rfl) (L (S (zd rfl) (L (S (zd rfl) (zg (zc (zy (zm (zP (zm (zP ?_)))))))))))))))))))
      obtain ⟨A, c, rfl, hr, hc, -⟩ := own_reads ho8
      have hr' : SlR w8 A (flat (done ++ [⟨0, [], p⟩])) := by rw [flat_snoc]; simpa using hr
      refine Yv Tryz.results32 rfl rfl rfl ?_
      refine ⟨?_, hm08⟩
      rw [if_neg hm]
      exact ⟨A, c, by simp, hr', by simpa using hc⟩
    · obtain ⟨hk1, hk2, hn1, hn2, hn3⟩ := hok.resolve_left (fun h => hk h.1)
      rw [lexF_ok hn hk] at hall
      have hdd2 : (l.drop at_).drop (zQ YA (l.drop at_) + n) = l.drop (at_ + zQ YA (l.drop at_) + n) := by rw [List.drop_drop, Nat.add_assoc]
      rw [hdd2] at hall
      generalize hpe : at_ + zQ YA (l.drop at_) = p at *
      refine zf (zb (L (S (za rfl) (L (S (za rfl) ?_)))))
      refine L (zq cb_66 rfl (hnx) ?_)
      rintro _ w3 ⟨rfl, hm3⟩
      refine L (S (za rfl) (L (S (zv rfl rfl) (L (S (zv rfl rfl) (L (S (zv rfl rfl) ?_)))))))
      refine L (ye (zs := [(.int .i64 0), (.string (ByteArray.mk #[])), (.int .i64 0)]) yD rfl ?_)
      rintro b9 w4 hb4 hm4 hn4
      refine L (zw yD rfl rfl (yM k s p) rfl hb4 (by exact Nat.le_refl 3) ?_)
      rintro w6 hb6 hm6
      refine L (S (zd rfl) (L (S (zd rfl) (zg (zc (zf (zf (zb (L (S (za rfl) ?_))))))))))
      refine L (S (Za rfl rfl (decide_eq_false (by decide))) ?_)
      refine zg (zc (zk rfl (zo (zc (zf ?_)))))
      have hb6' : Blk w6 b9 (Zf k s p) 71 := hb6
      have hm06 : Mv No w w6 := ((hmr.no hm3).no hm4).new hm6 (Nat.le_trans (hmr.no hm3).size hn4)
      have hown6 := yo (zE (zE hown hm3) hm4) hm6 (fun x hx he => by have := (ZN (zE hown hm3) hx).2; have : x = b9 := he; omega)
      refine zb (L (S (za rfl) ?_))
      refine L (zB Yo rfl hb6'.row rfl ?_)
      refine L (zU (l := [.tmp 41]) (vss := [Zf k s p]) Tryz.underlying67 yD (by decide) rfl (by simp [Zf]) rfl (by decide) (by decide) ?_)
      rintro b7 w7 hb7 hm7 hn7
      refine L (S_append Tryz.underlying67 yD rfl (by decide) rfl (zE hown6 hm7) rfl (.inr ⟨b7, 0, rfl, hb7.row⟩) rfl (by simpa using yM k s p) (hm06.no hm7).size (by unfold maxLen; omega) (by omega) ?_)
      rintro v8 w8 ho8 hm8 hf8
      refine L (S (zd rfl) (zg (zc (zf (zf ?_)))))
      have hm08 : Mv No w w8 := Mv.own (hm06.no hm7) hm8 (zE hown6 hm7) (Nat.le_refl _)
      have hb8 : Blk w8 b9 (Zf k s p) 71 := (hb6'.no hm7).mv hm8 (fun hx => by have := (ZN (zE hown hm3) hx).2; omega)
      refine zb (L (S (ze Yc rfl) ?_))
      refine L (zi z_ rfl (hb8.cell (i := 0) rfl) ?_)
      refine L (S (zR rfl rfl (decide_eq_false (by omega))) ?_)
      refine zg (zc (zk rfl (zo (zc (zb (L (S (za rfl) (L (S (zd rfl) (zg (yj (zc ?_))))))))))))
      exact ⟨rfl, (p + n, fu, done ++ [⟨k, s, p⟩], v8), (.cons rfl (.cons rfl (.cons rfl (.nil _)))), ⟨by dsimp only; omega, by dsimp only; omega, by simpa using hall, by simpa [flat_snoc] using ho8, by simp; omega, hm08⟩, by dsimp only; omega⟩
end
end Go.Proofs.YtnoioimphcmeiaaGreatDoor
namespace Go.Proofs.YtnoioimphcmeiaaGreatDoor
open Go.RowKit

theorem ofInt64 (a : Nat) (h : a < 18446744073709551616) : (BitVec.ofInt IntKind.u64.bits (a : Int)).toNat = a := by
  simp [IntKind.bits]
  omega
theorem wU64' {n : Nat} (h : n < 18446744073709551616) : IntKind.u64.wrap (n : Int) = (n : Int) := wU64 ⟨rfl, by omega, by omega⟩
theorem andU64 {a b : Nat} {c : Int} (ha : a < 18446744073709551616) (hb : b < 18446744073709551616) (hc : c = ((a &&& b : Nat) : Int)) : Z2 .and .u64 (a : Int) (b : Int) = c := by
  subst hc
  show IntKind.u64.wrap ((BitVec.ofInt IntKind.u64.bits (a : Int) &&& BitVec.ofInt IntKind.u64.bits (b : Int)).toNat : Int) = _
  rw [BitVec.toNat_and, ofInt64 a ha, ofInt64 b hb]
  exact wU64' (Nat.lt_of_le_of_lt Nat.and_le_left ha)
theorem orU64 {a b : Nat} {c : Int} (ha : a < 18446744073709551616) (hb : b < 18446744073709551616) (hc : c = ((a ||| b : Nat) : Int)) : Z2 .or .u64 (a : Int) (b : Int) = c := by
  subst hc
  show IntKind.u64.wrap ((BitVec.ofInt IntKind.u64.bits (a : Int) ||| BitVec.ofInt IntKind.u64.bits (b : Int)).toNat : Int) = _
  rw [BitVec.toNat_or, ofInt64 a ha, ofInt64 b hb]
  exact wU64' (Nat.or_lt_two_pow (n := 64) ha hb)
theorem Yw {a s : Nat} {b c : Int} (hb : b = (s : Int)) (hs : s ≤ 64) (hc : c = ((a / 2 ^ s : Nat) : Int)) : (a : Int).fdiv (2 ^ (min b.toNat IntKind.u64.bits)) = c := by
  subst hb hc
  have e : min (s : Int).toNat IntKind.u64.bits = s := by
    show min (s : Int).toNat 64 = s
    omega
  rw [e]
  have h2 : ((2 : Int) ^ s) = ((2 ^ s : Nat) : Int) := by simp
  rw [h2, Int.fdiv_eq_ediv_of_nonneg _ (Int.natCast_nonneg _)]
  rfl
theorem shlU64 {a s : Nat} {b c : Int} (hb : b = (s : Int)) (hs : s ≤ 64) (hc : c = ((a * 2 ^ s : Nat) : Int)) (hlt : a * 2 ^ s < 18446744073709551616) : IntKind.u64.wrap ((a : Int) * 2 ^ (min b.toNat IntKind.u64.bits)) = c := by
  subst hb hc
  have e : min (s : Int).toNat IntKind.u64.bits = s := by
    show min (s : Int).toNat 64 = s
    omega
  rw [e]
  have h2 : (a : Int) * ((2 : Int) ^ s) = ((a * 2 ^ s : Nat) : Int) := by simp
  rw [h2]
  exact wU64' hlt
theorem modU64 {x : Nat} {a c : Int} (ha : a = (x : Int)) (hc : c = ((x % 18446744073709551616 : Nat) : Int)) : IntKind.u64.wrap a = c := by
  subst ha hc
  simp [IntKind.wrap, IntKind.bits, IntKind.signed]

section
variable {P : Program} {n : Nat} {N : Nxt} {Q : Post} {f : Fr} {ds : List Deferred} {w w' : World}
variable {d : Nat} {x y : Operand} {t yt ty : TypeId} {pos : String} {af : Array Edge} {g : Option (Nat × Bool)} {k : IntKind} {a b c : Int}
theorem P_andNot (hx : ev f x = some (.int k a)) (hy : ev f y = some (.int k b)) (hc : Z2 .andNot k a b = c) : PureV P n ⟨some d, .binOp .andNot t x y yt, ty, pos, af, g⟩ f (.int k c) :=
  fun z hz w => by subst hc; simp only [execOp, hz.ev hx, hz.ev hy, Sem.run_bind, Sem.run_map]; have := Zh (P := P) (w := w) (t := t) (x := x) (y := y) (k := k) (a := a) (b := b) (op := .andNot) (by simp); simp only [Sem.run_bind] at this; rw [this]; simp [Op.intBits, Z2]
theorem P_mulF {k : FloatKind} {a b r : Nat} (hx : ev f x = some (.float k a)) (hy : ev f y = some (.float k b)) (hr : k.format.mul a b = some r) : PureV P n ⟨some d, .binOp .mul t x y yt, ty, pos, af, g⟩ f (.float k r) :=
  fun z hz w => by simp [execOp, hz.ev hx, hz.ev hy, eqGuard, binOp, Op.floatArith, hr]
theorem P_quoF {k : FloatKind} {a b r : Nat} (hx : ev f x = some (.float k a)) (hy : ev f y = some (.float k b)) (hr : k.format.div a b = some r) : PureV P n ⟨some d, .binOp .quo t x y yt, ty, pos, af, g⟩ f (.float k r) :=
  fun z hz w => by simp [execOp, hz.ev hx, hz.ev hy, eqGuard, binOp, Op.floatArith, hr]
theorem P_convIF {k : FloatKind} {j : IntKind} {a : Int} {t' : TypeDesc} (hs : P.underlying t = some t') (ht : P.underlying yt = some (.float k)) (hx : ev f x = some (.int j a)) : PureV P n ⟨some d, .convert t yt x, ty, pos, af, g⟩ f (.float k (k.nearest a)) :=
  fun z hz w => by simp [execOp, hz.ev hx, convert, run_underlying hs, run_underlying ht, Conv.intToFloat]
theorem P_mkI {v : Value} {u : TypeDesc} (hu : P.underlying t = some u) (hi : ∀ ms, u ≠ .interface ms) (hx : ev f x = some v) : PureV P n ⟨some d, .makeInterface t x, ty, pos, af, g⟩ f (.iface t v) :=
  fun z hz w => by
    cases u <;> first | exact absurd rfl (hi _) | simp [execOp, hz.ev hx, Instr.makeInterface, run_underlying hu]

/- scopes -/
def scopeF (Q : Post) : Post
  | .goto _, _, _, _ => False
  | e, f, ds, w => Q e f ds w
theorem scope_n (h : Q .normal f ds w) : scopeF Q .normal f ds w := h
theorem scope_x {id : Nat} (h : Q (.exit id) f ds w) : scopeF Q (.exit id) f ds w := h
theorem scope_r (h : Q .ret f ds w) : scopeF Q .ret f ds w := h
theorem C_scope {c : Code} (h : wpF P n c (scopeF Q) f ds w) : wpF P n (.scope c) Q f ds w := fun a ha hd =>
  wp_scope_straight (wp_mono (h a ha hd) fun e a' w' ⟨f', hf', hq⟩ => by
    cases e with
    | goto l => exact hq.elim
    | _ => exact ⟨f', hf', hq⟩)
/-- A jump forward: what holds at the label. -/
def jumpF (J : Nat → Fr → World → Prop) (ds : List Deferred) (Q : Post) : Post
  | .goto l, f, ds', w => ds' = ds ∧ J l f w
  | e, f, ds, w => Q e f ds w
theorem jump_n {J : Nat → Fr → World → Prop} {ds' : List Deferred} (h : Q .normal f ds w) : jumpF J ds' Q .normal f ds w := h
theorem jump_x {J : Nat → Fr → World → Prop} {ds' : List Deferred} {id : Nat} (h : Q (.exit id) f ds w) : jumpF J ds' Q (.exit id) f ds w := h
theorem jump_r {J : Nat → Fr → World → Prop} {ds' : List Deferred} (h : Q .ret f ds w) : jumpF J ds' Q .ret f ds w := h
theorem jump_g {J : Nat → Fr → World → Prop} {l : Nat} (h : J l f w) : jumpF J ds Q (.goto l) f ds w := ⟨rfl, h⟩
theorem then_g {K : Nxt} {l : Nat} (h : Q (.goto l) f ds w) : thenF K Q (.goto l) f ds w := h
theorem blk_g {id l : Nat} (h : Q (.goto l) f ds w) : blkF id Q (.goto l) f ds w := h
theorem C_goto {l : Nat} (h : Q (.goto l) f ds w) : wpF P n (.goto l) Q f ds w := fun a ha hd => wp_goto ⟨f, ha, hd ▸ h⟩
theorem C_scopeG {c : Code} (J : Nat → Fr → World → Prop) (rest : Nat → Code) (hf : ∀ l f w, J l f w → findLabel c l = some (rest l)) (first : wpF P n c (jumpF J ds Q) f ds w) (pass : ∀ l f w, J l f w → wpF P n (rest l) (scopeF Q) f ds w) : wpF P n (.scope c) Q f ds w := by
  intro a ha hd b k cs
  obtain ⟨e, a₁, w₁, ⟨f₁, hf₁, hq⟩, harr⟩ := first a ha hd b (.inScope c :: k) cs
  cases e with
  | normal => exact ⟨.normal, a₁, w₁, ⟨f₁, hf₁, hq⟩, .head step_scope (Steps.trans harr (.one step_inScope))⟩
  | exit id => exact ⟨.exit id, a₁, w₁, ⟨f₁, hf₁, hq⟩, fun k' hk => .head step_scope (harr k' (by simp [exitTo, hk]))⟩
  | goto l =>
    obtain ⟨hds, hJ⟩ := hq
    have hg : gotoIn l (.inScope c :: k) = some (.code (rest l) :: .inScope c :: k) := by simp [gotoIn, hf l f₁ w₁ hJ]
    obtain ⟨e₂, a₂, w₂, ⟨f₂, hf₂, hq₂⟩, harr₂⟩ := pass l f₁ w₁ hJ a₁ hf₁ hds b (.inScope c :: k) cs
    cases e₂ with
    | normal => exact ⟨.normal, a₂, w₂, ⟨f₂, hf₂, hq₂⟩, .head step_scope ((harr _ hg).trans (Steps.trans harr₂ (.one step_inScope)))⟩
    | exit id => exact ⟨.exit id, a₂, w₂, ⟨f₂, hf₂, hq₂⟩, fun k' hk => .head step_scope ((harr _ hg).trans (harr₂ k' (by simp [exitTo, hk])))⟩
    | goto l' => exact hq₂.elim
    | ret => exact ⟨_, a₂, w₂, ⟨f₂, hf₂, hq₂⟩, .of_steps (.head step_scope (harr _ hg)) harr₂⟩
    | panic ch => exact ⟨_, a₂, w₂, ⟨f₂, hf₂, hq₂⟩, .of_steps (.head step_scope (harr _ hg)) harr₂⟩
    | outgrown => exact ⟨_, a₂, w₂, ⟨f₂, hf₂, hq₂⟩, .of_steps (.head step_scope (harr _ hg)) harr₂⟩
  | ret => exact ⟨_, a₁, w₁, ⟨f₁, hf₁, hq⟩, .of_steps (.one step_scope) harr⟩
  | panic ch => exact ⟨_, a₁, w₁, ⟨f₁, hf₁, hq⟩, .of_steps (.one step_scope) harr⟩
  | outgrown => exact ⟨_, a₁, w₁, ⟨f₁, hf₁, hq⟩, .of_steps (.one step_scope) harr⟩
end

/- floats: numbers not below 0 -/
/-- Not a NaN, no sign. -/
def Good (b : Nat) : Prop := b ≤ 9218868437227405312
theorem read_good {b : Nat} (h : Good b) : (∃ m e, Ieee.double.read b = .number false m e) ∨ Ieee.double.read b = .infinity false := by
  unfold Good at h
  have h1 : Ieee.double.signWeight = 9223372036854775808 := by decide
  have h2 : Ieee.double.infRung = 9218868437227405312 := by decide
  unfold Ieee.Format.read
  simp only [h1, h2]
  have hd : b / 9223372036854775808 = 0 := Nat.div_eq_of_lt (by omega)
  have hm : b % 9223372036854775808 = b := Nat.mod_eq_of_lt (by omega)
  rw [hd, hm]
  split
  · exact .inl ⟨_, _, rfl⟩
  · split
    · exact .inl ⟨_, _, rfl⟩
    · have : b = 9218868437227405312 := by omega
      rw [if_pos this]
      exact .inr rfl
theorem order_good {a b : Nat} (ha : Good a) (hb : Good b) : ∃ o, Ieee.double.order a b = some o := by
  unfold Ieee.Format.order
  rcases read_good ha with ⟨m, e, h⟩ | h <;> rcases read_good hb with ⟨m', e', h'⟩ | h' <;> rw [h, h'] <;> exact ⟨_, rfl⟩
theorem write_good (d : Ieee.Datum) (h : (∃ m e, d = .number false m e) ∨ d = .infinity false) : Good (Ieee.double.write d) := by
  have h2 : Ieee.double.infRung = 9218868437227405312 := by decide
  unfold Good
  rcases h with ⟨m, e, rfl⟩ | rfl
  · show Ieee.double.nearest false m e ≤ _
    unfold Ieee.Format.nearest
    split
    · simp [Ieee.Format.word]
    · simp only [Ieee.Format.word, Bool.false_eq_true, if_false, h2]
      exact Nat.min_le_right _ _
  · show Ieee.double.word false Ieee.double.infRung ≤ _
    simp [Ieee.Format.word, h2]
theorem nearest_good (n : Nat) : Good (FloatKind.f64.nearest (n : Int)) := by
  unfold FloatKind.nearest FloatKind.encode
  exact write_good _ (.inl ⟨_, _, by
    have : decide ((n : Int) < 0) = false := decide_eq_false (by omega)
    rw [this]⟩)
/-- A finite number above 0. -/
def Pos (b : Nat) : Prop := ∃ m e, m ≠ 0 ∧ Ieee.double.read b = .number false m e
theorem mul_good {a b : Nat} (ha : Good a) (hb : Pos b) : ∃ r, Ieee.double.mul a b = some r ∧ Good r := by
  obtain ⟨m, e, hm, hb⟩ := hb
  unfold Ieee.Format.mul
  rcases read_good ha with ⟨m', e', h⟩ | h
  · rw [h, hb]
    exact ⟨_, rfl, write_good _ (.inl ⟨_, _, rfl⟩)⟩
  · rw [h, hb]
    simp only [Ieee.Datum.product, if_neg hm, Option.map_some]
    exact ⟨_, rfl, write_good _ (.inr rfl)⟩
theorem div_good {a b : Nat} (ha : Good a) (hb : Pos b) : ∃ r, Ieee.double.div a b = some r ∧ Good r := by
  obtain ⟨m, e, hm, hb⟩ := hb
  unfold Ieee.Format.div
  rcases read_good ha with ⟨m', e', h⟩ | h
  · rw [h, hb]
    simp only [Ieee.Datum.quotient, if_neg hm, Option.map_some]
    exact ⟨_, rfl, write_good _ (.inl ⟨_, _, rfl⟩)⟩
  · rw [h, hb]
    exact ⟨_, rfl, write_good _ (.inr rfl)⟩
end Go.Proofs.YtnoioimphcmeiaaGreatDoor
namespace Go.Proofs.YtnoioimphcmeiaaGreatDoor
open Go.RowKit
set_option maxRecDepth 20000
set_option maxHeartbeats 1000000

def pow10L : List Nat := [4607182418800017408, 4621819117588971520, 4636737291354636288, 4652007308841189376, 4666723172467343360, 4681608360884174848, 4696837146684686336, 4711630319722168320, 4726483295884279808, 4741671816366391296, 4756540486875873280, 4771362005757984768, 4786511204640096256, 4801453603149578240, 4816244402031689728, 4831355200913801216, 4846369599423283200, 4861130398305394688, 4876203697187506176, 4891288408196988160, 4906019910204099648, 4921056587992461136, 4936209963552724370]
def powtabL : List Nat := [1, 3, 6, 9, 13, 16, 19, 23, 26]
def ptV : List Value := Go.Pinned.pow10Rows.flatMap fun x => [.int .u64 (x.1 : Int), .int .u64 (x.2 : Int)]
def chV : List Value := Go.Pinned.cheatRows.flatMap fun x => [.int .i64 (x.1 : Int), .string (str x.2)]
/-- What the variables of the library hold. -/
structure Vr (w : World) : Prop where
  mx : Mx w
  opt : w.cell? ⟨4, 0, none⟩ = some (.bool true)
  info : Row w 5 0 [.int .u64 52, .int .u64 11, .int .i64 (-1023)]
  p10 : ∃ b o c, w.cell? ⟨8, 0, none⟩ = some (.slice (some ⟨b, o, none⟩) 23 c) ∧ Row w b o (pow10L.map (.float .f64))
  pt : Row w 9 0 ptV
  ptb : ∃ b o c, w.cell? ⟨7, 0, none⟩ = some (.slice (some ⟨b, o, none⟩) 9 c) ∧ Row w b o (powtabL.map fun (x : Nat) => .int .i64 (x : Int))
  ch : ∃ b o c, w.cell? ⟨10, 0, none⟩ = some (.slice (some ⟨b, o, none⟩) 61 c) ∧ Row w b o chV
  er : ∃ t u, w.cell? ⟨2, 0, none⟩ = some (.iface t u)
theorem cell_no {w w' : World} {a : Addr} {v : Value} (h : w.cell? a = some v) (hm : Mv No w w') : w'.cell? a = some v := by
  rw [World.cell?_of_block (w := w) (hm.block _ (cell_lt h) (fun hf => hf.elim))]; exact h
theorem Vr.no {w w' : World} (h : Vr w) (hm : Mv No w w') : Vr w' where
  mx := h.mx.no hm
  opt := cell_no h.opt hm
  info := h.info.no hm
  p10 := by obtain ⟨b, o, c, h1, h2⟩ := h.p10; exact ⟨b, o, c, cell_no h1 hm, h2.no hm⟩
  pt := h.pt.no hm
  ptb := by obtain ⟨b, o, c, h1, h2⟩ := h.ptb; exact ⟨b, o, c, cell_no h1 hm, h2.no hm⟩
  ch := by obtain ⟨b, o, c, h1, h2⟩ := h.ch; exact ⟨b, o, c, cell_no h1 hm, h2.no hm⟩
  er := by obtain ⟨t, u, h1⟩ := h.er; exact ⟨t, u, cell_no h1 hm⟩
theorem pt_len : Go.Pinned.pow10Rows.length = 696 := by decide +kernel
theorem pt_facts : ∀ x ∈ Go.Pinned.pow10Rows, 9223372036854775808 ≤ x.1 ∧ x.1 ≤ 18446742974197923840 ∧ x.2 < 18446744073709551616 := by decide +kernel
theorem flat2 {α : Type} (f : α → List Value) (hf : ∀ x, (f x).length = 2) : ∀ (l : List α) (i : Nat) (x : α), l[i]? = some x → (l.flatMap f)[2 * i]? = (f x)[0]? ∧ (l.flatMap f)[2 * i + 1]? = (f x)[1]?
  | [], i, x, h => by simp at h
  | y :: r, 0, x, h => by
    have : y = x := by simpa using h
    subst this
    have := hf y
    rw [List.flatMap_cons]
    exact ⟨List.getElem?_append_left (by omega), List.getElem?_append_left (by omega)⟩
  | y :: r, i + 1, x, h => by
    have h2 := hf y
    have ih := flat2 f hf r i x (by simpa using h)
    rw [List.flatMap_cons]
    constructor
    · rw [List.getElem?_append_right (by omega), h2, show 2 * (i + 1) - 2 = 2 * i by omega]; exact ih.1
    · rw [List.getElem?_append_right (by omega), h2, show 2 * (i + 1) + 1 - 2 = 2 * i + 1 by omega]; exact ih.2
theorem pos_of {m : Nat} {e : Int} {b : Nat} (h : Ieee.double.read b = .number false m e) (hm : m ≠ 0) : Pos b := ⟨m, e, hm, h⟩
def posB (b : Nat) : Bool := match Ieee.double.read b with
  | .number false m _ => m != 0
  | _ => false
theorem pos_of_B {b : Nat} (h : posB b = true) : Pos b := by
  unfold posB at h
  split at h
  · rename_i m e hr
    exact ⟨m, e, by simpa using h, hr⟩
  · cases h
theorem pow10_pos : ∀ b ∈ pow10L, posB b = true := by decide +kernel
end Go.Proofs.YtnoioimphcmeiaaGreatDoor
namespace Go.Proofs.YtnoioimphcmeiaaGreatDoor
open Go.RowKit
set_option maxRecDepth 20000
set_option maxHeartbeats 1000000

theorem bitLen_spec : ∀ (f x : Nat), x < 2 ^ f → x ≠ 0 → ∃ b, Lib.bitLenAux f x = b + 1 ∧ b < f ∧ 2 ^ b ≤ x ∧ x < 2 ^ (b + 1) := by
  intro f
  induction f with
  | zero => intro x h h0; have : x = 0 := by simpa using h
            exact absurd this h0
  | succ f ih =>
    intro x h h0
    by_cases h1 : x / 2 = 0
    · refine ⟨0, ?_, by omega, by omega, by omega⟩
      have h2 : ∀ g, Lib.bitLenAux g 0 = 0 := by
        intro g; cases g <;> simp [Lib.bitLenAux]
      have hx : x = 1 := by omega
      subst hx
      simp [Lib.bitLenAux, h2]
    · obtain ⟨b, e1, e2, e3, e4⟩ := ih (x / 2) (by rw [Nat.pow_succ] at h; omega) h1
      refine ⟨b + 1, ?_, by omega, by rw [Nat.pow_succ]; omega, by rw [Nat.pow_succ]; omega⟩
      simp only [Lib.bitLenAux, if_neg h0, e1]
      omega
theorem bitLen_ok {d : Nat} (h0 : d ≠ 0) (h : d < 18446744073709551616) : ∃ b, Lib.bitLen d = b ∧ 1 ≤ b ∧ b ≤ 64 ∧ 9223372036854775808 ≤ d * 2 ^ (64 - b) ∧ d * 2 ^ (64 - b) < 18446744073709551616 := by
  obtain ⟨b, e1, e2, e3, e4⟩ := bitLen_spec 64 d (by simpa using h) h0
  refine ⟨b + 1, e1, by omega, by omega, ?_, ?_⟩
  · have : 2 ^ b * 2 ^ (64 - (b + 1)) = 2 ^ 63 := by rw [← Nat.pow_add]; congr 1; omega
    have h2 := Nat.mul_le_mul_right (2 ^ (64 - (b + 1))) e3
    rw [this] at h2
    simpa using h2
  · have : 2 ^ (b + 1) * 2 ^ (64 - (b + 1)) = 2 ^ 64 := by rw [← Nat.pow_add]; congr 1; omega
    have h2 := Nat.mul_lt_mul_of_pos_right e4 (Nat.two_pow_pos (64 - (b + 1)))
    rw [this] at h2
    simpa using h2

def lpF (p : Int) : Int := p * 108853 / 32768
theorem shrI64 {a c : Int} {s : Nat} {b : Int} (hb : b = (s : Int)) (hs : s ≤ 64) (hc : c = a / (2 ^ s : Nat)) : a.fdiv (2 ^ (min b.toNat IntKind.i64.bits)) = c := by
  subst hb hc
  have e : min (s : Int).toNat IntKind.i64.bits = s := by
    show min (s : Int).toNat 64 = s
    omega
  rw [e]
  have h2 : ((2 : Int) ^ s) = ((2 ^ s : Nat) : Int) := by simp
  rw [h2, Int.fdiv_eq_ediv_of_nonneg _ (Int.natCast_nonneg _)]

section
variable {w : World}
theorem log2Pow10_ret (p : Int) (h1 : -1000 ≤ p) (h2 : p ≤ 1000) : Ret Tryz.prog 177 [.int .i64 p] w fun v w' => v = .int .i64 (lpF p) ∧ w = w' := by
  refine zN Tryz.func177 Tryz.ntmps177 rfl rfl ?_
  refine zf (zb (L (S (zd rfl) (zg (zc (zf (zb (L (S (za rfl) ?_)))))))))
  refine L (S (P_mul rfl rfl (z1 (c := p * 108853) (by omega))) ?_)
  refine L (S (P_shr rfl rfl (by omega) (shrI64 (s := 15) rfl (by omega) rfl)) ?_)
  refine L (S (zd rfl) (zg (zc (zy ?_))))
  refine zC Tryz.results177 rfl ?_
  exact ⟨rfl, rfl⟩
theorem unmin_ret : Ret Tryz.prog 181 [.int .u64 9007199254740992] w fun v w' => v = .int .u64 36028797018963966 ∧ w = w' := by
  refine zN Tryz.func181 Tryz.ntmps181 rfl rfl ?_
  refine zf (zb (L (S (zd rfl) (zg (zc (zf (zb (L (S (za rfl) ?_)))))))))
  refine L (S (P_shl rfl rfl (by omega) (c := 36028797018963968) (by decide)) ?_)
  refine L (S (Zd rfl rfl (c := 36028797018963966) (by decide)) ?_)
  refine L (S (zd rfl) (zg (zc (zy ?_))))
  refine zC Tryz.results181 rfl ?_
  exact ⟨rfl, rfl⟩
def rnF (u : Nat) : Nat := (u + 1 + u / 4 % 2) / 4
theorem round_ret (u : Nat) (hu : u < 4611686018427387904) : Ret Tryz.prog 183 [.int .u64 (u : Int)] w fun v w' => v = .int .u64 (rnF u : Int) ∧ w = w' := by
  have h1 : (u / 4) &&& 1 = u / 4 % 2 := Nat.and_one_is_mod _
  refine zN Tryz.func183 Tryz.ntmps183 rfl rfl ?_
  refine zf (zb (L (S (zd rfl) (zg (zc (zf (zb (L (S (za rfl) ?_)))))))))
  refine L (S (zT rfl rfl (wU64 (c := ((u + 1 : Nat) : Int)) (by omega))) ?_)
  refine L (S (za rfl) ?_)
  refine L (S (P_shr rfl rfl (by omega) (Yw (s := 2) rfl (by omega) rfl)) ?_)
  refine L (S (P_and rfl rfl (andU64 (b := 1) (by omega) (by omega) rfl)) ?_)
  refine L (S (zT rfl rfl (wU64 (c := ((u + 1 + u / 4 % 2 : Nat) : Int)) (by have : u / 2 ^ 2 &&& 1 = u / 4 % 2 := h1; rw [this]; omega))) ?_)
  refine L (S (P_shr rfl rfl (by omega) (Yw (s := 2) rfl (by omega) rfl)) ?_)
  refine L (S (zd rfl) (zg (zc (zy ?_))))
  refine zC Tryz.results183 rfl ?_
  exact ⟨rfl, rfl⟩
theorem Z9 (β : Bool) : Ret Tryz.prog 166 [.bool β] w fun v w' => v = .int .u64 (if β = true then 1 else 0) ∧ w = w' := by
  cases β
  · refine zN Tryz.func166 Tryz.ntmps166 rfl rfl ?_
    refine zf (zb (L (S (zd rfl) (zg (zc (zf (zf (zb (L (S (za rfl) (zg (zc (zk rfl (zo (zc (zf (zb (L (S (zd rfl) (zg (zc (zy ?_))))))))))))))))))))))
    refine zC Tryz.results166 rfl ?_
    exact ⟨rfl, rfl⟩
  · refine zN Tryz.func166 Tryz.ntmps166 rfl rfl ?_
    refine zf (zb (L (S (zd rfl) (zg (zc (zf (zf (zb (L (S (za rfl) (zg (zc (zr rfl (zf (zb (L (S (zd rfl) (zg (zc (zy (zm ?_)))))))))))))))))))))
    refine zC Tryz.results166 rfl ?_
    exact ⟨rfl, rfl⟩
theorem bool2i_ret (β : Bool) : Ret Tryz.prog 180 [.bool β] w fun v w' => v = .int .i64 (if β = true then 1 else 0) ∧ w = w' := by
  cases β
  · refine zN Tryz.func180 Tryz.ntmps180 rfl rfl ?_
    refine zf (zb (L (S (zd rfl) (zg (zc (zf (zf (zb (L (S (za rfl) (zg (zc (zk rfl (zo (zc (zf (zb (L (S (zd rfl) (zg (zc (zy ?_))))))))))))))))))))))
    refine zC Tryz.results180 rfl ?_
    exact ⟨rfl, rfl⟩
  · refine zN Tryz.func180 Tryz.ntmps180 rfl rfl ?_
    refine zf (zb (L (S (zd rfl) (zg (zc (zf (zf (zb (L (S (za rfl) (zg (zc (zr rfl (zf (zb (L (S (zd rfl) (zg (zc (zy (zm ?_)))))))))))))))))))))
    refine zC Tryz.results180 rfl ?_
    exact ⟨rfl, rfl⟩

def pkF (m : Nat) (e : Int) : Nat × Bool := if m < 4503599627370496 then (m, false) else if 972 ≤ e then (9218868437227405312, true) else ((1075 + e).toNat * 4503599627370496 + (m - 4503599627370496), false)
def errV (β : Bool) : Value := if β = true then .iface 185 (.int .i64 1) else .nilIface
theorem frombits_next : Extern.findNext Tryz.f167 = none := by kernel_rfl
theorem frombits_find : Extern.find Tryz.f167 = some Extern.MathFloatBits.float64frombits := by kernel_rfl
theorem Yx {n d : Nat} {f : Fr} {l : List Operand} {ats : Array TypeId} {ty : TypeId} {pos : String} {af : Array Edge} {g : Option (Nat × Bool)} {m : Nat} (hl : evs f l = some [.int .u64 (m : Int)]) :
    PureV Tryz.prog n ⟨some d, .call { callee := .value (.func 167), args := l.toArray, argTypes := ats }, ty, pos, af, g⟩ f (.float .f64 m) :=
  P_ext Tryz.func167 (by kernel_rfl) rfl frombits_next frombits_find hl (fun _ => rfl)
theorem bit52 {m : Nat} (h : m < 9007199254740992) : m.testBit 52 = decide (4503599627370496 ≤ m) := by
  rw [Nat.testBit_eq_decide_div_mod_eq]
  have h2 : (2 : Nat) ^ 52 = 4503599627370496 := by decide
  rw [h2]
  by_cases hl : 4503599627370496 ≤ m
  · have : m / 4503599627370496 = 1 := by omega
    simp [this, hl]
  · have : m / 4503599627370496 = 0 := by omega
    simp [this, hl]
theorem and_pow {m k : Nat} : m &&& 2 ^ k = if m.testBit k = true then 2 ^ k else 0 := by
  apply Nat.eq_of_testBit_eq
  intro i
  rw [Nat.testBit_and, Nat.testBit_two_pow]
  by_cases hi : k = i
  · subst hi
    cases m.testBit k <;> simp
  · have : (if m.testBit k = true then 2 ^ k else 0).testBit i = false := by
      split
      · rw [Nat.testBit_two_pow]; simp [hi]
      · simp
    rw [this]
    simp [hi]
theorem and52 {m : Nat} (h : m < 9007199254740992) : m &&& 4503599627370496 = if m < 4503599627370496 then 0 else 4503599627370496 := by
  have h2 : (4503599627370496 : Nat) = 2 ^ 52 := by decide
  have h3 := bit52 h
  rw [h2] at h3 ⊢
  rw [and_pow, h3]
  by_cases hl : m < 2 ^ 52
  · rw [if_pos hl, if_neg (by simp; omega)]
  · rw [if_neg hl, if_pos (by simp; omega)]
theorem andNot52 {m : Nat} (h0 : 4503599627370496 ≤ m) (h : m < 9007199254740992) : Z2 .andNot .u64 (m : Int) 4503599627370496 = ((m - 4503599627370496 : Nat) : Int) := by
  show IntKind.u64.wrap ((BitVec.ofInt IntKind.u64.bits (m : Int) &&& ~~~ BitVec.ofInt IntKind.u64.bits ((4503599627370496 : Nat) : Int)).toNat : Int) = _
  rw [BitVec.toNat_and, BitVec.toNat_not, ofInt64 m (by omega), ofInt64 _ (by omega)]
  have e : m &&& (2 ^ IntKind.u64.bits - 1 - 4503599627370496) = m - 4503599627370496 := by
    obtain ⟨r, rfl⟩ : ∃ r, m = 2 ^ 52 + r := ⟨m - 2 ^ 52, by simp; omega⟩
    have hr : r < 2 ^ 52 := by simp at h ⊢; omega
    have e1 : 2 ^ 52 + r - 4503599627370496 = r := by simp
    rw [e1]
    apply Nat.eq_of_testBit_eq
    intro i
    have e2 : 2 ^ IntKind.u64.bits - 1 - 4503599627370496 = 2 ^ 64 - (2 ^ 52 + 1) := by decide
    rw [e2, Nat.testBit_and, Nat.testBit_two_pow_sub_succ (by decide), Nat.testBit_two_pow]
    rcases Nat.lt_trichotomy i 52 with hi | hi | hi
    · rw [Nat.testBit_two_pow_add_gt hi]
      have h1 : i < 64 := by omega
      have h2 : ¬ 52 = i := by omega
      simp [h1, h2]
    · subst hi
      have : r.testBit 52 = false := Nat.testBit_lt_two_pow hr
      simp [this]
    · have h1 : r.testBit i = false := Nat.testBit_lt_two_pow (Nat.lt_of_lt_of_le hr (Nat.pow_le_pow_right (by omega) (by omega)))
      have h2 : (2 ^ 52 + r).testBit i = false := Nat.testBit_lt_two_pow (Nat.lt_of_lt_of_le (show 2 ^ 52 + r < 2 ^ 53 by simp at hr ⊢; omega) (Nat.pow_le_pow_right (by omega) (by omega)))
      simp [h1, h2]
  rw [e]
  exact wU64' (by omega)
theorem pkF_good {m : Nat} {e : Int} (hm : m < 9007199254740992) (he : -1075 ≤ e) : Good (pkF m e).1 := by
  unfold pkF Good
  split
  · dsimp only; omega
  · split
    · exact Nat.le_refl _
    · dsimp only; omega
theorem pack64_ret (m : Nat) (e : Int) (hm : m < 9007199254740992) (he0 : -1074 ≤ e) (he1 : e ≤ 100000) : Ret Tryz.prog 186 [.int .u64 (m : Int), .int .i64 e] w fun v w' => v = .tuple #[.float .f64 (pkF m e).1, errV (pkF m e).2] ∧ w = w' := by
  have h52 := and52 hm
  refine zN Tryz.func186 Tryz.ntmps186 rfl rfl ?_
  by_cases h1 : m < 4503599627370496
  · rw [if_pos h1] at h52
    unfold pkF
    rw [if_pos h1]
    refine zf (zb (L (S (zd rfl) (L (S (zd rfl) (zg (zc (zf (zf (zb (L (S (za rfl) ?_))))))))))))
    refine L (S (P_and rfl rfl (andU64 (b := 4503599627370496) (by omega) (by omega) rfl)) ?_)
    refine L (S (zR rfl rfl (decide_eq_true (by rw [h52]; rfl))) ?_)
    refine zg (zc (zr rfl (zf (zb (L (S (za rfl) ?_))))))
    refine L (S (Yx rfl) ?_)
    refine L (S (zd rfl) (L (S (zd rfl) (zg (zc (zy (zm ?_)))))))
    refine Z7 Tryz.results186 rfl rfl ?_
    exact ⟨rfl, rfl⟩
  · rw [if_neg h1] at h52
    unfold pkF
    rw [if_neg h1]
    by_cases h2 : 972 ≤ e
    · rw [if_pos h2]
      have ho : (m &&& 9223372036854775808) ||| 9218868437227405312 = 9218868437227405312 := by
        have hz : m &&& 9223372036854775808 = 0 := by
          have e63 : (9223372036854775808 : Nat) = 2 ^ 63 := by decide
          rw [e63, and_pow, Nat.testBit_lt_two_pow (by simp; omega)]
          rfl
        rw [hz]; simp
      refine zf (zb (L (S (zd rfl) (L (S (zd rfl) (zg (zc (zf (zf (zb (L (S (za rfl) ?_))))))))))))
      refine L (S (P_and rfl rfl (andU64 (b := 4503599627370496) (by omega) (by omega) rfl)) ?_)
      refine L (S (zR rfl rfl (decide_eq_false (by rw [h52]; decide))) ?_)
      refine zg (zc (zk rfl (zo (zc (zf (zf (zb (L (S (za rfl) ?_)))))))))
      refine L (S (y_ rfl rfl (decide_eq_true h2)) ?_)
      refine zg (zc (zr rfl (zf (zb (L (S (za rfl) ?_))))))
      refine L (S (P_and rfl rfl (andU64 (b := 9223372036854775808) (by omega) (by omega) rfl)) ?_)
      refine L (S (P_or rfl rfl (orU64 (b := 9218868437227405312) (Nat.lt_of_le_of_lt Nat.and_le_left (by omega)) (by omega) (c := 9218868437227405312) (by rw [ho]; rfl))) ?_)
      refine L (S (Yx (m := 9218868437227405312) rfl) ?_)
      refine L (S (P_mkI Tryz.underlying185 (by intro ms h; cases h) rfl) ?_)
      refine L (S (zd rfl) (L (S (zd rfl) (zg (zc (zy (zm ?_)))))))
      refine Z7 Tryz.results186 rfl rfl ?_
      exact ⟨rfl, rfl⟩
    · rw [if_neg h2]
      have hor : (m - 4503599627370496) ||| ((1075 + e).toNat * 4503599627370496) = (1075 + e).toNat * 4503599627370496 + (m - 4503599627370496) := by
        have := Nat.two_pow_add_eq_or_of_lt (i := 52) (b := m - 4503599627370496) (by simp; omega) (1075 + e).toNat
        rw [Nat.or_comm, Nat.mul_comm]
        exact this.symm
      refine zf (zb (L (S (zd rfl) (L (S (zd rfl) (zg (zc (zf (zf (zb (L (S (za rfl) ?_))))))))))))
      refine L (S (P_and rfl rfl (andU64 (b := 4503599627370496) (by omega) (by omega) rfl)) ?_)
      refine L (S (zR rfl rfl (decide_eq_false (by rw [h52]; decide))) ?_)
      refine zg (zc (zk rfl (zo (zc (zf (zf (zb (L (S (za rfl) ?_)))))))))
      refine L (S (y_ rfl rfl (decide_eq_false h2)) ?_)
      refine zg (zc (zk rfl (zo (zc (zf (zb (L (S (za rfl) ?_))))))))
      refine L (S (P_andNot rfl rfl (andNot52 (by omega) hm)) ?_)
      refine L (S (za rfl) ?_)
      refine L (S (zT rfl rfl (z1 (c := ((1075 + e).toNat : Int)) (by omega))) ?_)
      refine L (S (P_conv Tryz.underlying3 Tryz.underlying131 rfl (wU64 (c := ((1075 + e).toNat : Int)) (by omega))) ?_)
      refine L (S (P_shl rfl rfl (by omega) (shlU64 (s := 52) rfl (by omega) rfl (by simp; omega))) ?_)
      refine L (S (P_or rfl rfl (orU64 (by omega) (by simp; omega) rfl)) ?_)
      refine L (S (Yx rfl) ?_)
      refine L (S (zd rfl) (L (S (zd rfl) (zg (zc (zy ?_))))))
      refine Z7 Tryz.results186 rfl rfl ?_
      refine ⟨?_, rfl⟩
      have h52' : (2 : Nat) ^ 52 = 4503599627370496 := by decide
      rw [h52', hor]
      rfl

theorem ptV_get {i : Nat} {x : Nat × Nat} (h : Go.Pinned.pow10Rows[i]? = some x) : ptV[2 * i]? = some (.int .u64 (x.1 : Int)) ∧ ptV[2 * i + 1]? = some (.int .u64 (x.2 : Int)) :=
  flat2 (fun x : Nat × Nat => [Value.int .u64 (x.1 : Int), Value.int .u64 (x.2 : Int)]) (fun _ => rfl) _ i x h
theorem prescale_ret (hv : Vr w) {b : Nat} {c0 c1 c2 : Value} (hb : Blk w b [c0, c1, c2] 234) (hbg : ¬ b = 9) (e p lp : Int) (i : Nat) (hi : p + 348 = (i : Int)) {x : Nat × Nat} (hx : Go.Pinned.pow10Rows[i]? = some x) (he : -10000 ≤ e ∧ e ≤ 10000) (hlp : -10000 ≤ lp ∧ lp ≤ 10000) :
    Ret Tryz.prog 178 [.pointer (some ⟨b, 0, none⟩), .int .i64 e, .int .i64 p, .int .i64 lp] w fun _ w' => Blk w' b [.int .u64 (x.1 : Int), .int .u64 (x.2 : Int), .int .i64 (-(e + lp + 3))] 234 ∧ Mv (At b) w w' := by
  have hil : i < 696 := by
    have := (List.getElem?_eq_some_iff.1 hx).1
    rwa [pt_len] at this
  obtain ⟨g1, g2⟩ := ptV_get hx
  have hr1 := hv.pt _ _ g1
  refine zN Tryz.func178 Tryz.ntmps178 rfl rfl ?_
  refine zf (zb (L (S (za rfl) (L (S (za rfl) ?_)))))
  refine L (S (Zd rfl rfl (z1 (c := (i : Int)) (by omega))) ?_)
  refine L (S (P_indexAddrA Tryz.underlying249 (zD ti_248) rfl rfl (j := i) rfl hil (q := 2 * i) (by omega)) ?_)
  refine L (S (ze fo_248_0 rfl) ?_)
  refine L (zi sc_131 rfl (by have := hr1; rw [Nat.zero_add] at this; exact this) ?_)
  refine L (S (Zy rfl) (L (S (ze fo_234_0 rfl) ?_)))
  refine L (yv ti_131 rfl rfl rfl hb (by show 0 < 3; omega) ?_)
  rintro w1 hb1 hm1
  refine zg (zc (zf ?_))
  have hv1 : Row w1 9 0 ptV := hv.pt.mv hm1 (fun h => hbg h.symm)
  have hr2 := hv1 _ _ g2
  refine zb (L (S (za rfl) (L (S (za rfl) ?_))))
  refine L (S (Zd rfl rfl (z1 (c := (i : Int)) (by omega))) ?_)
  refine L (S (P_indexAddrA Tryz.underlying249 (zD ti_248) rfl rfl (j := i) rfl hil (q := 2 * i) (by omega)) ?_)
  refine L (S (ze fo_248_1 rfl) ?_)
  refine L (zi sc_131 rfl (by have := hr2; rw [Nat.zero_add] at this; exact this) ?_)
  refine L (S (Zy rfl) (L (S (ze fo_234_1 rfl) ?_)))
  refine L (yv ti_131 rfl rfl rfl hb1 (by show 1 < 3; omega) ?_)
  rintro w2 hb2 hm2
  refine zg (zc (zb (L (S (za rfl) (L (S (za rfl) (L (S (za rfl) ?_))))))))
  refine L (S (zT rfl rfl (z1 (c := e + lp) (by omega))) ?_)
  refine L (S (zT rfl rfl (z1 (c := e + lp + 3) (by omega))) ?_)
  refine L (S (P_neg rfl (z1 (c := -(e + lp + 3)) (by omega))) ?_)
  refine L (S (Zy rfl) (L (S (ze fo_234_2 rfl) ?_)))
  refine L (yv Yf rfl rfl rfl hb2 (by show 2 < 3; omega) ?_)
  rintro w3 hb3 hm3
  refine zg ?_
  refine F_end0 Tryz.results178 ?_
  exact ⟨hb3, (hm1.trans hm2 fun _ _ h => h).trans hm3 fun _ _ h => h⟩

/-- The scaled number. -/
def usF (x hi lo s : Nat) : Nat :=
  if x * hi / 18446744073709551616 / 2 ^ s * 2 ^ s % 18446744073709551616 ≠ x * hi / 18446744073709551616 then x * hi / 18446744073709551616 / 2 ^ s ||| 1
  else (x * hi / 18446744073709551616 - (if x * hi % 18446744073709551616 < x * lo / 18446744073709551616 then 1 else 0)) / 2 ^ s ||| (if 1 < (x * hi % 18446744073709551616 + 18446744073709551616 - x * lo / 18446744073709551616) % 18446744073709551616 then 1 else 0)
theorem or_one (a : Nat) : a ||| 1 ≤ a + 1 := by
  have h : a ||| 1 = a / 2 * 2 + 1 := by
    apply Nat.eq_of_testBit_eq
    intro i
    rw [Nat.testBit_or]
    cases i with
    | zero => simp
    | succ i =>
      rw [Nat.testBit_succ, Nat.testBit_succ, Nat.testBit_succ]
      simp
      rw [show (a / 2 * 2 + 1) / 2 = a / 2 by omega]
  omega
theorem usF_le {x hi lo s : Nat} (hx : x < 18446744073709551616) (hhi : hi ≤ 18446742974197923840) (hs : 8 ≤ s) : usF x hi lo s ≤ 72057589742960641 := by
  have h1 : x * hi / 18446744073709551616 < 18446742974197923840 := by
    rw [Nat.div_lt_iff_lt_mul (by omega)]
    calc x * hi ≤ x * 18446742974197923840 := Nat.mul_le_mul_left _ hhi
      _ < 18446744073709551616 * 18446742974197923840 := Nat.mul_lt_mul_of_pos_right hx (by omega)
      _ = _ := Nat.mul_comm _ _
  unfold usF
  generalize x * hi / 18446744073709551616 = h at *
  generalize x * hi % 18446744073709551616 = m
  generalize x * lo / 18446744073709551616 = q
  have h256 : 256 ≤ 2 ^ s := by
    have := Nat.pow_le_pow_right (n := 2) (by omega) hs
    simpa using this
  have key : ∀ y, y ≤ 18446742974197923839 → y / 2 ^ s ≤ 72057589742960640 := fun y hy => by
    have h2 : y / 2 ^ s ≤ y / 256 := Nat.div_le_div_left h256 (by omega)
    omega
  split
  · have := or_one (h / 2 ^ s)
    have := key h (by omega)
    omega
  · have e1 := key (h - (if m < q then 1 else 0)) (by split <;> omega)
    generalize (h - (if m < q then 1 else 0)) / 2 ^ s = y at *
    split
    · have := or_one y; omega
    · rw [Nat.or_zero]; omega
theorem mul64_ret (x y : Nat) (hx : x < 18446744073709551616) (hy : y < 18446744073709551616) : Ret Tryz.prog 188 [.int .u64 (x : Int), .int .u64 (y : Int)] w fun v w' => v = .tuple #[.int .u64 ((x * y / 18446744073709551616 : Nat) : Int), .int .u64 ((x * y % 18446744073709551616 : Nat) : Int)] ∧ w = w' :=
  (Tryz.bits_Mul64 x y hx hy w).mono fun e w' ⟨he, hw⟩ => ⟨_, he, rfl, hw.symm⟩
theorem len64_ret (x : Nat) (hx : x < 18446744073709551616) : Ret Tryz.prog 176 [.int .u64 (x : Int)] w fun v w' => v = .int .i64 (Lib.bitLen x : Int) ∧ w = w' :=
  (Tryz.bits_Len64 (x : Int) w (by omega) (by omega)).mono fun e w' ⟨he, hw⟩ => ⟨_, he, by rw [Int.toNat_natCast], hw.symm⟩
theorem and63 {s : Nat} (h : s < 64) : Z2 .and .i64 (s : Int) 63 = (s : Int) := by
  have : ∀ s : Fin 64, Z2 .and .i64 ((s.val : Nat) : Int) 63 = ((s.val : Nat) : Int) := by decide +kernel
  exact this ⟨s, h⟩
set_option maxHeartbeats 1000000 in
theorem uscale_ret {b x hi lo s : Nat} (hb : Row w b 0 [.int .u64 (hi : Int), .int .u64 (lo : Int), .int .i64 (s : Int)]) (hx : x < 18446744073709551616) (hhi : hi < 18446744073709551616) (hlo : lo < 18446744073709551616) (hs : s < 64) (hpos : 0 < x * hi / 18446744073709551616) :
    Ret Tryz.prog 179 [.int .u64 (x : Int), .pointer (some ⟨b, 0, none⟩)] w fun v w' => v = .int .u64 (usF x hi lo s : Int) ∧ Mv No w w' := by
  have c0 := hb 0 _ rfl
  have c1 := hb 1 _ rfl
  have c2 := hb 2 _ rfl
  have hlt : x * hi / 18446744073709551616 < 18446744073709551616 := by
    rw [Nat.div_lt_iff_lt_mul (by omega)]
    exact Nat.mul_lt_mul_of_lt_of_lt hx hhi
  have hlt2 : x * lo / 18446744073709551616 < 18446744073709551616 := by
    rw [Nat.div_lt_iff_lt_mul (by omega)]
    exact Nat.mul_lt_mul_of_lt_of_lt hx hlo
  have hm : x * hi % 18446744073709551616 < 18446744073709551616 := Nat.mod_lt _ (by omega)
  have hpw : 0 < 2 ^ s := Nat.two_pow_pos s
  have hM1 := mul64_ret (w := w) x hi hx hhi
  have hM2 := mul64_ret (w := w) x lo hx hlo
  unfold usF
  generalize x * hi / 18446744073709551616 = h at *
  generalize x * hi % 18446744073709551616 = m at *
  generalize x * lo / 18446744073709551616 = q at *
  have hdl : h / 2 ^ s ≤ h := Nat.div_le_self _ _
  have hshl : IntKind.u64.wrap (((h / 2 ^ s : Nat) : Int) * 2 ^ (min (s : Int).toNat IntKind.u64.bits)) = ((h / 2 ^ s * 2 ^ s % 18446744073709551616 : Nat) : Int) := by
    refine modU64 (x := h / 2 ^ s * 2 ^ s) ?_ rfl
    have e : min (s : Int).toNat IntKind.u64.bits = s := by
      show min (s : Int).toNat 64 = s
      omega
    rw [e]
    simp
  refine zN Tryz.func179 Tryz.ntmps179 rfl rfl ?_
  by_cases hne : h / 2 ^ s * 2 ^ s % 18446744073709551616 ≠ h
  · rw [if_pos hne]
    refine zf (zb (L (S (zd rfl) (zg (zc (zf (zb (L (S (za rfl) (L (S (za rfl) (L (S (Zy rfl) (L (S (ze fo_234_0 rfl) ?_)))))))))))))))
    refine L (zi sc_131 rfl c0 ?_)
    refine L (zq cb_188 rfl (hM1) ?_)
    rintro _ _ ⟨rfl, rfl⟩
    refine L (S (za rfl) (L (S (zv rfl rfl) (L (S (zv rfl rfl) (L (S (zd rfl) (L (S (zd rfl) (zg (zc (zf (zb (L (S (za rfl) (L (S (Zy rfl) (L (S (ze fo_234_2 rfl) ?_)))))))))))))))))))
    refine L (zi z_ rfl c2 ?_)
    refine L (S (P_and rfl rfl (and63 hs)) ?_)
    refine L (S (zd rfl) (zg (zc (zf (zf (zb (L (S (za rfl) (L (S (za rfl) ?_))))))))))
    refine L (S (P_shr rfl rfl (by omega) (Yw (s := s) rfl (by omega) rfl)) ?_)
    refine L (S (za rfl) ?_)
    refine L (S (P_shl rfl rfl (by omega) hshl) ?_)
    refine L (S (za rfl) ?_)
    refine L (S (Za rfl rfl (decide_eq_true (by omega))) ?_)
    refine zg (zc (zr rfl (zf (zb (L (S (za rfl) (L (S (za rfl) ?_))))))))
    refine L (S (P_shr rfl rfl (by omega) (Yw (s := s) rfl (by omega) rfl)) ?_)
    refine L (S (P_or rfl rfl (orU64 (b := 1) (by omega) (by omega) rfl)) ?_)
    refine L (S (zd rfl) (zg (zc (zy (zm ?_)))))
    refine zC Tryz.results179 rfl ?_
    exact ⟨rfl, Mv.refl w⟩
  · rw [if_neg hne]
    have hne' : h / 2 ^ s * 2 ^ s % 18446744073709551616 = h := Classical.not_not.1 hne
    have hsub : ∀ β : Bool, (if β = true then (1 : Nat) else 0) ≤ 1 := fun β => by cases β <;> decide
    have hor : ∀ (y : Nat) (β : Bool), y < 18446744073709551616 → y / 2 ^ s ||| (if β = true then 1 else 0) < 18446744073709551616 := fun y β hy => Nat.or_lt_two_pow (n := 64) (Nat.lt_of_le_of_lt (Nat.div_le_self _ _) hy) (by cases β <;> decide)
    refine zf (zb (L (S (zd rfl) (zg (zc (zf (zb (L (S (za rfl) (L (S (za rfl) (L (S (Zy rfl) (L (S (ze fo_234_0 rfl) ?_)))))))))))))))
    refine L (zi sc_131 rfl c0 ?_)
    refine L (zq cb_188 rfl (hM1) ?_)
    rintro _ _ ⟨rfl, rfl⟩
    refine L (S (za rfl) (L (S (zv rfl rfl) (L (S (zv rfl rfl) (L (S (zd rfl) (L (S (zd rfl) (zg (zc (zf (zb (L (S (za rfl) (L (S (Zy rfl) (L (S (ze fo_234_2 rfl) ?_)))))))))))))))))))
    refine L (zi z_ rfl c2 ?_)
    refine L (S (P_and rfl rfl (and63 hs)) ?_)
    refine L (S (zd rfl) (zg (zc (zf (zf (zb (L (S (za rfl) (L (S (za rfl) ?_))))))))))
    refine L (S (P_shr rfl rfl (by omega) (Yw (s := s) rfl (by omega) rfl)) ?_)
    refine L (S (za rfl) ?_)
    refine L (S (P_shl rfl rfl (by omega) hshl) ?_)
    refine L (S (za rfl) ?_)
    refine L (S (Za rfl rfl (decide_eq_false (by omega))) ?_)
    refine zg (zc (zk rfl (zo (zc (zf (zb (L (S (za rfl) (L (S (za rfl) (L (S (Zy rfl) (L (S (ze fo_234_1 rfl) ?_))))))))))))))
    refine L (zi sc_131 rfl c1 ?_)
    refine L (zq cb_188 rfl (hM2) ?_)
    rintro _ _ ⟨rfl, rfl⟩
    refine L (S (za rfl) (L (S (zv rfl rfl) (L (S (zv rfl rfl) (L (S (zd rfl) (L (S (zd rfl) (zg (zc (zf ?_))))))))))))
    have hwr : IntKind.u64.wrap ((m : Int) - (q : Int)) = (((m + 18446744073709551616 - q) % 18446744073709551616 : Nat) : Int) := by
      simp only [IntKind.wrap, IntKind.bits, IntKind.signed]
      simp
      omega
    by_cases h1 : m < q
    · rw [if_pos h1]
      by_cases h2 : 1 < (m + 18446744073709551616 - q) % 18446744073709551616
      · rw [if_pos h2]
        refine zb (L (S (za rfl) (L (S (za rfl) (L (S (za rfl) ?_))))))
        refine L (S (zG rfl rfl (decide_eq_true (by omega))) ?_)
        refine L (zq cb_166 rfl (Z9 true) ?_)
        rintro _ _ ⟨rfl, rfl⟩
        refine L (S (Zd rfl rfl (wU64 (c := ((h - 1 : Nat) : Int)) (by simp; omega))) ?_)
        refine L (S (zd rfl) (zg (zc (zf ?_))))
        refine yP 10 mixed rfl (fun hH => ?_)
        refine zp (i := 0) rfl (PureV.toS (za rfl)) ?_ (by assumption) (by decide +kernel) (by decide +kernel) (by decide +kernel) (fun _ _ _ _ h => h) rfl rfl rfl
        refine zp (i := 1) rfl (PureV.toS (za rfl)) ?_ (by assumption) (by decide +kernel) (by decide +kernel) (by decide +kernel) (fun _ _ _ _ h => h) rfl rfl rfl
        refine zp (i := 2) rfl (PureV.toS (P_shr rfl rfl (by omega) (Yw (s := s) rfl (by omega) rfl))) ?_ (by assumption) (by decide +kernel) (by decide +kernel) (by decide +kernel) (fun _ _ _ _ h => h) rfl rfl rfl
        refine zp (i := 3) rfl (PureV.toS (za rfl)) ?_ (by assumption) (by decide +kernel) (by decide +kernel) (by decide +kernel) (fun _ _ _ _ h => h) rfl rfl rfl
        refine zp (i := 4) rfl (PureV.toS (za rfl)) ?_ (by assumption) (by decide +kernel) (by decide +kernel) (by decide +kernel) (fun _ _ _ _ h => h) rfl rfl rfl
        refine zp (i := 5) rfl (PureV.toS (Zd rfl rfl hwr)) ?_ (by assumption) (by decide +kernel) (by decide +kernel) (by decide +kernel) (fun _ _ _ _ h => h) rfl rfl rfl
        refine zp (i := 6) rfl (PureV.toS (yp rfl rfl (decide_eq_true (by omega)))) ?_ (by assumption) (by decide +kernel) (by decide +kernel) (by decide +kernel) (fun _ _ _ _ h => h) rfl rfl rfl
        refine Ze (i := 7) (Z8 rfl (zq cb_166 rfl (Z9 true) ?_)) (by decide +kernel)
        rintro _ _ ⟨rfl, rfl⟩
        refine yh (by first | assumption | exact Mv.no (by assumption) (by assumption)) (fun hH => ?_)
        refine zp (i := 8) rfl (PureV.toS (P_or rfl rfl (orU64 (b := 1) (Nat.lt_of_le_of_lt (Nat.div_le_self _ _) (by omega)) (by omega) rfl))) ?_ (by assumption) (by decide +kernel) (by decide +kernel) (by decide +kernel) (fun _ _ _ _ h => h) rfl rfl rfl
        refine zp (i := 9) rfl (PureV.toS (zd rfl)) ?_ (by assumption) (by decide +kernel) (by decide +kernel) (by decide +kernel) (fun _ _ _ _ h => h) rfl rfl rfl
        refine yZ (by decide +kernel) ?_
        refine zc (zy ?_)
        refine zC Tryz.results179 rfl ?_
        exact ⟨rfl, hH⟩
      · rw [if_neg h2]
        refine zb (L (S (za rfl) (L (S (za rfl) (L (S (za rfl) ?_))))))
        refine L (S (zG rfl rfl (decide_eq_true (by omega))) ?_)
        refine L (zq cb_166 rfl (Z9 true) ?_)
        rintro _ _ ⟨rfl, rfl⟩
        refine L (S (Zd rfl rfl (wU64 (c := ((h - 1 : Nat) : Int)) (by simp; omega))) ?_)
        refine L (S (zd rfl) (zg (zc (zf ?_))))
        refine yP 10 mixed rfl (fun hH => ?_)
        refine zp (i := 0) rfl (PureV.toS (za rfl)) ?_ (by assumption) (by decide +kernel) (by decide +kernel) (by decide +kernel) (fun _ _ _ _ h => h) rfl rfl rfl
        refine zp (i := 1) rfl (PureV.toS (za rfl)) ?_ (by assumption) (by decide +kernel) (by decide +kernel) (by decide +kernel) (fun _ _ _ _ h => h) rfl rfl rfl
        refine zp (i := 2) rfl (PureV.toS (P_shr rfl rfl (by omega) (Yw (s := s) rfl (by omega) rfl))) ?_ (by assumption) (by decide +kernel) (by decide +kernel) (by decide +kernel) (fun _ _ _ _ h => h) rfl rfl rfl
        refine zp (i := 3) rfl (PureV.toS (za rfl)) ?_ (by assumption) (by decide +kernel) (by decide +kernel) (by decide +kernel) (fun _ _ _ _ h => h) rfl rfl rfl
        refine zp (i := 4) rfl (PureV.toS (za rfl)) ?_ (by assumption) (by decide +kernel) (by decide +kernel) (by decide +kernel) (fun _ _ _ _ h => h) rfl rfl rfl
        refine zp (i := 5) rfl (PureV.toS (Zd rfl rfl hwr)) ?_ (by assumption) (by decide +kernel) (by decide +kernel) (by decide +kernel) (fun _ _ _ _ h => h) rfl rfl rfl
        refine zp (i := 6) rfl (PureV.toS (yp rfl rfl (decide_eq_false (by omega)))) ?_ (by assumption) (by decide +kernel) (by decide +kernel) (by decide +kernel) (fun _ _ _ _ h => h) rfl rfl rfl
        refine Ze (i := 7) (Z8 rfl (zq cb_166 rfl (Z9 false) ?_)) (by decide +kernel)
        rintro _ _ ⟨rfl, rfl⟩
        refine yh (by first | assumption | exact Mv.no (by assumption) (by assumption)) (fun hH => ?_)
        refine zp (i := 8) rfl (PureV.toS (P_or rfl rfl (orU64 (b := 0) (Nat.lt_of_le_of_lt (Nat.div_le_self _ _) (by omega)) (by omega) rfl))) ?_ (by assumption) (by decide +kernel) (by decide +kernel) (by decide +kernel) (fun _ _ _ _ h => h) rfl rfl rfl
        refine zp (i := 9) rfl (PureV.toS (zd rfl)) ?_ (by assumption) (by decide +kernel) (by decide +kernel) (by decide +kernel) (fun _ _ _ _ h => h) rfl rfl rfl
        refine yZ (by decide +kernel) ?_
        refine zc (zy ?_)
        refine zC Tryz.results179 rfl ?_
        exact ⟨rfl, hH⟩
    · rw [if_neg h1]
      by_cases h2 : 1 < (m + 18446744073709551616 - q) % 18446744073709551616
      · rw [if_pos h2]
        refine zb (L (S (za rfl) (L (S (za rfl) (L (S (za rfl) ?_))))))
        refine L (S (zG rfl rfl (decide_eq_false (by omega))) ?_)
        refine L (zq cb_166 rfl (Z9 false) ?_)
        rintro _ _ ⟨rfl, rfl⟩
        refine L (S (Zd rfl rfl (wU64 (c := ((h - 0 : Nat) : Int)) (by simp; omega))) ?_)
        refine L (S (zd rfl) (zg (zc (zf ?_))))
        refine yP 10 mixed rfl (fun hH => ?_)
        refine zp (i := 0) rfl (PureV.toS (za rfl)) ?_ (by assumption) (by decide +kernel) (by decide +kernel) (by decide +kernel) (fun _ _ _ _ h => h) rfl rfl rfl
        refine zp (i := 1) rfl (PureV.toS (za rfl)) ?_ (by assumption) (by decide +kernel) (by decide +kernel) (by decide +kernel) (fun _ _ _ _ h => h) rfl rfl rfl
        refine zp (i := 2) rfl (PureV.toS (P_shr rfl rfl (by omega) (Yw (s := s) rfl (by omega) rfl))) ?_ (by assumption) (by decide +kernel) (by decide +kernel) (by decide +kernel) (fun _ _ _ _ h => h) rfl rfl rfl
        refine zp (i := 3) rfl (PureV.toS (za rfl)) ?_ (by assumption) (by decide +kernel) (by decide +kernel) (by decide +kernel) (fun _ _ _ _ h => h) rfl rfl rfl
        refine zp (i := 4) rfl (PureV.toS (za rfl)) ?_ (by assumption) (by decide +kernel) (by decide +kernel) (by decide +kernel) (fun _ _ _ _ h => h) rfl rfl rfl
        refine zp (i := 5) rfl (PureV.toS (Zd rfl rfl hwr)) ?_ (by assumption) (by decide +kernel) (by decide +kernel) (by decide +kernel) (fun _ _ _ _ h => h) rfl rfl rfl
        refine zp (i := 6) rfl (PureV.toS (yp rfl rfl (decide_eq_true (by omega)))) ?_ (by assumption) (by decide +kernel) (by decide +kernel) (by decide +kernel) (fun _ _ _ _ h => h) rfl rfl rfl
        refine Ze (i := 7) (Z8 rfl (zq cb_166 rfl (Z9 true) ?_)) (by decide +kernel)
        rintro _ _ ⟨rfl, rfl⟩
        refine yh (by first | assumption | exact Mv.no (by assumption) (by assumption)) (fun hH => ?_)
        refine zp (i := 8) rfl (PureV.toS (P_or rfl rfl (orU64 (b := 1) (Nat.lt_of_le_of_lt (Nat.div_le_self _ _) (by omega)) (by omega) rfl))) ?_ (by assumption) (by decide +kernel) (by decide +kernel) (by decide +kernel) (fun _ _ _ _ h => h) rfl rfl rfl
        refine zp (i := 9) rfl (PureV.toS (zd rfl)) ?_ (by assumption) (by decide +kernel) (by decide +kernel) (by decide +kernel) (fun _ _ _ _ h => h) rfl rfl rfl
        refine yZ (by decide +kernel) ?_
        refine zc (zy ?_)
        refine zC Tryz.results179 rfl ?_
        exact ⟨rfl, hH⟩
      · rw [if_neg h2]
        refine zb (L (S (za rfl) (L (S (za rfl) (L (S (za rfl) ?_))))))
        refine L (S (zG rfl rfl (decide_eq_false (by omega))) ?_)
        refine L (zq cb_166 rfl (Z9 false) ?_)
        rintro _ _ ⟨rfl, rfl⟩
        refine L (S (Zd rfl rfl (wU64 (c := ((h - 0 : Nat) : Int)) (by simp; omega))) ?_)
        refine L (S (zd rfl) (zg (zc (zf ?_))))
        refine yP 10 mixed rfl (fun hH => ?_)
        refine zp (i := 0) rfl (PureV.toS (za rfl)) ?_ (by assumption) (by decide +kernel) (by decide +kernel) (by decide +kernel) (fun _ _ _ _ h => h) rfl rfl rfl
        refine zp (i := 1) rfl (PureV.toS (za rfl)) ?_ (by assumption) (by decide +kernel) (by decide +kernel) (by decide +kernel) (fun _ _ _ _ h => h) rfl rfl rfl
        refine zp (i := 2) rfl (PureV.toS (P_shr rfl rfl (by omega) (Yw (s := s) rfl (by omega) rfl))) ?_ (by assumption) (by decide +kernel) (by decide +kernel) (by decide +kernel) (fun _ _ _ _ h => h) rfl rfl rfl
        refine zp (i := 3) rfl (PureV.toS (za rfl)) ?_ (by assumption) (by decide +kernel) (by decide +kernel) (by decide +kernel) (fun _ _ _ _ h => h) rfl rfl rfl
        refine zp (i := 4) rfl (PureV.toS (za rfl)) ?_ (by assumption) (by decide +kernel) (by decide +kernel) (by decide +kernel) (fun _ _ _ _ h => h) rfl rfl rfl
        refine zp (i := 5) rfl (PureV.toS (Zd rfl rfl hwr)) ?_ (by assumption) (by decide +kernel) (by decide +kernel) (by decide +kernel) (fun _ _ _ _ h => h) rfl rfl rfl
        refine zp (i := 6) rfl (PureV.toS (yp rfl rfl (decide_eq_false (by omega)))) ?_ (by assumption) (by decide +kernel) (by decide +kernel) (by decide +kernel) (fun _ _ _ _ h => h) rfl rfl rfl
        refine Ze (i := 7) (Z8 rfl (zq cb_166 rfl (Z9 false) ?_)) (by decide +kernel)
        rintro _ _ ⟨rfl, rfl⟩
        refine yh (by first | assumption | exact Mv.no (by assumption) (by assumption)) (fun hH => ?_)
        refine zp (i := 8) rfl (PureV.toS (P_or rfl rfl (orU64 (b := 0) (Nat.lt_of_le_of_lt (Nat.div_le_self _ _) (by omega)) (by omega) rfl))) ?_ (by assumption) (by decide +kernel) (by decide +kernel) (by decide +kernel) (fun _ _ _ _ h => h) rfl rfl rfl
        refine zp (i := 9) rfl (PureV.toS (zd rfl)) ?_ (by assumption) (by decide +kernel) (by decide +kernel) (by decide +kernel) (fun _ _ _ _ h => h) rfl rfl rfl
        refine yZ (by decide +kernel) ?_
        refine zc (zy ?_)
        refine zC Tryz.results179 rfl ?_
        exact ⟨rfl, hH⟩
end
end Go.Proofs.YtnoioimphcmeiaaGreatDoor
