/- Texts of this claim, joined by a program: FPar, FRead, FSmall, RowLib, RowLaid, RowVars, SLex, SP, SFind, SCols, SColsR, SOps, SClone, SCloneS. -/
import Derived.Test.YtnoioimphcmeiaaGreatDoorK2
import Derived.ProofKit
import Derived.OpenShut
import Derived.ShutString
import Derived.ChangeOld
import Derived.Below
import Derived.SizedLaws
import Derived.ChangeSlices
import Derived.Carry
import Derived.Test.YtnoioimphcmeiaaGreatDoorRows
import Derived.Handed
import Derived.Lay
import Derived.Shelf.Vars
import Derived.Lib.LaidU8
set_option linter.unusedVariables false
set_option linter.unusedSimpArgs false
namespace Go.Proofs.YtnoioimphcmeiaaGreatDoor
open Go.RowKit
set_option maxRecDepth 20000
set_option maxHeartbeats 1000000

theorem pt_some {i : Nat} (h : i < 696) : ∃ x, Go.Pinned.pow10Rows[i]? = some x ∧ 9223372036854775808 ≤ x.1 ∧ x.1 ≤ 18446742974197923840 ∧ x.2 < 18446744073709551616 := by
  have hl : i < Go.Pinned.pow10Rows.length := by rw [pt_len]; exact h
  exact ⟨_, List.getElem?_eq_getElem hl, pt_facts _ (List.getElem_mem hl)⟩
/-- The binary exponent. -/
def peF (b : Nat) (p : Int) : Int := min 1074 (53 - (b : Int) - lpF p)
/-- The shift. -/
def psF (b : Nat) (p : Int) : Int := 61 - (b : Int) - peF b p - lpF p
def pmF (u : Nat) : Nat := if 36028797018963966 ≤ u then rnF (u / 2 ||| u &&& 1) else rnF (u / 1 ||| u &&& 1)
/-- The float of d by ten to the p, and whether it is too great. -/
def pf64 (d : Nat) (p : Int) : Nat × Bool :=
  match Go.Pinned.pow10Rows[(p + 348).toNat]? with
  | none => (0, false)
  | some (hi, lo) =>
    if 64 ≤ psF (Lib.bitLen d) p then (0, false)
    else
      pkF (pmF (usF (d * 2 ^ (64 - Lib.bitLen d)) hi lo (psF (Lib.bitLen d) p).toNat)) (-(peF (Lib.bitLen d) p - (if 36028797018963966 ≤ usF (d * 2 ^ (64 - Lib.bitLen d)) hi lo (psF (Lib.bitLen d) p).toNat then 1 else 0)))
theorem pmF_lt {u : Nat} (h : u ≤ 72057589742960641) : pmF u < 9007199254740992 := by
  have h1 : ∀ v, v ||| u &&& 1 ≤ v + 1 := fun v => by
    have := or_one v
    rcases Nat.mod_two_eq_zero_or_one u with e | e <;> rw [Nat.and_one_is_mod, e]
    · rw [Nat.or_zero]; omega
    · exact this
  have h0 : u / 1 ||| u &&& 1 = u := by
    rw [Nat.div_one]
    apply Nat.eq_of_testBit_eq
    intro i
    rw [Nat.testBit_or, Nat.testBit_and]
    cases u.testBit i <;> simp
  unfold pmF
  split
  · have := h1 (u / 2)
    unfold rnF
    omega
  · rw [h0]
    unfold rnF
    omega
theorem lpF_bd {p : Int} (h1 : -400 ≤ p) (h2 : p ≤ 400) : -1400 ≤ lpF p ∧ lpF p ≤ 1400 := by unfold lpF; omega
theorem good0 : Good 0 := by unfold Good; omega
theorem pf64_good (d : Nat) (p : Int) (h0 : d ≠ 0) (h : d < 18446744073709551616) (h1 : -348 ≤ p) (h2 : p ≤ 340) : Good (pf64 d p).1 := by
  unfold pf64
  obtain ⟨b, e, e1, e2, e3, e4⟩ := bitLen_ok h0 h
  split
  · exact good0
  · rename_i hi lo hx
    split
    · exact good0
    · rename_i hs
      have hf := pt_facts _ (List.mem_of_getElem? hx)
      rw [e] at hs ⊢
      have hbd := lpF_bd (p := p) (by omega) (by omega)
      have hs8 : 8 ≤ (psF b p).toNat := by unfold psF peF at *; omega
      refine pkF_good (pmF_lt (usF_le e4 hf.2.1 hs8)) ?_
      have : peF b p ≤ 1074 := by unfold peF; omega
      split <;> omega

section
variable {w : World}
set_option maxHeartbeats 1000000 in
theorem parse64_ret (hv : Vr w) (d : Nat) (p : Int) (h0 : d ≠ 0) (h : d < 18446744073709551616) (h1 : -348 ≤ p) (h2 : p ≤ 340) : Ret Tryz.prog 169 [.int .u64 (d : Int), .int .i64 p, .int .u64 0] w fun v w' => v = .tuple #[.float .f64 (pf64 d p).1, errV (pf64 d p).2] ∧ Mv No w w' := by
  have hbd := lpF_bd (p := p) (by omega) (by omega)
  obtain ⟨b, eb, e1, e2, e3, e4⟩ := bitLen_ok h0 h
  obtain ⟨x, hx, x1, x2, x3⟩ := pt_some (i := (p + 348).toNat) (by omega)
  have hL := len64_ret (w := w) d h
  rw [eb] at hL
  unfold pf64
  rw [hx, eb]
  dsimp only
  have hpe1 : peF b p ≤ 1074 := by unfold peF; omega
  have hpe2 : -1500 ≤ peF b p := by unfold peF; omega
  have hps8 : 8 ≤ psF b p := by unfold psF peF at *; omega
  have hpsd : psF b p = 61 - (b : Int) - peF b p - lpF p := rfl
  have hpm : peF b p = min 1074 (53 - (b : Int) - lpF p) := rfl
  refine zN Tryz.func169 Tryz.ntmps169 rfl rfl ?_
  refine zf (zb (L (S (zd rfl) (L (S (zd rfl) (zg (zc (zf (zb (L (S (za rfl) ?_)))))))))))
  refine L (zq cb_176 rfl (hL) ?_)
  rintro _ _ ⟨rfl, rfl⟩
  refine L (S (zd rfl) (zg (zc (zf (zb (L (S (za rfl) ?_)))))))
  refine L (zq cb_177 rfl (log2Pow10_ret p (by omega) (by omega)) ?_)
  rintro _ _ ⟨rfl, rfl⟩
  refine L (S (zd rfl) (zg (zc (zf (zb (L (S (za rfl) ?_)))))))
  refine L (S (Zd rfl rfl (z1 (c := 53 - (b : Int)) (by omega))) ?_)
  refine L (S (za rfl) ?_)
  refine L (S (Zd rfl rfl (z1 (c := 53 - (b : Int) - lpF p) (by omega))) ?_)
  refine L (S (P_min rfl rfl rfl) ?_)
  refine L (S (zd rfl) (zg (zc (zf (zb ?_)))))
  refine L (ye (zs := [(.int .u64 0), (.int .u64 0), (.int .i64 0)]) ti_234 rfl ?_)
  rintro b2 w1 hb2 hm1 hn1
  refine zg (zc (zf ?_))
  have hv1 := hv.no hm1
  have hbg : ¬ b2 = 9 := fun he => by
    have hlt : 9 < w.heap.size := cell_lt (hv.pt 0 (ptV[0]'(by unfold ptV; decide +kernel)) (List.getElem?_eq_getElem _))
    omega
  refine zb (L (S (za rfl) (L (S (za rfl) ?_))))
  refine L (S (Zd rfl rfl (z1 (c := 64 - (b : Int)) (by omega))) ?_)
  refine L (S (Zd rfl rfl (z1 (c := peF b p - (64 - (b : Int))) (by omega))) ?_)
  refine L (S (za rfl) (L (S (za rfl) ?_)))
  refine L (zq cb_178 rfl (prescale_ret hv1 hb2 hbg _ _ _ (p + 348).toNat (by omega) hx (by omega) (by omega)) ?_)
  rintro _ w2 ⟨hb3, hm2⟩
  refine zg (zc (zf (zf ?_)))
  have hm02 : Mv No w w2 := hm1.new hm2 hn1
  have hs : -(peF b p - (64 - (b : Int)) + lpF p + 3) = psF b p := by omega
  rw [hs] at hb3
  by_cases h64 : 64 ≤ psF b p
  · rw [if_pos h64]
    refine zb (L (S (ze fo_234_2 rfl) ?_))
    refine L (zi z_ rfl (hb3.row 2 _ rfl) ?_)
    refine L (S (y_ rfl rfl (decide_eq_true h64)) ?_)
    refine zg (zc (zr rfl (zf (zb (L (S (za rfl) ?_))))))
    refine L (S (P_or rfl rfl (orU64 (a := 0) (b := 0) (by omega) (by omega) rfl)) ?_)
    refine L (S (Yx (m := 0) rfl) ?_)
    refine L (S (zd rfl) (L (S (zd rfl) (zg (zc (zy (zm ?_)))))))
    refine Z7 Tryz.results169 rfl rfl ?_
    exact ⟨rfl, hm02⟩
  · rw [if_neg h64]
    obtain ⟨s, hsn⟩ : ∃ s : Nat, psF b p = (s : Int) := ⟨(psF b p).toNat, by omega⟩
    have hst : (psF b p).toNat = s := by omega
    rw [hst]
    have hpos : 0 < d * 2 ^ (64 - b) * x.1 / 18446744073709551616 := by
      apply Nat.div_pos _ (by omega)
      calc 18446744073709551616 ≤ 9223372036854775808 * 9223372036854775808 := by decide
        _ ≤ d * 2 ^ (64 - b) * x.1 := Nat.mul_le_mul e3 x1
    have hu := usF_le (lo := x.2) (s := s) e4 x2 (by omega)
    have hus := uscale_ret (w := w2) (b := b2) (s := s) (by rw [hsn] at hb3; exact hb3.row) e4 (by omega) x3 (by omega) hpos
    have hmb := pmF_lt hu
    unfold pmF at hmb ⊢
    generalize usF (d * 2 ^ (64 - b)) x.1 x.2 s = u at *
    have hu1 : u &&& 1 ≤ 1 := by rw [Nat.and_one_is_mod]; omega
    have hor : ∀ v, v < 18446744073709551616 → v ||| u &&& 1 < 18446744073709551616 := fun v hv => Nat.or_lt_two_pow (n := 64) hv (by omega)
    have horb : ∀ v, v ≤ 72057589742960641 → v ||| u &&& 1 < 4611686018427387904 := fun v hv => Nat.or_lt_two_pow (n := 62) (by omega) (by omega)
    refine zb (L (S (ze fo_234_2 rfl) ?_))
    refine L (zi z_ rfl (hb3.row 2 _ rfl) ?_)
    refine L (S (y_ rfl rfl (decide_eq_false h64)) ?_)
    refine zg (zc (zk rfl (zo (zc (zf (zb (L (S (za rfl) (L (S (za rfl) ?_))))))))))
    refine L (S (Zd rfl rfl (z1 (c := ((64 - b : Nat) : Int)) (by omega))) ?_)
    refine L (S (P_shl rfl rfl (by omega) (shlU64 (s := 64 - b) rfl (by omega) rfl e4)) ?_)
    refine L (zq cb_179 rfl (hus) ?_)
    rintro _ w3 ⟨rfl, hm3⟩
    refine L (S (zd rfl) (zg (zc (zf ?_))))
    have hm03 := hm02.no hm3
    by_cases hun : 36028797018963966 ≤ u
    · rw [if_pos hun] at hmb ⊢
      rw [if_pos hun]
      refine zb (L (S (za rfl) ?_))
      refine L (zq cb_181 rfl (unmin_ret) ?_)
      rintro _ _ ⟨rfl, rfl⟩
      refine L (S (y_ rfl rfl (decide_eq_true (by omega))) ?_)
      refine L (zq cb_180 rfl (bool2i_ret true) ?_)
      rintro _ _ ⟨rfl, rfl⟩
      refine L (S (zd rfl) (zg (zc (zf (zb (L (S (za rfl) (L (S (za rfl) ?_)))))))))
      refine L (S (P_shr rfl rfl (by decide) (Yw (s := 1) rfl (by omega) rfl)) ?_)
      refine L (S (za rfl) ?_)
      refine L (S (P_and rfl rfl (andU64 (b := 1) (by omega) (by omega) rfl)) ?_)
      refine L (S (P_or rfl rfl (orU64 (by omega) (by omega) rfl)) ?_)
      refine L (S (zd rfl) (zg (zc (zf (zb (L (S (za rfl) (L (S (za rfl) ?_)))))))))
      refine L (S (Zd rfl rfl (z1 (c := peF b p - 1) (by simp; omega))) ?_)
      refine L (S (zd rfl) (zg (zc (zf (zb (L (S (za rfl) (L (S (za rfl) ?_)))))))))
      refine L (zq cb_183 rfl (round_ret _ (horb _ (by omega))) ?_)
      rintro _ _ ⟨rfl, rfl⟩
      refine L (S (P_or rfl rfl (orU64 (a := 0) (by omega) (Nat.lt_of_lt_of_le hmb (by decide)) (c := ((rnF (u / 2 ^ 1 ||| u &&& 1) : Nat) : Int)) (by rw [Nat.zero_or]))) ?_)
      refine L (S (za rfl) ?_)
      refine L (S (P_neg rfl (z1 (c := -(peF b p - 1)) (by omega))) ?_)
      refine L (zq cb_186 rfl (pack64_ret _ _ hmb (by omega) (by omega)) ?_)
      rintro _ _ ⟨rfl, rfl⟩
      refine L (S (zv rfl rfl) (L (S (zv rfl rfl) (L (S (zd rfl) (L (S (zd rfl) (zg (zc (zy ?_))))))))))
      refine Z7 Tryz.results169 rfl rfl ?_
      exact ⟨rfl, hm03⟩
    · rw [if_neg hun] at hmb ⊢
      rw [if_neg hun]
      refine zb (L (S (za rfl) ?_))
      refine L (zq cb_181 rfl (unmin_ret) ?_)
      rintro _ _ ⟨rfl, rfl⟩
      refine L (S (y_ rfl rfl (decide_eq_false (by omega))) ?_)
      refine L (zq cb_180 rfl (bool2i_ret false) ?_)
      rintro _ _ ⟨rfl, rfl⟩
      refine L (S (zd rfl) (zg (zc (zf (zb (L (S (za rfl) (L (S (za rfl) ?_)))))))))
      refine L (S (P_shr rfl rfl (by decide) (Yw (s := 0) rfl (by omega) rfl)) ?_)
      refine L (S (za rfl) ?_)
      refine L (S (P_and rfl rfl (andU64 (b := 1) (by omega) (by omega) rfl)) ?_)
      refine L (S (P_or rfl rfl (orU64 (by omega) (by omega) rfl)) ?_)
      refine L (S (zd rfl) (zg (zc (zf (zb (L (S (za rfl) (L (S (za rfl) ?_)))))))))
      refine L (S (Zd rfl rfl (z1 (c := peF b p - 0) (by simp; omega))) ?_)
      refine L (S (zd rfl) (zg (zc (zf (zb (L (S (za rfl) (L (S (za rfl) ?_)))))))))
      refine L (zq cb_183 rfl (round_ret _ (horb _ (by omega))) ?_)
      rintro _ _ ⟨rfl, rfl⟩
      refine L (S (P_or rfl rfl (orU64 (a := 0) (by omega) (Nat.lt_of_lt_of_le hmb (by decide)) (c := ((rnF (u / 2 ^ 0 ||| u &&& 1) : Nat) : Int)) (by rw [Nat.zero_or]))) ?_)
      refine L (S (za rfl) ?_)
      refine L (S (P_neg rfl (z1 (c := -(peF b p - 0)) (by omega))) ?_)
      refine L (zq cb_186 rfl (pack64_ret _ _ hmb (by omega) (by omega)) ?_)
      rintro _ _ ⟨rfl, rfl⟩
      refine L (S (zv rfl rfl) (L (S (zv rfl rfl) (L (S (zd rfl) (L (S (zd rfl) (zg (zc (zy ?_))))))))))
      refine Z7 Tryz.results169 rfl rfl ?_
      exact ⟨rfl, hm03⟩

/-- The float of m by ten to the e where it is exact. -/
def exF (m : Nat) (e : Int) : Nat × Bool :=
  if 4503599627370496 ≤ m then (0, false) else if e = 0 then (FloatKind.f64.nearest (m : Int), true) else
  if -22 ≤ e ∧ e < 0 then ((Ieee.double.div (FloatKind.f64.nearest (m : Int)) (pow10L[(-e).toNat]?.getD 0)).getD 0, true) else (FloatKind.f64.nearest (m : Int), false)
theorem p10_some {i : Nat} (h : i < 23) : ∃ x, pow10L[i]? = some x ∧ Pos x := by
  have hl : i < pow10L.length := h
  exact ⟨_, List.getElem?_eq_getElem hl, pos_of_B (pow10_pos _ (List.getElem_mem hl))⟩
theorem exF_good (m : Nat) (e : Int) : Good (exF m e).1 := by
  unfold exF
  split
  · exact good0
  · split
    · exact nearest_good m
    · split
      · rename_i h
        obtain ⟨x, hx, hp⟩ := p10_some (i := (-e).toNat) (by omega)
        obtain ⟨r, hr, hg⟩ := div_good (nearest_good m) hp
        rw [hx, Option.getD_some, hr]
        exact hg
      · exact nearest_good m
theorem exact_ret (hv : Vr w) (m : Nat) (e : Int) (h : m < 18446744073709551616) (h1 : -400 ≤ e) (h2 : e ≤ 400) (he : e ≤ 0 ∨ 4503599627370496 ≤ m) : Ret Tryz.prog 168 [.int .u64 (m : Int), .int .i64 e, .bool false] w fun v w' => v = .tuple #[.float .f64 (exF m e).1, .bool (exF m e).2] ∧ w = w' := by
  have hinfo := hv.info 0 _ rfl
  obtain ⟨b, o, c, g1, g2⟩ := hv.p10
  unfold exF
  refine zN Tryz.func168 Tryz.ntmps168 rfl rfl ?_
  by_cases hm : 4503599627370496 ≤ m
  · rw [if_pos hm]
    refine zf (zb (L (S (zd rfl) (L (S (zd rfl) (zg (zc (zf (zf (zb (L (S (za rfl) (L (S (ze fo_208_0 rfl) ?_))))))))))))))
    refine L (zi sc_74 rfl hinfo ?_)
    refine L (S (P_shr rfl rfl (by decide) (Yw (s := 52) rfl (by omega) rfl)) ?_)
    refine L (S (Za rfl rfl (decide_eq_true (by simp; omega))) ?_)
    refine zg (zc (zr rfl (zy (zm ?_))))
    refine Z7 Tryz.results168 rfl rfl ?_
    exact ⟨rfl, rfl⟩
  · rw [if_neg hm]
    by_cases he0 : e = 0
    · subst he0
      rw [if_pos rfl]
      refine zf (zb (L (S (zd rfl) (L (S (zd rfl) (zg (zc (zf (zf (zb (L (S (za rfl) (L (S (ze fo_208_0 rfl) ?_))))))))))))))
      refine L (zi sc_74 rfl hinfo ?_)
      refine L (S (P_shr rfl rfl (by decide) (Yw (s := 52) rfl (by omega) rfl)) ?_)
      refine L (S (Za rfl rfl (decide_eq_false (by simp; omega))) ?_)
      refine zg (zc (zk rfl (zo (zc (zf (zb (L (S (za rfl) ?_))))))))
      refine L (S (P_convIF (k := .f64) (t' := .int .u64) (by kernel_rfl) (by kernel_rfl) rfl) ?_)
      refine L (S (zd rfl) (zg (zc (zf (zf (zb (L (S (za rfl) (zg (zc (zk rfl (zo (zc (zf (zx (zf (zb (L (S (za rfl) ?_)))))))))))))))))))
      refine L (S (zR rfl rfl (decide_eq_true rfl)) ?_)
      refine L (S (zd rfl) (zg (zc (zr rfl (zf (zb (L (S (za rfl) (L (S (zd rfl) (L (S (zd rfl) (zg (zc (zy (zP (zm ?_)))))))))))))))))
      refine Z7 Tryz.results168 rfl rfl ?_
      exact ⟨rfl, rfl⟩
    · rw [if_neg he0]
      by_cases h22 : -22 ≤ e
      · obtain ⟨x, hx, hp⟩ := p10_some (i := (-e).toNat) (by omega)
        obtain ⟨r, hr, hg⟩ := div_good (nearest_good m) hp
        rw [if_pos ⟨h22, by omega⟩, hx, Option.getD_some, hr, Option.getD_some]
        refine zf (zb (L (S (zd rfl) (L (S (zd rfl) (zg (zc (zf (zf (zb (L (S (za rfl) (L (S (ze fo_208_0 rfl) ?_))))))))))))))
        refine L (zi sc_74 rfl hinfo ?_)
        refine L (S (P_shr rfl rfl (by decide) (Yw (s := 52) rfl (by omega) rfl)) ?_)
        refine L (S (Za rfl rfl (decide_eq_false (by simp; omega))) ?_)
        refine zg (zc (zk rfl (zo (zc (zf (zb (L (S (za rfl) ?_))))))))
        refine L (S (P_convIF (k := .f64) (t' := .int .u64) (by kernel_rfl) (by kernel_rfl) rfl) ?_)
        refine L (S (zd rfl) (zg (zc (zf (zf (zb (L (S (za rfl) (zg (zc (zk rfl (zo (zc (zf (zx (zf (zb (L (S (za rfl) ?_)))))))))))))))))))
        refine L (S (zR rfl rfl (decide_eq_false he0)) ?_)
        refine L (S (zd rfl) (zg (zc (zk rfl (zf (zb (L (S (za rfl) ?_))))))))
        refine L (S (yp rfl rfl (decide_eq_false (by omega))) ?_)
        refine L (S (za rfl) (zl (j := 2) (dj := 25) (b := true) (b' := false) (d := 26) rfl (zl (j := 2) (dj := 25) (b := true) (b' := false) (d := 27) rfl (L (S (zj rfl rfl) (L (S (zd rfl) (zg (zc (zk rfl (zf (zb (L (S (za rfl) ?_))))))))))))))
        refine L (S (zG rfl rfl (decide_eq_true (by omega))) ?_)
        refine L (S (za rfl) (zh (j := 2) (dj := 53) (b := true) (S (za rfl) ?_) rfl))
        refine zh (j := 2) (dj := 53) (b := true) (S (y_ rfl rfl (decide_eq_true h22)) ?_) rfl
        refine L (S (zt rfl rfl) (L (S (zd rfl) (zg (zc (zr rfl (zf (zb (L (S (za rfl) ?_))))))))))
        refine L (zi sc_244 rfl g1 ?_)
        refine L (S (za rfl) ?_)
        refine L (S (P_neg rfl (z1 (c := (((-e).toNat : Nat) : Int)) (by omega))) ?_)
        refine L (S (zn Tryz.underlying244 (zD ti_166) rfl rfl (j := (-e).toNat) rfl (by omega) rfl) ?_)
        refine L (zi sc_166 rfl (g2 _ _ (by rw [Nat.mul_one, List.getElem?_map, hx]; rfl)) ?_)
        refine L (S (P_quoF rfl rfl hr) ?_)
        refine L (S (zd rfl) (L (S (zd rfl) (zg (zc (zy (zP (zm ?_))))))))
        refine Z7 Tryz.results168 rfl rfl ?_
        exact ⟨rfl, rfl⟩
      · rw [if_neg (by omega)]
        refine zf (zb (L (S (zd rfl) (L (S (zd rfl) (zg (zc (zf (zf (zb (L (S (za rfl) (L (S (ze fo_208_0 rfl) ?_))))))))))))))
        refine L (zi sc_74 rfl hinfo ?_)
        refine L (S (P_shr rfl rfl (by decide) (Yw (s := 52) rfl (by omega) rfl)) ?_)
        refine L (S (Za rfl rfl (decide_eq_false (by simp; omega))) ?_)
        refine zg (zc (zk rfl (zo (zc (zf (zb (L (S (za rfl) ?_))))))))
        refine L (S (P_convIF (k := .f64) (t' := .int .u64) (by kernel_rfl) (by kernel_rfl) rfl) ?_)
        refine L (S (zd rfl) (zg (zc (zf (zf (zb (L (S (za rfl) (zg (zc (zk rfl (zo (zc (zf (zx (zf (zb (L (S (za rfl) ?_)))))))))))))))))))
        refine L (S (zR rfl rfl (decide_eq_false he0)) ?_)
        refine L (S (zd rfl) (zg (zc (zk rfl (zf (zb (L (S (za rfl) ?_))))))))
        refine L (S (yp rfl rfl (decide_eq_false (by omega))) ?_)
        refine L (S (za rfl) (zl (j := 2) (dj := 25) (b := true) (b' := false) (d := 26) rfl (zl (j := 2) (dj := 25) (b := true) (b' := false) (d := 27) rfl (L (S (zj rfl rfl) (L (S (zd rfl) (zg (zc (zk rfl (zf (zb (L (S (za rfl) ?_))))))))))))))
        refine L (S (zG rfl rfl (decide_eq_true (by omega))) ?_)
        refine L (S (za rfl) (zh (j := 2) (dj := 53) (b := true) (S (za rfl) ?_) rfl))
        refine zh (j := 2) (dj := 53) (b := true) (S (y_ rfl rfl (decide_eq_false h22)) ?_) rfl
        refine L (S (zt rfl rfl) (L (S (zd rfl) (zg (zc (zk rfl (zo (yj (zc (zy ?_))))))))))
        refine Z7 Tryz.results168 rfl rfl ?_
        exact ⟨rfl, rfl⟩
theorem special_ret {l : List UInt8} {c : UInt8} (hc : l[0]? = some c) (hd : yL c.toNat = true) : Ret Tryz.prog 157 [.string (str l)] w fun v w' => v = .tuple #[.float .f64 0, .int .i64 0, .bool false] ∧ w = w' := by
  have hd' : 48 ≤ c.toNat ∧ c.toNat ≤ 57 := by unfold yL at hd; simpa using hd
  have hpos : 0 < l.length := (List.getElem?_eq_some_iff.1 hc).1
  have hsz := yR l
  refine zN Tryz.func157 Tryz.ntmps157 rfl rfl ?_
  refine zf (zb (L (S (zd rfl) (L (S (zd rfl) (L (S (zd rfl) (zg (zc (zf (zf (zb (L (S (za rfl) ?_))))))))))))))
  refine L (S (yi Tryz.underlying9 rfl) ?_)
  refine L (S (zR rfl rfl (decide_eq_false (by omega))) ?_)
  refine zg (zc (zk rfl (zo (zc (zf (zb (L (S (zd rfl) (zg (zc (zf (zb (L (S (zd rfl) (zg (zc (zf (zf (zb (L (S (za rfl) ?_)))))))))))))))))))))
  refine L (S (zY Tryz.underlying9 rfl rfl (j := 0) rfl (yd hc)) ?_)
  refine zg (zc (zx (zf (zx (zf (zx (zf (zx (zf (zf (zf (zf (zb ?_)))))))))))))
  refine L (S (zR rfl rfl (decide_eq_false (by omega))) ?_)
  refine L (S (zd rfl) (zg (zc (zk rfl (zb ?_)))))
  refine L (S (zR rfl rfl (decide_eq_false (by omega))) ?_)
  refine L (S (zd rfl) (zg (zc (zk rfl (zo (zc (zf (zf (zf (zb ?_))))))))))
  refine L (S (zR rfl rfl (decide_eq_false (by omega))) ?_)
  refine L (S (zd rfl) (zg (zc (zk rfl (zb ?_)))))
  refine L (S (zR rfl rfl (decide_eq_false (by omega))) ?_)
  refine L (S (zd rfl) (zg (zc (zk rfl (zo (zc (zf (zf (zb ?_)))))))))
  refine L (S (zR rfl rfl (decide_eq_false (by omega))) ?_)
  refine L (S (zd rfl) (zg (zc (zk rfl (zb ?_)))))
  refine L (S (zR rfl rfl (decide_eq_false (by omega))) ?_)
  refine L (S (zd rfl) (zg (zc (zk rfl (zo (zc (yn (blk_o rfl (zL (blk_o rfl (zL (blk_o rfl (zL (yK (zc (zf (zb (L (S (zd rfl) (L (S (zd rfl) (L (S (zd rfl) (zg (zc (zy ?_))))))))))))))))))))))))))
  refine Yv Tryz.results157 rfl rfl rfl ?_
  exact ⟨rfl, rfl⟩
theorem lower_ret (c : UInt8) : Ret Tryz.prog 174 [bv c] w fun v w' => v = bv (c ||| 32) ∧ w = w' := by
  have h : ∀ c : UInt8, Z2 .or .u8 (c.toNat : Int) 32 = ((c ||| 32).toNat : Int) := by
    intro c
    have : ∀ n : Fin 256, Z2 .or .u8 ((n.val : Nat) : Int) 32 = (((UInt8.ofNat n.val) ||| 32).toNat : Int) := by decide +kernel
    have h2 := this ⟨c.toNat, c.toNat_lt⟩
    simpa using h2
  refine zN Tryz.func174 Tryz.ntmps174 rfl rfl ?_
  refine zf (zb (L (S (zd rfl) (zg (zc (zf (zb (L (S (za rfl) ?_)))))))))
  refine L (S (P_or rfl rfl (h c)) ?_)
  refine L (S (zd rfl) (zg (zc (zy ?_))))
  refine zC Tryz.results174 rfl ?_
  exact ⟨rfl, rfl⟩
end
end Go.Proofs.YtnoioimphcmeiaaGreatDoor
namespace Go.Proofs.YtnoioimphcmeiaaGreatDoor
open Go.RowKit
set_option maxRecDepth 20000
set_option maxHeartbeats 1000000

/-- What is known of a number while it is read. -/
structure RS where
  m : Nat
  tr : Bool
  dot : Bool
  sd : Bool
  nd : Nat
  nm : Nat
  dp : Int
def rdS (s : RS) (c : UInt8) : RS :=
  if c.toNat = 46 then { s with dot := true, dp := s.nd }
  else if c.toNat = 48 ∧ s.nd = 0 then { s with sd := true, dp := s.dp - 1 }
  else if s.nm < 19 then { s with sd := true, nd := s.nd + 1, m := s.m * 10 + (c.toNat - 48), nm := s.nm + 1 }
  else { s with sd := true, nd := s.nd + 1, tr := if c.toNat = 48 then s.tr else true }
def rd0 : RS := ⟨0, false, false, false, 0, 0, 0⟩
def rdF (l : List UInt8) : RS := l.foldl rdS rd0
structure RI (s : RS) (n : Nat) : Prop where
  lt : s.m < 10 ^ s.nm
  nm : s.nm = min s.nd 19
  ge : 0 < s.nm → 10 ^ (s.nm - 1) ≤ s.m
  hi : s.dp ≤ s.nd
  lo : -(n : Int) ≤ s.dp
  nd : s.nd ≤ n
theorem RI.zero : RI rd0 0 := ⟨by decide, by decide, fun h => absurd h (by decide), by decide, by decide, by decide⟩
theorem RI.step {s : RS} {n : Nat} {c : UInt8} (h : RI s n) (hc : c.toNat = 46 ∨ (48 ≤ c.toNat ∧ c.toNat ≤ 57)) : RI (rdS s c) (n + 1) := by
  obtain ⟨h1, h2, h3, h4, h5, h6⟩ := h
  unfold rdS
  split
  · exact ⟨h1, h2, h3, Int.le_refl _, by dsimp only; omega, by dsimp only; omega⟩
  · split
    · exact ⟨h1, h2, h3, by dsimp only; omega, by dsimp only; omega, by dsimp only; omega⟩
    · split
      · refine ⟨?_, by dsimp only; omega, fun _ => ?_, by dsimp only; omega, by dsimp only; omega, by dsimp only; omega⟩
        · dsimp only
          rw [Nat.pow_succ]
          omega
        · dsimp only
          rw [Nat.add_sub_cancel]
          by_cases h0 : s.nm = 0
          · rw [h0]
            have : s.nd = 0 := by omega
            show 1 ≤ _
            omega
          · have h7 := h3 (by omega)
            obtain ⟨k, hk⟩ : ∃ k, s.nm = k + 1 := ⟨s.nm - 1, by omega⟩
            rw [hk, Nat.add_sub_cancel] at h7
            rw [hk, Nat.pow_succ]
            omega
      · exact ⟨h1, by dsimp only; omega, h3, by dsimp only; omega, by dsimp only; omega, by dsimp only; omega⟩
theorem rdF_snoc {l : List UInt8} {i : Nat} {c : UInt8} (h : l[i]? = some c) : rdF (l.take (i + 1)) = rdS (rdF (l.take i)) c := by
  unfold rdF
  rw [List.take_add_one, h, List.foldl_append]
  rfl
theorem m_lt {s : RS} {n : Nat} (h : RI s n) : s.m < 10000000000000000000 := by
  have h2 := h.nm
  have : 10 ^ s.nm ≤ 10 ^ 19 := Nat.pow_le_pow_right (by omega) (by omega)
  have := h.lt
  omega
theorem m_lt18 {s : RS} {n : Nat} (h : RI s n) (h19 : s.nm < 19) : s.m < 1000000000000000000 := by
  have : 10 ^ s.nm ≤ 10 ^ 18 := Nat.pow_le_pow_right (by omega) (by omega)
  have := h.lt
  omega
/-- The power of ten. -/
def rdE (s : RS) : Int := if s.m ≠ 0 then s.dp - s.nm else 0
theorem rdE_bd {s : RS} {n : Nat} (h : RI s n) : -(n : Int) - 19 ≤ rdE s ∧ rdE s ≤ n := by
  obtain ⟨h1, h2, h3, h4, h5, h6⟩ := h
  unfold rdE
  split <;> omega
theorem rdE_hi {s : RS} {n : Nat} (h : RI s n) : rdE s ≤ 0 ∨ 4503599627370496 ≤ s.m := by
  obtain ⟨h1, h2, h3, h4, h5, h6⟩ := h
  unfold rdE
  split
  · by_cases h19 : s.nd < 19
    · omega
    · have : s.nm = 19 := by omega
      rw [this] at h3
      have := h3 (by omega)
      omega
  · omega
/-- One point, else digits, a digit first. -/
structure RT (l : List UInt8) (n : Nat) : Prop where
  dot : l[n]? = some 46
  dig : ∀ i c, l[i]? = some c → i ≠ n → 48 ≤ c.toNat ∧ c.toNat ≤ 57
  pos : 0 < n
theorem RealT.rt {l : List UInt8} (h : RealT l) : ∃ n, RT l n := by
  obtain ⟨a, b, rfl, ha, hb, hda, hdb⟩ := h
  have hpos : 0 < a.length := List.length_pos_iff.2 ha
  refine ⟨a.length, ⟨by simp, ?_, hpos⟩⟩
  intro i c hc hi
  have key : ∀ c : UInt8, yL c.toNat = true → 48 ≤ c.toNat ∧ c.toNat ≤ 57 := fun c h => by unfold yL at h; simpa using h
  rcases Nat.lt_or_ge i a.length with h | h
  · rw [List.getElem?_append_left h] at hc
    exact key c (hda c (List.mem_of_getElem? hc))
  · rw [List.getElem?_append_right h] at hc
    obtain ⟨k, hk⟩ : ∃ k, i - a.length = k + 1 := ⟨i - a.length - 1, by omega⟩
    rw [hk, List.getElem?_cons_succ] at hc
    exact key c (hdb c (List.mem_of_getElem? hc))
theorem RT.lt {l : List UInt8} {n : Nat} (h : RT l n) : n < l.length := (List.getElem?_eq_some_iff.1 h.dot).1
theorem RT.ri {l : List UInt8} {n : Nat} (h : RT l n) : ∀ i, i ≤ l.length → RI (rdF (l.take i)) i := by
  intro i
  induction i with
  | zero => intro _; exact RI.zero
  | succ i ih =>
    intro hi
    have hc : l[i]? = some l[i] := List.getElem?_eq_getElem hi
    rw [rdF_snoc hc]
    refine (ih (by omega)).step ?_
    by_cases hin : i = n
    · subst hin
      have := h.dot
      rw [hc] at this
      have : l[i] = 46 := by simpa using this
      rw [this]
      exact .inl rfl
    · exact .inr (h.dig i _ hc hin)

section
variable {w : World}
set_option maxHeartbeats 2000000 in
theorem readFloat_ret {l : List UInt8} {n : Nat} (hr : RT l n) (hl : l.length ≤ 100000) : Ret Tryz.prog 158 [.string (str l)] w fun v w' => v = .tuple #[.int .u64 ((rdF l).m : Int), .int .i64 (rdE (rdF l)), .bool false, .bool (rdF l).tr, .bool false, .int .i64 (l.length : Int), .bool true] ∧ w = w' := by
  have hsz := yR l
  have hnl := hr.lt
  have hn0 := hr.pos
  obtain ⟨c0, hc0⟩ : ∃ c, l[0]? = some c := ⟨l[0], List.getElem?_eq_getElem (by omega)⟩
  have hd0 := hr.dig 0 c0 hc0 (by omega)
  refine zN Tryz.func158 Tryz.ntmps158 rfl rfl ?_
  refine zf (zb (L (S (zd rfl) (L (S (zd rfl) (L (S (zd rfl) (L (S (zd rfl) (L (S (zd rfl) (L (S (zd rfl) (L (S (zd rfl) (zg (zc ?_)))))))))))))))))
  refine C_scope ?_
  refine zf (zb (L (S (zd rfl) (zg (zc (zf (zf (zb (L (S (za rfl) (L (S (za rfl) ?_))))))))))))
  refine L (S (yi Tryz.underlying9 rfl) ?_)
  refine L (S (y_ rfl rfl (decide_eq_false (by omega))) ?_)
  refine zg (zc (zk rfl (zo (zc (zf (zf (zb (L (S (za rfl) (L (S (za rfl) ?_)))))))))))
  refine L (S (zY Tryz.underlying9 rfl rfl (j := 0) rfl (yd hc0)) ?_)
  refine zg (zc (zx (zf (zb ?_))))
  refine L (S (zR rfl rfl (decide_eq_false (by omega))) ?_)
  refine L (S (zd rfl) (zg (zc (zk rfl (zf (zb ?_))))))
  refine L (S (zR rfl rfl (decide_eq_false (by omega))) ?_)
  refine L (S (zd rfl) (zg (zc (zk rfl (zo (yj (zc (zf (zb (L (S (zd rfl) (zg (zc (zf (zb (L (S (zd rfl) (zg (zc (zf (zb (L (S (zd rfl) (zg (zc (zf (zf ?_)))))))))))))))))))))))))))
  refine ZG (γ := Unit) (fun _ => [(0, .string (str l)), (2, .int .u64 0), (3, .int .i64 0), (4, .bool false), (5, .bool false), (6, .bool false), (7, .int .i64 0), (8, .bool false), (9, .bool false), (10, .int .u64 10), (11, .int .i64 19), (12, .int .u8 101), (54, .bool false)]) (fun _ wc => wc = w) ?_ ?_
  · by_cases h2 : 2 < l.length
    · obtain ⟨c1, hc1⟩ : ∃ c, l[1]? = some c := ⟨l[1], List.getElem?_eq_getElem (by omega)⟩
      have hx : ((c1 ||| 32).toNat : Int) ≠ 120 := by
        have hb : c1.toNat = 46 ∨ (48 ≤ c1.toNat ∧ c1.toNat ≤ 57) := by
          by_cases h1 : 1 = n
          · subst h1
            have := hr.dot
            rw [hc1] at this
            have : c1 = 46 := by simpa using this
            rw [this]; exact .inl rfl
          · exact .inr (hr.dig 1 c1 hc1 (by omega))
        have key : ∀ k : Fin 256, (k.val = 46 ∨ (48 ≤ k.val ∧ k.val ≤ 57)) → ((UInt8.ofNat k.val) ||| 32).toNat ≠ 120 := by decide +kernel
        have := key ⟨c1.toNat, c1.toNat_lt⟩ hb
        have e : UInt8.ofNat c1.toNat = c1 := by simp
        dsimp only at this
        rw [e] at this
        omega
      by_cases h48 : c0.toNat = 48
      · refine zb (L (S (za rfl) ?_))
        refine L (S (zT rfl rfl (z1 ⟨rfl, by omega, by omega⟩)) ?_)
        refine L (S (za rfl) ?_)
        refine L (S (yi Tryz.underlying9 rfl) ?_)
        refine L (S (zG rfl rfl (decide_eq_true (by omega))) ?_)
        refine L (S (za rfl) (zh (j := 5) (dj := 41) (b := true) (S (za rfl) (zh (j := 5) (dj := 41) (b := true) (S (za rfl) ?_) rfl)) rfl))
        refine zh (j := 5) (dj := 41) (b := true) (S (zY Tryz.underlying9 rfl rfl (j := 0) rfl (yd hc0)) ?_) rfl
        refine zh (j := 5) (dj := 41) (b := true) (S (zR rfl rfl (decide_eq_true (by omega))) ?_) rfl
        refine L (S (zt rfl rfl) (L (S (za rfl) (zh (j := 11) (dj := 47) (b := true) (S (za rfl) (zh (j := 11) (dj := 47) (b := true) (S (za rfl) ?_) rfl)) rfl))))
        refine zh (j := 11) (dj := 47) (b := true) (S (zT rfl rfl (z1 ⟨rfl, by omega, by omega⟩)) ?_) rfl
        refine zh (j := 11) (dj := 47) (b := true) (S (zY Tryz.underlying9 rfl rfl (j := 1) rfl (yd hc1)) ?_) rfl
        refine zh (j := 11) (dj := 47) (b := true) (zq cb_174 rfl (lower_ret c1) ?_) rfl
        rintro _ _ ⟨rfl, rfl⟩
        refine zh (j := 11) (dj := 47) (b := true) (S (zR rfl rfl (decide_eq_false hx)) ?_) rfl
        refine L (S (zt rfl rfl) (zg (zc ?_)))
        exact ⟨rfl, (), (.cons rfl (.cons rfl (.cons rfl (.cons rfl (.cons rfl (.cons rfl (.cons rfl (.cons rfl (.cons rfl (.cons rfl (.cons rfl (.cons rfl (.cons rfl (.nil _)))))))))))))), rfl⟩
      · refine zb (L (S (za rfl) ?_))
        refine L (S (zT rfl rfl (z1 ⟨rfl, by omega, by omega⟩)) ?_)
        refine L (S (za rfl) ?_)
        refine L (S (yi Tryz.underlying9 rfl) ?_)
        refine L (S (zG rfl rfl (decide_eq_true (by omega))) ?_)
        refine L (S (za rfl) (zh (j := 5) (dj := 41) (b := true) (S (za rfl) (zh (j := 5) (dj := 41) (b := true) (S (za rfl) ?_) rfl)) rfl))
        refine zh (j := 5) (dj := 41) (b := true) (S (zY Tryz.underlying9 rfl rfl (j := 0) rfl (yd hc0)) ?_) rfl
        refine zh (j := 5) (dj := 41) (b := true) (S (zR rfl rfl (decide_eq_false (by omega))) ?_) rfl
        refine L (S (zt rfl rfl) (L (S (za rfl) (zl (j := 11) (dj := 47) (b := true) (b' := false) (d := 48) rfl (zl (j := 11) (dj := 47) (b := true) (b' := false) (d := 49) rfl (zl (j := 11) (dj := 47) (b := true) (b' := false) (d := 50) rfl (zl (j := 11) (dj := 47) (b := true) (b' := false) (d := 51) rfl (zl (j := 11) (dj := 47) (b := true) (b' := false) (d := 52) rfl (zl (j := 11) (dj := 47) (b := true) (b' := false) (d := 53) rfl (L (S (zj rfl rfl) (zg (zc ?_)))))))))))))
        exact ⟨rfl, (), (.cons rfl (.cons rfl (.cons rfl (.cons rfl (.cons rfl (.cons rfl (.cons rfl (.cons rfl (.cons rfl (.cons rfl (.cons rfl (.cons rfl (.cons rfl (.nil _)))))))))))))), rfl⟩
    · refine zb (L (S (za rfl) ?_))
      refine L (S (zT rfl rfl (z1 ⟨rfl, by omega, by omega⟩)) ?_)
      refine L (S (za rfl) ?_)
      refine L (S (yi Tryz.underlying9 rfl) ?_)
      refine L (S (zG rfl rfl (decide_eq_false (by omega))) ?_)
      refine L (S (za rfl) (zl (j := 5) (dj := 41) (b := true) (b' := false) (d := 42) rfl (zl (j := 5) (dj := 41) (b := true) (b' := false) (d := 43) rfl (zl (j := 5) (dj := 41) (b := true) (b' := false) (d := 44) rfl (zl (j := 5) (dj := 41) (b := true) (b' := false) (d := 45) rfl (L (S (zj rfl rfl) (L (S (za rfl) (zl (j := 11) (dj := 47) (b := true) (b' := false) (d := 48) rfl (zl (j := 11) (dj := 47) (b := true) (b' := false) (d := 49) rfl (zl (j := 11) (dj := 47) (b := true) (b' := false) (d := 50) rfl (zl (j := 11) (dj := 47) (b := true) (b' := false) (d := 51) rfl (zl (j := 11) (dj := 47) (b := true) (b' := false) (d := 52) rfl (zl (j := 11) (dj := 47) (b := true) (b' := false) (d := 53) rfl (L (S (zj rfl rfl) (zg (zc ?_)))))))))))))))))))
      exact ⟨rfl, (), (.cons rfl (.cons rfl (.cons rfl (.cons rfl (.cons rfl (.cons rfl (.cons rfl (.cons rfl (.cons rfl (.cons rfl (.cons rfl (.cons rfl (.cons rfl (.nil _)))))))))))))), rfl⟩
  rintro _ wz rfl f' hf'
  refine Zb hf' ?_
  clear hf' f'
  refine zk rfl (zo (zc (zf (zb (L (S (zd rfl) (zg (zc (zf (zb (L (S (zd rfl) (zg (zc (zf (zb (L (S (zd rfl) (zg (zc (zf (zb (L (S (zd rfl) (zg (zc (zf ?_)))))))))))))))))))))))))))
  refine zb (L (S (zd rfl) (zg (zc (zf (C_label (zc (zf (zx ?_)))))))))
  refine yF (γ := Nat) (fun i => [(0, .string (str l)), (2, .int .u64 ((rdF (l.take i)).m : Int)), (3, .int .i64 0), (4, .bool false), (5, .bool (rdF (l.take i)).tr), (6, .bool false), (7, .int .i64 (i : Int)), (8, .bool false), (9, .bool false), (10, .int .u64 10), (11, .int .i64 19), (12, .int .u8 101), (13, .bool (rdF (l.take i)).dot), (14, .bool (rdF (l.take i)).sd), (15, .int .i64 ((rdF (l.take i)).nd : Int)), (16, .int .i64 ((rdF (l.take i)).nm : Int)), (17, .int .i64 (rdF (l.take i)).dp)]) (fun i wr => wr = wz ∧ i ≤ l.length ∧ (rdF (l.take i)).dot = decide (n < i) ∧ (rdF (l.take i)).sd = decide (0 < i)) (fun i => l.length - i) 0 (.cons rfl (.cons rfl (.cons rfl (.cons rfl (.cons rfl (.cons rfl (.cons rfl (.cons rfl (.cons rfl (.cons rfl (.cons rfl (.cons rfl (.cons rfl (.cons rfl (.cons rfl (.cons rfl (.cons rfl (.nil _)))))))))))))))))) ⟨rfl, Nat.zero_le _, rfl, rfl⟩ ?_
  rintro i wr ⟨rfl, hi, hdot, hsd⟩
  have hri := hr.ri i hi
  rcases Nat.lt_or_ge i l.length with hlt | hge
  · obtain ⟨c, hc⟩ : ∃ c, l[i]? = some c := ⟨l[i], List.getElem?_eq_getElem hlt⟩
    have hsn := rdF_snoc hc
    have hml := m_lt hri
    have hml18 := m_lt18 hri
    obtain ⟨r1, r2, r3, r4, r5, r6⟩ := hri
    generalize rdF (l.take i) = s at *
    have hdone : ∀ s', rdF (l.take (i + 1)) = s' → s'.dot = decide (n < i + 1) → s'.sd = true → (wr = wr ∧ i + 1 ≤ l.length ∧ (rdF (l.take (i + 1))).dot = decide (n < i + 1) ∧ (rdF (l.take (i + 1))).sd = decide (0 < i + 1)) := fun s' e h1 h2 => ⟨rfl, hlt, by rw [e]; exact h1, by rw [e, h2]; exact (decide_eq_true (by omega)).symm⟩
    by_cases hin : i = n
    · have hc46 : c.toNat = 46 := by
        have := hr.dot
        rw [← hin, hc] at this
        have : c = 46 := by simpa using this
        rw [this]; rfl
      have hdf : s.dot = false := by rw [hdot]; exact decide_eq_false (by omega)
      have hst : s.sd = true := by rw [hsd]; exact decide_eq_true (by omega)
      unfold rdS at hsn
      rw [if_pos hc46] at hsn
      rw [hdf]
      refine zf (zf (zb (L (S (za rfl) (L (S (za rfl) ?_))))))
      refine L (S (yi Tryz.underlying9 rfl) ?_)
      refine L (S (zG rfl rfl (decide_eq_true (by omega))) ?_)
      refine zg (zc (zr rfl (zo (zc (zf (zx (zf (zf (zb (L (S (za rfl) (L (S (za rfl) ?_)))))))))))))
      refine L (S (zY Tryz.underlying9 rfl rfl (j := i) rfl (yd hc)) ?_)
      refine L (S (zd rfl) (zg (zc (zx (zf (zb (L (S (za rfl) ?_))))))))
      refine L (S (zR rfl rfl (decide_eq_false (by omega))) ?_)
      refine L (S (P_eqB (β := false) Tryz.underlying4 rfl rfl rfl) ?_)
      refine L (S (zd rfl) (zg (zc (zk rfl (zf (zb (L (S (za rfl) ?_))))))))
      refine L (S (zR rfl rfl (decide_eq_true (by omega))) ?_)
      refine L (S (P_eqB (β := true) Tryz.underlying4 rfl rfl rfl) ?_)
      refine L (S (zd rfl) (zg (zc (zr rfl (zf (zf (zb (L (S (za rfl) (zg (zc (zk rfl (zo (zc (zf (zb (L (S (zd rfl) (zg (zc (zf (zb (L (S (za rfl) (L (S (zd rfl) (zg (zc ?_))))))))))))))))))))))))))))
      refine yn (blk_o rfl (zL (yK (zc (zb (L (S (za rfl) ?_)))))))
      refine L (S (zT rfl rfl (z1 (c := ((i + 1 : Nat) : Int)) (by omega))) ?_)
      refine L (S (zd rfl) (zg (zc ?_)))
      exact ⟨rfl, i + 1, by rw [hsn]; exact (.cons rfl (.cons rfl (.cons rfl (.cons rfl (.cons rfl (.cons rfl (.cons rfl (.cons rfl (.cons rfl (.cons rfl (.cons rfl (.cons rfl (.cons rfl (.cons rfl (.cons rfl (.cons rfl (.cons rfl (.nil _)))))))))))))))))), hdone _ hsn (decide_eq_true (by omega)).symm hst, by omega⟩
    · have hcd := hr.dig i c hc hin
      have hdd : s.dot = decide (n < i + 1) := by
        rw [hdot]
        by_cases hni : n < i
        · rw [decide_eq_true hni, decide_eq_true (by omega)]
        · rw [decide_eq_false hni, decide_eq_false (by omega)]
      unfold rdS at hsn
      rw [if_neg (by omega)] at hsn
      by_cases hz : c.toNat = 48 ∧ s.nd = 0
      · rw [if_pos hz] at hsn
        refine zf (zf (zb (L (S (za rfl) (L (S (za rfl) ?_))))))
        refine L (S (yi Tryz.underlying9 rfl) ?_)
        refine L (S (zG rfl rfl (decide_eq_true (by omega))) ?_)
        refine zg (zc (zr rfl (zo (zc (zf (zx (zf (zf (zb (L (S (za rfl) (L (S (za rfl) ?_)))))))))))))
        refine L (S (zY Tryz.underlying9 rfl rfl (j := i) rfl (yd hc)) ?_)
        refine L (S (zd rfl) (zg (zc (zx (zf (zb (L (S (za rfl) ?_))))))))
        refine L (S (zR rfl rfl (decide_eq_false (by omega))) ?_)
        refine L (S (P_eqB (β := false) Tryz.underlying4 rfl rfl rfl) ?_)
        refine L (S (zd rfl) (zg (zc (zk rfl (zf (zb (L (S (za rfl) ?_))))))))
        refine L (S (zR rfl rfl (decide_eq_false (by omega))) ?_)
        refine L (S (P_eqB (β := false) Tryz.underlying4 rfl rfl rfl) ?_)
        refine L (S (zd rfl) (zg (zc (zk rfl (zf (zb (L (S (za rfl) ?_))))))))
        refine L (S (Yd rfl rfl (decide_eq_true (by omega))) ?_)
        refine L (S (za rfl) (zh (j := 2) (dj := 79) (b := true) (S (za rfl) ?_) rfl))
        refine zh (j := 2) (dj := 79) (b := true) (S (Yd rfl rfl (decide_eq_true (by omega))) ?_) rfl
        refine L (S (zt rfl rfl) ?_)
        refine L (S (P_eqB (β := true) Tryz.underlying4 rfl rfl rfl) ?_)
        refine L (S (zd rfl) (zg (zc (zr rfl (zf (zb (L (S (zd rfl) (zg (zc (zf (zf (zb (L (S (za rfl) ?_)))))))))))))))
        refine L (S (zR rfl rfl (decide_eq_true (by omega))) ?_)
        refine L (S (za rfl) (zh (j := 2) (dj := 86) (b := true) (S (za rfl) ?_) rfl))
        refine zh (j := 2) (dj := 86) (b := true) (S (zR rfl rfl (decide_eq_true (by omega))) ?_) rfl
        refine L (S (zt rfl rfl) (zg (zc (zr rfl (zf (zb (L (S (za rfl) ?_))))))))
        refine L (S (Zd rfl rfl (z1 (c := s.dp - 1) (by omega))) ?_)
        refine L (S (zd rfl) (zg (zc (yn (zL (blk_o rfl (zL (yK (zc (zb (L (S (za rfl) ?_))))))))))))
        refine L (S (zT rfl rfl (z1 (c := ((i + 1 : Nat) : Int)) (by omega))) ?_)
        refine L (S (zd rfl) (zg (zc ?_)))
        exact ⟨rfl, i + 1, by rw [hsn]; exact (.cons rfl (.cons rfl (.cons rfl (.cons rfl (.cons rfl (.cons rfl (.cons rfl (.cons rfl (.cons rfl (.cons rfl (.cons rfl (.cons rfl (.cons rfl (.cons rfl (.cons rfl (.cons rfl (.cons rfl (.nil _)))))))))))))))))), hdone _ hsn hdd rfl, by omega⟩
      · rw [if_neg hz] at hsn
        by_cases h19 : s.nm < 19
        · have := hml18 h19
          rw [if_pos h19] at hsn
          by_cases h48 : c.toNat = 48
          · refine zf (zf (zb (L (S (za rfl) (L (S (za rfl) ?_))))))
            refine L (S (yi Tryz.underlying9 rfl) ?_)
            refine L (S (zG rfl rfl (decide_eq_true (by omega))) ?_)
            refine zg (zc (zr rfl (zo (zc (zf (zx (zf (zf (zb (L (S (za rfl) (L (S (za rfl) ?_)))))))))))))
            refine L (S (zY Tryz.underlying9 rfl rfl (j := i) rfl (yd hc)) ?_)
            refine L (S (zd rfl) (zg (zc (zx (zf (zb (L (S (za rfl) ?_))))))))
            refine L (S (zR rfl rfl (decide_eq_false (by omega))) ?_)
            refine L (S (P_eqB (β := false) Tryz.underlying4 rfl rfl rfl) ?_)
            refine L (S (zd rfl) (zg (zc (zk rfl (zf (zb (L (S (za rfl) ?_))))))))
            refine L (S (zR rfl rfl (decide_eq_false (by omega))) ?_)
            refine L (S (P_eqB (β := false) Tryz.underlying4 rfl rfl rfl) ?_)
            refine L (S (zd rfl) (zg (zc (zk rfl (zf (zb (L (S (za rfl) ?_))))))))
            refine L (S (Yd rfl rfl (decide_eq_true (by omega))) ?_)
            refine L (S (za rfl) (zh (j := 2) (dj := 79) (b := true) (S (za rfl) ?_) rfl))
            refine zh (j := 2) (dj := 79) (b := true) (S (Yd rfl rfl (decide_eq_true (by omega))) ?_) rfl
            refine L (S (zt rfl rfl) ?_)
            refine L (S (P_eqB (β := true) Tryz.underlying4 rfl rfl rfl) ?_)
            refine L (S (zd rfl) (zg (zc (zr rfl (zf (zb (L (S (zd rfl) (zg (zc (zf (zf (zb (L (S (za rfl) ?_)))))))))))))))
            refine L (S (zR rfl rfl (decide_eq_true (by omega))) ?_)
            refine L (S (za rfl) (zh (j := 2) (dj := 86) (b := true) (S (za rfl) ?_) rfl))
            refine zh (j := 2) (dj := 86) (b := true) (S (zR rfl rfl (decide_eq_false (by omega))) ?_) rfl
            refine L (S (zt rfl rfl) (zg (zc (zk rfl (zo (zc (zf (zb (L (S (za rfl) ?_))))))))))
            refine L (S (zT rfl rfl (z1 (c := ((s.nd + 1 : Nat) : Int)) (by omega))) ?_)
            refine L (S (zd rfl) (zg (zc (zf (zf (zb (L (S (za rfl) (L (S (za rfl) ?_))))))))))
            refine L (S (zG rfl rfl (decide_eq_true (by omega))) ?_)
            refine zg (zc (zr rfl (zf (zb (L (S (za rfl) (L (S (za rfl) ?_))))))))
            refine L (S (P_mul rfl rfl (wU64 (c := ((s.m * 10 : Nat) : Int)) (by omega))) ?_)
            refine L (S (zd rfl) (zg (zc (zf (zb (L (S (za rfl) (L (S (za rfl) ?_)))))))))
            refine L (S (Zd rfl rfl (wU8 ⟨rfl, by omega, by omega⟩)) ?_)
            refine L (S (P_conv Tryz.underlying5 Tryz.underlying131 rfl (wU64 ⟨rfl, by omega, by omega⟩)) ?_)
            refine L (S (zT rfl rfl (wU64 (c := ((s.m * 10 + (c.toNat - 48) : Nat) : Int)) (by omega))) ?_)
            refine L (S (zd rfl) (zg (zc (zb (L (S (za rfl) ?_))))))
            refine L (S (zT rfl rfl (z1 (c := ((s.nm + 1 : Nat) : Int)) (by omega))) ?_)
            refine L (S (zd rfl) (zg (zc (yn (blk_o rfl (zL (yK (zc (zb (L (S (za rfl) ?_)))))))))))
            refine L (S (zT rfl rfl (z1 (c := ((i + 1 : Nat) : Int)) (by omega))) ?_)
            refine L (S (zd rfl) (zg (zc ?_)))
            exact ⟨rfl, i + 1, by rw [hsn]; exact (.cons rfl (.cons rfl (.cons rfl (.cons rfl (.cons rfl (.cons rfl (.cons rfl (.cons rfl (.cons rfl (.cons rfl (.cons rfl (.cons rfl (.cons rfl (.cons rfl (.cons rfl (.cons rfl (.cons rfl (.nil _)))))))))))))))))), hdone _ hsn hdd rfl, by omega⟩
          · refine zf (zf (zb (L (S (za rfl) (L (S (za rfl) ?_))))))
            refine L (S (yi Tryz.underlying9 rfl) ?_)
            refine L (S (zG rfl rfl (decide_eq_true (by omega))) ?_)
            refine zg (zc (zr rfl (zo (zc (zf (zx (zf (zf (zb (L (S (za rfl) (L (S (za rfl) ?_)))))))))))))
            refine L (S (zY Tryz.underlying9 rfl rfl (j := i) rfl (yd hc)) ?_)
            refine L (S (zd rfl) (zg (zc (zx (zf (zb (L (S (za rfl) ?_))))))))
            refine L (S (zR rfl rfl (decide_eq_false (by omega))) ?_)
            refine L (S (P_eqB (β := false) Tryz.underlying4 rfl rfl rfl) ?_)
            refine L (S (zd rfl) (zg (zc (zk rfl (zf (zb (L (S (za rfl) ?_))))))))
            refine L (S (zR rfl rfl (decide_eq_false (by omega))) ?_)
            refine L (S (P_eqB (β := false) Tryz.underlying4 rfl rfl rfl) ?_)
            refine L (S (zd rfl) (zg (zc (zk rfl (zf (zb (L (S (za rfl) ?_))))))))
            refine L (S (Yd rfl rfl (decide_eq_true (by omega))) ?_)
            refine L (S (za rfl) (zh (j := 2) (dj := 79) (b := true) (S (za rfl) ?_) rfl))
            refine zh (j := 2) (dj := 79) (b := true) (S (Yd rfl rfl (decide_eq_true (by omega))) ?_) rfl
            refine L (S (zt rfl rfl) ?_)
            refine L (S (P_eqB (β := true) Tryz.underlying4 rfl rfl rfl) ?_)
            refine L (S (zd rfl) (zg (zc (zr rfl (zf (zb (L (S (zd rfl) (zg (zc (zf (zf (zb (L (S (za rfl) ?_)))))))))))))))
            refine L (S (zR rfl rfl (decide_eq_false (by omega))) ?_)
            refine L (S (za rfl) (zl (j := 2) (dj := 86) (b := true) (b' := false) (d := 87) rfl (zl (j := 2) (dj := 86) (b := true) (b' := false) (d := 88) rfl (L (S (zj rfl rfl) (zg (zc (zk rfl (zo (zc (zf (zb (L (S (za rfl) ?_))))))))))))))
            refine L (S (zT rfl rfl (z1 (c := ((s.nd + 1 : Nat) : Int)) (by omega))) ?_)
            refine L (S (zd rfl) (zg (zc (zf (zf (zb (L (S (za rfl) (L (S (za rfl) ?_))))))))))
            refine L (S (zG rfl rfl (decide_eq_true (by omega))) ?_)
            refine zg (zc (zr rfl (zf (zb (L (S (za rfl) (L (S (za rfl) ?_))))))))
            refine L (S (P_mul rfl rfl (wU64 (c := ((s.m * 10 : Nat) : Int)) (by omega))) ?_)
            refine L (S (zd rfl) (zg (zc (zf (zb (L (S (za rfl) (L (S (za rfl) ?_)))))))))
            refine L (S (Zd rfl rfl (wU8 ⟨rfl, by omega, by omega⟩)) ?_)
            refine L (S (P_conv Tryz.underlying5 Tryz.underlying131 rfl (wU64 ⟨rfl, by omega, by omega⟩)) ?_)
            refine L (S (zT rfl rfl (wU64 (c := ((s.m * 10 + (c.toNat - 48) : Nat) : Int)) (by omega))) ?_)
            refine L (S (zd rfl) (zg (zc (zb (L (S (za rfl) ?_))))))
            refine L (S (zT rfl rfl (z1 (c := ((s.nm + 1 : Nat) : Int)) (by omega))) ?_)
            refine L (S (zd rfl) (zg (zc (yn (blk_o rfl (zL (yK (zc (zb (L (S (za rfl) ?_)))))))))))
            refine L (S (zT rfl rfl (z1 (c := ((i + 1 : Nat) : Int)) (by omega))) ?_)
            refine L (S (zd rfl) (zg (zc ?_)))
            exact ⟨rfl, i + 1, by rw [hsn]; exact (.cons rfl (.cons rfl (.cons rfl (.cons rfl (.cons rfl (.cons rfl (.cons rfl (.cons rfl (.cons rfl (.cons rfl (.cons rfl (.cons rfl (.cons rfl (.cons rfl (.cons rfl (.cons rfl (.cons rfl (.nil _)))))))))))))))))), hdone _ hsn hdd rfl, by omega⟩
        · rw [if_neg h19] at hsn
          by_cases h48 : c.toNat = 48
          · rw [if_pos h48] at hsn
            refine zf (zf (zb (L (S (za rfl) (L (S (za rfl) ?_))))))
            refine L (S (yi Tryz.underlying9 rfl) ?_)
            refine L (S (zG rfl rfl (decide_eq_true (by omega))) ?_)
            refine zg (zc (zr rfl (zo (zc (zf (zx (zf (zf (zb (L (S (za rfl) (L (S (za rfl) ?_)))))))))))))
            refine L (S (zY Tryz.underlying9 rfl rfl (j := i) rfl (yd hc)) ?_)
            refine L (S (zd rfl) (zg (zc (zx (zf (zb (L (S (za rfl) ?_))))))))
            refine L (S (zR rfl rfl (decide_eq_false (by omega))) ?_)
            refine L (S (P_eqB (β := false) Tryz.underlying4 rfl rfl rfl) ?_)
            refine L (S (zd rfl) (zg (zc (zk rfl (zf (zb (L (S (za rfl) ?_))))))))
            refine L (S (zR rfl rfl (decide_eq_false (by omega))) ?_)
            refine L (S (P_eqB (β := false) Tryz.underlying4 rfl rfl rfl) ?_)
            refine L (S (zd rfl) (zg (zc (zk rfl (zf (zb (L (S (za rfl) ?_))))))))
            refine L (S (Yd rfl rfl (decide_eq_true (by omega))) ?_)
            refine L (S (za rfl) (zh (j := 2) (dj := 79) (b := true) (S (za rfl) ?_) rfl))
            refine zh (j := 2) (dj := 79) (b := true) (S (Yd rfl rfl (decide_eq_true (by omega))) ?_) rfl
            refine L (S (zt rfl rfl) ?_)
            refine L (S (P_eqB (β := true) Tryz.underlying4 rfl rfl rfl) ?_)
            refine L (S (zd rfl) (zg (zc (zr rfl (zf (zb (L (S (zd rfl) (zg (zc (zf (zf (zb (L (S (za rfl) ?_)))))))))))))))
            refine L (S (zR rfl rfl (decide_eq_true (by omega))) ?_)
            refine L (S (za rfl) (zh (j := 2) (dj := 86) (b := true) (S (za rfl) ?_) rfl))
            refine zh (j := 2) (dj := 86) (b := true) (S (zR rfl rfl (decide_eq_false (by omega))) ?_) rfl
            refine L (S (zt rfl rfl) (zg (zc (zk rfl (zo (zc (zf (zb (L (S (za rfl) ?_))))))))))
            refine L (S (zT rfl rfl (z1 (c := ((s.nd + 1 : Nat) : Int)) (by omega))) ?_)
            refine L (S (zd rfl) (zg (zc (zf (zf (zb (L (S (za rfl) (L (S (za rfl) ?_))))))))))
            refine L (S (zG rfl rfl (decide_eq_false (by omega))) ?_)
            refine zg (zc (zk rfl (zf (zb (L (S (za rfl) ?_))))))
            refine L (S (Za rfl rfl (decide_eq_false (by omega))) ?_)
            refine zg (zc (zk rfl (zo (zc (yn (blk_o rfl (zL (yK (zc (zb (L (S (za rfl) ?_))))))))))))
            refine L (S (zT rfl rfl (z1 (c := ((i + 1 : Nat) : Int)) (by omega))) ?_)
            refine L (S (zd rfl) (zg (zc ?_)))
            exact ⟨rfl, i + 1, by rw [hsn]; exact (.cons rfl (.cons rfl (.cons rfl (.cons rfl (.cons rfl (.cons rfl (.cons rfl (.cons rfl (.cons rfl (.cons rfl (.cons rfl (.cons rfl (.cons rfl (.cons rfl (.cons rfl (.cons rfl (.cons rfl (.nil _)))))))))))))))))), hdone _ hsn hdd rfl, by omega⟩
          · rw [if_neg h48] at hsn
            refine zf (zf (zb (L (S (za rfl) (L (S (za rfl) ?_))))))
            refine L (S (yi Tryz.underlying9 rfl) ?_)
            refine L (S (zG rfl rfl (decide_eq_true (by omega))) ?_)
            refine zg (zc (zr rfl (zo (zc (zf (zx (zf (zf (zb (L (S (za rfl) (L (S (za rfl) ?_)))))))))))))
            refine L (S (zY Tryz.underlying9 rfl rfl (j := i) rfl (yd hc)) ?_)
            refine L (S (zd rfl) (zg (zc (zx (zf (zb (L (S (za rfl) ?_))))))))
            refine L (S (zR rfl rfl (decide_eq_false (by omega))) ?_)
            refine L (S (P_eqB (β := false) Tryz.underlying4 rfl rfl rfl) ?_)
            refine L (S (zd rfl) (zg (zc (zk rfl (zf (zb (L (S (za rfl) ?_))))))))
            refine L (S (zR rfl rfl (decide_eq_false (by omega))) ?_)
            refine L (S (P_eqB (β := false) Tryz.underlying4 rfl rfl rfl) ?_)
            refine L (S (zd rfl) (zg (zc (zk rfl (zf (zb (L (S (za rfl) ?_))))))))
            refine L (S (Yd rfl rfl (decide_eq_true (by omega))) ?_)
            refine L (S (za rfl) (zh (j := 2) (dj := 79) (b := true) (S (za rfl) ?_) rfl))
            refine zh (j := 2) (dj := 79) (b := true) (S (Yd rfl rfl (decide_eq_true (by omega))) ?_) rfl
            refine L (S (zt rfl rfl) ?_)
            refine L (S (P_eqB (β := true) Tryz.underlying4 rfl rfl rfl) ?_)
            refine L (S (zd rfl) (zg (zc (zr rfl (zf (zb (L (S (zd rfl) (zg (zc (zf (zf (zb (L (S (za rfl) ?_)))))))))))))))
            refine L (S (zR rfl rfl (decide_eq_false (by omega))) ?_)
            refine L (S (za rfl) (zl (j := 2) (dj := 86) (b := true) (b' := false) (d := 87) rfl (zl (j := 2) (dj := 86) (b := true) (b' := false) (d := 88) rfl (L (S (zj rfl rfl) (zg (zc (zk rfl (zo (zc (zf (zb (L (S (za rfl) ?_))))))))))))))
            refine L (S (zT rfl rfl (z1 (c := ((s.nd + 1 : Nat) : Int)) (by omega))) ?_)
            refine L (S (zd rfl) (zg (zc (zf (zf (zb (L (S (za rfl) (L (S (za rfl) ?_))))))))))
            refine L (S (zG rfl rfl (decide_eq_false (by omega))) ?_)
            refine zg (zc (zk rfl (zf (zb (L (S (za rfl) ?_))))))
            refine L (S (Za rfl rfl (decide_eq_true (by omega))) ?_)
            refine zg (zc (zr rfl (zb (L (S (zd rfl) (zg (zc (yn (blk_o rfl (zL (yK (zc (zb (L (S (za rfl) ?_)))))))))))))))
            refine L (S (zT rfl rfl (z1 (c := ((i + 1 : Nat) : Int)) (by omega))) ?_)
            refine L (S (zd rfl) (zg (zc ?_)))
            exact ⟨rfl, i + 1, by rw [hsn]; exact (.cons rfl (.cons rfl (.cons rfl (.cons rfl (.cons rfl (.cons rfl (.cons rfl (.cons rfl (.cons rfl (.cons rfl (.cons rfl (.cons rfl (.cons rfl (.cons rfl (.cons rfl (.cons rfl (.cons rfl (.nil _)))))))))))))))))), hdone _ hsn hdd rfl, by omega⟩
  · have hil : i = l.length := by omega
    subst hil
    rw [List.take_length] at *
    have hdt : (rdF l).dot = true := by rw [hdot]; exact decide_eq_true hnl
    have hst : (rdF l).sd = true := by rw [hsd]; exact decide_eq_true (by omega)
    rw [hdt, hst]
    obtain ⟨r1, r2, r3, r4, r5, r6⟩ := hri
    unfold rdE
    generalize rdF l = s at *
    by_cases hm0 : s.m ≠ 0
    · rw [if_pos hm0]
      refine zf (zf (zb (L (S (za rfl) (L (S (za rfl) ?_))))))
      refine L (S (yi Tryz.underlying9 rfl) ?_)
      refine L (S (zG rfl rfl (decide_eq_false (by omega))) ?_)
      refine zg (zc (zk rfl (yn (zL (zL (yK (zc (zf (zf (zb (L (S (za rfl) (L (S (yu rfl rfl) (zg (zc (zk rfl (zo (zc (zf (zf (zb (L (S (za rfl) (L (S (yu rfl rfl) (zg ?_)))))))))))))))))))))))))))
      refine zc (zk rfl (zo (zc (zf (zf (zb (L (S (za rfl) ?_))))))))
      refine L (S (zR rfl rfl (decide_eq_false (by omega))) ?_)
      refine zg (zc (zk rfl (zo (zc (zf (zf (zb (L (S (za rfl) (L (S (za rfl) ?_)))))))))))
      refine L (S (yi Tryz.underlying9 rfl) ?_)
      refine L (S (zG rfl rfl (decide_eq_false (by omega))) ?_)
      refine L (S (za rfl) (zl (j := 4) (dj := 154) (b := true) (b' := false) (d := 155) rfl (zl (j := 4) (dj := 154) (b := true) (b' := false) (d := 156) rfl (zl (j := 4) (dj := 154) (b := true) (b' := false) (d := 157) rfl (zl (j := 4) (dj := 154) (b := true) (b' := false) (d := 158) rfl (zl (j := 4) (dj := 154) (b := true) (b' := false) (d := 159) rfl (zl (j := 4) (dj := 154) (b := true) (b' := false) (d := 160) rfl (L (S (zj rfl rfl) (zg (zc (zk rfl (zf (zb (L (S (za rfl) ?_))))))))))))))))
      refine L (S (zR rfl rfl (decide_eq_false (by omega))) ?_)
      refine zg (zc (zk rfl (zo (zc (zf (zf (zb (L (S (za rfl) ?_)))))))))
      refine L (S (Za rfl rfl (decide_eq_true (by omega))) ?_)
      refine zg (zc (zr rfl (zb (L (S (za rfl) (L (S (za rfl) ?_)))))))
      refine L (S (Zd rfl rfl (z1 (c := s.dp - s.nm) (by omega))) ?_)
      refine L (S (zd rfl) (zg (zc (zf (zf (zb (L (S (za rfl) (L (S (za rfl) (zl (j := 1) (dj := 246) (b := true) (b' := false) (d := 247) rfl (zl (j := 1) (dj := 246) (b := true) (b' := false) (d := 248) rfl (zl (j := 1) (dj := 246) (b := true) (b' := false) (d := 249) rfl (zl (j := 1) (dj := 246) (b := true) (b' := false) (d := 250) rfl (zl (j := 1) (dj := 246) (b := true) (b' := false) (d := 251) rfl (L (S (zj rfl rfl) (zg (zc (zk rfl (zo (zc (zf (zb (L (S (zd rfl) (zg (zc ?_))))))))))))))))))))))))))))
      refine zy (scope_r ?_)
      refine yk (rs := [.tmp 2, .tmp 3, .tmp 4, .tmp 5, .tmp 6, .tmp 7, .tmp 8]) [.int .u64 (s.m : Int), .int .i64 (s.dp - s.nm), .bool false, .bool s.tr, .bool false, .int .i64 (l.length : Int), .bool true] Tryz.results158 ?_ ?_
      · exact ⟨rfl, rfl, rfl, rfl, rfl, rfl, rfl, trivial⟩
      · exact ⟨rfl, rfl⟩
    · rw [if_neg hm0]
      refine zf (zf (zb (L (S (za rfl) (L (S (za rfl) ?_))))))
      refine L (S (yi Tryz.underlying9 rfl) ?_)
      refine L (S (zG rfl rfl (decide_eq_false (by omega))) ?_)
      refine zg (zc (zk rfl (yn (zL (zL (yK (zc (zf (zf (zb (L (S (za rfl) (L (S (yu rfl rfl) (zg (zc (zk rfl (zo (zc (zf (zf (zb (L (S (za rfl) (L (S (yu rfl rfl) (zg ?_)))))))))))))))))))))))))))
      refine zc (zk rfl (zo (zc (zf (zf (zb (L (S (za rfl) ?_))))))))
      refine L (S (zR rfl rfl (decide_eq_false (by omega))) ?_)
      refine zg (zc (zk rfl (zo (zc (zf (zf (zb (L (S (za rfl) (L (S (za rfl) ?_)))))))))))
      refine L (S (yi Tryz.underlying9 rfl) ?_)
      refine L (S (zG rfl rfl (decide_eq_false (by omega))) ?_)
      refine L (S (za rfl) (zl (j := 4) (dj := 154) (b := true) (b' := false) (d := 155) rfl (zl (j := 4) (dj := 154) (b := true) (b' := false) (d := 156) rfl (zl (j := 4) (dj := 154) (b := true) (b' := false) (d := 157) rfl (zl (j := 4) (dj := 154) (b := true) (b' := false) (d := 158) rfl (zl (j := 4) (dj := 154) (b := true) (b' := false) (d := 159) rfl (zl (j := 4) (dj := 154) (b := true) (b' := false) (d := 160) rfl (L (S (zj rfl rfl) (zg (zc (zk rfl (zf (zb (L (S (za rfl) ?_))))))))))))))))
      refine L (S (zR rfl rfl (decide_eq_false (by omega))) ?_)
      refine zg (zc (zk rfl (zo (zc (zf (zf (zb (L (S (za rfl) ?_)))))))))
      refine L (S (Za rfl rfl (decide_eq_false (by omega))) ?_)
      refine zg (zc (zk rfl (zo (zc (zf (zf (zb (L (S (za rfl) (L (S (za rfl) (zl (j := 1) (dj := 246) (b := true) (b' := false) (d := 247) rfl (zl (j := 1) (dj := 246) (b := true) (b' := false) (d := 248) rfl (zl (j := 1) (dj := 246) (b := true) (b' := false) (d := 249) rfl (zl (j := 1) (dj := 246) (b := true) (b' := false) (d := 250) rfl (zl (j := 1) (dj := 246) (b := true) (b' := false) (d := 251) rfl (L (S (zj rfl rfl) (zg (zc (zk rfl (zo (zc (zf (zb (L (S (zd rfl) ?_)))))))))))))))))))))))))))
      refine zg (zc (zy (scope_r ?_)))
      refine yk (rs := [.tmp 2, .tmp 3, .tmp 4, .tmp 5, .tmp 6, .tmp 7, .tmp 8]) [.int .u64 (s.m : Int), .int .i64 0, .bool false, .bool s.tr, .bool false, .int .i64 (l.length : Int), .bool true] Tryz.results158 ?_ ?_
      · exact ⟨rfl, rfl, rfl, rfl, rfl, rfl, rfl, trivial⟩
      · exact ⟨rfl, rfl⟩
end
end Go.Proofs.YtnoioimphcmeiaaGreatDoor
namespace Go.Proofs.YtnoioimphcmeiaaGreatDoor
open Go.RowKit
set_option maxRecDepth 20000
set_option maxHeartbeats 2000000

def infB : Nat := 9218868437227405312
/-- What ParseFloat gives. -/
def a64F (l : List UInt8) : Nat × Bool :=
  if (rdF l).m = 0 then (0, false) else
  if 310 < rdE (rdF l) then (infB, true) else
  if rdE (rdF l) < -345 then (0, false) else
  if (exF (rdF l).m (rdE (rdF l))).2 = true then ((exF (rdF l).m (rdE (rdF l))).1, false) else pf64 (rdF l).m (rdE (rdF l))
theorem a64_good {l : List UInt8} {n : Nat} (h : RT l n) : Good (a64F l).1 := by
  have hr := h.ri l.length (Nat.le_refl _)
  rw [List.take_length] at hr
  have hm := m_lt hr
  unfold a64F
  split
  · exact good0
  · split
    · exact Nat.le_refl _
    · split
      · exact good0
      · split
        · exact exF_good _ _
        · exact pf64_good _ _ (by assumption) (by omega) (by omega) (by omega)
theorem tr_no {l : List UInt8} {n : Nat} (h : RT l n) (hl : l.length ≤ 12) : ∀ i, i ≤ l.length → (rdF (l.take i)).tr = false
  | 0, _ => rfl
  | i + 1, hi => by
    have ih := tr_no h hl i (by omega)
    have hri := h.ri i (by omega)
    have hc := List.getElem?_eq_getElem (show i < l.length by omega)
    rw [rdF_snoc hc]
    generalize l[i] = c
    have h1 := hri.nm
    have h2 := hri.nd
    unfold rdS
    split
    · exact ih
    · split
      · exact ih
      · split
        · exact ih
        · omega
section
variable {w : World}
theorem atof64_ret (hv : Vr w) {l : List UInt8} {n : Nat} (hr : RT l n) (hl : l.length ≤ 12) : Ret Tryz.prog 152 [.string (str l)] w fun v w' => v = .tuple #[.float .f64 (a64F l).1, .int .i64 (l.length : Int), errV (a64F l).2] ∧ Mv No w w' := by
  have hsz := yR l
  have hnl := hr.lt
  have hn0 := hr.pos
  obtain ⟨c0, hc0⟩ : ∃ c, l[0]? = some c := ⟨l[0], List.getElem?_eq_getElem (by omega)⟩
  have hd0 := hr.dig 0 c0 hc0 (by omega)
  have hri := hr.ri l.length (Nat.le_refl _)
  rw [List.take_length] at hri
  have hm19 := m_lt hri
  have hhi := rdE_hi hri
  have hbd := rdE_bd hri
  have hgood1 := fun h => pf64_good (rdF l).m (rdE (rdF l)) h
  have htr : (rdF l).tr = false := by have h9 := tr_no hr hl l.length (Nat.le_refl _); rwa [List.take_length] at h9
  unfold a64F
  refine zN Tryz.func152 Tryz.ntmps152 rfl rfl ?_
  refine zf (zb (L (S (zd rfl) (L (S (zd rfl) (L (S (zd rfl) (zg (zc (zf (zf (zb (L (S (za rfl) ?_))))))))))))))
  refine L (zq cb_157 rfl (special_ret hc0 (decide_eq_true (by omega))) ?_)
  rintro _ _ ⟨rfl, rfl⟩
  refine L (S (za rfl) (L (S (zv rfl rfl) (L (S (zv rfl rfl) (L (S (zv rfl rfl) (L (S (zd rfl) (L (S (zd rfl) (L (S (zd rfl) (zg (zc (zf (zb (L (S (za rfl) (zg (zc (zk rfl (zo (zc (zf (zb (L (S (za rfl) ?_))))))))))))))))))))))))))))
  refine L (zq cb_158 rfl (readFloat_ret hr (by omega)) ?_)
  rintro _ _ ⟨rfl, rfl⟩
  refine L (S (za rfl) (L (S (zv rfl rfl) (L (S (zv rfl rfl) (L (S (zv rfl rfl) (L (S (zv rfl rfl) (L (S (zv rfl rfl) (L (S (zv rfl rfl) (L (S (zv rfl rfl) (L (S (zd rfl) (L (S (zd rfl) (L (S (zd rfl) (L (S (zd rfl) (L (S (zd rfl) (L (S (zd rfl) (L (S (zd rfl) (zg (zc (zf (zf (zb (L (S (za rfl) (L (S (yu rfl rfl) (zg (zc ?_))))))))))))))))))))))))))))))))))))))))
  refine zk rfl (zo (zc (zf (zf (zb (L (S (za rfl) (zg (zc (zk rfl (zo (zc (zf (zf (zb ?_)))))))))))))))
  refine L (zi sc_4 rfl hv.opt ?_)
  refine zg (zc (zr rfl (zf (zb (L (S (za rfl) ?_))))))
  refine L (zq cb_166 rfl (Z9 false) ?_)
  rintro _ _ ⟨rfl, rfl⟩
  refine L (S (P_shl rfl rfl (by decide) (shlU64 (a := 0) (s := 63) rfl (by omega) (c := 0) (by decide) (by decide))) ?_)
  refine L (S (zd rfl) (zg (zc (zf (zf ?_)))))
  by_cases h0 : (rdF l).m = 0
  · rw [if_pos h0]
    refine zb (L (S (za rfl) ?_))
    refine L (S (zR rfl rfl (decide_eq_true (by omega))) ?_)
    refine zg (zc (zr rfl (zf (zb (L (S (za rfl) ?_))))))
    refine L (S (P_or rfl rfl (orU64 (a := 0) (b := 0) (by omega) (by omega) rfl)) ?_)
    refine L (S (Yx (m := 0) rfl) ?_)
    refine L (S (za rfl) (L (S (zd rfl) (L (S (zd rfl) (L (S (zd rfl) (zg (zc (zy (zm (zm ?_))))))))))))
    refine Yv Tryz.results152 rfl rfl rfl ?_
    exact ⟨rfl, Mv.refl w⟩
  rw [if_neg h0]
  by_cases h310 : 310 < rdE (rdF l)
  · rw [if_pos h310]
    refine zb (L (S (za rfl) ?_))
    refine L (S (zR rfl rfl (decide_eq_false (by omega))) ?_)
    refine zg (zc (zk rfl (zo (zc (zf (zf (zb (L (S (za rfl) ?_)))))))))
    refine L (S (yp rfl rfl (decide_eq_true (by omega))) ?_)
    refine zg (zc (zr rfl (zf (zb (L (S (za rfl) ?_))))))
    refine L (S (P_or rfl rfl (orU64 (a := 0) (b := 9218868437227405312) (by omega) (by omega) rfl)) ?_)
    refine L (S (Yx (m := 9218868437227405312) rfl) ?_)
    refine L (S (za rfl) ?_)
    refine L (S (P_mkI Tryz.underlying185 (by intro ms h; cases h) rfl) ?_)
    refine L (S (zd rfl) (L (S (zd rfl) (L (S (zd rfl) (zg (zc (zy (zm (zm ?_))))))))))
    refine Yv Tryz.results152 rfl rfl rfl ?_
    exact ⟨rfl, Mv.refl w⟩
  rw [if_neg h310]
  by_cases h345 : rdE (rdF l) < -345
  · rw [if_pos h345]
    refine zb (L (S (za rfl) ?_))
    refine L (S (zR rfl rfl (decide_eq_false (by omega))) ?_)
    refine zg (zc (zk rfl (zo (zc (zf (zf (zb (L (S (za rfl) ?_)))))))))
    refine L (S (yp rfl rfl (decide_eq_false (by omega))) ?_)
    refine zg (zc (zk rfl (zo (zc (zf (zf (zb (L (S (za rfl) ?_)))))))))
    refine L (S (zG rfl rfl (decide_eq_true (by omega))) ?_)
    refine zg (zc (zr rfl (zf (zb (L (S (za rfl) ?_))))))
    refine L (S (P_or rfl rfl (orU64 (a := 0) (b := 0) (by omega) (by omega) rfl)) ?_)
    refine L (S (Yx (m := 0) rfl) ?_)
    refine L (S (za rfl) (L (S (zd rfl) (L (S (zd rfl) (L (S (zd rfl) (zg (zc (zy (zm (zm ?_))))))))))))
    refine Yv Tryz.results152 rfl rfl rfl ?_
    exact ⟨rfl, Mv.refl w⟩
  rw [if_neg h345]
  have hg1 := hgood1 h0 (by omega) (by omega) (by omega)
  have hp1 := fun w' (h : Mv No w w') => parse64_ret (hv.no h) (rdF l).m (rdE (rdF l)) h0 (by omega) (by omega) (by omega)
  have hex := exact_ret hv (rdF l).m (rdE (rdF l)) (by omega) (by omega) (by omega) hhi
  clear hgood1 hbd hri hhi hd0 hc0
  generalize hE : rdE (rdF l) = e at *
  generalize pf64 (rdF l).m e = p1 at *
  generalize exF (rdF l).m e = p3 at *
  obtain ⟨fa, ea⟩ := p1
  obtain ⟨fc, ec⟩ := p3
  dsimp only at *
  rw [htr]
  cases ec with
  | true =>
    rw [if_pos rfl]
    refine zb (L (S (za rfl) ?_))
    refine L (S (zR rfl rfl (decide_eq_false (by omega))) ?_)
    refine zg (zc (zk rfl (zo (zc (zf (zf (zb (L (S (za rfl) ?_)))))))))
    refine L (S (yp rfl rfl (decide_eq_false (by omega))) ?_)
    refine zg (zc (zk rfl (zo (zc (zf (zf (zb (L (S (za rfl) ?_)))))))))
    refine L (S (zG rfl rfl (decide_eq_false (by omega))) ?_)
    refine zg (zc (zk rfl (zo (zc (zf (zf (zb (L (S (za rfl) (L (S (yu rfl rfl) (zg (zc (zr rfl (zf (zb (L (S (za rfl) (L (S (za rfl) (L (S (za rfl) ?_))))))))))))))))))))))
    refine L (zq cb_168 rfl (hex) ?_)
    rintro _ _ ⟨rfl, rfl⟩
    refine L (S (za rfl) (L (S (zv rfl rfl) (L (S (zv rfl rfl) (L (S (zd rfl) (L (S (zd rfl) (zg (zc (zf (zb (L (S (za rfl) (zg (zc (zr rfl (zf (zb (L (S (za rfl) (L (S (za rfl) (L (S (zd rfl) (L (S (zd rfl) (L (S (zd rfl) (zg (zc (zy (zm ?_))))))))))))))))))))))))))))))))))
    refine zm ?_
    refine Yv Tryz.results152 rfl rfl rfl ?_
    exact ⟨rfl, Mv.refl w⟩
  | false =>
    rw [if_neg (by decide)]
    refine zb (L (S (za rfl) ?_))
    refine L (S (zR rfl rfl (decide_eq_false (by omega))) ?_)
    refine zg (zc (zk rfl (zo (zc (zf (zf (zb (L (S (za rfl) ?_)))))))))
    refine L (S (yp rfl rfl (decide_eq_false (by omega))) ?_)
    refine zg (zc (zk rfl (zo (zc (zf (zf (zb (L (S (za rfl) ?_)))))))))
    refine L (S (zG rfl rfl (decide_eq_false (by omega))) ?_)
    refine zg (zc (zk rfl (zo (zc (zf (zf (zb (L (S (za rfl) (L (S (yu rfl rfl) (zg (zc (zr rfl (zf (zb (L (S (za rfl) (L (S (za rfl) (L (S (za rfl) ?_))))))))))))))))))))))
    refine L (zq cb_168 rfl (hex) ?_)
    rintro _ _ ⟨rfl, rfl⟩
    refine L (S (za rfl) (L (S (zv rfl rfl) (L (S (zv rfl rfl) (L (S (zd rfl) (L (S (zd rfl) (zg (zc (zf (zb (L (S (za rfl) (zg (zc (zk rfl (zo (zc (zf (zb (L (S (za rfl) (L (S (za rfl) (L (S (za rfl) ?_))))))))))))))))))))))))))))
    refine L (zq cb_169 rfl ((hp1 _ (Mv.refl w))) ?_)
    rintro _ w2 ⟨rfl, hm2⟩
    refine L (S (za rfl) (L (S (zv rfl rfl) (L (S (zv rfl rfl) (L (S (zd rfl) (L (S (zd rfl) (zg (zc (zf (zf (zb (L (S (za rfl) (L (S (yu rfl rfl) (zg (zc (zr rfl (zf (zb (L (S (za rfl) (L (S (za rfl) (L (S (za rfl) (L (S (zd rfl) (L (S (zd rfl) (L (S (zd rfl) (zg ?_))))))))))))))))))))))))))))))))))))
    refine zc (zy (zm (zm ?_)))
    refine Yv Tryz.results152 rfl rfl rfl ?_
    exact ⟨rfl, hm2⟩
end
theorem pf64_err (d : Nat) (p : Int) (h : (pf64 d p).2 = true) : (pf64 d p).1 = infB := by
  unfold pf64 at h ⊢
  split
  · rename_i hx; rw [hx] at h; cases h
  · rename_i hi lo hx
    rw [hx] at h
    dsimp only at h
    by_cases h64 : 64 ≤ psF (Lib.bitLen d) p
    · rw [if_pos h64] at h; cases h
    · rw [if_neg h64] at h ⊢
      revert h
      generalize pmF (usF (d * 2 ^ (64 - Lib.bitLen d)) hi lo (psF (Lib.bitLen d) p).toNat) = m
      generalize (-(peF (Lib.bitLen d) p - (if 36028797018963966 ≤ usF (d * 2 ^ (64 - Lib.bitLen d)) hi lo (psF (Lib.bitLen d) p).toNat then 1 else 0))) = e
      unfold pkF
      intro h
      split at h
      · cases h
      · rename_i h1
        rw [if_neg h1]
        split at h
        · rename_i h2
          rw [if_pos h2]
          rfl
        · cases h
theorem a64_err (l : List UInt8) (h : (a64F l).2 = true) : (a64F l).1 = infB := by
  unfold a64F at h ⊢
  by_cases h0 : (rdF l).m = 0
  · rw [if_pos h0] at h; cases h
  rw [if_neg h0] at h ⊢
  by_cases h1 : 310 < rdE (rdF l)
  · rw [if_pos h1]
  rw [if_neg h1] at h ⊢
  by_cases h2 : rdE (rdF l) < -345
  · rw [if_pos h2] at h; cases h
  rw [if_neg h2] at h ⊢
  by_cases h4 : (exF (rdF l).m (rdE (rdF l))).2 = true
  · rw [if_pos h4] at h; cases h
  · rw [if_neg h4] at h ⊢
    exact pf64_err _ _ h
/-- Is the number 1e15 or more? -/
def bigF (l : List UInt8) : Bool := Ieee.double.order (a64F l).1 4831355200913801216 == some .gt || Ieee.double.order (a64F l).1 4831355200913801216 == some .eq
theorem good15 : Good 4831355200913801216 := by unfold Good; omega
theorem inf15 : (Ieee.double.order infB 4831355200913801216 == some .gt || Ieee.double.order infB 4831355200913801216 == some .eq) = true := by decide +kernel
theorem big_not {l : List UInt8} {n : Nat} (h : RT l n) : (Ieee.double.order (a64F l).1 4831355200913801216 == some .lt) = !(bigF l) := by
  unfold bigF
  obtain ⟨o, ho⟩ := order_good (a64_good h) good15
  rw [ho]
  cases o <;> rfl

section
variable {w : World}
theorem pfPrefix_ret (hv : Vr w) {l : List UInt8} {n : Nat} (hr : RT l n) (hl : l.length ≤ 12) : Ret Tryz.prog 141 [.string (str l), .int .i64 64] w fun v w' => v = .tuple #[.float .f64 (a64F l).1, .int .i64 (l.length : Int), errV (a64F l).2] ∧ Mv No w w' := by
  refine zN Tryz.func141 Tryz.ntmps141 rfl rfl ?_
  refine zf (zb (L (S (zd rfl) (L (S (zd rfl) (L (S (zd rfl) (zg (zc (zf (zf (zb (L (S (za rfl) ?_))))))))))))))
  refine L (S (zR rfl rfl (decide_eq_false (by omega))) ?_)
  refine zg (zc (zk rfl (zo (zc (zf (zb (L (S (za rfl) ?_))))))))
  refine L (zq cb_152 rfl (atof64_ret hv hr hl) ?_)
  rintro _ w2 ⟨rfl, hm2⟩
  refine L (S (zv rfl rfl) (L (S (zv rfl rfl) (L (S (zv rfl rfl) (L (S (zd rfl) (L (S (zd rfl) (L (S (zd rfl) (zg (zc (zy ?_))))))))))))))
  refine Yv Tryz.results141 rfl rfl rfl ?_
  exact ⟨rfl, hm2⟩
theorem ipf_ret (hv : Vr w) {l : List UInt8} {n : Nat} (hr : RT l n) (hl : l.length ≤ 12) : Ret Tryz.prog 134 [.string (str l), .int .i64 64] w fun v w' => v = .tuple #[.float .f64 (a64F l).1, errV (a64F l).2] ∧ Mv No w w' := by
  have hsz := yR l
  refine zN Tryz.func134 Tryz.ntmps134 rfl rfl ?_
  refine zf (zb (L (S (zd rfl) (L (S (zd rfl) (zg (zc (zf (zb (L (S (za rfl) (L (S (za rfl) ?_)))))))))))))
  refine L (zq cb_141 rfl (pfPrefix_ret hv hr hl) ?_)
  rintro _ w2 ⟨rfl, hm2⟩
  refine L (S (za rfl) (L (S (zv rfl rfl) (L (S (zv rfl rfl) (L (S (zv rfl rfl) (L (S (zd rfl) (L (S (zd rfl) (L (S (zd rfl) (zg (zc (zf (zf (zb (L (S (za rfl) (L (S (za rfl) ?_))))))))))))))))))))))
  refine L (S (yi Tryz.underlying9 rfl) ?_)
  refine L (S (Za rfl rfl (decide_eq_false (by omega))) ?_)
  refine zg (zc (zk rfl (zo (zc (zf (zb (L (S (za rfl) (L (S (za rfl) (L (S (zd rfl) (L (S (zd rfl) (zg (zc (zy ?_)))))))))))))))))
  refine Z7 Tryz.results134 rfl rfl ?_
  exact ⟨rfl, hm2⟩
theorem toErr_ret (hv : Vr w) (fn : ByteArray) {l : List UInt8} (hl : l.length ≤ 12) (base bits : Int) : Ret Tryz.prog 135 [.string fn, .string (str l), .int .i64 base, .int .i64 bits, .iface 185 (.int .i64 1)] w fun v w' => (∃ t u, v = .iface t u) ∧ Mv No w w' := by
  obtain ⟨t, u, he⟩ := hv.er
  exact (Tryz.strconv_toError_range fn (str l) base bits (.iface t u) w (by rw [yR]; omega) he (.inr ⟨t, u, rfl⟩)).mono fun e w' ⟨N, h1, h2, h3, h4⟩ => ⟨_, h1, ⟨_, _, rfl⟩, Mv.ofBelow h4⟩
theorem pf_ret (hv : Vr w) {l : List UInt8} {n : Nat} (hr : RT l n) (hl : l.length ≤ 12) : Ret Tryz.prog 121 [.string (str l), .int .i64 64] w fun v w' => ∃ e, v = .tuple #[.float .f64 (a64F l).1, e] ∧ Mv No w w' ∧ (((a64F l).2 = false ∧ e = .nilIface) ∨ ((a64F l).2 = true ∧ ∃ t u, e = .iface t u)) := by
  have hI := ipf_ret hv hr hl
  generalize a64F l = q at *
  obtain ⟨fb, β⟩ := q
  dsimp only at *
  cases β with
  | true =>
    refine zN Tryz.func121 Tryz.ntmps121 rfl rfl ?_
    refine zf (zb (L (S (zd rfl) (L (S (zd rfl) (zg (zc (zf (zb (L (S (za rfl) (L (S (za rfl) ?_)))))))))))))
    refine L (zq cb_134 rfl (hI) ?_)
    rintro _ w2 ⟨rfl, hm2⟩
    refine L (S (za rfl) (L (S (zv rfl rfl) (L (S (zv rfl rfl) (L (S (zd rfl) (L (S (zd rfl) (zg (zc (zf (zf (zb (L (S (za rfl) ?_))))))))))))))))
    refine L (S (P_neI Tryz.underlying168 rfl (.inr ⟨_, _, rfl, rfl⟩)) ?_)
    refine zg (zc (zr rfl (zf (zb (L (S (za rfl) (L (S (za rfl) (L (S (za rfl) (L (S (za rfl) ?_))))))))))))
    refine L (zq cb_135 rfl (toErr_ret (hv.no hm2) _ hl _ _) ?_)
    rintro _ w3 ⟨⟨t, u, rfl⟩, hm3⟩
    refine L (S (zd rfl) (L (S (zd rfl) (zg (zc (zy (zm ?_)))))))
    refine Z7 Tryz.results121 rfl rfl ?_
    exact ⟨_, rfl, hm2.no hm3, .inr ⟨rfl, _, _, rfl⟩⟩
  | false =>
    refine zN Tryz.func121 Tryz.ntmps121 rfl rfl ?_
    refine zf (zb (L (S (zd rfl) (L (S (zd rfl) (zg (zc (zf (zb (L (S (za rfl) (L (S (za rfl) ?_)))))))))))))
    refine L (zq cb_134 rfl (hI) ?_)
    rintro _ w2 ⟨rfl, hm2⟩
    refine L (S (za rfl) (L (S (zv rfl rfl) (L (S (zv rfl rfl) (L (S (zd rfl) (L (S (zd rfl) (zg (zc (zf (zf (zb (L (S (za rfl) ?_))))))))))))))))
    refine L (S (P_neI Tryz.underlying168 rfl (.inl ⟨rfl, rfl⟩)) ?_)
    refine zg (zc (zk rfl (zo (zc (zf (zb (L (S (za rfl) (L (S (zd rfl) (L (S (zd rfl) (zg (zc (zy ?_)))))))))))))))
    refine Z7 Tryz.results121 rfl rfl ?_
    exact ⟨_, rfl, hm2, .inl ⟨rfl, rfl⟩⟩
end
/-- ParseFloat on digits, a point, digits. -/
theorem pf_all : PF bigF Vr (fun l => l.length ≤ 12) where
  mono := fun w w' h hm => h.no hm
  mx := fun w h => h.mx
  call := fun w l hv hreal hl => by
    obtain ⟨n, hr⟩ := hreal.rt
    refine (pf_ret hv hr hl).mono fun v w' ⟨e, hv', hm, hc⟩ => ⟨(a64F l).1, e, hv', hm, ?_, big_not hr⟩
    rcases hc with ⟨_, rfl⟩ | ⟨h2, hi⟩
    · exact .inl ⟨rfl, rfl⟩
    · exact .inr ⟨hi, by unfold bigF; rw [a64_err l h2]; exact inf15⟩
end Go.Proofs.YtnoioimphcmeiaaGreatDoor
namespace Go.Proofs.YtnoioimphcmeiaaGreatDoor
open Go.ChangeShapes Go.WideShapes Go.ChangeAt Go.RowKit

section
variable {H : Type} {enc : TypeId × Value → H} {P : Program} {W : World} {base : Nat} {spare : Nat → Bool} {held : Bool}

theorem lit_u8 {n : Int} (h : (Lit.int .u8 n).wf = true) : 0 ≤ n ∧ n < 256 := by
  have h1 : IntKind.u8.min = 0 := by decide
  have h2 : IntKind.u8.max = 255 := by decide
  simp [Lit.wf, h1, h2] at h
  omega
theorem lit_u64 {n : Int} (h : (Lit.int .u64 n).wf = true) : ∃ m : Nat, n = (m : Int) ∧ m < 18446744073709551616 := by
  have h1 : IntKind.u64.min = 0 := by decide
  have h2 : IntKind.u64.max = 18446744073709551615 := by decide
  simp [Lit.wf, h1, h2] at h
  exact ⟨n.toNat, by omega, by omega⟩
theorem lit_i64 {n : Int} (h : (Lit.int .i64 n).wf = true) : -9223372036854775808 ≤ n ∧ n < 9223372036854775808 := by
  have h1 : IntKind.i64.min = -9223372036854775808 := by decide
  have h2 : IntKind.i64.max = 9223372036854775807 := by decide
  simp [Lit.wf, h1, h2] at h
  omega

theorem bytes_of_ints : ∀ (zs : List Int), (∀ n ∈ zs, (Lit.int .u8 n).wf = true) → ∃ bs : List UInt8, zs.map (Value.int .u8) = bs.map bv ∧ bs.length = zs.length
  | [], _ => ⟨[], rfl, rfl⟩
  | n :: zs, h => by
    obtain ⟨bs, h1, h2⟩ := bytes_of_ints zs (fun m hm => h m (by simp [hm]))
    obtain ⟨h3, h4⟩ := lit_u8 (h n (by simp))
    refine ⟨UInt8.ofNat n.toNat :: bs, ?_, by simp [h2]⟩
    have := bv_ofNat (x := n.toNat) (by omega)
    rw [Int.toNat_of_nonneg h3] at this
    simp only [List.map_cons, h1, this]

/-- A []byte argument. -/
theorem open_bytes {t e : TypeId} {v : Value} {d : DataW H} {ps : List MemPlace} {ts : List TypeId} {ds : List (DataW H)} {j : Nat} {r : Reach} {b0 : Nat}
    (hsz : (DataW.weightsEach P ts ds).all (· ≤ reachBytes) = true) (ht : ts[j]? = some t) (hd : ds[j]? = some d) (hu : P.underlying t = some (.slice e)) (he : P.underlying e = some (.int .u8)) (hc : P.cellsOf e = 1) (hB : P.bytesOf e = 1)
    (hval : Value.okWide P W r b0 t v) (h : DataW.Trod enc P W base spare held t v d ps) : ∃ (a : Option Addr) (cap : Nat) (bs : List UInt8), v = .slice a bs.length cap ∧ SlR W a (bs.map bv) ∧ bs.length ≤ 140737488351232 := by
  obtain ⟨a, len, cap, rfl⟩ := okWide_slice hu hval
  obtain ⟨fuel, hf⟩ := h
  rcases open_ints hu he hc hf with ⟨hcs, _⟩ | ⟨x, l, c, zs, hcs, _, hl, hm, hz, hx, hcell, hwz⟩
  · simp [Value.cells] at hcs
    obtain ⟨rfl, rfl, rfl⟩ := hcs
    exact ⟨none, 0, [], rfl, .inl rfl, by simp⟩
  · simp [Value.cells] at hcs
    obtain ⟨rfl, rfl, rfl⟩ := hcs
    obtain ⟨hx, _⟩ := Prod.mk.inj hx
    subst hx
    have z := sized_slice hsz ht hd hu
    rw [hB] at z
    have hl2 : len ≤ zs.length := by
      rw [hz]
      split
      · exact hl
      · exact Nat.le_refl _
    have h1 : (lits (H := H) .u8 (zs.take len)).length + (lits (H := H) .u8 (zs.drop len)).length = zs.length := by
      simp [lits]; omega
    rw [h1] at z
    have hr : reachBytes = 140737488351232 := by decide
    obtain ⟨bs, hb1, hb2⟩ := bytes_of_ints (zs.take len) (fun n hn => hwz n (List.mem_of_mem_take hn))
    have hbl : bs.length = len := by rw [hb2]; simp; omega
    refine ⟨some x, cap, bs, by rw [hbl], ?_, by rw [hbl]; omega⟩
    by_cases h0 : len = 0
    · left
      have : bs = [] := List.eq_nil_of_length_eq_zero (by omega)
      simp [this]
    · obtain ⟨b, off, spot⟩ := x
      have g0 := hcell 0 (by omega)
      have hspot : spot = none := by simpa [Addr.add] using World.cell?_spot g0
      subst hspot
      refine .inr ⟨b, off, rfl, fun i v hv => ?_⟩
      rw [← hb1] at hv
      have hil : i < len := by
        have := (List.getElem?_eq_some_iff.1 hv).1
        simp at this; omega
      have := hcell i (by omega)
      rw [Addr.add_lit] at this
      rw [this]
      have hg : (zs.take len)[i]? = some (zs.getD i 0) := by
        simp [hil, List.getD, show i < zs.length by omega]
      rw [List.getElem?_map, hg] at hv
      exact hv

/-- A text argument. -/
theorem open_str {t : TypeId} {v : Value} {d : DataW H} {ps : List MemPlace} {ts : List TypeId} {ds : List (DataW H)} {j : Nat} {r : Reach} {b0 : Nat}
    (hsz : (DataW.weightsEach P ts ds).all (· ≤ reachBytes) = true) (ht : ts[j]? = some t) (hd : ds[j]? = some d) (hu : P.underlying t = some .string)
    (hval : Value.okWide P W r b0 t v) (h : DataW.Trod enc P W base spare held t v d ps) : ∃ (l : List UInt8), v = .string (str l) ∧ l.length ≤ 140737488351232 ∧ d = .lit (.string (str l).data.toList) ∧ ps = [] ∧ (str l).size ≤ maxLen := by
  obtain ⟨s, rfl, rfl, rfl, hs⟩ := Go.ChangeMaps.open_string hu hval h
  have z := sized_string hsz ht hd
  have hr : reachBytes = 140737488351232 := by decide
  exact ⟨s.data.toList, by rw [str_eta], by omega, by rw [str_eta], rfl, by rw [str_eta]; exact hs⟩
end
end Go.Proofs.YtnoioimphcmeiaaGreatDoor
namespace Go.Proofs.YtnoioimphcmeiaaGreatDoor
open Go.RowKit Go.ChangeShapes Go.WideShapes Go.ChangeAt
section
variable {H : Type} {enc : TypeId × Value → H}
theorem retRow {a : Assume} {C : Checked} {os : Os} {f : FuncId} {fn : Func} {s : ChangeSpec} {conds : List PathCond} {apart fresh handsOn again : Bool} {laid : List (String × DataW Unit)}
    (own : ownKnob C.prog.godebug = none) (started : os.Started) (noInit : C.prog.inits.idxOf? f = none) (hfn : C.prog.funcs[f]? = some fn)
    (witness : ∃ (w : World) (tape : Tape) (i : Input), w.os = os ∧ (w.forCall tape i).Shaped C.prog ∧ i.vars = [] ∧ Input.okWide C.prog (w.forCall tape i) .any w.heap.size f i ∧
      ((s.pre enc C.prog fn conds apart (w.forCall tape i).memory i.args ∧ laidMet C.prog laid (w.forCall tape i).memory) ∧ sizedMet enc C.prog fn (OpenSpec.ofChange s) apart (w.forCall tape i).memory i.args) ∧ a.holds C.prog (lone (Frame.enter C.prog f i.args .normal) [] (w.forCall tape i)))
    (contract : ∀ (W : World) (base : Nat) (args : Array Value) (ds gs : List (DataW H)) (before : List MemPlace),
      (∀ (j : Nat) t v, fn.params[j]? = some t → args[j]? = some v → Value.okWide C.prog W .any base t v) →
      DataW.Whole enc C.prog fn.params.toList s.vars apart W args.toList ds gs before →
      (DataW.weightsEach C.prog (fn.params.toList ++ s.plain.varTypes C.prog) (ds ++ gs)).all (· ≤ reachBytes) = true → laidMet C.prog laid W → W.ShapedOpen C.prog →
      Calls C.prog f args W fun e W' => ∃ v, e = .returned v ∧ s.post enc C.prog fn apart fresh handsOn again W args v W') :
    ReturnsInHanded a C os f .any (fun w args => (s.pre enc C.prog fn conds apart w args ∧ laidMet C.prog laid w) ∧ sizedMet enc C.prog fn (OpenSpec.ofChange s) apart w args) (s.post enc C.prog fn apart fresh handsOn again) := by
  refine returnsInHanded_of_calls own started noInit witness ?_
  intro w tape i _ hsh _ hok hpre _
  obtain ⟨_, _, _, g, hg, _, _, _, _, hval⟩ := hok
  obtain rfl : g = fn := Option.some.inj (hg.symm.trans hfn)
  obtain ⟨⟨⟨ds, gs, before, hw, _⟩, hx⟩, hz⟩ := hpre
  refine (contract (w.forCall tape i) w.heap.size i.args ds gs before hval (DataW.Whole.of_heap (w' := w.forCall tape i) (by rfl) hw) (hz.weights hw) (hx.of_heap (by rfl)) hsh).mono fun e W' ⟨v, he, hp⟩ => ?_
  subst he
  exact ChangeSpec.post_blind hp
/-- A start in which all that is listed is laid. -/
theorem witRow {C : Checked} {os : Os} {f : FuncId} {fn : Func} {s : ChangeSpec} {conds : List PathCond} {apart : Bool} {laid : List (String × DataW Unit)} (args : Array Value) (fuel : Nat)
    (hv : ((World.laidAll C.prog os laid).forCall (fun _ _ => 0) ⟨#[], args, []⟩).variablesZipB C.prog = true)
    (hr : (((World.laidAll C.prog os laid).forCall (fun _ _ => 0) ⟨#[], args, []⟩).heap.toList.drop C.prog.globals.size).take ((begin C.prog (fun _ _ => 0) default).world.heap.size - C.prog.globals.size) = (begin C.prog (fun _ _ => 0) default).world.heap.toList.drop C.prog.globals.size)
    (hok : Input.okWideB C.prog ((World.laidAll C.prog os laid).forCall (fun _ _ => 0) ⟨#[], args, []⟩) f ⟨#[], args, []⟩ = true)
    (hpre : s.preB enc C.prog fn conds apart ((World.laidAll C.prog os laid).forCall (fun _ _ => 0) ⟨#[], args, []⟩).memory args fuel = true)
    (hsz : s.sizedB enc C.prog fn apart ((World.laidAll C.prog os laid).forCall (fun _ _ => 0) ⟨#[], args, []⟩).memory args fuel = true)
    (hf : (World.holding C.prog os ⟨#[], #[], []⟩).layFits C.prog laid [] = true)
    (hi : (World.holding C.prog os ⟨#[], #[], []⟩).layIfaces C.prog laid (World.laidAll C.prog os laid) = true) :
    ∃ (w : World) (tape : Tape) (i : Input), w.os = os ∧ (w.forCall tape i).Shaped C.prog ∧ i.vars = [] ∧ Input.okWide C.prog (w.forCall tape i) .any w.heap.size f i ∧
      ((s.pre enc C.prog fn conds apart (w.forCall tape i).memory i.args ∧ laidMet C.prog laid (w.forCall tape i).memory) ∧ sizedMet enc C.prog fn (OpenSpec.ofChange s) apart (w.forCall tape i).memory i.args) ∧ ({} : Assume).holds C.prog (lone (Frame.enter C.prog f i.args .normal) [] (w.forCall tape i)) :=
  ⟨World.laidAll C.prog os laid, fun _ _ => 0, ⟨#[], args, []⟩, World.laidAll_os _ _ _, World.shaped_of_ZipB hv hr, (Input.okWide_of_okWideB (base := 0) hok).1, (Input.okWide_of_okWideB hok).2, ⟨⟨ChangeSpec.pre_of_preB hpre, laidMet_laidAll args hf hi⟩, sizedMet_of_sizedB hsz⟩, by
    simp only [Assume.holds]
    exact ⟨by simp, by simp, by simp, by simp, by simp⟩⟩
end
theorem mx_of_shape {W : World} (h : W.ShapedOpen Tryz.prog) : Mx W := cell_of_shapedOpen_int (zero := #[.int .i64 0]) h (by decide +kernel) (by kernel_rfl) (by kernel_rfl) (by kernel_rfl) (by kernel_rfl) Tryz.underlying3
end Go.Proofs.YtnoioimphcmeiaaGreatDoor
namespace Go.Proofs.YtnoioimphcmeiaaGreatDoor
open Go.RowKit
set_option maxRecDepth 20000

def flv : Lit → Value
  | .int k n => .int k n
  | .float k b => .float k b
  | .bool b => .bool b
  | .string l => .string (str l)
  | .nil => .nilIface
def f1v : DataW Unit → Value
  | .lit x => flv x
  | _ => .nilIface
def fv : DataW Unit → List Value
  | .lit x => [flv x]
  | .agg ds => ds.map f1v
  | _ => []
section
variable {P : Program} {W : World} {base : Nat} {sp : Nat → Bool} {held : Bool}
def Scal (P : Program) (t : TypeId) : Prop := P.underlying t = some .bool ∨ (∃ k, P.underlying t = some (.int k)) ∨ (∃ k, P.underlying t = some (.float k)) ∨ P.underlying t = some .string
theorem scal_is {t : TypeId} (hs : Scal P t) {fuel : Nat} {cs : List Value} {d : DataW Unit} {p : List MemPlace} (h : DataW.trod (fun _ => ()) P W base sp held fuel t cs = some (d, p)) : cs = [f1v d] ∧ cs = fv d := by
  rcases hs with ht | ⟨k, ht⟩ | ⟨k, ht⟩ | ht
  · obtain ⟨b, rfl, hx⟩ := DataW.trod_bool ht h
    cases hx
    exact ⟨rfl, rfl⟩
  · obtain ⟨n, rfl, hx, _⟩ := DataW.trod_int ht h
    cases hx
    exact ⟨rfl, rfl⟩
  · cases fuel with
    | zero => simp [DataW.trod] at h
    | succ n =>
      unfold DataW.trod at h
      rw [ht] at h
      split at h <;> simp_all
      obtain ⟨_, rfl, _⟩ := h
      exact ⟨rfl, rfl⟩
  · obtain ⟨s, rfl, hx, _⟩ := DataW.trod_string ht h
    cases hx
    exact ⟨rfl, rfl⟩
theorem take_one {cs : List Value} {i : Nat} {v : Value} (h : (cs.drop i).take 1 = [v]) : cs[i]? = some v := by
  have := congrArg (·[0]?) h
  simpa [List.getElem?_take, List.getElem?_drop] using this
theorem struct_is {t : TypeId} {fs : Array Field} (ht : P.underlying t = some (.struct fs)) (hf : ∀ (i : Nat) (f : Field), fs[i]? = some f → Scal P f.type ∧ f.offset = i ∧ P.cellsOf f.type = 1) (hct : P.cellsOf t = fs.size)
    {fuel : Nat} {cs : List Value} {d : DataW Unit} {p : List MemPlace} (h : DataW.trod (fun _ => ()) P W base sp held fuel t cs = some (d, p)) : cs = fv d := by
  obtain ⟨xs, n, _, hx, hl, hxl, hall⟩ := DataW.trod_struct ht h
  cases hx
  show cs = (xs.map (·.1)).map f1v
  apply List.ext_getElem?
  intro i
  by_cases hi : i < fs.size
  · obtain ⟨f, hfi⟩ : ∃ f, fs[i]? = some f := ⟨fs[i], by simp [hi]⟩
    obtain ⟨h1, h2, h3⟩ := hf i f hfi
    obtain ⟨y, hy⟩ : ∃ y, xs[i]? = some y := ⟨xs[i]'(by omega), List.getElem?_eq_getElem _⟩
    have h4 := hall i f hfi
    rw [h2, h3, hy] at h4
    obtain ⟨y1, y2⟩ := y
    rw [take_one (scal_is h1 h4).1, List.getElem?_map, List.getElem?_map, hy]
    rfl
  · rw [List.getElem?_eq_none (by omega), List.getElem?_eq_none (by rw [List.length_map, List.length_map]; omega)]
theorem flatMap_at {m : Nat} (hm : 0 < m) (F : DataW Unit → List Value) : ∀ (ds : List (DataW Unit)), (∀ d ∈ ds, (F d).length = m) → ∀ j, (ds.flatMap F)[j]? = (ds[j / m]?).bind fun d => (F d)[j % m]?
  | [], _, j => by simp
  | d :: r, h, j => by
    have hd := h d (List.mem_cons_self ..)
    have ih := flatMap_at hm F r (fun x hx => h x (List.mem_cons_of_mem _ hx))
    rw [List.flatMap_cons]
    by_cases hj : j < m
    · rw [List.getElem?_append_left (by omega), Nat.div_eq_of_lt hj, Nat.mod_eq_of_lt hj]
      rfl
    · rw [List.getElem?_append_right (by omega), hd, ih]
      obtain ⟨q, rfl⟩ : ∃ q, j = q + m := ⟨j - m, by omega⟩
      rw [Nat.add_sub_cancel, Nat.add_div_right _ hm, Nat.add_mod_right]
      rfl
theorem slice_is {t e : TypeId} {m : Nat} (hu : P.underlying t = some (.slice e)) (hc : P.cellsOf e = m) (hm : 0 < m) (hdec : ∀ (fuel : Nat) (cs : List Value) (d : DataW Unit) (p : List MemPlace), DataW.trod (fun _ => ()) P W base sp held fuel e cs = some (d, p) → cs = fv d)
    {fuel : Nat} {cs : List Value} {ds rest : List (DataW Unit)} {p : List MemPlace} (hne : 0 < ds.length) (h : DataW.trod (fun _ => ()) P W base sp held fuel t cs = some (.slice ds rest, p)) :
    ∃ b o cap, cs = [.slice (some ⟨b, o, none⟩) ds.length cap] ∧ Row W b o (ds.flatMap fv) := by
  rcases DataW.trod_slice hu h with ⟨_, hx⟩ | ⟨a, len, cap, elems, rest', n, _, hcs, hx, _, _, _, hlen, hel, _⟩
  · cases hx
  · cases hx
    rw [List.length_map] at hne ⊢
    have key : ∀ i, i < elems.length → ∃ y, elems[i]? = some y ∧ (fv y.1).length = m ∧ ∀ k v, (fv y.1)[k]? = some v → W.cell? ((a.add (i * m)).add k) = some v := by
      intro i hi
      obtain ⟨y, hy⟩ : ∃ y, elems[i]? = some y := ⟨elems[i], List.getElem?_eq_getElem hi⟩
      have h3 := hel i (by omega)
      rw [hy, hc, Option.bind_eq_some_iff] at h3
      obtain ⟨cs', h4, h5⟩ := h3
      obtain ⟨_, hl2, hcell⟩ := World.cells?_some h4
      obtain ⟨y1, y2⟩ := y
      have e := hdec _ _ _ _ h5
      subst e
      refine ⟨(y1, y2), hy, hl2, fun k v hk => ?_⟩
      have hkm : k < m := by
        have := (List.getElem?_eq_some_iff.1 hk).1
        dsimp only at this
        omega
      have := hcell k hkm
      rw [hk] at this
      exact this
    have hspot : a.spot = none := by
      obtain ⟨y, _, hl2, hcell⟩ := key 0 hne
      have h0 := hcell 0 _ (List.getElem?_eq_getElem (by omega))
      simpa [Addr.add] using World.cell?_spot h0
    obtain ⟨b, o, s⟩ := a
    dsimp only at hspot
    subst hspot
    refine ⟨b, o, cap, by rw [hcs, hlen], fun j v hj => ?_⟩
    rw [flatMap_at hm fv _ (by
      intro d hd
      obtain ⟨y, hy, rfl⟩ := List.mem_map.1 hd
      obtain ⟨i, hi, he⟩ := List.mem_iff_getElem.1 hy
      obtain ⟨y', hy', hl2, _⟩ := key i hi
      rw [List.getElem?_eq_getElem hi, he] at hy'
      cases hy'
      exact hl2)] at hj
    rw [List.getElem?_map, Option.bind_map, Option.bind_eq_some_iff] at hj
    obtain ⟨y, hy, hv⟩ := hj
    have hjl := (List.getElem?_eq_some_iff.1 hy).1
    obtain ⟨y', hy', _, hcell⟩ := key (j / m) hjl
    rw [hy] at hy'
    cases hy'
    have := hcell (j % m) v hv
    rw [Addr.add_lit, Addr.add_lit] at this
    have e : o + j / m * m + j % m = o + j := by
      have := Nat.div_add_mod j m
      rw [Nat.mul_comm] at this
      omega
    rw [e] at this
    exact this
theorem array_is {t e : TypeId} {n m : Nat} (hu : P.underlying t = some (.array n e)) (hc : P.cellsOf e = m) (hm : 0 < m) (hct : P.cellsOf t = n * m) (hdec : ∀ (fuel : Nat) (cs : List Value) (d : DataW Unit) (p : List MemPlace), DataW.trod (fun _ => ()) P W base sp held fuel e cs = some (d, p) → cs = fv d)
    {fuel : Nat} {cs : List Value} {ds : List (DataW Unit)} {p : List MemPlace} (h : DataW.trod (fun _ => ()) P W base sp held fuel t cs = some (.agg ds, p)) (hlen : ∀ d ∈ ds, (fv d).length = m) : cs = ds.flatMap fv := by
  obtain ⟨xs, k, _, hx, hl, hxl, hall⟩ := DataW.trod_array hu h
  cases hx
  apply List.ext_getElem?
  intro j
  rw [flatMap_at hm fv _ hlen, List.getElem?_map, Option.bind_map]
  by_cases hj : j < n * m
  · have hi : j / m < n := by rw [Nat.div_lt_iff_lt_mul hm]; exact hj
    obtain ⟨y, hy⟩ : ∃ y, xs[j / m]? = some y := ⟨xs[j / m]'(by omega), List.getElem?_eq_getElem _⟩
    have h1 := hall (j / m) hi
    rw [hc, hy] at h1
    obtain ⟨y1, y2⟩ := y
    have h2 := hdec _ _ _ _ h1
    rw [hy]
    show _ = (fv y1)[j % m]?
    rw [← h2, List.getElem?_take, if_pos (Nat.mod_lt _ hm), List.getElem?_drop]
    congr 1
    have := Nat.div_add_mod j m
    rw [Nat.mul_comm] at this
    omega
  · have hi : n ≤ j / m := by rw [Nat.le_div_iff_mul_le hm]; omega
    rw [List.getElem?_eq_none (by omega), List.getElem?_eq_none (by omega)]
    rfl
end

theorem var_row {W : World} {n : String} {d : DataW Unit} {g : Nat} {t : TypeId} {Q : List Value → Prop} (h : Go.Lib.VarReads Tryz.prog W n d) (hg : Tryz.prog.globalNamed n = some g) (hty : (Tryz.prog.globals[g]?).map (·.type) = some t)
    (dec : ∀ (fuel : Nat) (cs : List Value) (p : List MemPlace), DataW.trod (fun _ => ()) Tryz.prog W 0 (fun _ => true) false fuel t cs = some (d, p) → Q cs) : ∃ L, Q L ∧ ∀ i, W.cell? ⟨g, i, none⟩ = L[i]? := by
  obtain ⟨g', t', cs, fuel, p, hg', ht', hvar, hd⟩ := h
  obtain rfl := Option.some.inj (hg.symm.trans hg')
  obtain rfl := Option.some.inj (hty.symm.trans ht')
  exact ⟨cs.toList, dec _ _ _ hd, fun i => by rw [World.var?_cell hg hvar i, Array.getElem?_toList]⟩
theorem row_of {W : World} {g : Nat} {L : List Value} (h : ∀ i, W.cell? ⟨g, i, none⟩ = L[i]?) : Row W g 0 L := fun i v hv => by rw [Nat.zero_add, h i]; exact hv
theorem iface_is {t : TypeId} {ms} (ht : Tryz.prog.underlying t = some (.interface ms)) {W : World} {nm : String} {d : DataW Unit} {fuel : Nat} {cs : List Value} {p : List MemPlace} (h : DataW.trod (fun _ => ()) Tryz.prog W 0 (fun _ => true) false fuel t cs = some (.iface nm d, p)) : ∃ u v, cs = [.iface u v] := by
  cases fuel with
  | zero => simp [DataW.trod] at h
  | succ n =>
    unfold DataW.trod at h
    rw [ht] at h
    split at h <;> simp_all
theorem vr_of_laid {W : World} {laid : List (String × DataW Unit)} (h : laidMet Tryz.prog laid W) (hx : Mx W)
    (m1 : ("internal/strconv.float64info", Rows.laid_internal_strconv_float64info) ∈ laid) (m2 : ("internal/strconv.optimize", Rows.laid_internal_strconv_optimize) ∈ laid) (m3 : ("internal/strconv.powtab", Rows.laid_internal_strconv_powtab) ∈ laid)
    (m4 : ("internal/strconv.float64pow10", Rows.laid_internal_strconv_float64pow10) ∈ laid) (m5 : ("strconv.ErrRange", Rows.laid_strconv_ErrRange) ∈ laid) (m6 : ("internal/strconv.leftcheats", Rows.laid_internal_strconv_leftcheats) ∈ laid) (m7 : ("internal/strconv.pow10Tab", Rows.laid_internal_strconv_pow10Tab) ∈ laid) : Vr W where
  mx := hx
  opt := by
    obtain ⟨L, hL, hc⟩ := var_row (g := 4) (t := 4) (Q := fun cs => cs = [.bool true]) (Go.Lib.laidMet.reads h m2) (by kernel_rfl) (by kernel_rfl) (fun fuel cs p hd => (scal_is (.inl Tryz.underlying4) hd).1)
    subst hL
    exact hc 0
  info := by
    obtain ⟨L, hL, hc⟩ := var_row (g := 5) (t := 208) (Q := fun cs => cs = [.int .u64 52, .int .u64 11, .int .i64 (-1023)]) (Go.Lib.laidMet.reads h m1) (by kernel_rfl) (by kernel_rfl) (fun fuel cs p hd =>
      struct_is Tryz.underlying208 (fun i f hf => by
        match i, hf with
        | 0, hf => cases hf; exact ⟨.inr (.inl ⟨_, Tryz.underlying74⟩), rfl, by kernel_rfl⟩
        | 1, hf => cases hf; exact ⟨.inr (.inl ⟨_, Tryz.underlying74⟩), rfl, by kernel_rfl⟩
        | 2, hf => cases hf; exact ⟨.inr (.inl ⟨_, Tryz.underlying3⟩), rfl, by kernel_rfl⟩
        | i + 3, hf => simp at hf) (by kernel_rfl) hd)
    subst hL
    exact row_of hc
  p10 := by
    obtain ⟨L, ⟨b, o, cap, rfl, hr⟩, hc⟩ := var_row (g := 8) (t := 244) (Q := fun cs => ∃ b o cap, cs = [.slice (some ⟨b, o, none⟩) 23 cap] ∧ Row W b o (pow10L.map (.float .f64))) (Go.Lib.laidMet.reads h m4) (by kernel_rfl) (by kernel_rfl) (fun fuel cs p hd =>
      slice_is Tryz.underlying244 (m := 1) (by kernel_rfl) (by decide) (fun _ _ _ _ hd => (scal_is (.inr (.inr (.inl ⟨_, Tryz.underlying166⟩))) hd).2) (by decide) hd)
    exact ⟨b, o, cap, hc 0, hr⟩
  pt := by
    obtain ⟨L, hL, hc⟩ := var_row (g := 9) (t := 249) (Q := fun cs => cs = ptV) (Go.Lib.laidMet.reads h m7) (by kernel_rfl) (by kernel_rfl) (fun fuel cs p hd => by
      have := array_is Tryz.underlying249 (m := 2) (by kernel_rfl) (by decide) (by kernel_rfl) (fun _ _ _ _ hd => struct_is Tryz.underlying248 (fun i f hf => by
        match i, hf with
        | 0, hf => cases hf; exact ⟨.inr (.inl ⟨_, Tryz.underlying131⟩), rfl, by kernel_rfl⟩
        | 1, hf => cases hf; exact ⟨.inr (.inl ⟨_, Tryz.underlying131⟩), rfl, by kernel_rfl⟩
        | i + 2, hf => simp at hf) (by kernel_rfl) hd) hd (by
          intro d hd
          obtain ⟨x, _, rfl⟩ := List.mem_map.1 hd
          rfl)
      rw [this, List.flatMap_map]
      rfl)
    subst hL
    exact row_of hc
  ptb := by
    obtain ⟨L, ⟨b, o, cap, rfl, hr⟩, hc⟩ := var_row (g := 7) (t := 28) (Q := fun cs => ∃ b o cap, cs = [.slice (some ⟨b, o, none⟩) 9 cap] ∧ Row W b o (powtabL.map fun (x : Nat) => .int .i64 (x : Int))) (Go.Lib.laidMet.reads h m3) (by kernel_rfl) (by kernel_rfl) (fun fuel cs p hd =>
      slice_is Tryz.underlying28 (m := 1) (by kernel_rfl) (by decide) (fun _ _ _ _ hd => (scal_is (.inr (.inl ⟨_, Tryz.underlying3⟩)) hd).2) (by decide) hd)
    exact ⟨b, o, cap, hc 0, hr⟩
  ch := by
    obtain ⟨L, ⟨b, o, cap, rfl, hr⟩, hc⟩ := var_row (g := 10) (t := 260) (Q := fun cs => ∃ b o cap, cs = [.slice (some ⟨b, o, none⟩) 61 cap] ∧ Row W b o chV) (Go.Lib.laidMet.reads h m6) (by kernel_rfl) (by kernel_rfl) (fun fuel cs p hd => by
      obtain ⟨b, o, cap, h1, h2⟩ := slice_is Tryz.underlying260 (m := 2) (by kernel_rfl) (by decide) (fun _ _ _ _ hd => struct_is Tryz.underlying259 (fun i f hf => by
        match i, hf with
        | 0, hf => cases hf; exact ⟨.inr (.inl ⟨_, Tryz.underlying3⟩), rfl, by kernel_rfl⟩
        | 1, hf => cases hf; exact ⟨.inr (.inr (.inr Tryz.underlying9)), rfl, by kernel_rfl⟩
        | i + 2, hf => simp at hf) (by kernel_rfl) hd) (by rw [List.length_map]; decide +kernel) hd
      rw [List.length_map] at h1
      rw [List.flatMap_map] at h2
      exact ⟨b, o, cap, by rw [h1, show Go.Pinned.cheatRows.length = 61 by decide +kernel], h2⟩)
    exact ⟨b, o, cap, hc 0, hr⟩
  er := by
    obtain ⟨L, ⟨u, v, rfl⟩, hc⟩ := var_row (g := 2) (t := 168) (Q := fun cs => ∃ u v, cs = [.iface u v]) (Go.Lib.laidMet.reads h m5) (by kernel_rfl) (by kernel_rfl) (fun fuel cs p hd => iface_is Tryz.underlying168 hd)
    exact ⟨u, v, hc 0⟩
end Go.Proofs.YtnoioimphcmeiaaGreatDoor
namespace Go.Proofs.YtnoioimphcmeiaaGreatDoor
open Go.RowKit
set_option maxRecDepth 20000

theorem bs_self (s : ByteArray) : (s == s) = true := by
  cases s with | mk d => exact beq_self_eq_true d
theorem inT_len {l : List UInt8} (h : l.length ≤ 12) : InT (fun x => x.length ≤ 12) l := fun x hx _ => Nat.le_trans hx.length_le h
/-- What Lex says of a text: the words, a place, an error. -/
def lxR (big : List UInt8 → Bool) (l : List UInt8) (most : Int) : List Tk × Nat × Nat :=
  if most < l.length then ([], 0, 4) else
  match (lexA big l).2 with
  | none => ((lexA big l).1, 0, 0)
  | some (a, e) => ([], a, e)
def ResOut (w : World) (v : Value) (r : List Tk × Nat × Nat) : Prop := ∃ A c, v = .tuple #[.slice A r.1.length c, .int .i64 (r.2.1 : Int), .int .i64 (r.2.2 : Int)] ∧ SlR w A (flat r.1)
theorem res_of {big : List UInt8 → Bool} {l : List UInt8} {most : Int} {v : Value} {w : World} (h : if most < l.length then v = .tuple #[.slice none 0 0, .int .i64 0, .int .i64 4] else LexOut w v (lexA big l)) : ResOut w v (lxR big l most) := by
  unfold lxR
  split at h
  · rename_i hm
    rw [if_pos hm]
    exact ⟨none, 0, h, .inl rfl⟩
  · rename_i hm
    rw [if_neg hm]
    unfold LexOut at h
    cases hx : (lexA big l).2 with
    | none =>
      rw [hx] at h
      obtain ⟨A, c, h1, h2, _⟩ := h
      exact ⟨A, c, h1, h2⟩
    | some x =>
      rw [hx] at h
      exact ⟨none, 0, h, .inl rfl⟩
/-- May a text be a name? -/
def ZD (l : List UInt8) : Bool :=
  let r := lxR bigF l 12
  decide (r.2.2 = 0) && decide (r.1.length = 2) && (r.1.head?.any fun t => decide (t.kind = 1) && decide (t.s = l))
theorem str_dec {a b : List UInt8} : decide (str a = str b) = decide (a = b) := decide_eq_decide.2 ⟨ZH, congrArg str⟩
section
variable {w : World}
theorem lexLong_ret {l : List UInt8} (h : 12 < l.length) : Ret Tryz.prog 31 [.string (str l), .int .i64 12] w fun v w' => ResOut w' v (lxR bigF l 12) ∧ Mv No w w' := by
  have hsz := yR l
  unfold lxR
  rw [if_pos (by omega)]
  refine zN Tryz.func31 Tryz.ntmps31 rfl rfl ?_
  refine zf (zb (L (S (zd rfl) (L (S (zd rfl) (L (S (zd rfl) (zg (zc (zf (zf (zb (L (S (za rfl) ?_))))))))))))))
  refine L (S (yi Tryz.underlying9 rfl) ?_)
  refine L (S (za rfl) ?_)
  refine L (S (yp rfl rfl (decide_eq_true (by omega))) ?_)
  refine zg (zc (zr rfl (zf (zb (L (S (zd rfl) (L (S (zd rfl) (L (S (zd rfl) (zg (zc (zy (zm ?_))))))))))))))
  refine Yv Tryz.results31 rfl rfl rfl ?_
  exact ⟨⟨none, 0, rfl, .inl rfl⟩, Mv.refl w⟩
theorem refLexLong_ret {l : List UInt8} (h : 12 < l.length) : Ret Tryz.prog 32 [.string (str l), .int .i64 12] w fun v w' => ResOut w' v (lxR bigF l 12) ∧ Mv No w w' := by
  have hsz := yR l
  unfold lxR
  rw [if_pos (by omega)]
  refine zN Tryz.func32 Tryz.ntmps32 rfl rfl ?_
  refine zf (zb (L (S (zd rfl) (L (S (zd rfl) (L (S (zd rfl) (zg (zc (zf (zf (zb (L (S (za rfl) ?_))))))))))))))
  refine L (S (yi Tryz.underlying9 rfl) ?_)
  refine L (S (za rfl) ?_)
  refine L (S (yp rfl rfl (decide_eq_true (by omega))) ?_)
  refine zg (zc (zr rfl (zf (zb (L (S (zd rfl) (L (S (zd rfl) (L (S (zd rfl) (zg (zc (zy (zm ?_))))))))))))))
  refine Yv Tryz.results32 rfl rfl rfl ?_
  exact ⟨⟨none, 0, rfl, .inl rfl⟩, Mv.refl w⟩
theorem name_ret (hv : Vr w) (l : List UInt8) (hl : l.length ≤ 100000) : Ret Tryz.prog 9 [.string (str l)] w fun v w' => v = .bool (ZD l) ∧ Mv No w w' := by
  have hA : Ret Tryz.prog 31 [.string (str l), .int .i64 12] w fun v w' => ResOut w' v (lxR bigF l 12) ∧ Mv No w w' := by
    by_cases h12 : 12 < l.length
    · exact lexLong_ret h12
    · exact (lex_ret pf_all hv l (inT_len (by omega)) hl 12).mono fun v w'' ⟨h1, h2⟩ => (⟨res_of h1, h2⟩ : ResOut w'' v (lxR bigF l 12) ∧ Mv No w w'')
  unfold ZD
  generalize lxR bigF l 12 = r at *
  obtain ⟨toks, a, e⟩ := r
  simp only [ResOut] at hA ⊢
  refine zN Tryz.func9 Tryz.ntmps9 rfl rfl ?_
  by_cases he : e = 0
  rotate_left
  · refine zf (zb (L (S (zd rfl) (zg (zc (zf (zb (L (S (za rfl) ?_)))))))))
    refine L (zq cb_31 rfl (hA) ?_)
    rintro _ w1 ⟨⟨A, c, rfl, hA1⟩, hm1⟩
    refine L (S (za rfl) (L (S (zv rfl rfl) (L (S (zv rfl rfl) (L (S (zv rfl rfl) (L (S (zd rfl) (L (S (zd rfl) (L (S (zd rfl) (zg (zc (zf (zb (L (S (za rfl) ?_)))))))))))))))))))
    refine L (S (zR rfl rfl (decide_eq_false (by omega))) ?_)
    refine L (S (za rfl) (zl (j := 2) (dj := 14) (b := true) (b' := false) (d := 15) rfl (zl (j := 2) (dj := 14) (b := true) (b' := false) (d := 16) rfl (zl (j := 2) (dj := 14) (b := true) (b' := false) (d := 17) rfl (L (S (zj rfl rfl) (L (S (za rfl) (zl (j := 7) (dj := 19) (b := true) (b' := false) (d := 20) rfl (zl (j := 7) (dj := 19) (b := true) (b' := false) (d := 21) rfl (zl (j := 7) (dj := 19) (b := true) (b' := false) (d := 22) rfl (zl (j := 7) (dj := 19) (b := true) (b' := false) (d := 23) rfl (zl (j := 7) (dj := 19) (b := true) (b' := false) (d := 24) rfl (L (S (zj rfl rfl) (L (S (za rfl) (zl (j := 14) (dj := 26) (b := true) (b' := false) (d := 27) rfl (zl (j := 14) (dj := 26) (b := true) (b' := false) (d := 28) rfl (zl (j := 14) (dj := 26) (b := true) (b' := false) (d := 29) rfl (zl (j := 14) (dj := 26) (b := true) (b' := false) (d := 30) rfl (zl (j := 14) (dj := 26) (b := true) (b' := false) (d := 31) rfl (zl (j := 14) (dj := 26) (b := true) (b' := false) (d := 32) rfl (L (S (zj rfl rfl) (L (S (zd rfl) (zg (zc (zy ?_))))))))))))))))))))))))))))))
    refine zC Tryz.results9 rfl ?_
    exact ⟨by simp [he], hm1⟩
  by_cases h2 : toks.length = 2
  rotate_left
  · refine zf (zb (L (S (zd rfl) (zg (zc (zf (zb (L (S (za rfl) ?_)))))))))
    refine L (zq cb_31 rfl (hA) ?_)
    rintro _ w1 ⟨⟨A, c, rfl, hA1⟩, hm1⟩
    refine L (S (za rfl) (L (S (zv rfl rfl) (L (S (zv rfl rfl) (L (S (zv rfl rfl) (L (S (zd rfl) (L (S (zd rfl) (L (S (zd rfl) (zg (zc (zf (zb (L (S (za rfl) ?_)))))))))))))))))))
    refine L (S (zR rfl rfl (decide_eq_true (by omega))) ?_)
    refine L (S (za rfl) (zh (j := 2) (dj := 14) (b := true) (S (za rfl) ?_) rfl))
    refine zh (j := 2) (dj := 14) (b := true) (S (zH Tryz.underlying67 rfl) ?_) rfl
    refine zh (j := 2) (dj := 14) (b := true) (S (zR rfl rfl (decide_eq_false (by omega))) ?_) rfl
    refine L (S (zt rfl rfl) (L (S (za rfl) (zl (j := 7) (dj := 19) (b := true) (b' := false) (d := 20) rfl (zl (j := 7) (dj := 19) (b := true) (b' := false) (d := 21) rfl (zl (j := 7) (dj := 19) (b := true) (b' := false) (d := 22) rfl (zl (j := 7) (dj := 19) (b := true) (b' := false) (d := 23) rfl (zl (j := 7) (dj := 19) (b := true) (b' := false) (d := 24) rfl (L (S (zj rfl rfl) (L (S (za rfl) (zl (j := 14) (dj := 26) (b := true) (b' := false) (d := 27) rfl (zl (j := 14) (dj := 26) (b := true) (b' := false) (d := 28) rfl (zl (j := 14) (dj := 26) (b := true) (b' := false) (d := 29) rfl (zl (j := 14) (dj := 26) (b := true) (b' := false) (d := 30) rfl (zl (j := 14) (dj := 26) (b := true) (b' := false) (d := 31) rfl (zl (j := 14) (dj := 26) (b := true) (b' := false) (d := 32) rfl (L (S (zj rfl rfl) (L (S (zd rfl) (zg (zc (zy ?_)))))))))))))))))))))))))
    refine zC Tryz.results9 rfl ?_
    exact ⟨by simp [h2], hm1⟩
  match toks, h2 with
  | [t, u], _ =>
  subst he
  by_cases hk : t.kind = 1
  rotate_left
  · refine zf (zb (L (S (zd rfl) (zg (zc (zf (zb (L (S (za rfl) ?_)))))))))
    refine L (zq cb_31 rfl (hA) ?_)
    rintro _ w1 ⟨⟨A, c, rfl, hA1⟩, hm1⟩
    refine L (S (za rfl) (L (S (zv rfl rfl) (L (S (zv rfl rfl) (L (S (zv rfl rfl) (L (S (zd rfl) (L (S (zd rfl) (L (S (zd rfl) (zg (zc (zf ?_))))))))))))))))
    obtain ⟨b, o, rfl, hr⟩ := hA1.form (i := 0) (by simp [flat, Zf])
    refine zb (L (S (za rfl) ?_))
    refine L (S (zR rfl rfl (decide_eq_true (by omega))) ?_)
    refine L (S (za rfl) (zh (j := 2) (dj := 14) (b := true) (S (za rfl) ?_) rfl))
    refine zh (j := 2) (dj := 14) (b := true) (S (zH Tryz.underlying67 rfl) ?_) rfl
    refine zh (j := 2) (dj := 14) (b := true) (S (zR rfl rfl (decide_eq_true rfl)) ?_) rfl
    refine L (S (zt rfl rfl) (L (S (za rfl) (zh (j := 7) (dj := 19) (b := true) (S (za rfl) ?_) rfl))))
    refine zh (j := 7) (dj := 19) (b := true) (S (zn Tryz.underlying67 (zD yD) rfl rfl (j := 0) rfl (by simp) (p := o) (by omega)) ?_) rfl
    refine zh (j := 7) (dj := 19) (b := true) (S (ze Yc rfl) ?_) rfl
    refine zh (j := 7) (dj := 19) (b := true) (zi z_ rfl (hr 0 _ rfl) ?_) rfl
    refine zh (j := 7) (dj := 19) (b := true) (S (zR rfl rfl (decide_eq_false (by omega))) ?_) rfl
    refine L (S (zt rfl rfl) (L (S (za rfl) (zl (j := 14) (dj := 26) (b := true) (b' := false) (d := 27) rfl (zl (j := 14) (dj := 26) (b := true) (b' := false) (d := 28) rfl (zl (j := 14) (dj := 26) (b := true) (b' := false) (d := 29) rfl (zl (j := 14) (dj := 26) (b := true) (b' := false) (d := 30) rfl (zl (j := 14) (dj := 26) (b := true) (b' := false) (d := 31) rfl (zl (j := 14) (dj := 26) (b := true) (b' := false) (d := 32) rfl (L (S (zj rfl rfl) (L (S (zd rfl) (zg (zc (zy ?_))))))))))))))))
    refine zC Tryz.results9 rfl ?_
    exact ⟨by simp [hk], hm1⟩
  by_cases hs : t.s = l
  · refine zf (zb (L (S (zd rfl) (zg (zc (zf (zb (L (S (za rfl) ?_)))))))))
    refine L (zq cb_31 rfl (hA) ?_)
    rintro _ w1 ⟨⟨A, c, rfl, hA1⟩, hm1⟩
    refine L (S (za rfl) (L (S (zv rfl rfl) (L (S (zv rfl rfl) (L (S (zv rfl rfl) (L (S (zd rfl) (L (S (zd rfl) (L (S (zd rfl) (zg (zc (zf ?_))))))))))))))))
    obtain ⟨b, o, rfl, hr⟩ := hA1.form (i := 0) (by simp [flat, Zf])
    refine zb (L (S (za rfl) ?_))
    refine L (S (zR rfl rfl (decide_eq_true (by omega))) ?_)
    refine L (S (za rfl) (zh (j := 2) (dj := 14) (b := true) (S (za rfl) ?_) rfl))
    refine zh (j := 2) (dj := 14) (b := true) (S (zH Tryz.underlying67 rfl) ?_) rfl
    refine zh (j := 2) (dj := 14) (b := true) (S (zR rfl rfl (decide_eq_true rfl)) ?_) rfl
    refine L (S (zt rfl rfl) (L (S (za rfl) (zh (j := 7) (dj := 19) (b := true) (S (za rfl) ?_) rfl))))
    refine zh (j := 7) (dj := 19) (b := true) (S (zn Tryz.underlying67 (zD yD) rfl rfl (j := 0) rfl (by simp) (p := o) (by omega)) ?_) rfl
    refine zh (j := 7) (dj := 19) (b := true) (S (ze Yc rfl) ?_) rfl
    refine zh (j := 7) (dj := 19) (b := true) (zi z_ rfl (hr 0 _ rfl) ?_) rfl
    refine zh (j := 7) (dj := 19) (b := true) (S (zR rfl rfl (decide_eq_true (by omega))) ?_) rfl
    refine L (S (zt rfl rfl) (L (S (za rfl) (zh (j := 14) (dj := 26) (b := true) (S (za rfl) ?_) rfl))))
    refine zh (j := 14) (dj := 26) (b := true) (S (zn Tryz.underlying67 (zD yD) rfl rfl (j := 0) rfl (by simp) (p := o) (by omega)) ?_) rfl
    refine zh (j := 14) (dj := 26) (b := true) (S (ze ZJ rfl) ?_) rfl
    refine zh (j := 14) (dj := 26) (b := true) (zi yc rfl (hr 1 _ rfl) ?_) rfl
    refine zh (j := 14) (dj := 26) (b := true) (S (za rfl) ?_) rfl
    refine zh (j := 14) (dj := 26) (b := true) (S (ZR rfl rfl (decide_eq_true (by rw [hs]))) ?_) rfl
    refine L (S (zt rfl rfl) (L (S (zd rfl) (zg (zc (zy ?_))))))
    refine zC Tryz.results9 rfl ?_
    exact ⟨by simp [hk, hs], hm1⟩
  · refine zf (zb (L (S (zd rfl) (zg (zc (zf (zb (L (S (za rfl) ?_)))))))))
    refine L (zq cb_31 rfl (hA) ?_)
    rintro _ w1 ⟨⟨A, c, rfl, hA1⟩, hm1⟩
    refine L (S (za rfl) (L (S (zv rfl rfl) (L (S (zv rfl rfl) (L (S (zv rfl rfl) (L (S (zd rfl) (L (S (zd rfl) (L (S (zd rfl) (zg (zc (zf ?_))))))))))))))))
    obtain ⟨b, o, rfl, hr⟩ := hA1.form (i := 0) (by simp [flat, Zf])
    refine zb (L (S (za rfl) ?_))
    refine L (S (zR rfl rfl (decide_eq_true (by omega))) ?_)
    refine L (S (za rfl) (zh (j := 2) (dj := 14) (b := true) (S (za rfl) ?_) rfl))
    refine zh (j := 2) (dj := 14) (b := true) (S (zH Tryz.underlying67 rfl) ?_) rfl
    refine zh (j := 2) (dj := 14) (b := true) (S (zR rfl rfl (decide_eq_true rfl)) ?_) rfl
    refine L (S (zt rfl rfl) (L (S (za rfl) (zh (j := 7) (dj := 19) (b := true) (S (za rfl) ?_) rfl))))
    refine zh (j := 7) (dj := 19) (b := true) (S (zn Tryz.underlying67 (zD yD) rfl rfl (j := 0) rfl (by simp) (p := o) (by omega)) ?_) rfl
    refine zh (j := 7) (dj := 19) (b := true) (S (ze Yc rfl) ?_) rfl
    refine zh (j := 7) (dj := 19) (b := true) (zi z_ rfl (hr 0 _ rfl) ?_) rfl
    refine zh (j := 7) (dj := 19) (b := true) (S (zR rfl rfl (decide_eq_true (by omega))) ?_) rfl
    refine L (S (zt rfl rfl) (L (S (za rfl) (zh (j := 14) (dj := 26) (b := true) (S (za rfl) ?_) rfl))))
    refine zh (j := 14) (dj := 26) (b := true) (S (zn Tryz.underlying67 (zD yD) rfl rfl (j := 0) rfl (by simp) (p := o) (by omega)) ?_) rfl
    refine zh (j := 14) (dj := 26) (b := true) (S (ze ZJ rfl) ?_) rfl
    refine zh (j := 14) (dj := 26) (b := true) (zi yc rfl (hr 1 _ rfl) ?_) rfl
    refine zh (j := 14) (dj := 26) (b := true) (S (za rfl) ?_) rfl
    refine zh (j := 14) (dj := 26) (b := true) (S (ZR rfl rfl (decide_eq_false (fun h => hs (ZH h)))) ?_) rfl
    refine L (S (zt rfl rfl) (L (S (zd rfl) (zg (zc (zy ?_))))))
    refine zC Tryz.results9 rfl ?_
    exact ⟨by simp [hs], hm1⟩
theorem refname_ret (hv : Vr w) (l : List UInt8) (hl : l.length ≤ 100000) : Ret Tryz.prog 10 [.string (str l)] w fun v w' => v = .bool (ZD l) ∧ Mv No w w' := by
  have hA : Ret Tryz.prog 32 [.string (str l), .int .i64 12] w fun v w' => ResOut w' v (lxR bigF l 12) ∧ Mv No w w' := by
    by_cases h12 : 12 < l.length
    · exact refLexLong_ret h12
    · exact (reflex_ret pf_all hv l (inT_len (by omega)) hl 12).mono fun v w'' ⟨h1, h2⟩ => (⟨res_of h1, h2⟩ : ResOut w'' v (lxR bigF l 12) ∧ Mv No w w'')
  unfold ZD
  generalize lxR bigF l 12 = r at *
  obtain ⟨toks, a, e⟩ := r
  simp only [ResOut] at hA ⊢
  refine zN Tryz.func10 Tryz.ntmps10 rfl rfl ?_
  by_cases he : e = 0
  rotate_left
  · refine zf (zb (L (S (zd rfl) (zg (zc (zf (zb (L (S (za rfl) ?_)))))))))
    refine L (zq cb_32 rfl (hA) ?_)
    rintro _ w1 ⟨⟨A, c, rfl, hA1⟩, hm1⟩
    refine L (S (za rfl) (L (S (zv rfl rfl) (L (S (zv rfl rfl) (L (S (zv rfl rfl) (L (S (zd rfl) (L (S (zd rfl) (L (S (zd rfl) (zg (zc (zf (zb (L (S (za rfl) ?_)))))))))))))))))))
    refine L (S (zR rfl rfl (decide_eq_false (by omega))) ?_)
    refine L (S (za rfl) (zl (j := 2) (dj := 14) (b := true) (b' := false) (d := 15) rfl (zl (j := 2) (dj := 14) (b := true) (b' := false) (d := 16) rfl (zl (j := 2) (dj := 14) (b := true) (b' := false) (d := 17) rfl (L (S (zj rfl rfl) (L (S (za rfl) (zl (j := 7) (dj := 19) (b := true) (b' := false) (d := 20) rfl (zl (j := 7) (dj := 19) (b := true) (b' := false) (d := 21) rfl (zl (j := 7) (dj := 19) (b := true) (b' := false) (d := 22) rfl (zl (j := 7) (dj := 19) (b := true) (b' := false) (d := 23) rfl (zl (j := 7) (dj := 19) (b := true) (b' := false) (d := 24) rfl (L (S (zj rfl rfl) (L (S (za rfl) (zl (j := 14) (dj := 26) (b := true) (b' := false) (d := 27) rfl (zl (j := 14) (dj := 26) (b := true) (b' := false) (d := 28) rfl (zl (j := 14) (dj := 26) (b := true) (b' := false) (d := 29) rfl (zl (j := 14) (dj := 26) (b := true) (b' := false) (d := 30) rfl (zl (j := 14) (dj := 26) (b := true) (b' := false) (d := 31) rfl (zl (j := 14) (dj := 26) (b := true) (b' := false) (d := 32) rfl (L (S (zj rfl rfl) (L (S (zd rfl) (zg (zc (zy ?_))))))))))))))))))))))))))))))
    refine zC Tryz.results10 rfl ?_
    exact ⟨by simp [he], hm1⟩
  by_cases h2 : toks.length = 2
  rotate_left
  · refine zf (zb (L (S (zd rfl) (zg (zc (zf (zb (L (S (za rfl) ?_)))))))))
    refine L (zq cb_32 rfl (hA) ?_)
    rintro _ w1 ⟨⟨A, c, rfl, hA1⟩, hm1⟩
    refine L (S (za rfl) (L (S (zv rfl rfl) (L (S (zv rfl rfl) (L (S (zv rfl rfl) (L (S (zd rfl) (L (S (zd rfl) (L (S (zd rfl) (zg (zc (zf (zb (L (S (za rfl) ?_)))))))))))))))))))
    refine L (S (zR rfl rfl (decide_eq_true (by omega))) ?_)
    refine L (S (za rfl) (zh (j := 2) (dj := 14) (b := true) (S (za rfl) ?_) rfl))
    refine zh (j := 2) (dj := 14) (b := true) (S (zH Tryz.underlying67 rfl) ?_) rfl
    refine zh (j := 2) (dj := 14) (b := true) (S (zR rfl rfl (decide_eq_false (by omega))) ?_) rfl
    refine L (S (zt rfl rfl) (L (S (za rfl) (zl (j := 7) (dj := 19) (b := true) (b' := false) (d := 20) rfl (zl (j := 7) (dj := 19) (b := true) (b' := false) (d := 21) rfl (zl (j := 7) (dj := 19) (b := true) (b' := false) (d := 22) rfl (zl (j := 7) (dj := 19) (b := true) (b' := false) (d := 23) rfl (zl (j := 7) (dj := 19) (b := true) (b' := false) (d := 24) rfl (L (S (zj rfl rfl) (L (S (za rfl) (zl (j := 14) (dj := 26) (b := true) (b' := false) (d := 27) rfl (zl (j := 14) (dj := 26) (b := true) (b' := false) (d := 28) rfl (zl (j := 14) (dj := 26) (b := true) (b' := false) (d := 29) rfl (zl (j := 14) (dj := 26) (b := true) (b' := false) (d := 30) rfl (zl (j := 14) (dj := 26) (b := true) (b' := false) (d := 31) rfl (zl (j := 14) (dj := 26) (b := true) (b' := false) (d := 32) rfl (L (S (zj rfl rfl) (L (S (zd rfl) (zg (zc (zy ?_)))))))))))))))))))))))))
    refine zC Tryz.results10 rfl ?_
    exact ⟨by simp [h2], hm1⟩
  match toks, h2 with
  | [t, u], _ =>
  subst he
  by_cases hk : t.kind = 1
  rotate_left
  · refine zf (zb (L (S (zd rfl) (zg (zc (zf (zb (L (S (za rfl) ?_)))))))))
    refine L (zq cb_32 rfl (hA) ?_)
    rintro _ w1 ⟨⟨A, c, rfl, hA1⟩, hm1⟩
    refine L (S (za rfl) (L (S (zv rfl rfl) (L (S (zv rfl rfl) (L (S (zv rfl rfl) (L (S (zd rfl) (L (S (zd rfl) (L (S (zd rfl) (zg (zc (zf ?_))))))))))))))))
    obtain ⟨b, o, rfl, hr⟩ := hA1.form (i := 0) (by simp [flat, Zf])
    refine zb (L (S (za rfl) ?_))
    refine L (S (zR rfl rfl (decide_eq_true (by omega))) ?_)
    refine L (S (za rfl) (zh (j := 2) (dj := 14) (b := true) (S (za rfl) ?_) rfl))
    refine zh (j := 2) (dj := 14) (b := true) (S (zH Tryz.underlying67 rfl) ?_) rfl
    refine zh (j := 2) (dj := 14) (b := true) (S (zR rfl rfl (decide_eq_true rfl)) ?_) rfl
    refine L (S (zt rfl rfl) (L (S (za rfl) (zh (j := 7) (dj := 19) (b := true) (S (za rfl) ?_) rfl))))
    refine zh (j := 7) (dj := 19) (b := true) (S (zn Tryz.underlying67 (zD yD) rfl rfl (j := 0) rfl (by simp) (p := o) (by omega)) ?_) rfl
    refine zh (j := 7) (dj := 19) (b := true) (S (ze Yc rfl) ?_) rfl
    refine zh (j := 7) (dj := 19) (b := true) (zi z_ rfl (hr 0 _ rfl) ?_) rfl
    refine zh (j := 7) (dj := 19) (b := true) (S (zR rfl rfl (decide_eq_false (by omega))) ?_) rfl
    refine L (S (zt rfl rfl) (L (S (za rfl) (zl (j := 14) (dj := 26) (b := true) (b' := false) (d := 27) rfl (zl (j := 14) (dj := 26) (b := true) (b' := false) (d := 28) rfl (zl (j := 14) (dj := 26) (b := true) (b' := false) (d := 29) rfl (zl (j := 14) (dj := 26) (b := true) (b' := false) (d := 30) rfl (zl (j := 14) (dj := 26) (b := true) (b' := false) (d := 31) rfl (zl (j := 14) (dj := 26) (b := true) (b' := false) (d := 32) rfl (L (S (zj rfl rfl) (L (S (zd rfl) (zg (zc (zy ?_))))))))))))))))
    refine zC Tryz.results10 rfl ?_
    exact ⟨by simp [hk], hm1⟩
  by_cases hs : t.s = l
  · refine zf (zb (L (S (zd rfl) (zg (zc (zf (zb (L (S (za rfl) ?_)))))))))
    refine L (zq cb_32 rfl (hA) ?_)
    rintro _ w1 ⟨⟨A, c, rfl, hA1⟩, hm1⟩
    refine L (S (za rfl) (L (S (zv rfl rfl) (L (S (zv rfl rfl) (L (S (zv rfl rfl) (L (S (zd rfl) (L (S (zd rfl) (L (S (zd rfl) (zg (zc (zf ?_))))))))))))))))
    obtain ⟨b, o, rfl, hr⟩ := hA1.form (i := 0) (by simp [flat, Zf])
    refine zb (L (S (za rfl) ?_))
    refine L (S (zR rfl rfl (decide_eq_true (by omega))) ?_)
    refine L (S (za rfl) (zh (j := 2) (dj := 14) (b := true) (S (za rfl) ?_) rfl))
    refine zh (j := 2) (dj := 14) (b := true) (S (zH Tryz.underlying67 rfl) ?_) rfl
    refine zh (j := 2) (dj := 14) (b := true) (S (zR rfl rfl (decide_eq_true rfl)) ?_) rfl
    refine L (S (zt rfl rfl) (L (S (za rfl) (zh (j := 7) (dj := 19) (b := true) (S (za rfl) ?_) rfl))))
    refine zh (j := 7) (dj := 19) (b := true) (S (zn Tryz.underlying67 (zD yD) rfl rfl (j := 0) rfl (by simp) (p := o) (by omega)) ?_) rfl
    refine zh (j := 7) (dj := 19) (b := true) (S (ze Yc rfl) ?_) rfl
    refine zh (j := 7) (dj := 19) (b := true) (zi z_ rfl (hr 0 _ rfl) ?_) rfl
    refine zh (j := 7) (dj := 19) (b := true) (S (zR rfl rfl (decide_eq_true (by omega))) ?_) rfl
    refine L (S (zt rfl rfl) (L (S (za rfl) (zh (j := 14) (dj := 26) (b := true) (S (za rfl) ?_) rfl))))
    refine zh (j := 14) (dj := 26) (b := true) (S (zn Tryz.underlying67 (zD yD) rfl rfl (j := 0) rfl (by simp) (p := o) (by omega)) ?_) rfl
    refine zh (j := 14) (dj := 26) (b := true) (S (ze ZJ rfl) ?_) rfl
    refine zh (j := 14) (dj := 26) (b := true) (zi yc rfl (hr 1 _ rfl) ?_) rfl
    refine zh (j := 14) (dj := 26) (b := true) (S (za rfl) ?_) rfl
    refine zh (j := 14) (dj := 26) (b := true) (S (ZR rfl rfl (decide_eq_true (by rw [hs]))) ?_) rfl
    refine L (S (zt rfl rfl) (L (S (zd rfl) (zg (zc (zy ?_))))))
    refine zC Tryz.results10 rfl ?_
    exact ⟨by simp [hk, hs], hm1⟩
  · refine zf (zb (L (S (zd rfl) (zg (zc (zf (zb (L (S (za rfl) ?_)))))))))
    refine L (zq cb_32 rfl (hA) ?_)
    rintro _ w1 ⟨⟨A, c, rfl, hA1⟩, hm1⟩
    refine L (S (za rfl) (L (S (zv rfl rfl) (L (S (zv rfl rfl) (L (S (zv rfl rfl) (L (S (zd rfl) (L (S (zd rfl) (L (S (zd rfl) (zg (zc (zf ?_))))))))))))))))
    obtain ⟨b, o, rfl, hr⟩ := hA1.form (i := 0) (by simp [flat, Zf])
    refine zb (L (S (za rfl) ?_))
    refine L (S (zR rfl rfl (decide_eq_true (by omega))) ?_)
    refine L (S (za rfl) (zh (j := 2) (dj := 14) (b := true) (S (za rfl) ?_) rfl))
    refine zh (j := 2) (dj := 14) (b := true) (S (zH Tryz.underlying67 rfl) ?_) rfl
    refine zh (j := 2) (dj := 14) (b := true) (S (zR rfl rfl (decide_eq_true rfl)) ?_) rfl
    refine L (S (zt rfl rfl) (L (S (za rfl) (zh (j := 7) (dj := 19) (b := true) (S (za rfl) ?_) rfl))))
    refine zh (j := 7) (dj := 19) (b := true) (S (zn Tryz.underlying67 (zD yD) rfl rfl (j := 0) rfl (by simp) (p := o) (by omega)) ?_) rfl
    refine zh (j := 7) (dj := 19) (b := true) (S (ze Yc rfl) ?_) rfl
    refine zh (j := 7) (dj := 19) (b := true) (zi z_ rfl (hr 0 _ rfl) ?_) rfl
    refine zh (j := 7) (dj := 19) (b := true) (S (zR rfl rfl (decide_eq_true (by omega))) ?_) rfl
    refine L (S (zt rfl rfl) (L (S (za rfl) (zh (j := 14) (dj := 26) (b := true) (S (za rfl) ?_) rfl))))
    refine zh (j := 14) (dj := 26) (b := true) (S (zn Tryz.underlying67 (zD yD) rfl rfl (j := 0) rfl (by simp) (p := o) (by omega)) ?_) rfl
    refine zh (j := 14) (dj := 26) (b := true) (S (ze ZJ rfl) ?_) rfl
    refine zh (j := 14) (dj := 26) (b := true) (zi yc rfl (hr 1 _ rfl) ?_) rfl
    refine zh (j := 14) (dj := 26) (b := true) (S (za rfl) ?_) rfl
    refine zh (j := 14) (dj := 26) (b := true) (S (ZR rfl rfl (decide_eq_false (fun h => hs (ZH h)))) ?_) rfl
    refine L (S (zt rfl rfl) (L (S (zd rfl) (zg (zc (zy ?_))))))
    refine zC Tryz.results10 rfl ?_
    exact ⟨by simp [hs], hm1⟩
end
end Go.Proofs.YtnoioimphcmeiaaGreatDoor
namespace Go.Proofs.YtnoioimphcmeiaaGreatDoor
open Go.RowKit
set_option maxRecDepth 20000

/-- The cells of some things in a row. -/
def zI {α : Type} (f : α → List Value) (l : List α) : List Value := l.flatMap f
theorem yT {α : Type} {f : α → List Value} {l r : List α} : zI f (l ++ r) = zI f l ++ zI f r := List.flatMap_append
theorem Zi {α : Type} {f : α → List Value} {a : α} : zI f [a] = f a := by simp [zI]
theorem Yg {α : Type} {f : α → List Value} {a : α} {l : List α} : zI f (a :: l) = f a ++ zI f l := List.flatMap_cons
theorem yB {α : Type} {f : α → List Value} {m : Nat} (h : ∀ a, (f a).length = m) : ∀ l : List α, (zI f l).length = l.length * m
  | [] => by simp [zI]
  | a :: l => by rw [Yg, List.length_append, h, yB h l, List.length_cons, Nat.add_mul, Nat.one_mul, Nat.add_comm]
theorem cellsL_take {α : Type} {f : α → List Value} {m : Nat} (h : ∀ a, (f a).length = m) (l : List α) (i : Nat) : (zI f l).take (i * m) = zI f (l.take i) := by
  rcases Nat.lt_or_ge i l.length with hi | hi
  · have e : zI f l = zI f (l.take i) ++ zI f (l.drop i) := by rw [← yT, List.take_append_drop]
    have hl := yB h (l.take i)
    rw [List.length_take, Nat.min_eq_left (Nat.le_of_lt hi)] at hl
    rw [e, ← hl, List.take_left]
  · rw [List.take_of_length_le hi, List.take_of_length_le (by rw [yB h]; exact Nat.mul_le_mul_right m hi)]
theorem Yh {α : Type} {f : α → List Value} {m : Nat} (h : ∀ a, (f a).length = m) (l : List α) (i : Nat) : (zI f l).drop (i * m) = zI f (l.drop i) := by
  rcases Nat.lt_or_ge i l.length with hi | hi
  · have e : zI f l = zI f (l.take i) ++ zI f (l.drop i) := by rw [← yT, List.take_append_drop]
    have hl := yB h (l.take i)
    rw [List.length_take, Nat.min_eq_left (Nat.le_of_lt hi)] at hl
    rw [e, ← hl, List.drop_left]
  · rw [List.drop_eq_nil_of_le hi, List.drop_eq_nil_of_le (by rw [yB h]; exact Nat.mul_le_mul_right m hi)]
    rfl
theorem drop_at {α : Type} {l : List α} {i : Nat} {a : α} (ha : l[i]? = some a) : l.drop i = a :: l.drop (i + 1) := by
  obtain ⟨h2, h3⟩ := List.getElem?_eq_some_iff.1 ha
  rw [List.drop_eq_getElem_cons h2, h3]
theorem yY {α : Type} {l : List α} {i : Nat} {a : α} (ha : l[i]? = some a) : l.take (i + 1) = l.take i ++ [a] := by rw [List.take_add_one, ha]; rfl
/-- The cells of one of them. -/
theorem cellsL_row {α : Type} {f : α → List Value} {m : Nat} (h : ∀ a, (f a).length = m) {w : World} {b o i : Nat} {l : List α} {a : α} (hr : Row w b o (zI f l)) (ha : l[i]? = some a) : Row w b (o + i * m) (f a) := by
  have h1 := hr.drop (i * m)
  rw [Yh h, drop_at ha, Yg] at h1
  have h2 := h1.take (f a).length
  rwa [List.take_left] at h2
/-- A slice of some things that lies so. -/
theorem yr {α : Type} {f : α → List Value} {m : Nat} (h : ∀ a, (f a).length = m) (hm : 0 < m) {w : World} {A : Option Addr} {i : Nat} {l : List α} {a : α} (hr : SlR w A (zI f l)) (ha : l[i]? = some a) : ∃ b o, A = some ⟨b, o, none⟩ ∧ Row w b o (zI f l) ∧ Row w b (o + i * m) (f a) := by
  have hi := (List.getElem?_eq_some_iff.1 ha).1
  have h1 : i * m < (zI f l).length := by rw [yB h]; exact Nat.mul_lt_mul_of_pos_right hi hm
  obtain ⟨b, o, hA, hr'⟩ := hr.form h1
  exact ⟨b, o, hA, hr', cellsL_row h hr' ha⟩

/-- A column. -/
structure Col where
  name : List UInt8
  ty : Int
  nt : Bool
  deriving DecidableEq
def Zt (c : Col) : List Value := [.string (str c.name), .int .i64 c.ty, .bool c.nt]
/-- A table, and where its columns lie. -/
structure Tab where
  name : List UInt8
  cols : List Col
  A : Option Addr
  cap : Nat
  root : Int
  next : Int
  rows : Int
def yA (t : Tab) : List Value := [.string (str t.name), .slice t.A t.cols.length t.cap, .int .i64 t.root, .int .i64 t.next, .int .i64 t.rows]
structure TabOk (w : World) (t : Tab) : Prop where
  sl : SlR w t.A (zI Zt t.cols)
  le : t.cols.length ≤ t.cap
/-- An index, and where its places lie. -/
structure Idx where
  name : List UInt8
  table : List UInt8
  cols : List Int
  A : Option Addr
  cap : Nat
  state : Int
  root : Int
  cursor : Int
def intC (n : Int) : List Value := [.int .i64 n]
def yq (x : Idx) : List Value := [.string (str x.name), .string (str x.table), .slice x.A x.cols.length x.cap, .int .i64 x.state, .int .i64 x.root, .int .i64 x.cursor]
structure IdxOk (w : World) (x : Idx) : Prop where
  sl : SlR w x.A (zI intC x.cols)
  le : x.cols.length ≤ x.cap
/-- A schema, and where it lies. -/
structure Sch where
  tabs : List Tab
  A : Option Addr
  c : Nat
  idxs : List Idx
  B : Option Addr
  d : Nat
def zM (s : Sch) : List Value := [.slice s.A s.tabs.length s.c, .slice s.B s.idxs.length s.d]
structure SchOk (w : World) (s : Sch) : Prop where
  tsl : SlR w s.A (zI yA s.tabs)
  tle : s.tabs.length ≤ s.c
  tab : ∀ t ∈ s.tabs, TabOk w t
  isl : SlR w s.B (zI yq s.idxs)
  ile : s.idxs.length ≤ s.d
  idx : ∀ x ∈ s.idxs, IdxOk w x
theorem Yi (c : Col) : (Zt c).length = 3 := rfl
theorem yI (c : Tab) : (yA c).length = 5 := rfl
theorem yw (c : Idx) : (yq c).length = 6 := rfl
theorem Ys (c : Int) : (intC c).length = 1 := rfl
theorem colC_one (c : Col) : ∀ v ∈ Zt c, v.oneCell' = true := by simp [Zt, Value.oneCell']
theorem yN (c : Tab) : ∀ v ∈ yA c, v.oneCell' = true := by simp [yA, Value.oneCell']
theorem yz (c : Idx) : ∀ v ∈ yq c, v.oneCell' = true := by simp [yq, Value.oneCell']
theorem zJ (c : Sch) : ∀ v ∈ zM c, v.oneCell' = true := by simp [zM, Value.oneCell']
variable {w w' : World}
theorem TabOk.no {t : Tab} (h : TabOk w t) (hm : Mv No w w') : TabOk w' t := ⟨h.sl.no hm, h.le⟩
theorem IdxOk.no {t : Idx} (h : IdxOk w t) (hm : Mv No w w') : IdxOk w' t := ⟨h.sl.no hm, h.le⟩
theorem SchOk.no {s : Sch} (h : SchOk w s) (hm : Mv No w w') : SchOk w' s := ⟨h.tsl.no hm, h.tle, fun t ht => (h.tab t ht).no hm, h.isl.no hm, h.ile, fun t ht => (h.idx t ht).no hm⟩
/-- The place of the first that is so; -1: none is. -/
def Z0 {α : Type} (p : α → Bool) (l : List α) : Int := match l.findIdx? p with
  | some i => (i : Int)
  | none => -1
theorem Yj {α : Type} {p : α → Bool} {l : List α} {i : Nat} {a : α} (ha : l[i]? = some a) (hp : p a = true) (hb : ∀ x ∈ l.take i, p x = false) : Z0 p l = (i : Int) := by
  obtain ⟨hi, he⟩ := List.getElem?_eq_some_iff.1 ha
  have : l.findIdx? p = some i := by
    rw [List.findIdx?_eq_some_iff_getElem]
    refine ⟨hi, by rw [he]; exact hp, fun j hj => ?_⟩
    rw [hb _ (List.mem_take_iff_getElem.2 ⟨j, by omega, rfl⟩)]
    decide
  unfold Z0
  rw [this]
theorem Yk {α : Type} {p : α → Bool} {l : List α} (hb : ∀ x ∈ l, p x = false) : Z0 p l = -1 := by
  have : l.findIdx? p = none := List.findIdx?_eq_none_iff.2 hb
  unfold Z0
  rw [this]
theorem findN_cases {α : Type} (p : α → Bool) (l : List α) : (Z0 p l = -1 ∧ ∀ x ∈ l, p x = false) ∨ ∃ (i : Nat) (a : α), Z0 p l = (i : Int) ∧ l[i]? = some a ∧ p a = true ∧ ∀ x ∈ l.take i, p x = false := by
  cases h : l.findIdx? p with
  | none =>
    have h1 := List.findIdx?_eq_none_iff.1 h
    exact .inl ⟨Yk h1, h1⟩
  | some i =>
    obtain ⟨hi, h2, h3⟩ := List.findIdx?_eq_some_iff_getElem.1 h
    have hb : ∀ x ∈ l.take i, p x = false := fun x hx => by
      obtain ⟨j, hj, rfl⟩ := List.mem_take_iff_getElem.1 hx
      have := h3 j (by omega)
      simpa using this
    exact .inr ⟨i, l[i], Yj (List.getElem?_eq_getElem hi) h2 hb, List.getElem?_eq_getElem hi, h2, hb⟩
end Go.Proofs.YtnoioimphcmeiaaGreatDoor
namespace Go.Proofs.YtnoioimphcmeiaaGreatDoor
open Go.RowKit
set_option maxRecDepth 20000

section
variable {P : Program} {n : Nat} {N : Nxt} {Q : Post} {f : Fr} {ds : List Deferred} {w : World}
variable {d : Nat} {ty : TypeId} {pos : String} {af : Array Edge} {g : Option (Nat × Bool)}
/-- A function value that tells whether a thing is so. -/
def FnB (P : Program) (w0 : World) (fv : Value) {α : Type} (cells : α → List Value) (p : α → Bool) : Prop :=
  ∃ (k : FuncId) (first captured : List Value), fv = .func (.func k) first.toArray captured.toArray ∧ zA P k = true ∧
    ∀ (w : World) (x : α), Mv No w0 w → Ret P k (first ++ [.agg (cells x).toArray] ++ captured) w fun v w' => v = .bool (p x) ∧ Mv No w w'
theorem FnB.mv {w0 w1 : World} {fv : Value} {α : Type} {cells : α → List Value} {p : α → Bool} (h : FnB P w0 fv cells p) (hm : Mv No w0 w1) : FnB P w1 fv cells p := by
  obtain ⟨k, a, b, h1, h2, h3⟩ := h
  exact ⟨k, a, b, h1, h2, fun w x hw => h3 w x (hm.no hw)⟩
theorem S_callB {fv : Value} {α : Type} {cells : α → List Value} {p : α → Bool} {c : Operand} {l : List Operand} {ats : Array TypeId} {x : α} {w0 : World} {β : Bool} (hp : FnB P w0 fv cells p) (hβ : p x = β) (hf : ev f c = some fv) (hl : evs f l = some [.agg (cells x).toArray]) (hm : Mv No w0 w) (h : ∀ w', Mv No w w' → N ((d, .bool β) :: f) ds w') (hn : Nat.blt d n = true := by rfl) :
    opF P n ⟨some d, .call { callee := .value c, args := l.toArray, argTypes := ats }, ty, pos, af, g⟩ N Q f ds w := by
  obtain ⟨k, a, b, rfl, h2, h3⟩ := hp
  exact S_callv h2 hf hl (h3 w x hm) (fun v w' ⟨hv, hw⟩ => by subst hv; subst hβ; exact h w' hw) hn
end
section
variable {w : World}
theorem ixTab_ret {xs : List Tab} {A : Option Addr} {c k : Nat} (hk : xs.length = k) (hA : SlR w A (zI yA xs)) (hl : xs.length ≤ 1000000) {fv : Value} {p : Tab → Bool} (hp : FnB Tryz.prog w fv yA p) : Ret Tryz.prog 42 [.slice A k c, fv] w fun v w' => v = .int .i64 (Z0 p xs) ∧ Mv No w w' := by
  subst hk
  refine zN Tryz.func42 Tryz.ntmps42 rfl rfl ?_
  refine zf (zb (L (S (zd rfl) (zg (zc (zf (zf (zb (L (S (za rfl) ?_))))))))))
  refine L (S (zH Tryz.underlying34 rfl) ?_)
  refine L (S (za rfl) (zg (zc (zx ?_))))
  refine yF (γ := Nat) (fun i => [(0, .slice A xs.length c), (1, fv), (7, .int .i64 (xs.length : Int)), (8, .int .i64 (i : Int))]) (fun i wr => Mv No w wr ∧ i ≤ xs.length ∧ ∀ x ∈ xs.take i, p x = false) (fun i => xs.length - i) 0 (.cons rfl (.cons rfl (.cons rfl (.cons rfl (.nil _))))) ⟨Mv.refl w, Nat.zero_le _, by simp⟩ ?_
  rintro i wr ⟨hmr, hi, hb⟩
  by_cases hlt : i < xs.length
  · have ha := List.getElem?_eq_getElem hlt
    generalize xs[i] = a at ha
    obtain ⟨b, o, rfl, -, hrow⟩ := yr yI (by decide) (hA.no hmr) ha
    by_cases hq : p a = true
    · refine zf (zb ?_)
      refine L (S (zG rfl rfl (decide_eq_true (by omega))) ?_)
      refine zg (zc (zf (zr rfl (zo (zc (zf (zx (zf (zb (L (S (za rfl) (L (S (zd rfl) (zg (zc (zf (zb (L (S (za rfl) (L (S (za rfl) (L (S (za rfl) ?_)))))))))))))))))))))))
      refine L (S (zn Tryz.underlying34 (zD yl) rfl rfl (j := i) rfl (by omega) (p := o + i * 5) (by omega)) ?_)
      refine L (zB Zo rfl hrow rfl ?_)
      refine L (S_callB hp hq rfl rfl hmr ?_)
      rintro w2 hm2
      refine zg (zc (zr rfl (zf (zb (L (S (za rfl) (L (S (zd rfl) (zg (zc (zy (zP (zm (zm (zP (zm ?_))))))))))))))))
      refine zC Tryz.results42 rfl ?_
      exact ⟨by rw [Yj ha hq hb], hmr.no hm2⟩
    · have hq' : p a = false := by simpa using hq
      refine zf (zb ?_)
      refine L (S (zG rfl rfl (decide_eq_true (by omega))) ?_)
      refine zg (zc (zf (zr rfl (zo (zc (zf (zx (zf (zb (L (S (za rfl) (L (S (zd rfl) (zg (zc (zf (zb (L (S (za rfl) (L (S (za rfl) (L (S (za rfl) ?_)))))))))))))))))))))))
      refine L (S (zn Tryz.underlying34 (zD yl) rfl rfl (j := i) rfl (by omega) (p := o + i * 5) (by omega)) ?_)
      refine L (zB Zo rfl hrow rfl ?_)
      refine L (S_callB hp hq' rfl rfl hmr ?_)
      rintro w2 hm2
      refine zg (zc (zk rfl (zo (yj (zc (zb ?_))))))
      refine L (S (zT rfl rfl (z1 (c := ((i + 1 : Nat) : Int)) (by omega))) ?_)
      refine L (S (za rfl) (zg (zc ?_)))
      refine ⟨rfl, i + 1, (.cons rfl (.cons rfl (.cons rfl (.cons rfl (.nil _))))), ⟨hmr.no hm2, by omega, fun x hx => ?_⟩, by omega⟩
      rw [yY ha, List.mem_append] at hx
      rcases hx with hx | hx
      · exact hb x hx
      · have : x = a := by simpa using hx
        rw [this]; exact hq'
  · refine zf (zb ?_)
    refine L (S (zG rfl rfl (decide_eq_false (by omega))) ?_)
    refine zg (zc (zf (zk rfl (yn (zL (zL (yK (zc (zf (zb (L (S (zd rfl) (zg (zc (zy ?_)))))))))))))))
    refine zC Tryz.results42 rfl ?_
    refine ⟨by rw [Yk fun x hx => hb x (by rw [List.take_of_length_le (by omega)]; exact hx)], hmr⟩
theorem table_fn {b : Nat} {nm : List UInt8} (hb : Blk w b [.string (str nm)] 9) : FnB Tryz.prog w (.func (.func 43) #[] #[.pointer (some ⟨b, 0, none⟩)]) yA (fun x => decide (x.name = nm)) := by
  refine ⟨_, [], [_], rfl, cb_43, fun w2 x hm => ?_⟩
  show Ret _ _ [.agg (yA x).toArray, .pointer (some ⟨b, 0, none⟩)] w2 _
  refine zN Tryz.func43 Tryz.ntmps43 rfl rfl ?_
  refine zf (zb ?_)
  refine L (Zl rfl ?_)
  rintro b1 w1 hb1 hm1 hn1
  refine L (S (zd rfl) (zg (zc (zf (zb (L (S (ze yG rfl) ?_)))))))
  refine L (zi yc rfl (hb1.cell (i := 0) rfl) ?_)
  refine L (zi yc rfl (((hb.no hm).no hm1).cell (i := 0) rfl) ?_)
  refine L (S (ZR rfl rfl str_dec) ?_)
  refine L (S (zd rfl) (zg (zc (zy ?_))))
  refine zC Tryz.results43 rfl ?_
  exact ⟨rfl, hm1⟩
theorem table_ret {s : Sch} (hs : SlR w s.A (zI yA s.tabs)) (hl : s.tabs.length ≤ 1000000) (nm : List UInt8) : Ret Tryz.prog 15 [.agg (zM s).toArray, .string (str nm)] w fun v w' => v = .int .i64 (Z0 (fun x => decide (x.name = nm)) s.tabs) ∧ Mv No w w' := by
  refine zN Tryz.func15 Tryz.ntmps15 rfl rfl ?_
  refine zf (zb ?_)
  refine L (Zl rfl ?_)
  rintro b1 w1 hb1 hm1 hn1
  refine L (Zl rfl ?_)
  rintro b2 w2 hb2 hm2 hn2
  refine L (S (zd rfl) (zg (zc (zf (zb (L (S (ze yg rfl) ?_)))))))
  refine L (zi yX rfl ((hb1.no hm2).cell (i := 0) rfl) ?_)
  refine L (S (P_makeFunc rfl rfl) ?_)
  refine L (zq cb_42 rfl ((ixTab_ret rfl ((hs.no hm1).no hm2) hl (table_fn hb2))) ?_)
  rintro _ w3 ⟨rfl, hm3⟩
  refine L (S (zd rfl) (zg (zc (zy ?_))))
  refine zC Tryz.results15 rfl ?_
  exact ⟨rfl, (hm1.no hm2).no hm3⟩
theorem ixIdx_ret {xs : List Idx} {A : Option Addr} {c k : Nat} (hk : xs.length = k) (hA : SlR w A (zI yq xs)) (hl : xs.length ≤ 1000000) {fv : Value} {p : Idx → Bool} (hp : FnB Tryz.prog w fv yq p) : Ret Tryz.prog 44 [.slice A k c, fv] w fun v w' => v = .int .i64 (Z0 p xs) ∧ Mv No w w' := by
  subst hk
  refine zN Tryz.func44 Tryz.ntmps44 rfl rfl ?_
  refine zf (zb (L (S (zd rfl) (zg (zc (zf (zf (zb (L (S (za rfl) ?_))))))))))
  refine L (S (zH Tryz.underlying35 rfl) ?_)
  refine L (S (za rfl) (zg (zc (zx ?_))))
  refine yF (γ := Nat) (fun i => [(0, .slice A xs.length c), (1, fv), (7, .int .i64 (xs.length : Int)), (8, .int .i64 (i : Int))]) (fun i wr => Mv No w wr ∧ i ≤ xs.length ∧ ∀ x ∈ xs.take i, p x = false) (fun i => xs.length - i) 0 (.cons rfl (.cons rfl (.cons rfl (.cons rfl (.nil _))))) ⟨Mv.refl w, Nat.zero_le _, by simp⟩ ?_
  rintro i wr ⟨hmr, hi, hb⟩
  by_cases hlt : i < xs.length
  · have ha := List.getElem?_eq_getElem hlt
    generalize xs[i] = a at ha
    obtain ⟨b, o, rfl, -, hrow⟩ := yr yw (by decide) (hA.no hmr) ha
    by_cases hq : p a = true
    · refine zf (zb ?_)
      refine L (S (zG rfl rfl (decide_eq_true (by omega))) ?_)
      refine zg (zc (zf (zr rfl (zo (zc (zf (zx (zf (zb (L (S (za rfl) (L (S (zd rfl) (zg (zc (zf (zb (L (S (za rfl) (L (S (za rfl) (L (S (za rfl) ?_)))))))))))))))))))))))
      refine L (S (zn Tryz.underlying35 (zD yb) rfl rfl (j := i) rfl (by omega) (p := o + i * 6) (by omega)) ?_)
      refine L (zB Zu rfl hrow rfl ?_)
      refine L (S_callB hp hq rfl rfl hmr ?_)
      rintro w2 hm2
      refine zg (zc (zr rfl (zf (zb (L (S (za rfl) (L (S (zd rfl) (zg (zc (zy (zP (zm (zm (zP (zm ?_))))))))))))))))
      refine zC Tryz.results44 rfl ?_
      exact ⟨by rw [Yj ha hq hb], hmr.no hm2⟩
    · have hq' : p a = false := by simpa using hq
      refine zf (zb ?_)
      refine L (S (zG rfl rfl (decide_eq_true (by omega))) ?_)
      refine zg (zc (zf (zr rfl (zo (zc (zf (zx (zf (zb (L (S (za rfl) (L (S (zd rfl) (zg (zc (zf (zb (L (S (za rfl) (L (S (za rfl) (L (S (za rfl) ?_)))))))))))))))))))))))
      refine L (S (zn Tryz.underlying35 (zD yb) rfl rfl (j := i) rfl (by omega) (p := o + i * 6) (by omega)) ?_)
      refine L (zB Zu rfl hrow rfl ?_)
      refine L (S_callB hp hq' rfl rfl hmr ?_)
      rintro w2 hm2
      refine zg (zc (zk rfl (zo (yj (zc (zb ?_))))))
      refine L (S (zT rfl rfl (z1 (c := ((i + 1 : Nat) : Int)) (by omega))) ?_)
      refine L (S (za rfl) (zg (zc ?_)))
      refine ⟨rfl, i + 1, (.cons rfl (.cons rfl (.cons rfl (.cons rfl (.nil _))))), ⟨hmr.no hm2, by omega, fun x hx => ?_⟩, by omega⟩
      rw [yY ha, List.mem_append] at hx
      rcases hx with hx | hx
      · exact hb x hx
      · have : x = a := by simpa using hx
        rw [this]; exact hq'
  · refine zf (zb ?_)
    refine L (S (zG rfl rfl (decide_eq_false (by omega))) ?_)
    refine zg (zc (zf (zk rfl (yn (zL (zL (yK (zc (zf (zb (L (S (zd rfl) (zg (zc (zy ?_)))))))))))))))
    refine zC Tryz.results44 rfl ?_
    refine ⟨by rw [Yk fun x hx => hb x (by rw [List.take_of_length_le (by omega)]; exact hx)], hmr⟩
theorem index_fn {b : Nat} {nm : List UInt8} (hb : Blk w b [.string (str nm)] 9) : FnB Tryz.prog w (.func (.func 45) #[] #[.pointer (some ⟨b, 0, none⟩)]) yq (fun x => decide (x.name = nm)) := by
  refine ⟨_, [], [_], rfl, cb_45, fun w2 x hm => ?_⟩
  show Ret _ _ [.agg (yq x).toArray, .pointer (some ⟨b, 0, none⟩)] w2 _
  refine zN Tryz.func45 Tryz.ntmps45 rfl rfl ?_
  refine zf (zb ?_)
  refine L (Zl rfl ?_)
  rintro b1 w1 hb1 hm1 hn1
  refine L (S (zd rfl) (zg (zc (zf (zb (L (S (ze yx rfl) ?_)))))))
  refine L (zi yc rfl (hb1.cell (i := 0) rfl) ?_)
  refine L (zi yc rfl (((hb.no hm).no hm1).cell (i := 0) rfl) ?_)
  refine L (S (ZR rfl rfl str_dec) ?_)
  refine L (S (zd rfl) (zg (zc (zy ?_))))
  refine zC Tryz.results45 rfl ?_
  exact ⟨rfl, hm1⟩
theorem index_ret {s : Sch} (hs : SlR w s.B (zI yq s.idxs)) (hl : s.idxs.length ≤ 1000000) (nm : List UInt8) : Ret Tryz.prog 17 [.agg (zM s).toArray, .string (str nm)] w fun v w' => v = .int .i64 (Z0 (fun x => decide (x.name = nm)) s.idxs) ∧ Mv No w w' := by
  refine zN Tryz.func17 Tryz.ntmps17 rfl rfl ?_
  refine zf (zb ?_)
  refine L (Zl rfl ?_)
  rintro b1 w1 hb1 hm1 hn1
  refine L (Zl rfl ?_)
  rintro b2 w2 hb2 hm2 hn2
  refine L (S (zd rfl) (zg (zc (zf (zb (L (S (ze yf rfl) ?_)))))))
  refine L (zi yS rfl ((hb1.no hm2).cell (i := 1) rfl) ?_)
  refine L (S (P_makeFunc rfl rfl) ?_)
  refine L (zq cb_44 rfl ((ixIdx_ret rfl ((hs.no hm1).no hm2) hl (index_fn hb2))) ?_)
  rintro _ w3 ⟨rfl, hm3⟩
  refine L (S (zd rfl) (zg (zc (zy ?_))))
  refine zC Tryz.results17 rfl ?_
  exact ⟨rfl, (hm1.no hm2).no hm3⟩
theorem ixCol_ret {xs : List Col} {A : Option Addr} {c k : Nat} (hk : xs.length = k) (hA : SlR w A (zI Zt xs)) (hl : xs.length ≤ 1000000) {fv : Value} {p : Col → Bool} (hp : FnB Tryz.prog w fv Zt p) : Ret Tryz.prog 47 [.slice A k c, fv] w fun v w' => v = .int .i64 (Z0 p xs) ∧ Mv No w w' := by
  subst hk
  refine zN Tryz.func47 Tryz.ntmps47 rfl rfl ?_
  refine zf (zb (L (S (zd rfl) (zg (zc (zf (zf (zb (L (S (za rfl) ?_))))))))))
  refine L (S (zH Tryz.underlying25 rfl) ?_)
  refine L (S (za rfl) (zg (zc (zx ?_))))
  refine yF (γ := Nat) (fun i => [(0, .slice A xs.length c), (1, fv), (7, .int .i64 (xs.length : Int)), (8, .int .i64 (i : Int))]) (fun i wr => Mv No w wr ∧ i ≤ xs.length ∧ ∀ x ∈ xs.take i, p x = false) (fun i => xs.length - i) 0 (.cons rfl (.cons rfl (.cons rfl (.cons rfl (.nil _))))) ⟨Mv.refl w, Nat.zero_le _, by simp⟩ ?_
  rintro i wr ⟨hmr, hi, hb⟩
  by_cases hlt : i < xs.length
  · have ha := List.getElem?_eq_getElem hlt
    generalize xs[i] = a at ha
    obtain ⟨b, o, rfl, -, hrow⟩ := yr Yi (by decide) (hA.no hmr) ha
    by_cases hq : p a = true
    · refine zf (zb ?_)
      refine L (S (zG rfl rfl (decide_eq_true (by omega))) ?_)
      refine zg (zc (zf (zr rfl (zo (zc (zf (zx (zf (zb (L (S (za rfl) (L (S (zd rfl) (zg (zc (zf (zb (L (S (za rfl) (L (S (za rfl) (L (S (za rfl) ?_)))))))))))))))))))))))
      refine L (S (zn Tryz.underlying25 (zD ZM) rfl rfl (j := i) rfl (by omega) (p := o + i * 3) (by omega)) ?_)
      refine L (zB st_43 rfl hrow rfl ?_)
      refine L (S_callB hp hq rfl rfl hmr ?_)
      rintro w2 hm2
      refine zg (zc (zr rfl (zf (zb (L (S (za rfl) (L (S (zd rfl) (zg (zc (zy (zP (zm (zm (zP (zm ?_))))))))))))))))
      refine zC Tryz.results47 rfl ?_
      exact ⟨by rw [Yj ha hq hb], hmr.no hm2⟩
    · have hq' : p a = false := by simpa using hq
      refine zf (zb ?_)
      refine L (S (zG rfl rfl (decide_eq_true (by omega))) ?_)
      refine zg (zc (zf (zr rfl (zo (zc (zf (zx (zf (zb (L (S (za rfl) (L (S (zd rfl) (zg (zc (zf (zb (L (S (za rfl) (L (S (za rfl) (L (S (za rfl) ?_)))))))))))))))))))))))
      refine L (S (zn Tryz.underlying25 (zD ZM) rfl rfl (j := i) rfl (by omega) (p := o + i * 3) (by omega)) ?_)
      refine L (zB st_43 rfl hrow rfl ?_)
      refine L (S_callB hp hq' rfl rfl hmr ?_)
      rintro w2 hm2
      refine zg (zc (zk rfl (zo (yj (zc (zb ?_))))))
      refine L (S (zT rfl rfl (z1 (c := ((i + 1 : Nat) : Int)) (by omega))) ?_)
      refine L (S (za rfl) (zg (zc ?_)))
      refine ⟨rfl, i + 1, (.cons rfl (.cons rfl (.cons rfl (.cons rfl (.nil _))))), ⟨hmr.no hm2, by omega, fun x hx => ?_⟩, by omega⟩
      rw [yY ha, List.mem_append] at hx
      rcases hx with hx | hx
      · exact hb x hx
      · have : x = a := by simpa using hx
        rw [this]; exact hq'
  · refine zf (zb ?_)
    refine L (S (zG rfl rfl (decide_eq_false (by omega))) ?_)
    refine zg (zc (zf (zk rfl (yn (zL (zL (yK (zc (zf (zb (L (S (zd rfl) (zg (zc (zy ?_)))))))))))))))
    refine zC Tryz.results47 rfl ?_
    refine ⟨by rw [Yk fun x hx => hb x (by rw [List.take_of_length_le (by omega)]; exact hx)], hmr⟩
theorem column_fn {b : Nat} {nm : List UInt8} (hb : Blk w b [.string (str nm)] 9) : FnB Tryz.prog w (.func (.func 48) #[] #[.pointer (some ⟨b, 0, none⟩)]) Zt (fun x => decide (x.name = nm)) := by
  refine ⟨_, [], [_], rfl, cb_48, fun w2 x hm => ?_⟩
  show Ret _ _ [.agg (Zt x).toArray, .pointer (some ⟨b, 0, none⟩)] w2 _
  refine zN Tryz.func48 Tryz.ntmps48 rfl rfl ?_
  refine zf (zb ?_)
  refine L (Zl rfl ?_)
  rintro b1 w1 hb1 hm1 hn1
  refine L (S (zd rfl) (zg (zc (zf (zb (L (S (ze ZO rfl) ?_)))))))
  refine L (zi yc rfl (hb1.cell (i := 0) rfl) ?_)
  refine L (zi yc rfl (((hb.no hm).no hm1).cell (i := 0) rfl) ?_)
  refine L (S (ZR rfl rfl str_dec) ?_)
  refine L (S (zd rfl) (zg (zc (zy ?_))))
  refine zC Tryz.results48 rfl ?_
  exact ⟨rfl, hm1⟩
theorem column_ret {s : Tab} (hs : SlR w s.A (zI Zt s.cols)) (hl : s.cols.length ≤ 1000000) (nm : List UInt8) : Ret Tryz.prog 21 [.agg (yA s).toArray, .string (str nm)] w fun v w' => v = .int .i64 (Z0 (fun x => decide (x.name = nm)) s.cols) ∧ Mv No w w' := by
  refine zN Tryz.func21 Tryz.ntmps21 rfl rfl ?_
  refine zf (zb ?_)
  refine L (Zl rfl ?_)
  rintro b1 w1 hb1 hm1 hn1
  refine L (Zl rfl ?_)
  rintro b2 w2 hb2 hm2 hn2
  refine L (S (zd rfl) (zg (zc (zf (zb (L (S (ze yV rfl) ?_)))))))
  refine L (zi ZC rfl ((hb1.no hm2).cell (i := 1) rfl) ?_)
  refine L (S (P_makeFunc rfl rfl) ?_)
  refine L (zq cb_47 rfl ((ixCol_ret rfl ((hs.no hm1).no hm2) hl (column_fn hb2))) ?_)
  rintro _ w3 ⟨rfl, hm3⟩
  refine L (S (zd rfl) (zg (zc (zy ?_))))
  refine zC Tryz.results21 rfl ?_
  exact ⟨rfl, (hm1.no hm2).no hm3⟩
end
end Go.Proofs.YtnoioimphcmeiaaGreatDoor
namespace Go.Proofs.YtnoioimphcmeiaaGreatDoor
open Go.RowKit
set_option maxRecDepth 20000
set_option maxHeartbeats 1000000

theorem findN_any {α : Type} {p : α → Bool} {l : List α} : decide (Z0 p l ≥ 0) = l.any p := by
  rcases findN_cases p l with ⟨h, hb⟩ | ⟨i, a, h, ha, hp, hb⟩
  · rw [h, List.any_eq_false.2 (fun x hx => by rw [hb x hx]; decide)]; decide
  · rw [h, List.any_eq_true.2 ⟨a, List.mem_of_getElem? ha, hp⟩]; exact decide_eq_true (by omega)
theorem findN_lt {α : Type} {p : α → Bool} {l : List α} {i : Nat} {a : α} (ha : l[i]? = some a) (hp : p a = true) : decide (Z0 p l < (i : Int)) = (l.take i).any p := by
  rcases findN_cases p l with ⟨h, hb⟩ | ⟨j, c, h, hc, hpc, hb⟩
  · rw [hb a (List.mem_of_getElem? ha)] at hp; cases hp
  · rw [h]
    by_cases hj : j < i
    · rw [List.any_eq_true.2 ⟨c, List.mem_of_getElem? (i := j) (by rw [List.getElem?_take_of_lt hj]; exact hc), hpc⟩]
      exact decide_eq_true (by omega)
    · have e : (l.take i).any p = false := by
        rw [List.any_eq_false]
        intro x hx
        have : x ∈ l.take j := by
          rw [show l.take i = (l.take j).take i by rw [List.take_take, Nat.min_eq_left (by omega)]] at hx
          exact List.mem_of_mem_take hx
        rw [hb x this]; decide
      rw [e]; exact decide_eq_false (by omega)
/-- Why columns may not be a table's. -/
def colsG (pre : List Col) : List Col → Nat
  | [] => 0
  | c :: r => if ZD c.name = false ∨ c.ty < 1 ∨ c.ty > 3 then 7 else if pre.any (fun d => decide (d.name = c.name)) = true then 8 else colsG (pre ++ [c]) r
def colsE (l : List Col) : Nat := if l.length = 0 then 7 else if 6 < l.length then 11 else colsG [] l
/-- Why places may not be an index's. -/
def Yu (n : Nat) (pre : List Int) : List Int → Nat
  | [] => 0
  | c :: r => if c < 0 ∨ (n : Int) ≤ c then 131 else if pre.any (fun d => decide (d = c)) = true then 8 else Yu n (pre ++ [c]) r
def Z_ (n : Nat) (l : List Int) : Nat := if l.length = 0 then 7 else if 3 < l.length then 11 else Yu n [] l
section
variable {w : World}
theorem name_is (hv : Vr w) {l : List UInt8} (hl : l.length ≤ 100000) {β : Bool} (hβ : ZD l = β) : Ret Tryz.prog 9 [.string (str l)] w fun v w' => v = .bool β ∧ Mv No w w' := by subst hβ; exact name_ret hv l hl
theorem refname_is (hv : Vr w) {l : List UInt8} (hl : l.length ≤ 100000) {β : Bool} (hβ : ZD l = β) : Ret Tryz.prog 10 [.string (str l)] w fun v w' => v = .bool β ∧ Mv No w w' := by subst hβ; exact refname_ret hv l hl
theorem SlR.pre {α : Type} {f : α → List Value} {m : Nat} (h : ∀ a, (f a).length = m) {A : Option Addr} {l : List α} {c : Nat} (hs : SlR w A (zI f l)) (hc : l.length ≤ c) (i : Nat) : SlR w (cutA A 0 m c) (zI f (l.take i)) := by
  have h1 := hs.cut (l := 0) (m := m) (cap := c) (by rw [yB h]; exact Nat.mul_le_mul_right m hc)
  rw [Nat.zero_mul, List.drop_zero] at h1
  have h2 := h1.take (i * m)
  rwa [cellsL_take h] at h2
theorem hasCol_ret {xs : List Col} {A : Option Addr} {c k : Nat} (hk : xs.length = k) (hA : SlR w A (zI Zt xs)) (hl : xs.length ≤ 1000000) {fv : Value} {p : Col → Bool} (hp : FnB Tryz.prog w fv Zt p) {β : Bool} (hβ : xs.any p = β) : Ret Tryz.prog 49 [.slice A k c, fv] w fun v w' => v = .bool β ∧ Mv No w w' := by
  refine zN Tryz.func49 Tryz.ntmps49 rfl rfl ?_
  refine zf (zb (L (S (zd rfl) (zg (zc (zf (zb (L (S (za rfl) (L (S (za rfl) ?_)))))))))))
  refine L (zq cb_47 rfl ((ixCol_ret hk hA hl hp)) ?_)
  rintro _ w1 ⟨rfl, hm1⟩
  refine L (S (y_ rfl rfl (findN_any.trans hβ)) ?_)
  refine L (S (zd rfl) (zg (zc (zy ?_))))
  refine zC Tryz.results49 rfl ?_
  exact ⟨rfl, hm1⟩
theorem twice_fn {b : Nat} {c : Col} (hb : Blk w b (Zt c) 43) : FnB Tryz.prog w (.func (.func 50) #[] #[.pointer (some ⟨b, 0, none⟩)]) Zt (fun x => decide (x.name = c.name)) := by
  refine ⟨_, [], [_], rfl, cb_50, fun w2 x hm => ?_⟩
  show Ret _ _ [.agg (Zt x).toArray, .pointer (some ⟨b, 0, none⟩)] w2 _
  refine zN Tryz.func50 Tryz.ntmps50 rfl rfl ?_
  refine zf (zb ?_)
  refine L (Zl rfl ?_)
  rintro b1 w1 hb1 hm1 hn1
  refine L (S (zd rfl) (zg (zc (zf (zb (L (S (ze ZO rfl) ?_)))))))
  refine L (zi yc rfl (hb1.cell (i := 0) rfl) ?_)
  refine L (S (ze ZO rfl) ?_)
  refine L (zi yc rfl (((hb.no hm).no hm1).cell (i := 0) rfl) ?_)
  refine L (S (ZR rfl rfl str_dec) ?_)
  refine L (S (zd rfl) (zg (zc (zy ?_))))
  refine zC Tryz.results50 rfl ?_
  exact ⟨rfl, hm1⟩
theorem columns_ret (hv : Vr w) {l : List Col} {A : Option Addr} {c : Nat} (hA : SlR w A (zI Zt l)) (hc : l.length ≤ c) (hl : l.length ≤ 1000000) (hn : ∀ x ∈ l, x.name.length ≤ 100000) : Ret Tryz.prog 23 [.slice A l.length c] w fun v w' => v = .int .i64 (colsE l : Nat) ∧ Mv No w w' := by
  unfold colsE
  refine zN Tryz.func23 Tryz.ntmps23 rfl rfl ?_
  by_cases h0 : l.length = 0
  · rw [if_pos h0]
    refine zf (zb (L (S (zd rfl) (zg (zc (zf (zf (zb (L (S (za rfl) ?_))))))))))
    refine L (S (zH Tryz.underlying25 rfl) ?_)
    refine L (S (zR rfl rfl (decide_eq_true (by omega))) ?_)
    refine zg (zc (zr rfl (zf (zb (L (S (zd rfl) (zg (zc (zy (zm ?_))))))))))
    refine zC Tryz.results23 rfl ?_
    exact ⟨rfl, Mv.refl w⟩
  rw [if_neg h0]
  by_cases h6 : 6 < l.length
  · rw [if_pos h6]
    refine zf (zb (L (S (zd rfl) (zg (zc (zf (zf (zb (L (S (za rfl) ?_))))))))))
    refine L (S (zH Tryz.underlying25 rfl) ?_)
    refine L (S (zR rfl rfl (decide_eq_false (by omega))) ?_)
    refine zg (zc (zk rfl (zo (zc (zf (zf (zb (L (S (za rfl) ?_)))))))))
    refine L (S (zH Tryz.underlying25 rfl) ?_)
    refine L (S (yp rfl rfl (decide_eq_true (by omega))) ?_)
    refine zg (zc (zr rfl (zf (zb (L (S (zd rfl) (zg (zc (zy (zm ?_))))))))))
    refine zC Tryz.results23 rfl ?_
    exact ⟨rfl, Mv.refl w⟩
  rw [if_neg h6]
  refine zf (zb (L (S (zd rfl) (zg (zc (zf (zf (zb (L (S (za rfl) ?_))))))))))
  refine L (S (zH Tryz.underlying25 rfl) ?_)
  refine L (S (zR rfl rfl (decide_eq_false (by omega))) ?_)
  refine zg (zc (zk rfl (zo (zc (zf (zf (zb (L (S (za rfl) ?_)))))))))
  refine L (S (zH Tryz.underlying25 rfl) ?_)
  refine L (S (yp rfl rfl (decide_eq_false (by omega))) ?_)
  refine zg (zc (zk rfl (zo (zc (zf (zf (zb (L (S (za rfl) ?_)))))))))
  refine L (S (zH Tryz.underlying25 rfl) ?_)
  refine L (S (za rfl) (zg (zc (zx ?_))))
  refine yF (γ := Nat) (fun i => [(0, .slice A l.length c), (11, .slice A l.length c), (12, .int .i64 (l.length : Int)), (13, .int .i64 (i : Int))]) (fun i wr => Mv No w wr ∧ i ≤ l.length ∧ colsG [] l = colsG (l.take i) (l.drop i)) (fun i => l.length - i) 0 (.cons rfl (.cons rfl (.cons rfl (.cons rfl (.nil _))))) ⟨Mv.refl w, Nat.zero_le _, rfl⟩ ?_
  rintro i wr ⟨hmr, hi, hg⟩
  rw [hg]
  by_cases hlt : i < l.length
  · have ha := List.getElem?_eq_getElem hlt
    generalize l[i] = x at ha
    have hnx := hn x (List.mem_of_getElem? ha)
    have hN : ∀ {w' : World} {β : Bool}, Mv No w w' → ZD x.name = β → _ := fun {w'} {β} h hβ => name_is (β := β) (hv.no h) hnx hβ
    obtain ⟨b, o, hAe, hrr, hrow⟩ := yr Yi (by decide) (hA.no hmr) ha
    have hpre := SlR.pre Yi (hA.no hmr) hc i
    subst hAe
    have hgs : colsG (l.take i) (l.drop i) = if ZD x.name = false ∨ x.ty < 1 ∨ x.ty > 3 then 7 else if (l.take i).any (fun d => decide (d.name = x.name)) = true then 8 else colsG (l.take (i + 1)) (l.drop (i + 1)) := by rw [drop_at ha, yY ha]; rfl
    refine zf (zb ?_)
    refine L (S (zG rfl rfl (decide_eq_true (by omega))) ?_)
    refine zg (zc (zf (zr rfl (zo (zc (zf (zx (zf (zb (L (S (za rfl) ?_)))))))))))
    refine L (S (zn Tryz.underlying25 (zD ZM) rfl rfl (j := i) rfl (by omega) (p := o + i * 3) (by omega)) ?_)
    refine L (zB st_43 rfl hrow rfl ?_)
    refine L (ye (zs := [(.string (ByteArray.mk #[])), (.int .i64 0), (.bool false)]) ZM rfl ?_)
    rintro b4 w4 hb4 hm4 hn4
    refine L (S (zd rfl) ?_)
    refine L (zw ZM rfl rfl (colC_one x) rfl hb4 (by exact Nat.le_refl 3) ?_)
    rintro w5 hb5 hm5
    refine zg (zc (zf (zf ?_)))
    have hb5' : Blk w5 b4 (Zt x) 43 := hb5
    have hm45 : Mv No wr w5 := hm4.new hm5 hn4
    have hm05 := hmr.no hm45
    have hty : ∀ wq, Mv No w5 wq → wq.cell? ⟨b4, 1, none⟩ = some (.int .i64 x.ty) := fun wq h => (hb5'.no h).cell (i := 1) rfl
    by_cases q1 : ZD x.name = true
    rotate_left
    · have q1' : ZD x.name = false := by simpa using q1
      rw [hgs, if_pos (.inl q1')]
      refine zb (L (S (ze ZO rfl) ?_))
      refine L (zi yc rfl (hb5'.cell (i := 0) rfl) ?_)
      refine L (zq Yz rfl ((hN hm05 q1')) ?_)
      rintro _ w6 ⟨rfl, hm6⟩
      refine L (S (yu rfl rfl) (L (S (za rfl) (zl (j := 4) (dj := 22) (b := false) (b' := true) (d := 23) rfl (zl (j := 4) (dj := 22) (b := false) (b' := true) (d := 24) rfl (zl (j := 4) (dj := 22) (b := false) (b' := true) (d := 25) rfl (L (S (zt rfl rfl) (L (S (za rfl) (zl (j := 9) (dj := 27) (b := false) (b' := true) (d := 28) rfl (zl (j := 9) (dj := 27) (b := false) (b' := true) (d := 29) rfl (zl (j := 9) (dj := 27) (b := false) (b' := true) (d := 30) rfl (L (S (zt rfl rfl) (zg (zc (zr rfl (zf (zb (L (S (zd rfl) (zg (zc (zy (zm (zP (zm (zm ?_)))))))))))))))))))))))))))))
      refine zP (zm ?_)
      refine zC Tryz.results23 rfl ?_
      exact ⟨rfl, hm05.no hm6⟩
    by_cases q2 : x.ty < 1
    · rw [hgs, if_pos (.inr (.inl q2))]
      refine zb (L (S (ze ZO rfl) ?_))
      refine L (zi yc rfl (hb5'.cell (i := 0) rfl) ?_)
      refine L (zq Yz rfl ((hN hm05 q1)) ?_)
      rintro _ w6 ⟨rfl, hm6⟩
      refine L (S (yu rfl rfl) (L (S (za rfl) (zh (j := 4) (dj := 22) (b := false) (S (ze Yb rfl) ?_) rfl))))
      refine zh (j := 4) (dj := 22) (b := false) (zi z_ rfl (hty _ hm6) ?_) rfl
      refine zh (j := 4) (dj := 22) (b := false) (S (zG rfl rfl (decide_eq_true (by omega))) ?_) rfl
      refine L (S (zj rfl rfl) (L (S (za rfl) (zl (j := 9) (dj := 27) (b := false) (b' := true) (d := 28) rfl (zl (j := 9) (dj := 27) (b := false) (b' := true) (d := 29) rfl (zl (j := 9) (dj := 27) (b := false) (b' := true) (d := 30) rfl (L (S (zt rfl rfl) (zg (zc (zr rfl (zf (zb (L (S (zd rfl) (zg (zc (zy (zm (zP (zm (zm (zP (zm ?_))))))))))))))))))))))))
      refine zC Tryz.results23 rfl ?_
      exact ⟨rfl, hm05.no hm6⟩
    by_cases q3 : x.ty > 3
    · rw [hgs, if_pos (.inr (.inr q3))]
      refine zb (L (S (ze ZO rfl) ?_))
      refine L (zi yc rfl (hb5'.cell (i := 0) rfl) ?_)
      refine L (zq Yz rfl ((hN hm05 q1)) ?_)
      rintro _ w6 ⟨rfl, hm6⟩
      refine L (S (yu rfl rfl) (L (S (za rfl) (zh (j := 4) (dj := 22) (b := false) (S (ze Yb rfl) ?_) rfl))))
      refine zh (j := 4) (dj := 22) (b := false) (zi z_ rfl (hty _ hm6) ?_) rfl
      refine zh (j := 4) (dj := 22) (b := false) (S (zG rfl rfl (decide_eq_false (by omega))) ?_) rfl
      refine L (S (zj rfl rfl) (L (S (za rfl) (zh (j := 9) (dj := 27) (b := false) (S (ze Yb rfl) ?_) rfl))))
      refine zh (j := 9) (dj := 27) (b := false) (zi z_ rfl (hty _ hm6) ?_) rfl
      refine zh (j := 9) (dj := 27) (b := false) (S (yp rfl rfl (decide_eq_true (by omega))) ?_) rfl
      refine L (S (zj rfl rfl) (zg (zc (zr rfl (zf (zb (L (S (zd rfl) (zg (zc (zy (zm (zP (zm (zm (zP (zm ?_)))))))))))))))))
      refine zC Tryz.results23 rfl ?_
      exact ⟨rfl, hm05.no hm6⟩
    have hq : ¬ (ZD x.name = false ∨ x.ty < 1 ∨ x.ty > 3) := by rw [q1]; simp; omega
    rw [if_neg hq] at hgs
    have hlen : (l.take i).length = i - 0 := by rw [List.length_take]; omega
    by_cases q4 : (l.take i).any (fun d => decide (d.name = x.name)) = true
    · rw [hgs, if_pos q4]
      refine zb (L (S (ze ZO rfl) ?_))
      refine L (zi yc rfl (hb5'.cell (i := 0) rfl) ?_)
      refine L (zq Yz rfl ((hN hm05 q1)) ?_)
      rintro _ w6 ⟨rfl, hm6⟩
      refine L (S (yu rfl rfl) (L (S (za rfl) (zh (j := 4) (dj := 22) (b := false) (S (ze Yb rfl) ?_) rfl))))
      refine zh (j := 4) (dj := 22) (b := false) (zi z_ rfl (hty _ hm6) ?_) rfl
      refine zh (j := 4) (dj := 22) (b := false) (S (zG rfl rfl (decide_eq_false (by omega))) ?_) rfl
      refine L (S (zj rfl rfl) (L (S (za rfl) (zh (j := 9) (dj := 27) (b := false) (S (ze Yb rfl) ?_) rfl))))
      refine zh (j := 9) (dj := 27) (b := false) (zi z_ rfl (hty _ hm6) ?_) rfl
      refine zh (j := 9) (dj := 27) (b := false) (S (yp rfl rfl (decide_eq_false (by omega))) ?_) rfl
      refine L (S (zj rfl rfl) (zg (zc (zk rfl (zo (zc (zf (zb (L (S (za rfl) (L (S (za rfl) ?_))))))))))))
      refine L (S (YC Tryz.underlying25 (zD ZM) rfl yU (zV (j := i) rfl rfl) (Nat.zero_le _) (by omega)) ?_)
      refine L (S (P_makeFunc rfl rfl) ?_)
      refine L (zq cb_49 rfl ((hasCol_ret hlen ((hpre.no hm45).no hm6) (by omega) (twice_fn (hb5'.no hm6)) q4)) ?_)
      rintro _ w7 ⟨rfl, hm7⟩
      refine zg (zc (zr rfl (zf (zb (L (S (zd rfl) (zg (zc (zy (zP (zm (zm (zP (zm ?_))))))))))))))
      refine zC Tryz.results23 rfl ?_
      exact ⟨rfl, (hm05.no hm6).no hm7⟩
    · have q4' : (l.take i).any (fun d => decide (d.name = x.name)) = false := by simpa using q4
      rw [if_neg q4] at hgs
      refine zb (L (S (ze ZO rfl) ?_))
      refine L (zi yc rfl (hb5'.cell (i := 0) rfl) ?_)
      refine L (zq Yz rfl ((hN hm05 q1)) ?_)
      rintro _ w6 ⟨rfl, hm6⟩
      refine L (S (yu rfl rfl) (L (S (za rfl) (zh (j := 4) (dj := 22) (b := false) (S (ze Yb rfl) ?_) rfl))))
      refine zh (j := 4) (dj := 22) (b := false) (zi z_ rfl (hty _ hm6) ?_) rfl
      refine zh (j := 4) (dj := 22) (b := false) (S (zG rfl rfl (decide_eq_false (by omega))) ?_) rfl
      refine L (S (zj rfl rfl) (L (S (za rfl) (zh (j := 9) (dj := 27) (b := false) (S (ze Yb rfl) ?_) rfl))))
      refine zh (j := 9) (dj := 27) (b := false) (zi z_ rfl (hty _ hm6) ?_) rfl
      refine zh (j := 9) (dj := 27) (b := false) (S (yp rfl rfl (decide_eq_false (by omega))) ?_) rfl
      refine L (S (zj rfl rfl) (zg (zc (zk rfl (zo (zc (zf (zb (L (S (za rfl) (L (S (za rfl) ?_))))))))))))
      refine L (S (YC Tryz.underlying25 (zD ZM) rfl yU (zV (j := i) rfl rfl) (Nat.zero_le _) (by omega)) ?_)
      refine L (S (P_makeFunc rfl rfl) ?_)
      refine L (zq cb_49 rfl ((hasCol_ret hlen ((hpre.no hm45).no hm6) (by omega) (twice_fn (hb5'.no hm6)) q4')) ?_)
      rintro _ w7 ⟨rfl, hm7⟩
      refine zg (zc (zk rfl (zo (yj (zc (zb ?_))))))
      refine L (S (zT rfl rfl (z1 (c := ((i + 1 : Nat) : Int)) (by omega))) ?_)
      refine L (S (za rfl) (zg (zc ?_)))
      exact ⟨rfl, i + 1, (.cons rfl (.cons rfl (.cons rfl (.cons rfl (.nil _))))), ⟨(hm05.no hm6).no hm7, by omega, hgs⟩, by omega⟩
  · have e : colsG (l.take i) (l.drop i) = 0 := by rw [List.drop_eq_nil_of_le (by omega)]; rfl
    rw [e]
    refine zf (zb ?_)
    refine L (S (zG rfl rfl (decide_eq_false (by omega))) ?_)
    refine zg (zc (zf (zk rfl (yn (zL (zL (yK (zc (zf (zb (L (S (zd rfl) (zg (zc (zy ?_)))))))))))))))
    refine zC Tryz.results23 rfl ?_
    exact ⟨rfl, hmr⟩
end
end Go.Proofs.YtnoioimphcmeiaaGreatDoor
namespace Go.Proofs.YtnoioimphcmeiaaGreatDoor
open Go.RowKit
set_option maxRecDepth 20000
set_option maxHeartbeats 1000000

section
variable {w : World}
theorem reftable_ret {s : Sch} (hs : SlR w s.A (zI yA s.tabs)) (hl : s.tabs.length ≤ 1000000) (nm : List UInt8) : Ret Tryz.prog 16 [.agg (zM s).toArray, .string (str nm)] w fun v w' => v = .int .i64 (Z0 (fun x => decide (x.name = nm)) s.tabs) ∧ Mv No w w' := by
  refine zN Tryz.func16 Tryz.ntmps16 rfl rfl ?_
  refine zf (zb ?_)
  refine L (Zl rfl ?_)
  rintro b2 w1 hb2 hm1 hn1
  refine L (S (zd rfl) (zg (zc (zf (zf (zb (L (S (zd rfl) (zg (zc (zx ?_)))))))))))
  have hsl : ∀ wq, Mv No w1 wq → wq.cell? ⟨b2, 0, none⟩ = some (.slice s.A s.tabs.length s.c) := fun wq h => (hb2.no h).cell (i := 0) rfl
  have hs1 := hs.no hm1
  refine yF (γ := Nat) (fun i => [(1, .string (str nm)), (2, .pointer (some ⟨b2, 0, none⟩)), (5, .int .i64 (i : Int))]) (fun i wr => Mv No w1 wr ∧ i ≤ s.tabs.length ∧ ∀ x ∈ s.tabs.take i, decide (x.name = nm) = false) (fun i => s.tabs.length - i) 0 (.cons rfl (.cons rfl (.cons rfl (.nil _)))) ⟨Mv.refl w1, Nat.zero_le _, by simp⟩ ?_
  rintro i wr ⟨hmr, hi, hb⟩
  by_cases hlt : i < s.tabs.length
  · have ha := List.getElem?_eq_getElem hlt
    generalize s.tabs[i] = a at ha
    have hsl2 := hsl wr hmr
    obtain ⟨b, o, hAe, -, hrow⟩ := yr yI (by decide) (hs1.no hmr) ha
    rw [hAe] at hsl2
    by_cases hq : a.name = nm
    · refine zf (zf (zb (L (S (za rfl) (L (S (ze yg rfl) ?_))))))
      refine L (zi yX rfl hsl2 ?_)
      refine L (S (zH Tryz.underlying34 rfl) ?_)
      refine L (S (zG rfl rfl (decide_eq_true (by omega))) ?_)
      refine zg (zc (zr rfl (zo (zc (zf (zx (zf (zb (L (S (ze yg rfl) ?_))))))))))
      refine L (zi yX rfl hsl2 ?_)
      refine L (S (za rfl) ?_)
      refine L (S (zn Tryz.underlying34 (zD yl) rfl rfl (j := i) rfl (by omega) (p := o + i * 5) (by omega)) ?_)
      refine L (S (ze yG rfl) ?_)
      refine L (zi yc rfl (hrow 0 _ rfl) ?_)
      refine L (S (za rfl) ?_)
      refine L (S (ZR rfl rfl (decide_eq_true (congrArg str hq))) ?_)
      refine zg (zc (zr rfl (zf (zb (L (S (za rfl) (L (S (zd rfl) (zg (zc (zy (zP (zm (zm (zP (zm ?_))))))))))))))))
      refine zC Tryz.results16 rfl ?_
      exact ⟨by rw [Yj ha (decide_eq_true hq) hb], hm1.no hmr⟩
    · refine zf (zf (zb (L (S (za rfl) (L (S (ze yg rfl) ?_))))))
      refine L (zi yX rfl hsl2 ?_)
      refine L (S (zH Tryz.underlying34 rfl) ?_)
      refine L (S (zG rfl rfl (decide_eq_true (by omega))) ?_)
      refine zg (zc (zr rfl (zo (zc (zf (zx (zf (zb (L (S (ze yg rfl) ?_))))))))))
      refine L (zi yX rfl hsl2 ?_)
      refine L (S (za rfl) ?_)
      refine L (S (zn Tryz.underlying34 (zD yl) rfl rfl (j := i) rfl (by omega) (p := o + i * 5) (by omega)) ?_)
      refine L (S (ze yG rfl) ?_)
      refine L (zi yc rfl (hrow 0 _ rfl) ?_)
      refine L (S (za rfl) ?_)
      refine L (S (ZR rfl rfl (decide_eq_false (fun h => hq (ZH h)))) ?_)
      refine zg (zc (zk rfl (zo (yj (zc (zb (L (S (za rfl) ?_))))))))
      refine L (S (zT rfl rfl (z1 (c := ((i + 1 : Nat) : Int)) (by omega))) ?_)
      refine L (S (zd rfl) (zg (zc ?_)))
      refine ⟨rfl, i + 1, (.cons rfl (.cons rfl (.cons rfl (.nil _)))), ⟨hmr, by omega, fun x hx => ?_⟩, by omega⟩
      rw [yY ha, List.mem_append] at hx
      rcases hx with hx | hx
      · exact hb x hx
      · have : x = a := by simpa using hx
        rw [this]; exact decide_eq_false hq
  · refine zf (zf (zb (L (S (za rfl) (L (S (ze yg rfl) ?_))))))
    refine L (zi yX rfl (hsl wr hmr) ?_)
    refine L (S (zH Tryz.underlying34 rfl) ?_)
    refine L (S (zG rfl rfl (decide_eq_false (by omega))) ?_)
    refine zg (zc (zk rfl (yn (zL (zL (yK (zc (zf (zb (L (S (zd rfl) (zg (zc (zy ?_))))))))))))))
    refine zC Tryz.results16 rfl ?_
    refine ⟨by rw [Yk fun x hx => hb x (by rw [List.take_of_length_le (by omega)]; exact hx)], hm1.no hmr⟩
theorem refindex_ret {s : Sch} (hs : SlR w s.B (zI yq s.idxs)) (hl : s.idxs.length ≤ 1000000) (nm : List UInt8) : Ret Tryz.prog 18 [.agg (zM s).toArray, .string (str nm)] w fun v w' => v = .int .i64 (Z0 (fun x => decide (x.name = nm)) s.idxs) ∧ Mv No w w' := by
  refine zN Tryz.func18 Tryz.ntmps18 rfl rfl ?_
  refine zf (zb ?_)
  refine L (Zl rfl ?_)
  rintro b2 w1 hb2 hm1 hn1
  refine L (S (zd rfl) (zg (zc (zf (zf (zb (L (S (zd rfl) (zg (zc (zx ?_)))))))))))
  have hsl : ∀ wq, Mv No w1 wq → wq.cell? ⟨b2, 1, none⟩ = some (.slice s.B s.idxs.length s.d) := fun wq h => (hb2.no h).cell (i := 1) rfl
  have hs1 := hs.no hm1
  refine yF (γ := Nat) (fun i => [(1, .string (str nm)), (2, .pointer (some ⟨b2, 0, none⟩)), (5, .int .i64 (i : Int))]) (fun i wr => Mv No w1 wr ∧ i ≤ s.idxs.length ∧ ∀ x ∈ s.idxs.take i, decide (x.name = nm) = false) (fun i => s.idxs.length - i) 0 (.cons rfl (.cons rfl (.cons rfl (.nil _)))) ⟨Mv.refl w1, Nat.zero_le _, by simp⟩ ?_
  rintro i wr ⟨hmr, hi, hb⟩
  by_cases hlt : i < s.idxs.length
  · have ha := List.getElem?_eq_getElem hlt
    generalize s.idxs[i] = a at ha
    have hsl2 := hsl wr hmr
    obtain ⟨b, o, hAe, -, hrow⟩ := yr yw (by decide) (hs1.no hmr) ha
    rw [hAe] at hsl2
    by_cases hq : a.name = nm
    · refine zf (zf (zb (L (S (za rfl) (L (S (ze yf rfl) ?_))))))
      refine L (zi yS rfl hsl2 ?_)
      refine L (S (zH Tryz.underlying35 rfl) ?_)
      refine L (S (zG rfl rfl (decide_eq_true (by omega))) ?_)
      refine zg (zc (zr rfl (zo (zc (zf (zx (zf (zb (L (S (ze yf rfl) ?_))))))))))
      refine L (zi yS rfl hsl2 ?_)
      refine L (S (za rfl) ?_)
      refine L (S (zn Tryz.underlying35 (zD yb) rfl rfl (j := i) rfl (by omega) (p := o + i * 6) (by omega)) ?_)
      refine L (S (ze yx rfl) ?_)
      refine L (zi yc rfl (hrow 0 _ rfl) ?_)
      refine L (S (za rfl) ?_)
      refine L (S (ZR rfl rfl (decide_eq_true (congrArg str hq))) ?_)
      refine zg (zc (zr rfl (zf (zb (L (S (za rfl) (L (S (zd rfl) (zg (zc (zy (zP (zm (zm (zP (zm ?_))))))))))))))))
      refine zC Tryz.results18 rfl ?_
      exact ⟨by rw [Yj ha (decide_eq_true hq) hb], hm1.no hmr⟩
    · refine zf (zf (zb (L (S (za rfl) (L (S (ze yf rfl) ?_))))))
      refine L (zi yS rfl hsl2 ?_)
      refine L (S (zH Tryz.underlying35 rfl) ?_)
      refine L (S (zG rfl rfl (decide_eq_true (by omega))) ?_)
      refine zg (zc (zr rfl (zo (zc (zf (zx (zf (zb (L (S (ze yf rfl) ?_))))))))))
      refine L (zi yS rfl hsl2 ?_)
      refine L (S (za rfl) ?_)
      refine L (S (zn Tryz.underlying35 (zD yb) rfl rfl (j := i) rfl (by omega) (p := o + i * 6) (by omega)) ?_)
      refine L (S (ze yx rfl) ?_)
      refine L (zi yc rfl (hrow 0 _ rfl) ?_)
      refine L (S (za rfl) ?_)
      refine L (S (ZR rfl rfl (decide_eq_false (fun h => hq (ZH h)))) ?_)
      refine zg (zc (zk rfl (zo (yj (zc (zb (L (S (za rfl) ?_))))))))
      refine L (S (zT rfl rfl (z1 (c := ((i + 1 : Nat) : Int)) (by omega))) ?_)
      refine L (S (zd rfl) (zg (zc ?_)))
      refine ⟨rfl, i + 1, (.cons rfl (.cons rfl (.cons rfl (.nil _)))), ⟨hmr, by omega, fun x hx => ?_⟩, by omega⟩
      rw [yY ha, List.mem_append] at hx
      rcases hx with hx | hx
      · exact hb x hx
      · have : x = a := by simpa using hx
        rw [this]; exact decide_eq_false hq
  · refine zf (zf (zb (L (S (za rfl) (L (S (ze yf rfl) ?_))))))
    refine L (zi yS rfl (hsl wr hmr) ?_)
    refine L (S (zH Tryz.underlying35 rfl) ?_)
    refine L (S (zG rfl rfl (decide_eq_false (by omega))) ?_)
    refine zg (zc (zk rfl (yn (zL (zL (yK (zc (zf (zb (L (S (zd rfl) (zg (zc (zy ?_))))))))))))))
    refine zC Tryz.results18 rfl ?_
    refine ⟨by rw [Yk fun x hx => hb x (by rw [List.take_of_length_le (by omega)]; exact hx)], hm1.no hmr⟩
theorem refcolumn_ret {s : Tab} (hs : SlR w s.A (zI Zt s.cols)) (hl : s.cols.length ≤ 1000000) (nm : List UInt8) : Ret Tryz.prog 22 [.agg (yA s).toArray, .string (str nm)] w fun v w' => v = .int .i64 (Z0 (fun x => decide (x.name = nm)) s.cols) ∧ Mv No w w' := by
  refine zN Tryz.func22 Tryz.ntmps22 rfl rfl ?_
  refine zf (zb ?_)
  refine L (Zl rfl ?_)
  rintro b2 w1 hb2 hm1 hn1
  refine L (S (zd rfl) (zg (zc (zf (zf (zb (L (S (zd rfl) (zg (zc (zx ?_)))))))))))
  have hsl : ∀ wq, Mv No w1 wq → wq.cell? ⟨b2, 1, none⟩ = some (.slice s.A s.cols.length s.cap) := fun wq h => (hb2.no h).cell (i := 1) rfl
  have hs1 := hs.no hm1
  refine yF (γ := Nat) (fun i => [(1, .string (str nm)), (2, .pointer (some ⟨b2, 0, none⟩)), (5, .int .i64 (i : Int))]) (fun i wr => Mv No w1 wr ∧ i ≤ s.cols.length ∧ ∀ x ∈ s.cols.take i, decide (x.name = nm) = false) (fun i => s.cols.length - i) 0 (.cons rfl (.cons rfl (.cons rfl (.nil _)))) ⟨Mv.refl w1, Nat.zero_le _, by simp⟩ ?_
  rintro i wr ⟨hmr, hi, hb⟩
  by_cases hlt : i < s.cols.length
  · have ha := List.getElem?_eq_getElem hlt
    generalize s.cols[i] = a at ha
    have hsl2 := hsl wr hmr
    obtain ⟨b, o, hAe, -, hrow⟩ := yr Yi (by decide) (hs1.no hmr) ha
    rw [hAe] at hsl2
    by_cases hq : a.name = nm
    · refine zf (zf (zb (L (S (za rfl) (L (S (ze yV rfl) ?_))))))
      refine L (zi ZC rfl hsl2 ?_)
      refine L (S (zH Tryz.underlying25 rfl) ?_)
      refine L (S (zG rfl rfl (decide_eq_true (by omega))) ?_)
      refine zg (zc (zr rfl (zo (zc (zf (zx (zf (zb (L (S (ze yV rfl) ?_))))))))))
      refine L (zi ZC rfl hsl2 ?_)
      refine L (S (za rfl) ?_)
      refine L (S (zn Tryz.underlying25 (zD ZM) rfl rfl (j := i) rfl (by omega) (p := o + i * 3) (by omega)) ?_)
      refine L (S (ze ZO rfl) ?_)
      refine L (zi yc rfl (hrow 0 _ rfl) ?_)
      refine L (S (za rfl) ?_)
      refine L (S (ZR rfl rfl (decide_eq_true (congrArg str hq))) ?_)
      refine zg (zc (zr rfl (zf (zb (L (S (za rfl) (L (S (zd rfl) (zg (zc (zy (zP (zm (zm (zP (zm ?_))))))))))))))))
      refine zC Tryz.results22 rfl ?_
      exact ⟨by rw [Yj ha (decide_eq_true hq) hb], hm1.no hmr⟩
    · refine zf (zf (zb (L (S (za rfl) (L (S (ze yV rfl) ?_))))))
      refine L (zi ZC rfl hsl2 ?_)
      refine L (S (zH Tryz.underlying25 rfl) ?_)
      refine L (S (zG rfl rfl (decide_eq_true (by omega))) ?_)
      refine zg (zc (zr rfl (zo (zc (zf (zx (zf (zb (L (S (ze yV rfl) ?_))))))))))
      refine L (zi ZC rfl hsl2 ?_)
      refine L (S (za rfl) ?_)
      refine L (S (zn Tryz.underlying25 (zD ZM) rfl rfl (j := i) rfl (by omega) (p := o + i * 3) (by omega)) ?_)
      refine L (S (ze ZO rfl) ?_)
      refine L (zi yc rfl (hrow 0 _ rfl) ?_)
      refine L (S (za rfl) ?_)
      refine L (S (ZR rfl rfl (decide_eq_false (fun h => hq (ZH h)))) ?_)
      refine zg (zc (zk rfl (zo (yj (zc (zb (L (S (za rfl) ?_))))))))
      refine L (S (zT rfl rfl (z1 (c := ((i + 1 : Nat) : Int)) (by omega))) ?_)
      refine L (S (zd rfl) (zg (zc ?_)))
      refine ⟨rfl, i + 1, (.cons rfl (.cons rfl (.cons rfl (.nil _)))), ⟨hmr, by omega, fun x hx => ?_⟩, by omega⟩
      rw [yY ha, List.mem_append] at hx
      rcases hx with hx | hx
      · exact hb x hx
      · have : x = a := by simpa using hx
        rw [this]; exact decide_eq_false hq
  · refine zf (zf (zb (L (S (za rfl) (L (S (ze yV rfl) ?_))))))
    refine L (zi ZC rfl (hsl wr hmr) ?_)
    refine L (S (zH Tryz.underlying25 rfl) ?_)
    refine L (S (zG rfl rfl (decide_eq_false (by omega))) ?_)
    refine zg (zc (zk rfl (yn (zL (zL (yK (zc (zf (zb (L (S (zd rfl) (zg (zc (zy ?_))))))))))))))
    refine zC Tryz.results22 rfl ?_
    refine ⟨by rw [Yk fun x hx => hb x (by rw [List.take_of_length_le (by omega)]; exact hx)], hm1.no hmr⟩
theorem refcolumns_ret (hv : Vr w) {l : List Col} {A : Option Addr} {c : Nat} (hA : SlR w A (zI Zt l)) (hl : l.length ≤ 1000000) (hn : ∀ x ∈ l, x.name.length ≤ 100000) : Ret Tryz.prog 24 [.slice A l.length c] w fun v w' => v = .int .i64 (colsE l : Nat) ∧ Mv No w w' := by
  unfold colsE
  refine zN Tryz.func24 Tryz.ntmps24 rfl rfl ?_
  by_cases h0 : l.length = 0
  · rw [if_pos h0]
    refine zf (zb (L (S (zd rfl) (zg (zc (zf (zf (zb (L (S (za rfl) ?_))))))))))
    refine L (S (zH Tryz.underlying25 rfl) ?_)
    refine L (S (zR rfl rfl (decide_eq_true (by omega))) ?_)
    refine zg (zc (zr rfl (zf (zb (L (S (zd rfl) (zg (zc (zy (zm ?_))))))))))
    refine zC Tryz.results24 rfl ?_
    exact ⟨rfl, Mv.refl w⟩
  rw [if_neg h0]
  by_cases h6 : 6 < l.length
  · rw [if_pos h6]
    refine zf (zb (L (S (zd rfl) (zg (zc (zf (zf (zb (L (S (za rfl) ?_))))))))))
    refine L (S (zH Tryz.underlying25 rfl) ?_)
    refine L (S (zR rfl rfl (decide_eq_false (by omega))) ?_)
    refine zg (zc (zk rfl (zo (zc (zf (zf (zb (L (S (za rfl) ?_)))))))))
    refine L (S (zH Tryz.underlying25 rfl) ?_)
    refine L (S (yp rfl rfl (decide_eq_true (by omega))) ?_)
    refine zg (zc (zr rfl (zf (zb (L (S (zd rfl) (zg (zc (zy (zm ?_))))))))))
    refine zC Tryz.results24 rfl ?_
    exact ⟨rfl, Mv.refl w⟩
  rw [if_neg h6]
  refine zf (zb (L (S (zd rfl) (zg (zc (zf (zf (zb (L (S (za rfl) ?_))))))))))
  refine L (S (zH Tryz.underlying25 rfl) ?_)
  refine L (S (zR rfl rfl (decide_eq_false (by omega))) ?_)
  refine zg (zc (zk rfl (zo (zc (zf (zf (zb (L (S (za rfl) ?_)))))))))
  refine L (S (zH Tryz.underlying25 rfl) ?_)
  refine L (S (yp rfl rfl (decide_eq_false (by omega))) ?_)
  refine zg (zc (zk rfl (zo (zc (zf (zf (zb (L (S (zd rfl) (zg (zc (zx ?_))))))))))))
  refine yF (γ := Nat) (fun i => [(0, .slice A l.length c), (3, .int .i64 (i : Int))]) (fun i wr => Mv No w wr ∧ i ≤ l.length ∧ colsG [] l = colsG (l.take i) (l.drop i)) (fun i => l.length - i) 0 (.cons rfl (.cons rfl (.nil _))) ⟨Mv.refl w, Nat.zero_le _, rfl⟩ ?_
  rintro i wr ⟨hmr, hi, hg⟩
  rw [hg]
  by_cases hlt : i < l.length
  · have ha := List.getElem?_eq_getElem hlt
    generalize l[i] = x at ha
    have hnx := hn x (List.mem_of_getElem? ha)
    have hN : ∀ {w' : World} {β : Bool}, Mv No w w' → ZD x.name = β → _ := fun {w'} {β} h hβ => refname_is (β := β) (hv.no h) hnx hβ
    obtain ⟨b, o, hAe, hrr, hrow⟩ := yr Yi (by decide) (hA.no hmr) ha
    subst hAe
    have hgs : colsG (l.take i) (l.drop i) = if ZD x.name = false ∨ x.ty < 1 ∨ x.ty > 3 then 7 else if (l.take i).any (fun d => decide (d.name = x.name)) = true then 8 else colsG (l.take (i + 1)) (l.drop (i + 1)) := by rw [drop_at ha, yY ha]; rfl
    have hty : ∀ wq, Mv No wr wq → wq.cell? ⟨b, o + i * 3 + 1, none⟩ = some (.int .i64 x.ty) := fun wq h => (hrow.no h) 1 _ rfl
    have hnm : ∀ wq, Mv No wr wq → wq.cell? ⟨b, o + i * 3 + 0, none⟩ = some (.string (str x.name)) := fun wq h => (hrow.no h) 0 _ rfl
    by_cases q1 : ZD x.name = true
    rotate_left
    · have q1' : ZD x.name = false := by simpa using q1
      rw [hgs, if_pos (.inl q1')]
      refine zf (zf (zb (L (S (za rfl) (L (S (za rfl) ?_))))))
      refine L (S (zH Tryz.underlying25 rfl) ?_)
      refine L (S (zG rfl rfl (decide_eq_true (by omega))) ?_)
      refine zg (zc (zr rfl (zo (zc (zf (zx (zf (zf (zb (L (S (za rfl) (L (S (za rfl) ?_)))))))))))))
      refine L (S (zn Tryz.underlying25 (zD ZM) rfl rfl (j := i) rfl (by omega) (p := o + i * 3) (by omega)) ?_)
      refine L (S (ze ZO rfl) ?_)
      refine L (zi yc rfl (hnm _ (Mv.refl _)) ?_)
      refine L (zq Z3 rfl ((hN hmr q1')) ?_)
      rintro _ w6 ⟨rfl, hm6⟩
      refine L (S (yu rfl rfl) (L (S (za rfl) (zl (j := 7) (dj := 23) (b := false) (b' := true) (d := 24) rfl (zl (j := 7) (dj := 23) (b := false) (b' := true) (d := 25) rfl (zl (j := 7) (dj := 23) (b := false) (b' := true) (d := 26) rfl (zl (j := 7) (dj := 23) (b := false) (b' := true) (d := 27) rfl (zl (j := 7) (dj := 23) (b := false) (b' := true) (d := 28) rfl (zl (j := 7) (dj := 23) (b := false) (b' := true) (d := 29) rfl (L (S (zt rfl rfl) (L (S (za rfl) (zl (j := 15) (dj := 31) (b := false) (b' := true) (d := 32) rfl (zl (j := 15) (dj := 31) (b := false) (b' := true) (d := 33) rfl (zl (j := 15) (dj := 31) (b := false) (b' := true) (d := 34) rfl (zl (j := 15) (dj := 31) (b := false) (b' := true) (d := 35) rfl (zl (j := 15) (dj := 31) (b := false) (b' := true) (d := 36) rfl (zl (j := 15) (dj := 31) (b := false) (b' := true) (d := 37) rfl (L (S (zt rfl rfl) (zg (zc (zr rfl (zf (zb (L (S (zd rfl) (zg ?_)))))))))))))))))))))))))))))
      refine zc (zy (zm (zP (zm (zm (zP (zm ?_)))))))
      refine zC Tryz.results24 rfl ?_
      exact ⟨rfl, hmr.no hm6⟩
    by_cases q2 : x.ty < 1
    · rw [hgs, if_pos (.inr (.inl q2))]
      refine zf (zf (zb (L (S (za rfl) (L (S (za rfl) ?_))))))
      refine L (S (zH Tryz.underlying25 rfl) ?_)
      refine L (S (zG rfl rfl (decide_eq_true (by omega))) ?_)
      refine zg (zc (zr rfl (zo (zc (zf (zx (zf (zf (zb (L (S (za rfl) (L (S (za rfl) ?_)))))))))))))
      refine L (S (zn Tryz.underlying25 (zD ZM) rfl rfl (j := i) rfl (by omega) (p := o + i * 3) (by omega)) ?_)
      refine L (S (ze ZO rfl) ?_)
      refine L (zi yc rfl (hnm _ (Mv.refl _)) ?_)
      refine L (zq Z3 rfl ((hN hmr q1)) ?_)
      rintro _ w6 ⟨rfl, hm6⟩
      refine L (S (yu rfl rfl) (L (S (za rfl) (zh (j := 7) (dj := 23) (b := false) (S (za rfl) (zh (j := 7) (dj := 23) (b := false) (S (za rfl) ?_) rfl)) rfl))))
      refine zh (j := 7) (dj := 23) (b := false) (S (zn Tryz.underlying25 (zD ZM) rfl rfl (j := i) rfl (by omega) (p := o + i * 3) (by omega)) ?_) rfl
      refine zh (j := 7) (dj := 23) (b := false) (S (ze Yb rfl) ?_) rfl
      refine zh (j := 7) (dj := 23) (b := false) (zi z_ rfl (hty _ hm6) ?_) rfl
      refine zh (j := 7) (dj := 23) (b := false) (S (zG rfl rfl (decide_eq_true (by omega))) ?_) rfl
      refine L (S (zj rfl rfl) (L (S (za rfl) (zl (j := 15) (dj := 31) (b := false) (b' := true) (d := 32) rfl (zl (j := 15) (dj := 31) (b := false) (b' := true) (d := 33) rfl (zl (j := 15) (dj := 31) (b := false) (b' := true) (d := 34) rfl (zl (j := 15) (dj := 31) (b := false) (b' := true) (d := 35) rfl (zl (j := 15) (dj := 31) (b := false) (b' := true) (d := 36) rfl (zl (j := 15) (dj := 31) (b := false) (b' := true) (d := 37) rfl (L (S (zt rfl rfl) (zg (zc (zr rfl (zf (zb (L (S (zd rfl) (zg (zc (zy (zm (zP (zm (zm (zP (zm ?_)))))))))))))))))))))))))))
      refine zC Tryz.results24 rfl ?_
      exact ⟨rfl, hmr.no hm6⟩
    by_cases q3 : x.ty > 3
    · rw [hgs, if_pos (.inr (.inr q3))]
      refine zf (zf (zb (L (S (za rfl) (L (S (za rfl) ?_))))))
      refine L (S (zH Tryz.underlying25 rfl) ?_)
      refine L (S (zG rfl rfl (decide_eq_true (by omega))) ?_)
      refine zg (zc (zr rfl (zo (zc (zf (zx (zf (zf (zb (L (S (za rfl) (L (S (za rfl) ?_)))))))))))))
      refine L (S (zn Tryz.underlying25 (zD ZM) rfl rfl (j := i) rfl (by omega) (p := o + i * 3) (by omega)) ?_)
      refine L (S (ze ZO rfl) ?_)
      refine L (zi yc rfl (hnm _ (Mv.refl _)) ?_)
      refine L (zq Z3 rfl ((hN hmr q1)) ?_)
      rintro _ w6 ⟨rfl, hm6⟩
      refine L (S (yu rfl rfl) (L (S (za rfl) (zh (j := 7) (dj := 23) (b := false) (S (za rfl) (zh (j := 7) (dj := 23) (b := false) (S (za rfl) ?_) rfl)) rfl))))
      refine zh (j := 7) (dj := 23) (b := false) (S (zn Tryz.underlying25 (zD ZM) rfl rfl (j := i) rfl (by omega) (p := o + i * 3) (by omega)) ?_) rfl
      refine zh (j := 7) (dj := 23) (b := false) (S (ze Yb rfl) ?_) rfl
      refine zh (j := 7) (dj := 23) (b := false) (zi z_ rfl (hty _ hm6) ?_) rfl
      refine zh (j := 7) (dj := 23) (b := false) (S (zG rfl rfl (decide_eq_false (by omega))) ?_) rfl
      refine L (S (zj rfl rfl) (L (S (za rfl) (zh (j := 15) (dj := 31) (b := false) (S (za rfl) (zh (j := 15) (dj := 31) (b := false) (S (za rfl) ?_) rfl)) rfl))))
      refine zh (j := 15) (dj := 31) (b := false) (S (zn Tryz.underlying25 (zD ZM) rfl rfl (j := i) rfl (by omega) (p := o + i * 3) (by omega)) ?_) rfl
      refine zh (j := 15) (dj := 31) (b := false) (S (ze Yb rfl) ?_) rfl
      refine zh (j := 15) (dj := 31) (b := false) (zi z_ rfl (hty _ hm6) ?_) rfl
      refine zh (j := 15) (dj := 31) (b := false) (S (yp rfl rfl (decide_eq_true (by omega))) ?_) rfl
      refine L (S (zj rfl rfl) (zg (zc (zr rfl (zf (zb (L (S (zd rfl) (zg (zc (zy (zm (zP (zm (zm (zP (zm ?_)))))))))))))))))
      refine zC Tryz.results24 rfl ?_
      exact ⟨rfl, hmr.no hm6⟩
    have hq : ¬ (ZD x.name = false ∨ x.ty < 1 ∨ x.ty > 3) := by rw [q1]; simp; omega
    rw [if_neg hq] at hgs
    have hfl := findN_lt (p := fun d : Col => decide (d.name = x.name)) ha (decide_eq_true rfl)
    have hC := fun wq (h : Mv No wr wq) => refcolumn_ret (s := ⟨[], l, some ⟨b, o, none⟩, c, 0, 0, 0⟩) ((hA.no hmr).no h) hl x.name
    by_cases q4 : (l.take i).any (fun d => decide (d.name = x.name)) = true
    · rw [hgs, if_pos q4]
      rw [q4] at hfl
      refine zf (zf (zb (L (S (za rfl) (L (S (za rfl) ?_))))))
      refine L (S (zH Tryz.underlying25 rfl) ?_)
      refine L (S (zG rfl rfl (decide_eq_true (by omega))) ?_)
      refine zg (zc (zr rfl (zo (zc (zf (zx (zf (zf (zb (L (S (za rfl) (L (S (za rfl) ?_)))))))))))))
      refine L (S (zn Tryz.underlying25 (zD ZM) rfl rfl (j := i) rfl (by omega) (p := o + i * 3) (by omega)) ?_)
      refine L (S (ze ZO rfl) ?_)
      refine L (zi yc rfl (hnm _ (Mv.refl _)) ?_)
      refine L (zq Z3 rfl ((hN hmr q1)) ?_)
      rintro _ w6 ⟨rfl, hm6⟩
      refine L (S (yu rfl rfl) (L (S (za rfl) (zh (j := 7) (dj := 23) (b := false) (S (za rfl) (zh (j := 7) (dj := 23) (b := false) (S (za rfl) ?_) rfl)) rfl))))
      refine zh (j := 7) (dj := 23) (b := false) (S (zn Tryz.underlying25 (zD ZM) rfl rfl (j := i) rfl (by omega) (p := o + i * 3) (by omega)) ?_) rfl
      refine zh (j := 7) (dj := 23) (b := false) (S (ze Yb rfl) ?_) rfl
      refine zh (j := 7) (dj := 23) (b := false) (zi z_ rfl (hty _ hm6) ?_) rfl
      refine zh (j := 7) (dj := 23) (b := false) (S (zG rfl rfl (decide_eq_false (by omega))) ?_) rfl
      refine L (S (zj rfl rfl) (L (S (za rfl) (zh (j := 15) (dj := 31) (b := false) (S (za rfl) (zh (j := 15) (dj := 31) (b := false) (S (za rfl) ?_) rfl)) rfl))))
      refine zh (j := 15) (dj := 31) (b := false) (S (zn Tryz.underlying25 (zD ZM) rfl rfl (j := i) rfl (by omega) (p := o + i * 3) (by omega)) ?_) rfl
      refine zh (j := 15) (dj := 31) (b := false) (S (ze Yb rfl) ?_) rfl
      refine zh (j := 15) (dj := 31) (b := false) (zi z_ rfl (hty _ hm6) ?_) rfl
      refine zh (j := 15) (dj := 31) (b := false) (S (yp rfl rfl (decide_eq_false (by omega))) ?_) rfl
      refine L (S (zj rfl rfl) (zg (zc (zk rfl (zo (zc (zf (zb (L (S (za rfl) ?_))))))))))
      refine L (S (zW (ix := [1]) (l := [.tmp 39]) bi_27_1 rfl (by simp [Value.oneCell']) rfl) ?_)
      refine L (S (za rfl) (L (S (za rfl) ?_)))
      refine L (S (zn Tryz.underlying25 (zD ZM) rfl rfl (j := i) rfl (by omega) (p := o + i * 3) (by omega)) ?_)
      refine L (S (ze ZO rfl) ?_)
      refine L (zi yc rfl (hnm _ hm6) ?_)
      refine L (zq cb_22 rfl ((hC _ hm6)) ?_)
      rintro _ w7 ⟨rfl, hm7⟩
      refine L (S (za rfl) ?_)
      refine L (S (zG rfl rfl (decide_eq_true (of_decide_eq_true hfl))) ?_)
      refine zg (zc (zr rfl (zf (zb (L (S (zd rfl) (zg (zc (zy (zP (zm (zm (zP (zm ?_))))))))))))))
      refine zC Tryz.results24 rfl ?_
      exact ⟨rfl, (hmr.no hm6).no hm7⟩
    · have q4' : (l.take i).any (fun d => decide (d.name = x.name)) = false := by simpa using q4
      rw [if_neg q4] at hgs
      rw [q4'] at hfl
      refine zf (zf (zb (L (S (za rfl) (L (S (za rfl) ?_))))))
      refine L (S (zH Tryz.underlying25 rfl) ?_)
      refine L (S (zG rfl rfl (decide_eq_true (by omega))) ?_)
      refine zg (zc (zr rfl (zo (zc (zf (zx (zf (zf (zb (L (S (za rfl) (L (S (za rfl) ?_)))))))))))))
      refine L (S (zn Tryz.underlying25 (zD ZM) rfl rfl (j := i) rfl (by omega) (p := o + i * 3) (by omega)) ?_)
      refine L (S (ze ZO rfl) ?_)
      refine L (zi yc rfl (hnm _ (Mv.refl _)) ?_)
      refine L (zq Z3 rfl ((hN hmr q1)) ?_)
      rintro _ w6 ⟨rfl, hm6⟩
      refine L (S (yu rfl rfl) (L (S (za rfl) (zh (j := 7) (dj := 23) (b := false) (S (za rfl) (zh (j := 7) (dj := 23) (b := false) (S (za rfl) ?_) rfl)) rfl))))
      refine zh (j := 7) (dj := 23) (b := false) (S (zn Tryz.underlying25 (zD ZM) rfl rfl (j := i) rfl (by omega) (p := o + i * 3) (by omega)) ?_) rfl
      refine zh (j := 7) (dj := 23) (b := false) (S (ze Yb rfl) ?_) rfl
      refine zh (j := 7) (dj := 23) (b := false) (zi z_ rfl (hty _ hm6) ?_) rfl
      refine zh (j := 7) (dj := 23) (b := false) (S (zG rfl rfl (decide_eq_false (by omega))) ?_) rfl
      refine L (S (zj rfl rfl) (L (S (za rfl) (zh (j := 15) (dj := 31) (b := false) (S (za rfl) (zh (j := 15) (dj := 31) (b := false) (S (za rfl) ?_) rfl)) rfl))))
      refine zh (j := 15) (dj := 31) (b := false) (S (zn Tryz.underlying25 (zD ZM) rfl rfl (j := i) rfl (by omega) (p := o + i * 3) (by omega)) ?_) rfl
      refine zh (j := 15) (dj := 31) (b := false) (S (ze Yb rfl) ?_) rfl
      refine zh (j := 15) (dj := 31) (b := false) (zi z_ rfl (hty _ hm6) ?_) rfl
      refine zh (j := 15) (dj := 31) (b := false) (S (yp rfl rfl (decide_eq_false (by omega))) ?_) rfl
      refine L (S (zj rfl rfl) (zg (zc (zk rfl (zo (zc (zf (zb (L (S (za rfl) ?_))))))))))
      refine L (S (zW (ix := [1]) (l := [.tmp 39]) bi_27_1 rfl (by simp [Value.oneCell']) rfl) ?_)
      refine L (S (za rfl) (L (S (za rfl) ?_)))
      refine L (S (zn Tryz.underlying25 (zD ZM) rfl rfl (j := i) rfl (by omega) (p := o + i * 3) (by omega)) ?_)
      refine L (S (ze ZO rfl) ?_)
      refine L (zi yc rfl (hnm _ hm6) ?_)
      refine L (zq cb_22 rfl ((hC _ hm6)) ?_)
      rintro _ w7 ⟨rfl, hm7⟩
      refine L (S (za rfl) ?_)
      refine L (S (zG rfl rfl (decide_eq_false (of_decide_eq_false hfl))) ?_)
      refine zg (zc (zk rfl (zo (yj (zc (zb (L (S (za rfl) ?_))))))))
      refine L (S (zT rfl rfl (z1 (c := ((i + 1 : Nat) : Int)) (by omega))) ?_)
      refine L (S (zd rfl) (zg (zc ?_)))
      exact ⟨rfl, i + 1, (.cons rfl (.cons rfl (.nil _))), ⟨(hmr.no hm6).no hm7, by omega, hgs⟩, by omega⟩
  · have e : colsG (l.take i) (l.drop i) = 0 := by rw [List.drop_eq_nil_of_le (by omega)]; rfl
    rw [e]
    refine zf (zf (zb (L (S (za rfl) (L (S (za rfl) ?_))))))
    refine L (S (zH Tryz.underlying25 rfl) ?_)
    refine L (S (zG rfl rfl (decide_eq_false (by omega))) ?_)
    refine zg (zc (zk rfl (yn (zL (zL (yK (zc (zf (zb (L (S (zd rfl) (zg (zc (zy ?_))))))))))))))
    refine zC Tryz.results24 rfl ?_
    exact ⟨rfl, hmr⟩
end
end Go.Proofs.YtnoioimphcmeiaaGreatDoor
namespace Go.Proofs.YtnoioimphcmeiaaGreatDoor
open Go.RowKit
set_option maxRecDepth 20000

section
variable {P : Program} {n : Nat} {N : Nxt} {Q : Post} {f : Fr} {ds : List Deferred} {w w' : World}
variable {d : Nat} {x y : Operand} {t yt ty : TypeId} {pos : String} {af : Array Edge} {g : Option (Nat × Bool)}
theorem run_equalS {e : TypeId} (hu : P.underlying t = some (.slice e)) (A : Option Addr) (l c : Nat) : (Op.equal t (.slice A l c) (.slice none 0 0)).run P w = .ok A.isNone w := by
  have key : ∀ d, (Op.equalIn (d + 1) t (.slice A l c) (.slice none 0 0)).run P w = .ok A.isNone w := fun d => by cases A <;> simp [Op.equalIn, run_underlying hu]
  exact key 9999
theorem run_guardS {op : BinOp} {a b : Option Addr} {l c l' c' : Nat} : (eqGuard op t x y (.slice a l c) (.slice b l' c')).run P w = .ok () w := by cases op <;> simp [eqGuard]
theorem P_eqSlN {A : Option Addr} {l c : Nat} {e : TypeId} {β : Bool} (hu : P.underlying t = some (.slice e)) (hx : ev f x = some (.slice A l c)) (hβ : A.isNone = β) : PureV P n ⟨some d, .binOp .eql t x (.const (.slice none 0 0)) yt, ty, pos, af, g⟩ f (.bool β) :=
  fun z hz w => by
    subst hβ
    have hb : binOp .eql t (.slice A l c) (.slice none 0 0) = (do pure (.bool (← Op.equal t (.slice A l c) (.slice none 0 0)))) := by cases A <;> rfl
    have hy : z.eval (.const (.slice none 0 0)) = .slice none 0 0 := rfl
    simp only [execOp, hz.ev hx, hy, Sem.run_bind, run_guardS, Result.andThen_ok, hb, run_equalS hu, Sem.run_pure]

/-- A slice of the call's own, by its block. -/
theorem Ym {base m len : Nat} {e : TypeId} {A : Option Addr} {c : Nat} {xs : List Value} (h : w.ownsRow base e m (.slice A len c) len xs) (hn : 0 < len) : ∃ b cs, A = some ⟨b, 0, none⟩ ∧ base ≤ b ∧ Blk w b cs e ∧ len ≤ c ∧ c ≤ maxLen ∧ cs.length = c * m ∧ cs.take (len * m) = xs := by
  obtain ⟨h1, h2⟩ := h
  rcases h2 with ⟨_, h0⟩ | ⟨b, cap, cur, hv, hb, hh, hnc, hcm, hcs, ht⟩
  · omega
  · cases hv
    refine ⟨b, cur.toList, rfl, hb, ?_, hnc, hcm, by simpa using hcs, ht⟩
    unfold Blk; simpa using hh
theorem own_mk {base m len b c : Nat} {e : TypeId} {cs xs : List Value} (hb : base ≤ b) (h : Blk w b cs e) (hc : len ≤ c) (hm : c ≤ maxLen) (hl : cs.length = c * m) (ht : cs.take (len * m) = xs) : w.ownsRow base e m (.slice (some ⟨b, 0, none⟩) len c) len xs := by
  subst ht
  refine ⟨?_, .inr ⟨b, c, cs.toArray, rfl, hb, h, hc, hm, by simpa using hl, by simp⟩⟩
  rw [List.length_take, hl]
  exact Nat.min_eq_left (Nat.mul_le_mul_right m hc)
/-- What is of one kind lies apart from what is of another. -/
theorem ZX {b1 b2 e1 e2 m1 m2 n1 n2 : Nat} {v1 v2 : Value} {x1 x2 : List Value} (h1 : w.ownsRow b1 e1 m1 v1 n1 x1) (h2 : w.ownsRow b2 e2 m2 v2 n2 x2) (he : e1 ≠ e2) : ∀ k, Zx v1 k → ¬ Zx v2 k := by
  intro k hk1 hk2
  obtain ⟨_, h1⟩ := h1
  obtain ⟨_, h2⟩ := h2
  rcases h1 with ⟨rfl, _⟩ | ⟨g, c, cur, rfl, _, hh, _⟩
  · cases hk1
  · rcases h2 with ⟨rfl, _⟩ | ⟨g', c', cur', rfl, _, hh', _⟩
    · cases hk2
    · cases hk1; cases hk2
      rw [hh] at hh'
      cases hh'
      exact he rfl
theorem zK {b b2 e1 e2 m2 n2 : Nat} {cs : List Value} {v2 : Value} {x2 : List Value} (h1 : Blk w b cs e1) (h2 : w.ownsRow b2 e2 m2 v2 n2 x2) (he : e1 ≠ e2) : ¬ Zx v2 b := by
  intro hk2
  obtain ⟨_, h2⟩ := h2
  rcases h2 with ⟨rfl, _⟩ | ⟨g', c', cur', rfl, _, hh', _⟩
  · cases hk2
  · cases hk2
    unfold Blk at h1
    rw [h1] at hh'
    cases hh'
    exact he rfl
/-- 'append' of some of what there is room for. -/
theorem S_appendIn {e : TypeId} {z : Value} {m by_ b len cap k c : Nat} {cs news : List Value} {A : Option Addr}
    (hu : P.underlying t = some (.slice e)) (hi : Zm P e = some (some z, m, by_)) (hx : ev f x = some (.slice (some ⟨b, 0, none⟩) len cap)) (hb : Blk w b cs e) (hcs : cs.length = cap * m) (hy : ev f y = some (.slice A k c)) (hr : SlR w A news) (hl : news.length = k * m)
    (hone : ∀ u ∈ news, u.oneCell' = true) (hroom : len + k ≤ cap)
    (h : ∀ w', Blk w' b (ZA cs (len * m) news) e → Mv (At b) w w' → N ((d, .slice (some ⟨b, 0, none⟩) (len + k) cap) :: f) ds w') (hn : Nat.blt d n = true := by rfl) :
    opF P n ⟨some d, .call { callee := .builtin .append, args := #[x, y], argTypes := #[t, t] }, ty, pos, af, g⟩ N Q f ds w := by
  obtain ⟨i, hi1, hi2, hi3, hi4⟩ := Zz hi
  have hfit : len * m + 0 + news.length ≤ cs.toArray.size := by
    have := Nat.mul_le_mul_right m hroom
    rw [Nat.add_mul] at this
    simp [hl, hcs]; omega
  have hst := run_storeCells_at P b (len * m) e news 0 cs.toArray w hb hfit hone
  rw [Nat.add_zero] at hst
  have hsp : (cs.toArray.toList.take (len * m) ++ news ++ cs.toArray.toList.drop (len * m + news.length)).toArray = (ZA cs (len * m) news).toArray := by simp [ZA]
  rw [hsp] at hst
  obtain ⟨h1, h2⟩ := setRow_mv w b cs (ZA cs (len * m) news) e hb
  have hload : (Builtin.firstCells m k (.slice A k c)).run P w = .ok news.toArray w := by
    cases A with
    | none =>
      have : news = [] := by
        rcases hr with h | ⟨_, _, h, _⟩
        · exact h
        · cases h
      subst this
      simp [Builtin.firstCells]
    | some ad =>
      have hnews : ∀ j u, news[j]? = some u → w.cell? (ad.add j) = some u := fun j u hu' => by
        rcases hr with rfl | ⟨b', off, hA, hrow⟩
        · simp at hu'
        · obtain rfl := Option.some.inj hA
          rw [Addr.add_lit]; exact hrow j u hu'
      have := run_loadCells_list (P := P) w ad news hnews
      rw [hl] at this
      simpa [Builtin.firstCells] using this
  have hrun : (Builtin.append_ #[t, t] ty #[.slice (some ⟨b, 0, none⟩) len cap, .slice A k c]).run P w = .ok (.slice (some ⟨b, 0, none⟩) (len + k) cap) (w.setRow b (ZA cs (len * m) news).toArray) := by
    simp [Builtin.append_, run_underlying hu, sizeOf, typeInfo, hi1, hi3, Builtin.lenOf, hroom, hload, Addr.add_lit, hst]
  exact Yn (fun a ha => by simp [execOp, resolve, invoke, builtin, ha.ev hx, ha.ev hy, hrun]) (h _ h1 h2) rfl hn
theorem S_drop {o : Oper} {v : Value} (hrun : ∀ a, Of n f a → (execOp a.eval o).run P w = .ok (.value v) w') (h : N f ds w') (hd : o.dst = none := by rfl) : opF P n o N Q f ds w := fun a ha hds K hK => by
  unfold Oper.wp
  rw [hrun a ha]
  simp only [Oper.upon, hd]
  exact hK _ _ _ ha (by subst hds; exact h)
/-- 's[i:j:k]'. -/
theorem P_slice3 {e : TypeId} {m len cap l hh mx : Nat} {A : Option Addr} {lo hi mo : Operand} (hu : P.underlying t = some (.slice e)) (hs : csz P e m) (hx : ev f x = some (.slice A len cap)) (hl : bnd f (some lo) 0 l) (hhi : bnd f (some hi) len hh) (hmx : bnd f (some mo) cap mx) (h1 : l ≤ hh) (h2 : hh ≤ mx) (h3 : mx ≤ cap)
    : PureV P n ⟨some d, .slice t x (some lo) (some hi) (some mo), ty, pos, af, g⟩ f (.slice (cutA A l m mx) (hh - l) (mx - l)) :=
  fun a ha w => by
    obtain ⟨k1, v1, e1, j1⟩ := hl
    obtain ⟨k2, v2, e2, j2⟩ := hhi
    obtain ⟨k3, v3, e3, j3⟩ := hmx
    have hb : (Instr.sliceBounds true len cap (some (a.eval lo)) (some (a.eval hi)) (some (a.eval mo))).run P w = .ok (l, hh, mx) w := by
      simp [Instr.sliceBounds, ha.ev e1, ha.ev e2, ha.ev e3, ZU j1 h1, ZU j2 h2, ZU j3 h3]
    simp [execOp, ha.ev hx, Instr.sliceAt, Instr.slice, run_underlying hu, hb, run_csz hs, cutA]
theorem P_sliceE {e : TypeId} {m len cap l hh k' c' : Nat} {A A' : Option Addr} {lo hi : Option Operand} (hu : P.underlying t = some (.slice e)) (hs : csz P e m) (hx : ev f x = some (.slice A len cap)) (hl : bnd f lo 0 l) (hhi : bnd f hi len hh) (h1 : l ≤ hh) (h2 : hh ≤ cap) (hA : cutA A l m cap = A') (hk : hh - l = k') (hc : cap - l = c')
    : PureV P n ⟨some d, .slice t x lo hi none, ty, pos, af, g⟩ f (.slice A' k' c') := by
  subst hA; subst hk; subst hc; exact YC hu hs hx hl hhi h1 h2
theorem cutA_zero {b m cap : Nat} : cutA (some ⟨b, 0, none⟩) 0 m cap = some ⟨b, 0, none⟩ := by
  unfold cutA; split <;> simp [Addr.add_lit]
theorem cutA_some {b l m cap : Nat} (h : l < cap) : cutA (some ⟨b, 0, none⟩) l m cap = some ⟨b, l * m, none⟩ := by
  unfold cutA; rw [if_neg (by omega)]; simp [Addr.add_lit]
/-- 'clear' of a part of a row. -/
theorem S_clear {e : TypeId} {z : Value} {m by_ b o k c : Nat} {cs : List Value} {ats : Array TypeId} (hats : ats = #[t])
    (hu : P.underlying t = some (.slice e)) (hi : Zm P e = some (some z, m, by_)) (hz : z.cells.size = m) (hz1 : ∀ v ∈ z.cells.toList, v.oneCell' = true) (hm : 0 < m) (hx : ev f x = some (.slice (some ⟨b, o, none⟩) k c)) (hb : Blk w b cs e) (hfit : o + k * m ≤ cs.length)
    (h : ∀ zs w', zs.length = k * m → Blk w' b (ZA cs o zs) e → Mv (At b) w w' → N f ds w') :
    opF P n ⟨none, .call { callee := .builtin .clear, args := #[x], argTypes := ats }, ty, pos, af, g⟩ N Q f ds w := by
  subst hats
  obtain ⟨i, hi1, hi2, hi3, hi4⟩ := Zz hi
  rcases Nat.eq_zero_or_pos k with rfl | hk
  · have hsp : ZA cs o [] = cs := by simp [ZA]
    have hrun : (Builtin.clear_ #[t] ty #[.slice (some ⟨b, o, none⟩) 0 c]).run P w = .ok (.tuple #[]) w := by
      simp [Builtin.clear_, run_underlying hu]
    exact S_drop (v := .tuple #[]) (fun a ha => by simp [execOp, resolve, invoke, builtin, ha.ev hx, hrun]) (h [] w (by simp) (by rw [hsp]; exact hb) (Mv.refl w))
  · have hzl : (Builtin.zeroCells z.cells k).toList.length = k * m := by simp [Builtin.zeroCells, hz]
    have hone : ∀ v ∈ (Builtin.zeroCells z.cells k).toList, v.oneCell' = true := by
      intro v hv
      simp only [Builtin.zeroCells, Array.toList_map, List.mem_map] at hv
      obtain ⟨q, hq, rfl⟩ := hv
      have hlt : q % z.cells.size < z.cells.size := Nat.mod_lt _ (by omega)
      rw [getElem!_pos z.cells _ hlt]
      exact hz1 _ (by simp)
    have hst := run_storeCells_at P b o e (Builtin.zeroCells z.cells k).toList 0 cs.toArray w hb (by rw [hzl]; simpa using hfit) hone
    rw [Nat.add_zero] at hst
    have hsp : (cs.toArray.toList.take o ++ (Builtin.zeroCells z.cells k).toList ++ cs.toArray.toList.drop (o + (Builtin.zeroCells z.cells k).toList.length)).toArray = (ZA cs o (Builtin.zeroCells z.cells k).toList).toArray := by simp [ZA]
    rw [hsp] at hst
    obtain ⟨h1, h2⟩ := setRow_mv w b cs (ZA cs o (Builtin.zeroCells z.cells k).toList) e hb
    have hrun : (Builtin.clear_ #[t] ty #[.slice (some ⟨b, o, none⟩) k c]).run P w = .ok (.tuple #[]) (w.setRow b (ZA cs o (Builtin.zeroCells z.cells k).toList).toArray) := by
      obtain ⟨q, rfl⟩ : ∃ q, k = q + 1 := ⟨k - 1, by omega⟩
      simp [Builtin.clear_, run_underlying hu, zeroValue, typeInfo, hi1, hi2, hst]
    exact S_drop (v := .tuple #[]) (fun a ha => by simp [execOp, resolve, invoke, builtin, ha.ev hx, hrun]) (h _ _ hzl h1 h2)
end
end Go.Proofs.YtnoioimphcmeiaaGreatDoor
namespace Go.Proofs.YtnoioimphcmeiaaGreatDoor
open Go.RowKit
set_option maxRecDepth 20000
set_option maxHeartbeats 1000000

theorem Zn {α : Type} {f : α → List Value} (h : ∀ a, ∀ v ∈ f a, v.oneCell' = true) (l : List α) : ∀ v ∈ zI f l, v.oneCell' = true := fun v hv => by
  obtain ⟨a, _, ha⟩ := List.mem_flatMap.1 hv
  exact h a v ha
theorem intC_one (c : Int) : ∀ v ∈ intC c, v.oneCell' = true := by simp [intC, Value.oneCell']
theorem cellsL_nil {α : Type} {f : α → List Value} {m : Nat} (h : ∀ a, (f a).length = m) (hm : 0 < m) {l : List α} (he : zI f l = []) : l = [] := by
  have h1 := yB h l
  rw [he] at h1
  have h2 : l.length * m = 0 := h1.symm
  rcases Nat.mul_eq_zero.1 h2 with h3 | h3
  · exact List.eq_nil_of_length_eq_zero h3
  · omega
/-- What a table says, wherever its columns lie. -/
def Tab.d (t : Tab) : List UInt8 × List Col × Int × Int × Int := (t.name, t.cols, t.root, t.next, t.rows)
def Idx.d_ (t : Idx) : List UInt8 × List UInt8 × List Int × Int × Int × Int := (t.name, t.table, t.cols, t.state, t.root, t.cursor)
/-- A table whose columns are of the call's own. -/
def TabOwn (base : Nat) (w : World) (t : Tab) : Prop := w.ownsRow base 43 3 (.slice t.A t.cols.length t.cap) t.cols.length (zI Zt t.cols)
def IdxOwn (base : Nat) (w : World) (t : Idx) : Prop := w.ownsRow base 3 1 (.slice t.A t.cols.length t.cap) t.cols.length (zI intC t.cols)
structure SchOwn (base : Nat) (w : World) (s : Sch) : Prop where
  tsl : w.ownsRow base 27 5 (.slice s.A s.tabs.length s.c) s.tabs.length (zI yA s.tabs)
  tab : ∀ t ∈ s.tabs, TabOwn base w t
  isl : w.ownsRow base 30 6 (.slice s.B s.idxs.length s.d) s.idxs.length (zI yq s.idxs)
  idx : ∀ t ∈ s.idxs, IdxOwn base w t
theorem yW {w : World} {base : Nat} {e : TypeId} {m n c : Nat} {A : Option Addr} {xs : List Value} (h : w.ownsRow base e m (.slice A n c) n xs) : SlR w A xs ∧ n ≤ c := by
  obtain ⟨A', c', he, h1, h2, _⟩ := own_reads h
  cases he
  exact ⟨h1, h2⟩
theorem TabOwn.ok {base : Nat} {w : World} {t : Tab} (h : TabOwn base w t) : TabOk w t := ⟨(yW h).1, (yW h).2⟩
theorem IdxOwn.ok {base : Nat} {w : World} {t : Idx} (h : IdxOwn base w t) : IdxOk w t := ⟨(yW h).1, (yW h).2⟩
theorem SchOwn.ok {base : Nat} {w : World} {s : Sch} (h : SchOwn base w s) : SchOk w s := ⟨(yW h.tsl).1, (yW h.tsl).2, fun t ht => (h.tab t ht).ok, (yW h.isl).1, (yW h.isl).2, fun t ht => (h.idx t ht).ok⟩
theorem SchOwn.no {base : Nat} {w w' : World} {s : Sch} (h : SchOwn base w s) (hm : Mv No w w') : SchOwn base w' s := ⟨zE h.tsl hm, fun t ht => zE (h.tab t ht) hm, zE h.isl hm, fun t ht => zE (h.idx t ht) hm⟩
theorem SchOwn.down {base base' : Nat} {w : World} {s : Sch} (h : SchOwn base w s) (hb : base' ≤ base) : SchOwn base' w s := ⟨Zs h.tsl hb, fun t ht => Zs (h.tab t ht) hb, Zs h.isl hb, fun t ht => Zs (h.idx t ht) hb⟩
section
variable {w : World}
theorem cloneCol_ret {l : List Col} {A : Option Addr} {c k : Nat} (hk : l.length = k) (hA : SlR w A (zI Zt l)) (hl : l.length ≤ 1000000) : Ret Tryz.prog 75 [.slice A k c] w fun v w' => ∃ A' c', v = .slice A' k c' ∧ w'.ownsRow w.heap.size 43 3 (.slice A' k c') k (zI Zt l) ∧ Mv No w w' := by
  subst hk
  have hlen := yB Yi l
  refine zN Tryz.func75 Tryz.ntmps75 rfl rfl ?_
  cases A with
  | none =>
    have h0 : l = [] := by
      rcases hA with h | ⟨_, _, h, _⟩
      · exact cellsL_nil Yi (by decide) h
      · cases h
    subst h0
    refine zf (zb (L (S (zd rfl) (zg (zc (zf (zf (zb (L (S (za rfl) ?_))))))))))
    refine L (S (P_eqSlN Tryz.underlying25 rfl rfl) ?_)
    refine zg (zc (zr rfl (zf (zb (L (S (zd rfl) (zg (zc (zy (zm ?_))))))))))
    refine zC Tryz.results75 rfl ?_
    exact ⟨none, 0, rfl, Yl, Mv.refl w⟩
  | some ad =>
    refine zf (zb (L (S (zd rfl) (zg (zc (zf (zf (zb (L (S (za rfl) ?_))))))))))
    refine L (S (P_eqSlN Tryz.underlying25 rfl rfl) ?_)
    refine zg (zc (zk rfl (zo (zc (zf (zb ?_))))))
    refine L (ZQ Tryz.underlying25 ZM ?_)
    rintro b5 w5 ho5 hm5 hn5
    refine L (S (za rfl) ?_)
    refine L (y9 Tryz.underlying25 ZM rfl (by decide) rfl ho5 rfl (hA.no hm5) hlen (Zn colC_one l) (Nat.le_of_lt (Nat.lt_of_le_of_lt hn5 (ZN ho5 rfl).2)) (by unfold maxLen; omega) (by omega) ?_)
    rintro A7 c7 w7 ho7 hm7
    refine L (S (zd rfl) (zg (zc (zy ?_))))
    refine zC Tryz.results75 rfl ?_
    rw [Nat.zero_add, List.nil_append] at ho7
    exact ⟨A7, c7, by rw [Nat.zero_add], ho7, hm5.own hm7 ho5 (Nat.le_refl _)⟩
theorem cloneInt_ret {l : List Int} {A : Option Addr} {c k : Nat} (hk : l.length = k) (hA : SlR w A (zI intC l)) (hl : l.length ≤ 1000000) : Ret Tryz.prog 76 [.slice A k c] w fun v w' => ∃ A' c', v = .slice A' k c' ∧ w'.ownsRow w.heap.size 3 1 (.slice A' k c') k (zI intC l) ∧ Mv No w w' := by
  subst hk
  have hlen := yB Ys l
  refine zN Tryz.func76 Tryz.ntmps76 rfl rfl ?_
  cases A with
  | none =>
    have h0 : l = [] := by
      rcases hA with h | ⟨_, _, h, _⟩
      · exact cellsL_nil Ys (by decide) h
      · cases h
    subst h0
    refine zf (zb (L (S (zd rfl) (zg (zc (zf (zf (zb (L (S (za rfl) ?_))))))))))
    refine L (S (P_eqSlN Tryz.underlying28 rfl rfl) ?_)
    refine zg (zc (zr rfl (zf (zb (L (S (zd rfl) (zg (zc (zy (zm ?_))))))))))
    refine zC Tryz.results76 rfl ?_
    exact ⟨none, 0, rfl, Yl, Mv.refl w⟩
  | some ad =>
    refine zf (zb (L (S (zd rfl) (zg (zc (zf (zf (zb (L (S (za rfl) ?_))))))))))
    refine L (S (P_eqSlN Tryz.underlying28 rfl rfl) ?_)
    refine zg (zc (zk rfl (zo (zc (zf (zb ?_))))))
    refine L (ZQ Tryz.underlying28 Yf ?_)
    rintro b5 w5 ho5 hm5 hn5
    refine L (S (za rfl) ?_)
    refine L (y9 Tryz.underlying28 Yf rfl (by decide) rfl ho5 rfl (hA.no hm5) hlen (Zn intC_one l) (Nat.le_of_lt (Nat.lt_of_le_of_lt hn5 (ZN ho5 rfl).2)) (by unfold maxLen; omega) (by omega) ?_)
    rintro A7 c7 w7 ho7 hm7
    refine L (S (zd rfl) (zg (zc (zy ?_))))
    refine zC Tryz.results76 rfl ?_
    rw [Nat.zero_add, List.nil_append] at ho7
    exact ⟨A7, c7, by rw [Nat.zero_add], ho7, hm5.own hm7 ho5 (Nat.le_refl _)⟩
theorem clone_ret {t : Tab} (ht : TabOk w t) (hl : t.cols.length ≤ 1000000) : Ret Tryz.prog 40 [.agg (yA t).toArray] w fun v w' => ∃ A c, v = .agg (yA { t with A := A, cap := c }).toArray ∧ TabOwn w.heap.size w' { t with A := A, cap := c } ∧ Mv No w w' := by
  refine zN Tryz.func40 Tryz.ntmps40 rfl rfl ?_
  refine zf (zb ?_)
  refine L (Zl rfl ?_)
  rintro b1 w1 hb1 hm1 hn1
  refine L (ye (zs := [(.string (ByteArray.mk #[])), (.slice none 0 0), (.int .i64 0), (.int .i64 0), (.int .i64 0)]) yl rfl ?_)
  rintro b2 w2 hb2 hm2 hn2
  refine zg (zc (zf (zb (L (S (ze yV rfl) ?_)))))
  refine L (zi ZC rfl ((hb1.no hm2).cell (i := 1) rfl) ?_)
  refine L (zq cb_75 rfl ((cloneCol_ret rfl ((ht.sl.no hm1).no hm2) hl)) ?_)
  rintro _ w3 ⟨A, c, rfl, ho3, hm3⟩
  refine L (S (ze yV rfl) ?_)
  refine L (yv ti_25 rfl rfl rfl ((hb1.no hm2).no hm3) (by show 1 < 5; decide) ?_)
  rintro w4 hb4 hm4
  refine zg (zc (zf (zb ?_)))
  refine L (zB Zo rfl hb4.row rfl ?_)
  refine L (zw yl rfl rfl (yN { t with A := A, cap := c }) rfl (((hb2.no hm3).ne hm4 (by have := hb1.lt; omega))) (by exact Nat.le_refl 5) ?_)
  rintro w5 hb5 hm5
  refine zg (zc (zy ?_))
  have hb5' : Blk w5 b2 (yA { t with A := A, cap := c }) 27 := hb5
  have hbl := hb1.lt
  have hs12 := hm1.size
  have hs2 := hm2.size
  have hm12 := hm1.no hm2
  have ho5 : TabOwn w.heap.size w5 { t with A := A, cap := c } := Zs (yo (yo ho3 hm4 (fun k hk hk2 => by have := (ZN ho3 hk).1; unfold At at hk2; omega)) hm5 (fun k hk hk2 => by have := (ZN ho3 hk).1; have := hb2.lt; unfold At at hk2; omega)) hm12.size
  refine yk (rs := [.cell 2 27]) [.agg (yA { t with A := A, cap := c }).toArray] Tryz.results40 ?_ ?_
  · exact ⟨⟨_, rfl, zu Zo hb5'.row rfl⟩, trivial⟩
  exact ⟨A, c, rfl, ho5, ((hm12.no hm3).new hm4 hn1).new hm5 (Nat.le_trans hs12 hn2)⟩
theorem cloneIdx_ret {t : Idx} (ht : IdxOk w t) (hl : t.cols.length ≤ 1000000) : Ret Tryz.prog 41 [.agg (yq t).toArray] w fun v w' => ∃ A c, v = .agg (yq { t with A := A, cap := c }).toArray ∧ IdxOwn w.heap.size w' { t with A := A, cap := c } ∧ Mv No w w' := by
  refine zN Tryz.func41 Tryz.ntmps41 rfl rfl ?_
  refine zf (zb ?_)
  refine L (Zl rfl ?_)
  rintro b1 w1 hb1 hm1 hn1
  refine L (ye (zs := [(.string (ByteArray.mk #[])), (.string (ByteArray.mk #[])), (.slice none 0 0), (.int .i64 0), (.int .i64 0), (.int .i64 0)]) yb rfl ?_)
  rintro b2 w2 hb2 hm2 hn2
  refine zg (zc (zf (zb (L (S (ze Zj rfl) ?_)))))
  refine L (zi Z6 rfl ((hb1.no hm2).cell (i := 2) rfl) ?_)
  refine L (zq cb_76 rfl ((cloneInt_ret rfl ((ht.sl.no hm1).no hm2) hl)) ?_)
  rintro _ w3 ⟨A, c, rfl, ho3, hm3⟩
  refine L (S (ze Zj rfl) ?_)
  refine L (yv ti_28 rfl rfl rfl ((hb1.no hm2).no hm3) (by show 2 < 6; decide) ?_)
  rintro w4 hb4 hm4
  refine zg (zc (zf (zb ?_)))
  refine L (zB Zu rfl hb4.row rfl ?_)
  refine L (zw yb rfl rfl (yz { t with A := A, cap := c }) rfl (((hb2.no hm3).ne hm4 (by have := hb1.lt; omega))) (by exact Nat.le_refl 6) ?_)
  rintro w5 hb5 hm5
  refine zg (zc (zy ?_))
  have hb5' : Blk w5 b2 (yq { t with A := A, cap := c }) 30 := hb5
  have hbl := hb1.lt
  have hs12 := hm1.size
  have hs2 := hm2.size
  have hm12 := hm1.no hm2
  have ho5 : IdxOwn w.heap.size w5 { t with A := A, cap := c } := Zs (yo (yo ho3 hm4 (fun k hk hk2 => by have := (ZN ho3 hk).1; unfold At at hk2; omega)) hm5 (fun k hk hk2 => by have := (ZN ho3 hk).1; have := hb2.lt; unfold At at hk2; omega)) hm12.size
  refine yk (rs := [.cell 2 30]) [.agg (yq { t with A := A, cap := c }).toArray] Tryz.results41 ?_ ?_
  · exact ⟨⟨_, rfl, zu Zu hb5'.row rfl⟩, trivial⟩
  exact ⟨A, c, rfl, ho5, ((hm12.no hm3).new hm4 hn1).new hm5 (Nat.le_trans hs12 hn2)⟩
end
end Go.Proofs.YtnoioimphcmeiaaGreatDoor
namespace Go.Proofs.YtnoioimphcmeiaaGreatDoor
open Go.RowKit
set_option maxRecDepth 20000
set_option maxHeartbeats 1000000

def zX : Sch := ⟨[], none, 0, [], none, 0⟩
/-- A schema that is being made, in a block of its own. -/
structure Mk (w0 wc : World) (b : Nat) (o : Sch) (ts : List Tab) (is : List Idx) : Prop where
  mv : Mv No w0 wc
  blk : Blk wc b (zM o) 37
  new : w0.heap.size ≤ b
  own : SchOwn w0.heap.size wc o
  td : o.tabs.map Tab.d = ts.map Tab.d
  id : o.idxs.map Idx.d_ = is.map Idx.d_
variable {w0 wc w6 w8 w9 : World} {b : Nat} {o : Sch} {ts : List Tab} {is : List Idx}
theorem Z1 {base : Nat} {w : World} : SchOwn base w zX := ⟨Yl, fun _ h => by simp [zX] at h, Yl, fun _ h => by simp [zX] at h⟩
theorem Mk.keep (h : Mk w0 wc b o ts is) (hm : Mv No wc w6) : Mk w0 w6 b o ts is := ⟨h.mv.no hm, h.blk.no hm, h.new, h.own.no hm, h.td, h.id⟩
theorem Mk.addT (h : Mk w0 wc b o ts is) {t t' : Tab} {base : Nat} (ht : TabOwn base wc t') (hb : w0.heap.size ≤ base) (hd : t'.d = t.d) {A : Option Addr} {c : Nat}
    (hm8 : Mv (Zx (.slice o.A o.tabs.length o.c)) wc w8) (ho8 : w8.ownsRow w0.heap.size 27 5 (.slice A (o.tabs.length + 1) c) (o.tabs.length + 1) (zI yA o.tabs ++ yA t'))
    (hb9 : Blk w9 b ((zM o).set 0 (.slice A (o.tabs.length + 1) c)) 37) (hm9 : Mv (At b) w8 w9) : Mk w0 w9 b { o with tabs := o.tabs ++ [t'], A := A, c := c } (ts ++ [t]) is := by
  have hl : (o.tabs ++ [t']).length = o.tabs.length + 1 := by simp
  have hb8 : Blk w8 b (zM o) 37 := h.blk.mv hm8 (zK h.blk h.own.tsl (by decide))
  have hcol : ∀ {base : Nat} {t : Tab}, TabOwn base wc t → TabOwn base w9 t := fun {base t} ht => by
    have h1 : TabOwn base w8 t := yo ht hm8 (ZX ht h.own.tsl (by decide))
    exact yo h1 hm9 (fun k hk hk2 => by unfold At at hk2; subst hk2; exact zK hb8 h1 (by decide) hk)
  have hint : ∀ {base : Nat} {t : Idx}, IdxOwn base wc t → IdxOwn base w9 t := fun {base t} ht => by
    have h1 : IdxOwn base w8 t := yo ht hm8 (ZX ht h.own.tsl (by decide))
    exact yo h1 hm9 (fun k hk hk2 => by unfold At at hk2; subst hk2; exact zK hb8 h1 (by decide) hk)
  refine ⟨(h.mv.own hm8 h.own.tsl (Nat.le_refl _)).new hm9 h.new, by unfold zM; dsimp only; rw [hl]; exact hb9, h.new, ⟨?_, fun x hx => ?_, ?_, fun x hx => hint (h.own.idx x hx)⟩, by simp [h.td, hd], h.id⟩
  · dsimp only
    rw [hl, yT, Zi]
    exact yo ho8 hm9 (fun k hk hk2 => by unfold At at hk2; subst hk2; exact zK hb8 ho8 (by decide) hk)
  · rcases List.mem_append.1 hx with hx | hx
    · exact hcol (h.own.tab x hx)
    · have : x = t' := by simpa using hx
      subst this
      exact Zs (hcol ht) hb
  · have h1 := yo h.own.isl hm8 (ZX h.own.isl h.own.tsl (by decide))
    exact yo h1 hm9 (fun k hk hk2 => by unfold At at hk2; subst hk2; exact zK hb8 h1 (by decide) hk)
theorem Mk.addI (h : Mk w0 wc b o ts is) {t t' : Idx} {base : Nat} (ht : IdxOwn base wc t') (hb : w0.heap.size ≤ base) (hd : t'.d_ = t.d_) {A : Option Addr} {c : Nat}
    (hm8 : Mv (Zx (.slice o.B o.idxs.length o.d)) wc w8) (ho8 : w8.ownsRow w0.heap.size 30 6 (.slice A (o.idxs.length + 1) c) (o.idxs.length + 1) (zI yq o.idxs ++ yq t'))
    (hb9 : Blk w9 b ((zM o).set 1 (.slice A (o.idxs.length + 1) c)) 37) (hm9 : Mv (At b) w8 w9) : Mk w0 w9 b { o with idxs := o.idxs ++ [t'], B := A, d := c } ts (is ++ [t]) := by
  have hl : (o.idxs ++ [t']).length = o.idxs.length + 1 := by simp
  have hb8 : Blk w8 b (zM o) 37 := h.blk.mv hm8 (zK h.blk h.own.isl (by decide))
  have hcol : ∀ {base : Nat} {t : Tab}, TabOwn base wc t → TabOwn base w9 t := fun {base t} ht => by
    have h1 : TabOwn base w8 t := yo ht hm8 (ZX ht h.own.isl (by decide))
    exact yo h1 hm9 (fun k hk hk2 => by unfold At at hk2; subst hk2; exact zK hb8 h1 (by decide) hk)
  have hint : ∀ {base : Nat} {t : Idx}, IdxOwn base wc t → IdxOwn base w9 t := fun {base t} ht => by
    have h1 : IdxOwn base w8 t := yo ht hm8 (ZX ht h.own.isl (by decide))
    exact yo h1 hm9 (fun k hk hk2 => by unfold At at hk2; subst hk2; exact zK hb8 h1 (by decide) hk)
  refine ⟨(h.mv.own hm8 h.own.isl (Nat.le_refl _)).new hm9 h.new, by unfold zM; dsimp only; rw [hl]; exact hb9, h.new, ⟨?_, fun x hx => hcol (h.own.tab x hx), ?_, fun x hx => ?_⟩, h.td, by simp [h.id, hd]⟩
  · have h1 := yo h.own.tsl hm8 (ZX h.own.tsl h.own.isl (by decide))
    exact yo h1 hm9 (fun k hk hk2 => by unfold At at hk2; subst hk2; exact zK hb8 h1 (by decide) hk)
  · dsimp only
    rw [hl, yT, Zi]
    exact yo ho8 hm9 (fun k hk hk2 => by unfold At at hk2; subst hk2; exact zK hb8 ho8 (by decide) hk)
  · rcases List.mem_append.1 hx with hx | hx
    · exact hint (h.own.idx x hx)
    · have : x = t' := by simpa using hx
      subst this
      exact Zs (hint ht) hb
/-- Another block of a schema's stays. -/
theorem Mk.other (h : Mk w0 wc b o ts is) {b1 : Nat} {cs : List Value} {v : Value} {n m e : Nat} {xs : List Value} (h1 : Blk wc b1 cs 37) (ho : wc.ownsRow w0.heap.size e m v n xs) (he : 37 ≠ e) (hm8 : Mv (Zx v) wc w8) (hm9 : Mv (At b) w8 w9) (hne : b1 ≠ b) : Blk w9 b1 cs 37 :=
  (h1.mv hm8 (zK h1 ho he)).ne hm9 hne
section
variable {w : World}
theorem Clone_ret {s : Sch} (hs : SchOk w s) (hlt : s.tabs.length ≤ 100000) (hli : s.idxs.length ≤ 100000) (hlc : ∀ t ∈ s.tabs, t.cols.length ≤ 1000000) (hld : ∀ t ∈ s.idxs, t.cols.length ≤ 1000000) : Ret Tryz.prog 13 [.agg (zM s).toArray] w fun v w' => ∃ o, v = .agg (zM o).toArray ∧ SchOwn w.heap.size w' o ∧ o.tabs.map Tab.d = s.tabs.map Tab.d ∧ o.idxs.map Idx.d_ = s.idxs.map Idx.d_ ∧ Mv No w w' := by
  refine zN Tryz.func13 Tryz.ntmps13 rfl rfl ?_
  refine zf (zb ?_)
  refine L (Zl rfl ?_)
  rintro b1 w1 hb1 hm1 hn1
  refine L (ye (zs := [(.slice none 0 0), (.slice none 0 0)]) z6 rfl ?_)
  rintro b2 w2 hb2 hm2 hn2
  refine zg (zc (zf (zb ?_)))
  refine L (ye (zs := [(.slice none 0 0), (.slice none 0 0)]) z6 rfl ?_)
  rintro b3 w3 hb3 hm3 hn3
  refine zg (zc (zf (zf ?_)))
  have l1 := hb1.lt
  have l2 := hb2.lt
  have hb1' := (hb1.no hm2).no hm3
  have hb2' := hb2.no hm3
  have hm03 := (hm1.no hm2).no hm3
  have s1 := hm1.size
  have s2 := hm2.size
  have hk3 : Mk w w3 b3 zX [] [] := ⟨hm03, hb3, by omega, Z1, rfl, rfl⟩
  have n12 : b1 ≠ b3 := by omega
  have n23 : b2 ≠ b3 := by omega
  have hs3 := hs.no hm03
  refine zb (L (S (ze yg rfl) ?_))
  refine L (zi yX rfl (hb1'.cell (i := 0) rfl) ?_)
  refine L (S (zH Tryz.underlying34 rfl) ?_)
  refine L (S (za rfl) (zg (zc ?_)))
  refine ZG (γ := Sch) (fun _ => [(1, .pointer (some ⟨b1, 0, none⟩)), (2, .pointer (some ⟨b2, 0, none⟩)), (3, .pointer (some ⟨b3, 0, none⟩))]) (fun o wc => Mk w wc b3 o s.tabs [] ∧ o.idxs = [] ∧ Blk wc b1 (zM s) 37 ∧ Blk wc b2 (zM zX) 37) ?_ ?_
  · refine zx ?_
    refine yF (γ := Nat × Sch) (fun q => [(1, .pointer (some ⟨b1, 0, none⟩)), (2, .pointer (some ⟨b2, 0, none⟩)), (3, .pointer (some ⟨b3, 0, none⟩)), (9, .slice s.A s.tabs.length s.c), (10, .int .i64 (s.tabs.length : Int)), (11, .int .i64 (q.1 : Int))]) (fun q wr => q.1 ≤ s.tabs.length ∧ Mk w wr b3 q.2 (s.tabs.take q.1) [] ∧ q.2.idxs = [] ∧ Blk wr b1 (zM s) 37 ∧ Blk wr b2 (zM zX) 37) (fun q => s.tabs.length - q.1) (0, zX) (.cons rfl (.cons rfl (.cons rfl (.cons rfl (.cons rfl (.cons rfl (.nil _))))))) ⟨Nat.zero_le _, hk3, rfl, hb1', hb2'⟩ ?_
    rintro ⟨i, o⟩ wr ⟨hi, hk, hoi, hr1, hr2⟩
    dsimp only at hi hk hoi
    dsimp only
    by_cases hc : i < s.tabs.length
    · have ha := List.getElem?_eq_getElem hc
      generalize s.tabs[i] = x at ha
      have hxm := List.mem_of_getElem? ha
      have hsr := hs.no hk.mv
      obtain ⟨ba, oa, hAe, -, hrow⟩ := yr yI (by decide) hsr.tsl ha
      rw [hAe]
      have hol : o.tabs.length = i := by
        have := congrArg List.length hk.td
        rw [List.length_map, List.length_map, List.length_take] at this
        omega
      refine zf (zb ?_)
      refine L (S (zG rfl rfl (decide_eq_true (by omega))) ?_)
      refine zg (zc (zf (zr rfl (zo (zc (zf (zx (zf (zb ?_)))))))))
      refine L (S (zn Tryz.underlying34 (zD yl) rfl rfl (j := i) rfl (by omega) (p := oa + i * 5) (by omega)) ?_)
      refine L (zB Zo rfl hrow rfl ?_)
      refine L (ye (zs := [(.string (ByteArray.mk #[])), (.slice none 0 0), (.int .i64 0), (.int .i64 0), (.int .i64 0)]) yl rfl ?_)
      rintro b5 w4 hb4 hm4 hn4
      refine L (zw yl rfl rfl (yN x) rfl hb4 (by exact Nat.le_refl 5) ?_)
      rintro w5 hb5 hm5
      refine zg (zc ?_)
      have hb5' : Blk w5 b5 (yA x) 27 := hb5
      have hm45 : Mv No wr w5 := hm4.new hm5 hn4
      have hk5 := hk.keep hm45
      have hsl : ∀ wq, Mv No w5 wq → wq.cell? ⟨b3, 0, none⟩ = some (.slice o.A o.tabs.length o.c) := fun wq h => (hk5.blk.no h).cell (i := 0) rfl
      have hcl := fun wq (h : Mv No w5 wq) => clone_ret (t := x) (((hsr.tab x hxm).no hm45).no h) (hlc x hxm)
      have hsz5 := hk5.mv.size
      refine ZT 8 mixed rfl ?_
      refine zF (i := 0) rfl (ze yg rfl) ?_ (by decide +kernel) (by decide +kernel) (by decide +kernel) (fun _ _ _ _ h => h) rfl rfl rfl
      refine ZL (i := 1) (i2 := 2) (zS rfl (zi yX rfl (by first | exact hsl _ (Mv.refl _).drew | exact hsl _ ((Mv.refl _).drew.no hm6) | exact hsl _ (((Mv.refl _).drew.no hm6).no hm7)) ?_)) (zS rfl (zB Zo rfl (hb5'.no (Mv.refl _).drew).row rfl ?_)) (by decide +kernel)
      · refine zO (i := 2) (zS rfl (zB Zo rfl (hb5'.no (Mv.refl _).drew).row rfl ?_)) (by decide +kernel)
        refine zO (i := 3) (zS rfl (zq cb_40 rfl ((hcl _ (Mv.refl _).drew)) ?_)) (by decide +kernel)
        rintro _ w6 ⟨A6, c6, rfl, ho6, hm6⟩
        refine zO (i := 4) (zS rfl (zU (l := [.tmp 18]) (vss := [yA { x with A := A6, cap := c6 }]) Tryz.underlying34 yl (by decide) rfl (by simp [yA, yq, Zt]) rfl (by decide) (by decide) ?_)) (by decide +kernel)
        rintro b7 w7 hb7 hm7 hn7
        refine zO (i := 5) (zS rfl (y9 Tryz.underlying34 yl rfl (by decide) rfl (zE hk5.own.tsl (((Mv.refl _).drew.no hm6).no hm7)) rfl (.inr ⟨b7, 0, rfl, hb7.row⟩) rfl (yN _) (by have := ((Mv.refl w5 (S := No)).drew.no hm6).size; have := hm7.size; omega) (by rw [hol]; unfold maxLen; omega) (by rw [hol]; omega) ?_)) (by decide +kernel)
        rintro A8 c8 w8 ho8 hm8
        refine zF (i := 6) rfl (ze yg rfl) ?_ (by decide +kernel) (by decide +kernel) (by decide +kernel) (fun _ _ _ _ h => h) rfl rfl rfl
        refine zO (i := 7) (zS rfl (yv ti_34 rfl rfl rfl ((hk5.blk.no (((Mv.refl _).drew.no hm6).no hm7)).mv hm8 (zK (hk5.blk.no (((Mv.refl _).drew.no hm6).no hm7)) (zE hk5.own.tsl (((Mv.refl _).drew.no hm6).no hm7)) (by decide))) (by show 0 < 2; decide) ?_)) (by decide +kernel)
        rintro w9 hb9 hm9
        refine yH (by decide +kernel) ?_
        refine yj (zc (zb ?_))
        refine L (S (zT rfl rfl (z1 (c := ((i + 1 : Nat) : Int)) (by omega))) ?_)
        refine L (S (za rfl) (zg (zc ?_)))
        have hm57 : Mv No w5 w7 := ((Mv.refl _).drew.no hm6).no hm7
        have hk7 := hk5.keep hm57
        refine ⟨rfl, (i + 1, { o with tabs := o.tabs ++ [{ x with A := A6, cap := c6 }], A := A8, c := c8 }), (.cons rfl (.cons rfl (.cons rfl (.cons rfl (.cons rfl (.cons rfl (.nil _))))))), ⟨by dsimp only; omega, ?_, hoi, hk7.other (hr1.no (hm45.no hm57)) hk7.own.tsl (by decide) hm8 hm9 n12, hk7.other (hr2.no (hm45.no hm57)) hk7.own.tsl (by decide) hm8 hm9 n23⟩, by dsimp only; omega⟩
        dsimp only
        rw [yY ha]
        exact hk7.addT (t := x) (zE ho6 hm7) hsz5 rfl hm8 ho8 hb9 hm9
      · refine ZL (i := 1) (i2 := 3) (zS rfl (zi yX rfl (by first | exact hsl _ (Mv.refl _).drew | exact hsl _ ((Mv.refl _).drew.no hm6) | exact hsl _ (((Mv.refl _).drew.no hm6).no hm7)) ?_)) (zS rfl (zq cb_40 rfl ((hcl _ (Mv.refl _).drew)) ?_)) (by decide +kernel)
        · refine zO (i := 3) (zS rfl (zq cb_40 rfl ((hcl _ (Mv.refl _).drew)) ?_)) (by decide +kernel)
          rintro _ w6 ⟨A6, c6, rfl, ho6, hm6⟩
          refine zO (i := 4) (zS rfl (zU (l := [.tmp 18]) (vss := [yA { x with A := A6, cap := c6 }]) Tryz.underlying34 yl (by decide) rfl (by simp [yA, yq, Zt]) rfl (by decide) (by decide) ?_)) (by decide +kernel)
          rintro b7 w7 hb7 hm7 hn7
          refine zO (i := 5) (zS rfl (y9 Tryz.underlying34 yl rfl (by decide) rfl (zE hk5.own.tsl (((Mv.refl _).drew.no hm6).no hm7)) rfl (.inr ⟨b7, 0, rfl, hb7.row⟩) rfl (yN _) (by have := ((Mv.refl w5 (S := No)).drew.no hm6).size; have := hm7.size; omega) (by rw [hol]; unfold maxLen; omega) (by rw [hol]; omega) ?_)) (by decide +kernel)
          rintro A8 c8 w8 ho8 hm8
          refine zF (i := 6) rfl (ze yg rfl) ?_ (by decide +kernel) (by decide +kernel) (by decide +kernel) (fun _ _ _ _ h => h) rfl rfl rfl
          refine zO (i := 7) (zS rfl (yv ti_34 rfl rfl rfl ((hk5.blk.no (((Mv.refl _).drew.no hm6).no hm7)).mv hm8 (zK (hk5.blk.no (((Mv.refl _).drew.no hm6).no hm7)) (zE hk5.own.tsl (((Mv.refl _).drew.no hm6).no hm7)) (by decide))) (by show 0 < 2; decide) ?_)) (by decide +kernel)
          rintro w9 hb9 hm9
          refine yH (by decide +kernel) ?_
          refine yj (zc (zb ?_))
          refine L (S (zT rfl rfl (z1 (c := ((i + 1 : Nat) : Int)) (by omega))) ?_)
          refine L (S (za rfl) (zg (zc ?_)))
          have hm57 : Mv No w5 w7 := ((Mv.refl _).drew.no hm6).no hm7
          have hk7 := hk5.keep hm57
          refine ⟨rfl, (i + 1, { o with tabs := o.tabs ++ [{ x with A := A6, cap := c6 }], A := A8, c := c8 }), (.cons rfl (.cons rfl (.cons rfl (.cons rfl (.cons rfl (.cons rfl (.nil _))))))), ⟨by dsimp only; omega, ?_, hoi, hk7.other (hr1.no (hm45.no hm57)) hk7.own.tsl (by decide) hm8 hm9 n12, hk7.other (hr2.no (hm45.no hm57)) hk7.own.tsl (by decide) hm8 hm9 n23⟩, by dsimp only; omega⟩
          dsimp only
          rw [yY ha]
          exact hk7.addT (t := x) (zE ho6 hm7) hsz5 rfl hm8 ho8 hb9 hm9
        · rintro _ w6 ⟨A6, c6, rfl, ho6, hm6⟩
          refine ZL (i := 1) (i2 := 4) (zS rfl (zi yX rfl (by first | exact hsl _ (Mv.refl _).drew | exact hsl _ ((Mv.refl _).drew.no hm6) | exact hsl _ (((Mv.refl _).drew.no hm6).no hm7)) ?_)) (zS rfl (zU (l := [.tmp 18]) (vss := [yA { x with A := A6, cap := c6 }]) Tryz.underlying34 yl (by decide) rfl (by simp [yA, yq, Zt]) rfl (by decide) (by decide) ?_)) (by decide +kernel)
          · refine zO (i := 4) (zS rfl (zU (l := [.tmp 18]) (vss := [yA { x with A := A6, cap := c6 }]) Tryz.underlying34 yl (by decide) rfl (by simp [yA, yq, Zt]) rfl (by decide) (by decide) ?_)) (by decide +kernel)
            rintro b7 w7 hb7 hm7 hn7
            refine zO (i := 5) (zS rfl (y9 Tryz.underlying34 yl rfl (by decide) rfl (zE hk5.own.tsl (((Mv.refl _).drew.no hm6).no hm7)) rfl (.inr ⟨b7, 0, rfl, hb7.row⟩) rfl (yN _) (by have := ((Mv.refl w5 (S := No)).drew.no hm6).size; have := hm7.size; omega) (by rw [hol]; unfold maxLen; omega) (by rw [hol]; omega) ?_)) (by decide +kernel)
            rintro A8 c8 w8 ho8 hm8
            refine zF (i := 6) rfl (ze yg rfl) ?_ (by decide +kernel) (by decide +kernel) (by decide +kernel) (fun _ _ _ _ h => h) rfl rfl rfl
            refine zO (i := 7) (zS rfl (yv ti_34 rfl rfl rfl ((hk5.blk.no (((Mv.refl _).drew.no hm6).no hm7)).mv hm8 (zK (hk5.blk.no (((Mv.refl _).drew.no hm6).no hm7)) (zE hk5.own.tsl (((Mv.refl _).drew.no hm6).no hm7)) (by decide))) (by show 0 < 2; decide) ?_)) (by decide +kernel)
            rintro w9 hb9 hm9
            refine yH (by decide +kernel) ?_
            refine yj (zc (zb ?_))
            refine L (S (zT rfl rfl (z1 (c := ((i + 1 : Nat) : Int)) (by omega))) ?_)
            refine L (S (za rfl) (zg (zc ?_)))
            have hm57 : Mv No w5 w7 := ((Mv.refl _).drew.no hm6).no hm7
            have hk7 := hk5.keep hm57
            refine ⟨rfl, (i + 1, { o with tabs := o.tabs ++ [{ x with A := A6, cap := c6 }], A := A8, c := c8 }), (.cons rfl (.cons rfl (.cons rfl (.cons rfl (.cons rfl (.cons rfl (.nil _))))))), ⟨by dsimp only; omega, ?_, hoi, hk7.other (hr1.no (hm45.no hm57)) hk7.own.tsl (by decide) hm8 hm9 n12, hk7.other (hr2.no (hm45.no hm57)) hk7.own.tsl (by decide) hm8 hm9 n23⟩, by dsimp only; omega⟩
            dsimp only
            rw [yY ha]
            exact hk7.addT (t := x) (zE ho6 hm7) hsz5 rfl hm8 ho8 hb9 hm9
          · rintro b7 w7 hb7 hm7 hn7
            refine zO (i := 1) (zS rfl (zi yX rfl (by first | exact hsl _ (Mv.refl _).drew | exact hsl _ ((Mv.refl _).drew.no hm6) | exact hsl _ (((Mv.refl _).drew.no hm6).no hm7)) ?_)) (by decide +kernel)
            refine zO (i := 5) (zS rfl (y9 Tryz.underlying34 yl rfl (by decide) rfl (zE hk5.own.tsl (((Mv.refl _).drew.no hm6).no hm7)) rfl (.inr ⟨b7, 0, rfl, hb7.row⟩) rfl (yN _) (by have := ((Mv.refl w5 (S := No)).drew.no hm6).size; have := hm7.size; omega) (by rw [hol]; unfold maxLen; omega) (by rw [hol]; omega) ?_)) (by decide +kernel)
            rintro A8 c8 w8 ho8 hm8
            refine zF (i := 6) rfl (ze yg rfl) ?_ (by decide +kernel) (by decide +kernel) (by decide +kernel) (fun _ _ _ _ h => h) rfl rfl rfl
            refine zO (i := 7) (zS rfl (yv ti_34 rfl rfl rfl ((hk5.blk.no (((Mv.refl _).drew.no hm6).no hm7)).mv hm8 (zK (hk5.blk.no (((Mv.refl _).drew.no hm6).no hm7)) (zE hk5.own.tsl (((Mv.refl _).drew.no hm6).no hm7)) (by decide))) (by show 0 < 2; decide) ?_)) (by decide +kernel)
            rintro w9 hb9 hm9
            refine yH (by decide +kernel) ?_
            refine yj (zc (zb ?_))
            refine L (S (zT rfl rfl (z1 (c := ((i + 1 : Nat) : Int)) (by omega))) ?_)
            refine L (S (za rfl) (zg (zc ?_)))
            have hm57 : Mv No w5 w7 := ((Mv.refl _).drew.no hm6).no hm7
            have hk7 := hk5.keep hm57
            refine ⟨rfl, (i + 1, { o with tabs := o.tabs ++ [{ x with A := A6, cap := c6 }], A := A8, c := c8 }), (.cons rfl (.cons rfl (.cons rfl (.cons rfl (.cons rfl (.cons rfl (.nil _))))))), ⟨by dsimp only; omega, ?_, hoi, hk7.other (hr1.no (hm45.no hm57)) hk7.own.tsl (by decide) hm8 hm9 n12, hk7.other (hr2.no (hm45.no hm57)) hk7.own.tsl (by decide) hm8 hm9 n23⟩, by dsimp only; omega⟩
            dsimp only
            rw [yY ha]
            exact hk7.addT (t := x) (zE ho6 hm7) hsz5 rfl hm8 ho8 hb9 hm9
    · have e : s.tabs.take i = s.tabs := List.take_of_length_le (by omega)
      rw [e] at hk
      refine zf (zb ?_)
      refine L (S (zG rfl rfl (decide_eq_false (by omega))) ?_)
      refine zg (zc (zf (zk rfl (yn (zL (zL (yK (zc ?_))))))))
      exact ⟨rfl, o, (.cons rfl (.cons rfl (.cons rfl (.nil _)))), hk, hoi, hr1, hr2⟩
  rintro o w4 ⟨hk4, hoi, hc1, hc2⟩ f' hf'
  refine Zb hf' ?_
  clear hf' f'
  refine zf (zf (zb (L (S (ze yf rfl) ?_))))
  refine L (zi yS rfl (hc1.cell (i := 1) rfl) ?_)
  refine L (S (zH Tryz.underlying35 rfl) ?_)
  refine L (S (za rfl) (zg (zc ?_)))
  refine ZG (γ := Sch) (fun _ => [(2, .pointer (some ⟨b2, 0, none⟩)), (3, .pointer (some ⟨b3, 0, none⟩))]) (fun p wc => Mk w wc b3 p s.tabs s.idxs ∧ Blk wc b2 (zM zX) 37) ?_ ?_
  · refine zx ?_
    refine yF (γ := Nat × Sch) (fun q => [(2, .pointer (some ⟨b2, 0, none⟩)), (3, .pointer (some ⟨b3, 0, none⟩)), (24, .slice s.B s.idxs.length s.d), (25, .int .i64 (s.idxs.length : Int)), (26, .int .i64 (q.1 : Int))]) (fun q wr => q.1 ≤ s.idxs.length ∧ Mk w wr b3 q.2 s.tabs (s.idxs.take q.1) ∧ Blk wr b2 (zM zX) 37) (fun q => s.idxs.length - q.1) (0, o) (.cons rfl (.cons rfl (.cons rfl (.cons rfl (.cons rfl (.nil _)))))) ⟨Nat.zero_le _, hk4, hc2⟩ ?_
    rintro ⟨i, p⟩ wr ⟨hi, hk, hr2⟩
    dsimp only at hi hk
    dsimp only
    by_cases hc : i < s.idxs.length
    · have ha := List.getElem?_eq_getElem hc
      generalize s.idxs[i] = x at ha
      have hxm := List.mem_of_getElem? ha
      have hsr := hs.no hk.mv
      obtain ⟨ba, oa, hAe, -, hrow⟩ := yr yw (by decide) hsr.isl ha
      rw [hAe]
      have hol : p.idxs.length = i := by
        have := congrArg List.length hk.id
        rw [List.length_map, List.length_map, List.length_take] at this
        omega
      refine zf (zb ?_)
      refine L (S (zG rfl rfl (decide_eq_true (by omega))) ?_)
      refine zg (zc (zf (zr rfl (zo (zc (zf (zx (zf (zb ?_)))))))))
      refine L (S (zn Tryz.underlying35 (zD yb) rfl rfl (j := i) rfl (by omega) (p := oa + i * 6) (by omega)) ?_)
      refine L (zB Zu rfl hrow rfl ?_)
      refine L (ye (zs := [(.string (ByteArray.mk #[])), (.string (ByteArray.mk #[])), (.slice none 0 0), (.int .i64 0), (.int .i64 0), (.int .i64 0)]) yb rfl ?_)
      rintro b5 w4 hb4 hm4 hn4
      refine L (zw yb rfl rfl (yz x) rfl hb4 (by exact Nat.le_refl 6) ?_)
      rintro w5 hb5 hm5
      refine zg (zc ?_)
      have hb5' : Blk w5 b5 (yq x) 30 := hb5
      have hm45 : Mv No wr w5 := hm4.new hm5 hn4
      have hk5 := hk.keep hm45
      have hsl : ∀ wq, Mv No w5 wq → wq.cell? ⟨b3, 1, none⟩ = some (.slice p.B p.idxs.length p.d) := fun wq h => (hk5.blk.no h).cell (i := 1) rfl
      have hcl := fun wq (h : Mv No w5 wq) => cloneIdx_ret (t := x) (((hsr.idx x hxm).no hm45).no h) (hld x hxm)
      have hsz5 := hk5.mv.size
      refine ZT 8 mixed rfl ?_
      refine zF (i := 0) rfl (ze yf rfl) ?_ (by decide +kernel) (by decide +kernel) (by decide +kernel) (fun _ _ _ _ h => h) rfl rfl rfl
      refine ZL (i := 1) (i2 := 2) (zS rfl (zi yS rfl (by first | exact hsl _ (Mv.refl _).drew | exact hsl _ ((Mv.refl _).drew.no hm6) | exact hsl _ (((Mv.refl _).drew.no hm6).no hm7)) ?_)) (zS rfl (zB Zu rfl (hb5'.no (Mv.refl _).drew).row rfl ?_)) (by decide +kernel)
      · refine zO (i := 2) (zS rfl (zB Zu rfl (hb5'.no (Mv.refl _).drew).row rfl ?_)) (by decide +kernel)
        refine zO (i := 3) (zS rfl (zq cb_41 rfl ((hcl _ (Mv.refl _).drew)) ?_)) (by decide +kernel)
        rintro _ w6 ⟨A6, c6, rfl, ho6, hm6⟩
        refine zO (i := 4) (zS rfl (zU (l := [.tmp 33]) (vss := [yq { x with A := A6, cap := c6 }]) Tryz.underlying35 yb (by decide) rfl (by simp [yA, yq, Zt]) rfl (by decide) (by decide) ?_)) (by decide +kernel)
        rintro b7 w7 hb7 hm7 hn7
        refine zO (i := 5) (zS rfl (y9 Tryz.underlying35 yb rfl (by decide) rfl (zE hk5.own.isl (((Mv.refl _).drew.no hm6).no hm7)) rfl (.inr ⟨b7, 0, rfl, hb7.row⟩) rfl (yz _) (by have := ((Mv.refl w5 (S := No)).drew.no hm6).size; have := hm7.size; omega) (by rw [hol]; unfold maxLen; omega) (by rw [hol]; omega) ?_)) (by decide +kernel)
        rintro A8 c8 w8 ho8 hm8
        refine zF (i := 6) rfl (ze yf rfl) ?_ (by decide +kernel) (by decide +kernel) (by decide +kernel) (fun _ _ _ _ h => h) rfl rfl rfl
        refine zO (i := 7) (zS rfl (yv ti_35 rfl rfl rfl ((hk5.blk.no (((Mv.refl _).drew.no hm6).no hm7)).mv hm8 (zK (hk5.blk.no (((Mv.refl _).drew.no hm6).no hm7)) (zE hk5.own.isl (((Mv.refl _).drew.no hm6).no hm7)) (by decide))) (by show 1 < 2; decide) ?_)) (by decide +kernel)
        rintro w9 hb9 hm9
        refine yH (by decide +kernel) ?_
        refine yj (zc (zb ?_))
        refine L (S (zT rfl rfl (z1 (c := ((i + 1 : Nat) : Int)) (by omega))) ?_)
        refine L (S (za rfl) (zg (zc ?_)))
        have hm57 : Mv No w5 w7 := ((Mv.refl _).drew.no hm6).no hm7
        have hk7 := hk5.keep hm57
        refine ⟨rfl, (i + 1, { p with idxs := p.idxs ++ [{ x with A := A6, cap := c6 }], B := A8, d := c8 }), (.cons rfl (.cons rfl (.cons rfl (.cons rfl (.cons rfl (.nil _)))))), ⟨by dsimp only; omega, ?_, hk7.other (hr2.no (hm45.no hm57)) hk7.own.isl (by decide) hm8 hm9 n23⟩, by dsimp only; omega⟩
        dsimp only
        rw [yY ha]
        exact hk7.addI (t := x) (zE ho6 hm7) hsz5 rfl hm8 ho8 hb9 hm9
      · refine ZL (i := 1) (i2 := 3) (zS rfl (zi yS rfl (by first | exact hsl _ (Mv.refl _).drew | exact hsl _ ((Mv.refl _).drew.no hm6) | exact hsl _ (((Mv.refl _).drew.no hm6).no hm7)) ?_)) (zS rfl (zq cb_41 rfl ((hcl _ (Mv.refl _).drew)) ?_)) (by decide +kernel)
        · refine zO (i := 3) (zS rfl (zq cb_41 rfl ((hcl _ (Mv.refl _).drew)) ?_)) (by decide +kernel)
          rintro _ w6 ⟨A6, c6, rfl, ho6, hm6⟩
          refine zO (i := 4) (zS rfl (zU (l := [.tmp 33]) (vss := [yq { x with A := A6, cap := c6 }]) Tryz.underlying35 yb (by decide) rfl (by simp [yA, yq, Zt]) rfl (by decide) (by decide) ?_)) (by decide +kernel)
          rintro b7 w7 hb7 hm7 hn7
          refine zO (i := 5) (zS rfl (y9 Tryz.underlying35 yb rfl (by decide) rfl (zE hk5.own.isl (((Mv.refl _).drew.no hm6).no hm7)) rfl (.inr ⟨b7, 0, rfl, hb7.row⟩) rfl (yz _) (by have := ((Mv.refl w5 (S := No)).drew.no hm6).size; have := hm7.size; omega) (by rw [hol]; unfold maxLen; omega) (by rw [hol]; omega) ?_)) (by decide +kernel)
          rintro A8 c8 w8 ho8 hm8
          refine zF (i := 6) rfl (ze yf rfl) ?_ (by decide +kernel) (by decide +kernel) (by decide +kernel) (fun _ _ _ _ h => h) rfl rfl rfl
          refine zO (i := 7) (zS rfl (yv ti_35 rfl rfl rfl ((hk5.blk.no (((Mv.refl _).drew.no hm6).no hm7)).mv hm8 (zK (hk5.blk.no (((Mv.refl _).drew.no hm6).no hm7)) (zE hk5.own.isl (((Mv.refl _).drew.no hm6).no hm7)) (by decide))) (by show 1 < 2; decide) ?_)) (by decide +kernel)
          rintro w9 hb9 hm9
          refine yH (by decide +kernel) ?_
          refine yj (zc (zb ?_))
          refine L (S (zT rfl rfl (z1 (c := ((i + 1 : Nat) : Int)) (by omega))) ?_)
          refine L (S (za rfl) (zg (zc ?_)))
          have hm57 : Mv No w5 w7 := ((Mv.refl _).drew.no hm6).no hm7
          have hk7 := hk5.keep hm57
          refine ⟨rfl, (i + 1, { p with idxs := p.idxs ++ [{ x with A := A6, cap := c6 }], B := A8, d := c8 }), (.cons rfl (.cons rfl (.cons rfl (.cons rfl (.cons rfl (.nil _)))))), ⟨by dsimp only; omega, ?_, hk7.other (hr2.no (hm45.no hm57)) hk7.own.isl (by decide) hm8 hm9 n23⟩, by dsimp only; omega⟩
          dsimp only
          rw [yY ha]
          exact hk7.addI (t := x) (zE ho6 hm7) hsz5 rfl hm8 ho8 hb9 hm9
        · rintro _ w6 ⟨A6, c6, rfl, ho6, hm6⟩
          refine ZL (i := 1) (i2 := 4) (zS rfl (zi yS rfl (by first | exact hsl _ (Mv.refl _).drew | exact hsl _ ((Mv.refl _).drew.no hm6) | exact hsl _ (((Mv.refl _).drew.no hm6).no hm7)) ?_)) (zS rfl (zU (l := [.tmp 33]) (vss := [yq { x with A := A6, cap := c6 }]) Tryz.underlying35 yb (by decide) rfl (by simp [yA, yq, Zt]) rfl (by decide) (by decide) ?_)) (by decide +kernel)
          · refine zO (i := 4) (zS rfl (zU (l := [.tmp 33]) (vss := [yq { x with A := A6, cap := c6 }]) Tryz.underlying35 yb (by decide) rfl (by simp [yA, yq, Zt]) rfl (by decide) (by decide) ?_)) (by decide +kernel)
            rintro b7 w7 hb7 hm7 hn7
            refine zO (i := 5) (zS rfl (y9 Tryz.underlying35 yb rfl (by decide) rfl (zE hk5.own.isl (((Mv.refl _).drew.no hm6).no hm7)) rfl (.inr ⟨b7, 0, rfl, hb7.row⟩) rfl (yz _) (by have := ((Mv.refl w5 (S := No)).drew.no hm6).size; have := hm7.size; omega) (by rw [hol]; unfold maxLen; omega) (by rw [hol]; omega) ?_)) (by decide +kernel)
            rintro A8 c8 w8 ho8 hm8
            refine zF (i := 6) rfl (ze yf rfl) ?_ (by decide +kernel) (by decide +kernel) (by decide +kernel) (fun _ _ _ _ h => h) rfl rfl rfl
            refine zO (i := 7) (zS rfl (yv ti_35 rfl rfl rfl ((hk5.blk.no (((Mv.refl _).drew.no hm6).no hm7)).mv hm8 (zK (hk5.blk.no (((Mv.refl _).drew.no hm6).no hm7)) (zE hk5.own.isl (((Mv.refl _).drew.no hm6).no hm7)) (by decide))) (by show 1 < 2; decide) ?_)) (by decide +kernel)
            rintro w9 hb9 hm9
            refine yH (by decide +kernel) ?_
            refine yj (zc (zb ?_))
            refine L (S (zT rfl rfl (z1 (c := ((i + 1 : Nat) : Int)) (by omega))) ?_)
            refine L (S (za rfl) (zg (zc ?_)))
            have hm57 : Mv No w5 w7 := ((Mv.refl _).drew.no hm6).no hm7
            have hk7 := hk5.keep hm57
            refine ⟨rfl, (i + 1, { p with idxs := p.idxs ++ [{ x with A := A6, cap := c6 }], B := A8, d := c8 }), (.cons rfl (.cons rfl (.cons rfl (.cons rfl (.cons rfl (.nil _)))))), ⟨by dsimp only; omega, ?_, hk7.other (hr2.no (hm45.no hm57)) hk7.own.isl (by decide) hm8 hm9 n23⟩, by dsimp only; omega⟩
            dsimp only
            rw [yY ha]
            exact hk7.addI (t := x) (zE ho6 hm7) hsz5 rfl hm8 ho8 hb9 hm9
          · rintro b7 w7 hb7 hm7 hn7
            refine zO (i := 1) (zS rfl (zi yS rfl (by first | exact hsl _ (Mv.refl _).drew | exact hsl _ ((Mv.refl _).drew.no hm6) | exact hsl _ (((Mv.refl _).drew.no hm6).no hm7)) ?_)) (by decide +kernel)
            refine zO (i := 5) (zS rfl (y9 Tryz.underlying35 yb rfl (by decide) rfl (zE hk5.own.isl (((Mv.refl _).drew.no hm6).no hm7)) rfl (.inr ⟨b7, 0, rfl, hb7.row⟩) rfl (yz _) (by have := ((Mv.refl w5 (S := No)).drew.no hm6).size; have := hm7.size; omega) (by rw [hol]; unfold maxLen; omega) (by rw [hol]; omega) ?_)) (by decide +kernel)
            rintro A8 c8 w8 ho8 hm8
            refine zF (i := 6) rfl (ze yf rfl) ?_ (by decide +kernel) (by decide +kernel) (by decide +kernel) (fun _ _ _ _ h => h) rfl rfl rfl
            refine zO (i := 7) (zS rfl (yv ti_35 rfl rfl rfl ((hk5.blk.no (((Mv.refl _).drew.no hm6).no hm7)).mv hm8 (zK (hk5.blk.no (((Mv.refl _).drew.no hm6).no hm7)) (zE hk5.own.isl (((Mv.refl _).drew.no hm6).no hm7)) (by decide))) (by show 1 < 2; decide) ?_)) (by decide +kernel)
            rintro w9 hb9 hm9
            refine yH (by decide +kernel) ?_
            refine yj (zc (zb ?_))
            refine L (S (zT rfl rfl (z1 (c := ((i + 1 : Nat) : Int)) (by omega))) ?_)
            refine L (S (za rfl) (zg (zc ?_)))
            have hm57 : Mv No w5 w7 := ((Mv.refl _).drew.no hm6).no hm7
            have hk7 := hk5.keep hm57
            refine ⟨rfl, (i + 1, { p with idxs := p.idxs ++ [{ x with A := A6, cap := c6 }], B := A8, d := c8 }), (.cons rfl (.cons rfl (.cons rfl (.cons rfl (.cons rfl (.nil _)))))), ⟨by dsimp only; omega, ?_, hk7.other (hr2.no (hm45.no hm57)) hk7.own.isl (by decide) hm8 hm9 n23⟩, by dsimp only; omega⟩
            dsimp only
            rw [yY ha]
            exact hk7.addI (t := x) (zE ho6 hm7) hsz5 rfl hm8 ho8 hb9 hm9
    · have e : s.idxs.take i = s.idxs := List.take_of_length_le (by omega)
      rw [e] at hk
      refine zf (zb ?_)
      refine L (S (zG rfl rfl (decide_eq_false (by omega))) ?_)
      refine zg (zc (zf (zk rfl (yn (zL (zL (yK (zc ?_))))))))
      exact ⟨rfl, p, (.cons rfl (.cons rfl (.nil _))), hk, hr2⟩
  rintro p w5 ⟨hk5, hd2⟩ f' hf'
  refine Zb hf' ?_
  clear hf' f'
  refine zf (zb ?_)
  refine L (zB zZ rfl hk5.blk.row rfl ?_)
  refine L (zw z6 rfl rfl (zJ p) rfl hd2 (by exact Nat.le_refl 2) ?_)
  rintro w6 hb6 hm6
  refine zg (zc (zy ?_))
  have hb6' : Blk w6 b2 (zM p) 37 := hb6
  refine yk (rs := [.cell 2 37]) [.agg (zM p).toArray] Tryz.results13 ?_ ?_
  · exact ⟨⟨_, rfl, zu zZ hb6'.row rfl⟩, trivial⟩
  refine ⟨p, rfl, ?_, hk5.td, hk5.id, hk5.mv.new hm6 (by omega)⟩
  have hsep : ∀ {m n e base : Nat} {v : Value} {xs : List Value}, w5.ownsRow base e m v n xs → 37 ≠ e → w6.ownsRow base e m v n xs := fun h he => yo h hm6 (fun k hk hk2 => by unfold At at hk2; subst hk2; exact zK hd2 h he hk)
  exact ⟨hsep hk5.own.tsl (by decide), fun t ht => hsep (hk5.own.tab t ht) (by decide), hsep hk5.own.isl (by decide), fun t ht => hsep (hk5.own.idx t ht) (by decide)⟩
end
end Go.Proofs.YtnoioimphcmeiaaGreatDoor
