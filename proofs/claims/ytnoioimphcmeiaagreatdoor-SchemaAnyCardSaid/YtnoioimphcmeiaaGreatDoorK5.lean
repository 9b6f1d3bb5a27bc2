/- Texts of this claim, joined by a program: SRefT, SRefPut, SRefPutI, SRefDrop, SSame. -/
import Derived.Test.YtnoioimphcmeiaaGreatDoorK4
set_option linter.unusedVariables false
set_option linter.unusedSimpArgs false
namespace Go.Proofs.YtnoioimphcmeiaaGreatDoor
open Go.RowKit
set_option maxRecDepth 20000
set_option maxHeartbeats 1000000

section
variable {w : World}
theorem reftables_ret {xs : List Tab} {A : Option Addr} {c n : Nat} (hn : xs.length = n) (hA : SlR w A (zI yA xs)) (hl : n ≤ 1000) : Ret Tryz.prog 67 [.slice A n c] w fun v w' => ∃ B d, v = .slice B n d ∧ w'.ownsRow w.heap.size 27 5 (.slice B n d) n (zI yA (y6 (fun x y => ltN x.name y.name) xs)) ∧ Mv No w w' := by
  generalize hlt : (fun (x y : Tab) => ltN x.name y.name) = lt
  refine zN Tryz.func67 Tryz.ntmps67 rfl rfl ?_
  refine zf (zb (L (S (zd rfl) (zg (zc (zf (zb (L (S (zd rfl) (zg (zc (zf (zf (zb (L (S (zd rfl) (zg (zc (zx ?_)))))))))))))))))))
  refine yF (γ := Nat × Option Addr × Nat) (fun q => [(0, .slice A n c), (3, .slice q.2.1 q.1 q.2.2), (4, .int .i64 (q.1 : Int))]) (fun q wr => q.1 ≤ n ∧ wr.ownsRow w.heap.size 27 5 (.slice q.2.1 q.1 q.2.2) q.1 (zI yA (y6 lt (xs.take q.1))) ∧ Mv No w wr) (fun q => n - q.1) (0, none, 0) (.cons rfl (.cons rfl (.cons rfl (.nil _)))) ⟨Nat.zero_le _, Yl, Mv.refl w⟩ ?_
  rintro ⟨i, B, d⟩ wr ⟨hi, hor, hmr⟩
  dsimp only at hi hor
  dsimp only
  by_cases hc : i < n
  · have ha := List.getElem?_eq_getElem (show i < xs.length by omega)
    generalize xs[i] = x at ha
    have hsl : (y6 lt (xs.take i)).length = i := by rw [ZK, List.length_take]; omega
    have hsn : y6 lt (xs.take (i + 1)) = insB lt x (y6 lt (xs.take i)) := by rw [yY ha, sortI_snoc]
    generalize y6 lt (xs.take i) = out at *
    obtain ⟨ba, oa, hAe, -, hrow⟩ := yr yI (by decide) (hA.no hmr) ha
    subst hAe
    have hple := plc_le lt x out i
    have hob := yW hor
    refine zf (zf (zb (L (S (za rfl) (L (S (za rfl) ?_))))))
    refine L (S (zH Tryz.underlying34 rfl) ?_)
    refine L (S (zG rfl rfl (decide_eq_true (by omega))) ?_)
    refine zg (zc (zr rfl (zo (zc (zf (zx (zf (zb (L (S (za rfl) ?_))))))))))
    refine L (S (zH Tryz.underlying34 rfl) ?_)
    refine L (S (zd rfl) (zg (zc (zf ?_))))
    refine ZG (γ := Unit) (fun _ => [(0, .slice (some ⟨ba, oa, none⟩) n c), (3, .slice B i d), (4, .int .i64 (i : Int)), (5, .int .i64 (plc lt x out i : Int))]) (fun _ wc => Mv No wr wc) ?_ ?_
    · refine zx ?_
      refine yF (γ := Nat) (fun k => [(0, .slice (some ⟨ba, oa, none⟩) n c), (3, .slice B i d), (4, .int .i64 (i : Int)), (5, .int .i64 (k : Int))]) (fun k wq => k ≤ i ∧ plc lt x out i = plc lt x out k ∧ Mv No wr wq) (fun k => k) i (.cons rfl (.cons rfl (.cons rfl (.cons rfl (.nil _))))) ⟨Nat.le_refl _, rfl, Mv.refl wr⟩ ?_
      rintro k wq ⟨hk, hp, hmq⟩
      rcases Nat.eq_zero_or_pos k with rfl | hk0
      · refine zf (zf ?_)
        refine yP 16 mixed rfl (fun hH => ?_)
        refine zp (i := 0) rfl (PureV.toS (za rfl)) ?_ (by assumption) (by decide +kernel) (by decide +kernel) (by decide +kernel) (fun _ _ _ _ h => h) rfl rfl rfl
        refine zp (i := 1) rfl (PureV.toS (yp rfl rfl (decide_eq_false (by omega)))) ?_ (by assumption) (by decide +kernel) (by decide +kernel) (by decide +kernel) (fun _ _ _ _ h => h) rfl rfl rfl
        refine zp (i := 2) rfl (PureV.toS (za rfl)) ?_ (by assumption) (by decide +kernel) (by decide +kernel) (by decide +kernel) (fun _ _ _ _ h => h) rfl rfl rfl
        refine ym (i := 3) (j := 2) (dj := 17) (b := true) (b' := false) rfl rfl ?_ (by assumption) (by decide +kernel) (by decide +kernel) (by decide +kernel) (fun _ _ _ _ h => h) rfl rfl rfl rfl rfl
        refine ym (i := 4) (j := 2) (dj := 17) (b := true) (b' := false) rfl rfl ?_ (by assumption) (by decide +kernel) (by decide +kernel) (by decide +kernel) (fun _ _ _ _ h => h) rfl rfl rfl rfl rfl
        refine ym (i := 5) (j := 2) (dj := 17) (b := true) (b' := false) rfl rfl ?_ (by assumption) (by decide +kernel) (by decide +kernel) (by decide +kernel) (fun _ _ _ _ h => h) rfl rfl rfl rfl rfl
        refine ym (i := 6) (j := 2) (dj := 17) (b := true) (b' := false) rfl rfl ?_ (by assumption) (by decide +kernel) (by decide +kernel) (by decide +kernel) (fun _ _ _ _ h => h) rfl rfl rfl rfl rfl
        refine ym (i := 7) (j := 2) (dj := 17) (b := true) (b' := false) rfl rfl ?_ (by assumption) (by decide +kernel) (by decide +kernel) (by decide +kernel) (fun _ _ _ _ h => h) rfl rfl rfl rfl rfl
        refine ym (i := 8) (j := 2) (dj := 17) (b := true) (b' := false) rfl rfl ?_ (by assumption) (by decide +kernel) (by decide +kernel) (by decide +kernel) (fun _ _ _ _ h => h) rfl rfl rfl rfl rfl
        refine ym (i := 9) (j := 2) (dj := 17) (b := true) (b' := false) rfl rfl ?_ (by assumption) (by decide +kernel) (by decide +kernel) (by decide +kernel) (fun _ _ _ _ h => h) rfl rfl rfl rfl rfl
        refine ym (i := 10) (j := 2) (dj := 17) (b := true) (b' := false) rfl rfl ?_ (by assumption) (by decide +kernel) (by decide +kernel) (by decide +kernel) (fun _ _ _ _ h => h) rfl rfl rfl rfl rfl
        refine ym (i := 11) (j := 2) (dj := 17) (b := true) (b' := false) rfl rfl ?_ (by assumption) (by decide +kernel) (by decide +kernel) (by decide +kernel) (fun _ _ _ _ h => h) rfl rfl rfl rfl rfl
        refine ym (i := 12) (j := 2) (dj := 17) (b := true) (b' := false) rfl rfl ?_ (by assumption) (by decide +kernel) (by decide +kernel) (by decide +kernel) (fun _ _ _ _ h => h) rfl rfl rfl rfl rfl
        refine ym (i := 13) (j := 2) (dj := 17) (b := true) (b' := false) rfl rfl ?_ (by assumption) (by decide +kernel) (by decide +kernel) (by decide +kernel) (fun _ _ _ _ h => h) rfl rfl rfl rfl rfl
        refine ym (i := 14) (j := 2) (dj := 17) (b := true) (b' := false) rfl rfl ?_ (by assumption) (by decide +kernel) (by decide +kernel) (by decide +kernel) (fun _ _ _ _ h => h) rfl rfl rfl rfl rfl
        refine zp (i := 15) rfl (PureV.toS (zj rfl rfl)) ?_ (by assumption) (by decide +kernel) (by decide +kernel) (by decide +kernel) (fun _ _ _ _ h => h) rfl rfl rfl
        refine yZ (by decide +kernel) ?_
        refine zc (zk rfl (yn (zL (zL (yK (zc ?_))))))
        exact ⟨rfl, (), by rw [show plc lt x out i = 0 from hp]; exact (.cons rfl (.cons rfl (.cons rfl (.cons rfl (.nil _))))), hmq.no hH⟩
      obtain ⟨k, rfl⟩ : ∃ q, k = q + 1 := ⟨k - 1, by omega⟩
      have hy := List.getElem?_eq_getElem (show k < out.length by omega)
      generalize out[k] = y at hy
      obtain ⟨bo, oo, hBe, -, hroy⟩ := yr yI (by decide) (hob.1.no hmq) hy
      subst hBe
      have hrx := hrow.no hmq
      have hpl : plc lt x out (k + 1) = if lt x y = true then plc lt x out k else k + 1 := by
        rw [show plc lt x out (k + 1) = if (out[k]?.any fun y => lt x y) = true then plc lt x out k else k + 1 from rfl, hy]; rfl
      have hlb : lt x y = ltN x.name y.name := by rw [← hlt]
      cases hxy : lt x y with
      | false =>
        rw [hxy, if_neg (by decide)] at hpl
        rw [hxy] at hlb
        refine zf (zf ?_)
        refine yP 16 mixed rfl (fun hH => ?_)
        refine zp (i := 0) rfl (PureV.toS (za rfl)) ?_ (by assumption) (by decide +kernel) (by decide +kernel) (by decide +kernel) (fun _ _ _ _ h => h) rfl rfl rfl
        refine zp (i := 1) rfl (PureV.toS (yp rfl rfl (decide_eq_true (by omega)))) ?_ (by assumption) (by decide +kernel) (by decide +kernel) (by decide +kernel) (fun _ _ _ _ h => h) rfl rfl rfl
        refine zp (i := 2) rfl (PureV.toS (za rfl)) ?_ (by assumption) (by decide +kernel) (by decide +kernel) (by decide +kernel) (fun _ _ _ _ h => h) rfl rfl rfl
        refine zz (i := 3) (j := 2) (dj := 17) (b := true) rfl (PureV.toS (za rfl)) rfl ?_ (by assumption) (by decide +kernel) (by decide +kernel) (by decide +kernel) (fun _ _ _ _ h => h) rfl rfl rfl rfl
        refine zz (i := 4) (j := 2) (dj := 17) (b := true) rfl (PureV.toS (za rfl)) rfl ?_ (by assumption) (by decide +kernel) (by decide +kernel) (by decide +kernel) (fun _ _ _ _ h => h) rfl rfl rfl rfl
        refine zz (i := 5) (j := 2) (dj := 17) (b := true) rfl (PureV.toS (zn Tryz.underlying34 (zD yl) rfl rfl (j := i) rfl (by omega) (p := oa + i * 5) (by omega))) rfl ?_ (by assumption) (by decide +kernel) (by decide +kernel) (by decide +kernel) (fun _ _ _ _ h => h) rfl rfl rfl rfl
        refine zz (i := 6) (j := 2) (dj := 17) (b := true) rfl (PureV.toS (ze yG rfl)) rfl ?_ (by assumption) (by decide +kernel) (by decide +kernel) (by decide +kernel) (fun _ _ _ _ h => h) rfl rfl rfl rfl
        refine zz (i := 7) (j := 2) (dj := 17) (b := true) rfl (ya yc rfl (fun _ h => (hrx.no h) 0 _ rfl)) rfl ?_ (by assumption) (by decide +kernel) (by decide +kernel) (by decide +kernel) (fun _ _ _ _ h => h) rfl rfl rfl rfl
        refine zz (i := 8) (j := 2) (dj := 17) (b := true) rfl (PureV.toS (za rfl)) rfl ?_ (by assumption) (by decide +kernel) (by decide +kernel) (by decide +kernel) (fun _ _ _ _ h => h) rfl rfl rfl rfl
        refine zz (i := 9) (j := 2) (dj := 17) (b := true) rfl (PureV.toS (za rfl)) rfl ?_ (by assumption) (by decide +kernel) (by decide +kernel) (by decide +kernel) (fun _ _ _ _ h => h) rfl rfl rfl rfl
        refine zz (i := 10) (j := 2) (dj := 17) (b := true) rfl (PureV.toS (Zd rfl rfl (z1 (c := ((k : Nat) : Int)) (by omega)))) rfl ?_ (by assumption) (by decide +kernel) (by decide +kernel) (by decide +kernel) (fun _ _ _ _ h => h) rfl rfl rfl rfl
        refine zz (i := 11) (j := 2) (dj := 17) (b := true) rfl (PureV.toS (zn Tryz.underlying34 (zD yl) rfl rfl (j := k) rfl (by omega) (p := oo + k * 5) (by omega))) rfl ?_ (by assumption) (by decide +kernel) (by decide +kernel) (by decide +kernel) (fun _ _ _ _ h => h) rfl rfl rfl rfl
        refine zz (i := 12) (j := 2) (dj := 17) (b := true) rfl (PureV.toS (ze yG rfl)) rfl ?_ (by assumption) (by decide +kernel) (by decide +kernel) (by decide +kernel) (fun _ _ _ _ h => h) rfl rfl rfl rfl
        refine zz (i := 13) (j := 2) (dj := 17) (b := true) rfl (ya yc rfl (fun _ h => (hroy.no h) 0 _ rfl)) rfl ?_ (by assumption) (by decide +kernel) (by decide +kernel) (by decide +kernel) (fun _ _ _ _ h => h) rfl rfl rfl rfl
        refine zz (i := 14) (j := 2) (dj := 17) (b := true) rfl (PureV.toS (P_ltT rfl rfl hlb.symm)) rfl ?_ (by assumption) (by decide +kernel) (by decide +kernel) (by decide +kernel) (fun _ _ _ _ h => h) rfl rfl rfl rfl
        refine zp (i := 15) rfl (PureV.toS (zt rfl rfl)) ?_ (by assumption) (by decide +kernel) (by decide +kernel) (by decide +kernel) (fun _ _ _ _ h => h) rfl rfl rfl
        refine yZ (by decide +kernel) ?_
        refine zc (zk rfl (yn (zL (zL (yK (zc ?_))))))
        exact ⟨rfl, (), by rw [hp, hpl]; exact (.cons rfl (.cons rfl (.cons rfl (.cons rfl (.nil _))))), hmq.no hH⟩
      | true =>
        rw [hxy, if_pos rfl] at hpl
        rw [hxy] at hlb
        refine zf (zf ?_)
        refine yP 16 mixed rfl (fun hH => ?_)
        refine zp (i := 0) rfl (PureV.toS (za rfl)) ?_ (by assumption) (by decide +kernel) (by decide +kernel) (by decide +kernel) (fun _ _ _ _ h => h) rfl rfl rfl
        refine zp (i := 1) rfl (PureV.toS (yp rfl rfl (decide_eq_true (by omega)))) ?_ (by assumption) (by decide +kernel) (by decide +kernel) (by decide +kernel) (fun _ _ _ _ h => h) rfl rfl rfl
        refine zp (i := 2) rfl (PureV.toS (za rfl)) ?_ (by assumption) (by decide +kernel) (by decide +kernel) (by decide +kernel) (fun _ _ _ _ h => h) rfl rfl rfl
        refine zz (i := 3) (j := 2) (dj := 17) (b := true) rfl (PureV.toS (za rfl)) rfl ?_ (by assumption) (by decide +kernel) (by decide +kernel) (by decide +kernel) (fun _ _ _ _ h => h) rfl rfl rfl rfl
        refine zz (i := 4) (j := 2) (dj := 17) (b := true) rfl (PureV.toS (za rfl)) rfl ?_ (by assumption) (by decide +kernel) (by decide +kernel) (by decide +kernel) (fun _ _ _ _ h => h) rfl rfl rfl rfl
        refine zz (i := 5) (j := 2) (dj := 17) (b := true) rfl (PureV.toS (zn Tryz.underlying34 (zD yl) rfl rfl (j := i) rfl (by omega) (p := oa + i * 5) (by omega))) rfl ?_ (by assumption) (by decide +kernel) (by decide +kernel) (by decide +kernel) (fun _ _ _ _ h => h) rfl rfl rfl rfl
        refine zz (i := 6) (j := 2) (dj := 17) (b := true) rfl (PureV.toS (ze yG rfl)) rfl ?_ (by assumption) (by decide +kernel) (by decide +kernel) (by decide +kernel) (fun _ _ _ _ h => h) rfl rfl rfl rfl
        refine zz (i := 7) (j := 2) (dj := 17) (b := true) rfl (ya yc rfl (fun _ h => (hrx.no h) 0 _ rfl)) rfl ?_ (by assumption) (by decide +kernel) (by decide +kernel) (by decide +kernel) (fun _ _ _ _ h => h) rfl rfl rfl rfl
        refine zz (i := 8) (j := 2) (dj := 17) (b := true) rfl (PureV.toS (za rfl)) rfl ?_ (by assumption) (by decide +kernel) (by decide +kernel) (by decide +kernel) (fun _ _ _ _ h => h) rfl rfl rfl rfl
        refine zz (i := 9) (j := 2) (dj := 17) (b := true) rfl (PureV.toS (za rfl)) rfl ?_ (by assumption) (by decide +kernel) (by decide +kernel) (by decide +kernel) (fun _ _ _ _ h => h) rfl rfl rfl rfl
        refine zz (i := 10) (j := 2) (dj := 17) (b := true) rfl (PureV.toS (Zd rfl rfl (z1 (c := ((k : Nat) : Int)) (by omega)))) rfl ?_ (by assumption) (by decide +kernel) (by decide +kernel) (by decide +kernel) (fun _ _ _ _ h => h) rfl rfl rfl rfl
        refine zz (i := 11) (j := 2) (dj := 17) (b := true) rfl (PureV.toS (zn Tryz.underlying34 (zD yl) rfl rfl (j := k) rfl (by omega) (p := oo + k * 5) (by omega))) rfl ?_ (by assumption) (by decide +kernel) (by decide +kernel) (by decide +kernel) (fun _ _ _ _ h => h) rfl rfl rfl rfl
        refine zz (i := 12) (j := 2) (dj := 17) (b := true) rfl (PureV.toS (ze yG rfl)) rfl ?_ (by assumption) (by decide +kernel) (by decide +kernel) (by decide +kernel) (fun _ _ _ _ h => h) rfl rfl rfl rfl
        refine zz (i := 13) (j := 2) (dj := 17) (b := true) rfl (ya yc rfl (fun _ h => (hroy.no h) 0 _ rfl)) rfl ?_ (by assumption) (by decide +kernel) (by decide +kernel) (by decide +kernel) (fun _ _ _ _ h => h) rfl rfl rfl rfl
        refine zz (i := 14) (j := 2) (dj := 17) (b := true) rfl (PureV.toS (P_ltT rfl rfl hlb.symm)) rfl ?_ (by assumption) (by decide +kernel) (by decide +kernel) (by decide +kernel) (fun _ _ _ _ h => h) rfl rfl rfl rfl
        refine zp (i := 15) rfl (PureV.toS (zt rfl rfl)) ?_ (by assumption) (by decide +kernel) (by decide +kernel) (by decide +kernel) (fun _ _ _ _ h => h) rfl rfl rfl
        refine yZ (by decide +kernel) ?_
        refine zc (zr rfl (zo (zc (zx (zb (L (S (za rfl) ?_)))))))
        refine L (S (Zd rfl rfl (z1 (c := ((k : Nat) : Int)) (by omega))) ?_)
        refine L (S (zd rfl) (zg (yj (zc ?_))))
        exact ⟨rfl, k, (.cons rfl (.cons rfl (.cons rfl (.cons rfl (.nil _))))), ⟨by omega, hp.trans hpl, hmq.no hH⟩, by omega⟩
    rintro _ w4 hm4 f' hf'
    refine Zb hf' ?_
    clear hf' f'
    have hins : insB lt x out = out.take (plc lt x out i) ++ x :: out.drop (plc lt x out i) := by unfold insB; rw [hsl]
    generalize plc lt x out i = k at *
    have hrx := hrow.no hm4
    have ho4 := zE hor hm4
    have hpre : ∀ {wq}, Mv No w4 wq → SlR wq (cutA B 0 5 d) (zI yA (out.take k)) := fun h => SlR.pre yI ((yW ho4).1.no h) (by omega) k
    have hsuf : ∀ {wq}, Mv No w4 wq → SlR wq (cutA B k 5 d) (zI yA (out.drop k)) := fun h => by
      have h1 := ((yW ho4).1.no h).cut (l := k) (m := 5) (cap := d) (by rw [yB yI]; omega)
      rwa [Yh yI] at h1
    refine zf ?_
    refine ZT 10 mixed rfl ?_
    refine zF (i := 0) rfl (za rfl) ?_ (by decide +kernel) (by decide +kernel) (by decide +kernel) (fun _ _ _ _ h => h) rfl rfl rfl
    refine zF (i := 1) rfl (za rfl) ?_ (by decide +kernel) (by decide +kernel) (by decide +kernel) (fun _ _ _ _ h => h) rfl rfl rfl
    refine zF (i := 2) rfl (zn Tryz.underlying34 (zD yl) rfl rfl (j := i) rfl (by omega) (p := oa + i * 5) (by omega)) ?_ (by decide +kernel) (by decide +kernel) (by decide +kernel) (fun _ _ _ _ h => h) rfl rfl rfl
    refine zF (i := 5) rfl (za rfl) ?_ (by decide +kernel) (by decide +kernel) (by decide +kernel) (fun _ _ _ _ h => h) rfl rfl rfl
    refine zF (i := 6) rfl (za rfl) ?_ (by decide +kernel) (by decide +kernel) (by decide +kernel) (fun _ _ _ _ h => h) rfl rfl rfl
    refine zF (i := 7) rfl (YC Tryz.underlying34 (zD yl) rfl (zV (j := k) rfl rfl) yU (by omega) (by omega)) ?_ (by decide +kernel) (by decide +kernel) (by decide +kernel) (fun _ _ _ _ h => h) rfl rfl rfl
    refine zO (i := 3) (zS rfl (zB Zo rfl (hrx.no (Mv.refl _).drew) rfl ?_)) (by decide +kernel)
    refine zO (i := 4) (zS rfl (zU (l := [.tmp 36]) (vss := [yA x]) Tryz.underlying34 yl (by decide) rfl (by simp [yA, yq, Zt]) rfl (by decide) (by decide) ?_)) (by decide +kernel)
    rintro b7 w7 hb7 hm7 hn7
    refine zO (i := 8) (zS rfl (y9 Tryz.underlying34 yl rfl (by decide) rfl (hb7.own (n := 1) (m := 5) rfl (by decide) (Nat.le_refl b7) (by unfold maxLen; decide)) rfl (hsuf ((Mv.refl _).drew.no hm7)) (by rw [yB yI, List.length_drop]; omega) (Zn yN _) (Nat.le_of_lt hb7.lt) (by unfold maxLen; omega) (by omega) ?_)) (by decide +kernel)
    rintro A8 c8 w8 ho8 hm8
    refine zF (i := 9) rfl (zd rfl) ?_ (by decide +kernel) (by decide +kernel) (by decide +kernel) (fun _ _ _ _ h => h) rfl rfl rfl
    refine yH (by decide +kernel) ?_
    refine zc (zb ?_)
    refine L (ZQ Tryz.underlying34 yl ?_)
    rintro b9 w9 ho9 hm9 hn9
    refine L (S (za rfl) (L (S (za rfl) ?_)))
    refine L (S (YC Tryz.underlying34 (zD yl) rfl yU (zV (j := k) rfl rfl) (Nat.zero_le _) (by omega)) ?_)
    refine L (y9 Tryz.underlying34 yl rfl (by decide) rfl ho9 rfl (hpre ((((Mv.refl _).drew.no hm7).own hm8 (hb7.own (n := 1) (m := 5) rfl (by decide) (Nat.le_refl b7) (by unfold maxLen; decide)) hn7).no hm9)) (by rw [yB yI, List.length_take]; omega) (Zn yN _) hm9.size (by unfold maxLen; omega) (by omega) ?_)
    rintro A10 c10 w10 ho10 hm10
    refine L (S (za rfl) ?_)
    refine L (y9 Tryz.underlying34 yl rfl (by decide) rfl ho10 rfl (yW (yo (zE ho8 hm9) hm10 (fun q hq hq2 => by have := (ZN ho8 hq).2; have := (ZN ho9 hq2).1; omega))).1 (by rw [List.length_append, yB yI, List.length_drop, hsl, List.flatten_cons, List.flatten_nil, List.append_nil, yI]; omega) (fun u hu => (List.mem_append.1 hu).elim (fun hu => yN x u (by simpa using hu)) (Zn yN _ u)) (Nat.le_trans hm9.size hm10.size) (by unfold maxLen; omega) (by omega) ?_)
    rintro A11 c11 w11 ho11 hm11
    refine L (S (zd rfl) (zg (yj (zc (zb (L (S (za rfl) ?_)))))))
    refine L (S (zT rfl rfl (z1 (c := ((i + 1 : Nat) : Int)) (by omega))) ?_)
    refine L (S (zd rfl) (zg (zc ?_)))
    have hlen : 0 + (k - 0) + (1 + (i - k)) = i + 1 := by omega
    rw [hlen] at ho11
    have hm48 : Mv No w4 w8 := ((Mv.refl w4).drew.no hm7).own hm8 (hb7.own (n := 1) (m := 5) rfl (by decide) (Nat.le_refl b7) (by unfold maxLen; decide)) hn7
    have hm08 := (hmr.no hm4).no hm48
    have hm011 := ((hm08.no hm9).own hm10 ho9 hm08.size).own hm11 ho10 hm08.size
    refine ⟨rfl, (i + 1, A11, c11), by dsimp only; rw [← hlen]; exact (.cons rfl (.cons rfl (.cons rfl (.nil _)))), ⟨hc, ?_, hm011⟩, by dsimp only; omega⟩
    dsimp only
    rw [hsn, hins, yT, Yg]
    have h9 := Zs ho11 hm08.size
    rw [List.nil_append, List.flatten_cons, List.flatten_nil, List.append_nil] at h9
    exact h9
  · have e : xs.take i = xs := List.take_of_length_le (by omega)
    have hin : i = n := by omega
    subst hin
    rw [e] at hor
    refine zf (zf (zb (L (S (za rfl) (L (S (za rfl) ?_))))))
    refine L (S (zH Tryz.underlying34 rfl) ?_)
    refine L (S (zG rfl rfl (decide_eq_false (by omega))) ?_)
    refine zg (zc (zk rfl (yn (zL (zL (yK (zc (zf (zb (L (S (za rfl) (L (S (zd rfl) (zg (zc (zy ?_))))))))))))))))
    refine zC Tryz.results67 rfl ?_
    exact ⟨B, d, rfl, hor, hmr⟩
theorem refindexes_ret {xs : List Idx} {A : Option Addr} {c n : Nat} (hn : xs.length = n) (hA : SlR w A (zI yq xs)) (hl : n ≤ 1000) : Ret Tryz.prog 70 [.slice A n c] w fun v w' => ∃ B d, v = .slice B n d ∧ w'.ownsRow w.heap.size 30 6 (.slice B n d) n (zI yq (y6 (fun x y => ltN x.name y.name) xs)) ∧ Mv No w w' := by
  generalize hlt : (fun (x y : Idx) => ltN x.name y.name) = lt
  refine zN Tryz.func70 Tryz.ntmps70 rfl rfl ?_
  refine zf (zb (L (S (zd rfl) (zg (zc (zf (zb (L (S (zd rfl) (zg (zc (zf (zf (zb (L (S (zd rfl) (zg (zc (zx ?_)))))))))))))))))))
  refine yF (γ := Nat × Option Addr × Nat) (fun q => [(0, .slice A n c), (3, .slice q.2.1 q.1 q.2.2), (4, .int .i64 (q.1 : Int))]) (fun q wr => q.1 ≤ n ∧ wr.ownsRow w.heap.size 30 6 (.slice q.2.1 q.1 q.2.2) q.1 (zI yq (y6 lt (xs.take q.1))) ∧ Mv No w wr) (fun q => n - q.1) (0, none, 0) (.cons rfl (.cons rfl (.cons rfl (.nil _)))) ⟨Nat.zero_le _, Yl, Mv.refl w⟩ ?_
  rintro ⟨i, B, d⟩ wr ⟨hi, hor, hmr⟩
  dsimp only at hi hor
  dsimp only
  by_cases hc : i < n
  · have ha := List.getElem?_eq_getElem (show i < xs.length by omega)
    generalize xs[i] = x at ha
    have hsl : (y6 lt (xs.take i)).length = i := by rw [ZK, List.length_take]; omega
    have hsn : y6 lt (xs.take (i + 1)) = insB lt x (y6 lt (xs.take i)) := by rw [yY ha, sortI_snoc]
    generalize y6 lt (xs.take i) = out at *
    obtain ⟨ba, oa, hAe, -, hrow⟩ := yr yw (by decide) (hA.no hmr) ha
    subst hAe
    have hple := plc_le lt x out i
    have hob := yW hor
    refine zf (zf (zb (L (S (za rfl) (L (S (za rfl) ?_))))))
    refine L (S (zH Tryz.underlying35 rfl) ?_)
    refine L (S (zG rfl rfl (decide_eq_true (by omega))) ?_)
    refine zg (zc (zr rfl (zo (zc (zf (zx (zf (zb (L (S (za rfl) ?_))))))))))
    refine L (S (zH Tryz.underlying35 rfl) ?_)
    refine L (S (zd rfl) (zg (zc (zf ?_))))
    refine ZG (γ := Unit) (fun _ => [(0, .slice (some ⟨ba, oa, none⟩) n c), (3, .slice B i d), (4, .int .i64 (i : Int)), (5, .int .i64 (plc lt x out i : Int))]) (fun _ wc => Mv No wr wc) ?_ ?_
    · refine zx ?_
      refine yF (γ := Nat) (fun k => [(0, .slice (some ⟨ba, oa, none⟩) n c), (3, .slice B i d), (4, .int .i64 (i : Int)), (5, .int .i64 (k : Int))]) (fun k wq => k ≤ i ∧ plc lt x out i = plc lt x out k ∧ Mv No wr wq) (fun k => k) i (.cons rfl (.cons rfl (.cons rfl (.cons rfl (.nil _))))) ⟨Nat.le_refl _, rfl, Mv.refl wr⟩ ?_
      rintro k wq ⟨hk, hp, hmq⟩
      rcases Nat.eq_zero_or_pos k with rfl | hk0
      · refine zf (zf ?_)
        refine yP 16 mixed rfl (fun hH => ?_)
        refine zp (i := 0) rfl (PureV.toS (za rfl)) ?_ (by assumption) (by decide +kernel) (by decide +kernel) (by decide +kernel) (fun _ _ _ _ h => h) rfl rfl rfl
        refine zp (i := 1) rfl (PureV.toS (yp rfl rfl (decide_eq_false (by omega)))) ?_ (by assumption) (by decide +kernel) (by decide +kernel) (by decide +kernel) (fun _ _ _ _ h => h) rfl rfl rfl
        refine zp (i := 2) rfl (PureV.toS (za rfl)) ?_ (by assumption) (by decide +kernel) (by decide +kernel) (by decide +kernel) (fun _ _ _ _ h => h) rfl rfl rfl
        refine ym (i := 3) (j := 2) (dj := 17) (b := true) (b' := false) rfl rfl ?_ (by assumption) (by decide +kernel) (by decide +kernel) (by decide +kernel) (fun _ _ _ _ h => h) rfl rfl rfl rfl rfl
        refine ym (i := 4) (j := 2) (dj := 17) (b := true) (b' := false) rfl rfl ?_ (by assumption) (by decide +kernel) (by decide +kernel) (by decide +kernel) (fun _ _ _ _ h => h) rfl rfl rfl rfl rfl
        refine ym (i := 5) (j := 2) (dj := 17) (b := true) (b' := false) rfl rfl ?_ (by assumption) (by decide +kernel) (by decide +kernel) (by decide +kernel) (fun _ _ _ _ h => h) rfl rfl rfl rfl rfl
        refine ym (i := 6) (j := 2) (dj := 17) (b := true) (b' := false) rfl rfl ?_ (by assumption) (by decide +kernel) (by decide +kernel) (by decide +kernel) (fun _ _ _ _ h => h) rfl rfl rfl rfl rfl
        refine ym (i := 7) (j := 2) (dj := 17) (b := true) (b' := false) rfl rfl ?_ (by assumption) (by decide +kernel) (by decide +kernel) (by decide +kernel) (fun _ _ _ _ h => h) rfl rfl rfl rfl rfl
        refine ym (i := 8) (j := 2) (dj := 17) (b := true) (b' := false) rfl rfl ?_ (by assumption) (by decide +kernel) (by decide +kernel) (by decide +kernel) (fun _ _ _ _ h => h) rfl rfl rfl rfl rfl
        refine ym (i := 9) (j := 2) (dj := 17) (b := true) (b' := false) rfl rfl ?_ (by assumption) (by decide +kernel) (by decide +kernel) (by decide +kernel) (fun _ _ _ _ h => h) rfl rfl rfl rfl rfl
        refine ym (i := 10) (j := 2) (dj := 17) (b := true) (b' := false) rfl rfl ?_ (by assumption) (by decide +kernel) (by decide +kernel) (by decide +kernel) (fun _ _ _ _ h => h) rfl rfl rfl rfl rfl
        refine ym (i := 11) (j := 2) (dj := 17) (b := true) (b' := false) rfl rfl ?_ (by assumption) (by decide +kernel) (by decide +kernel) (by decide +kernel) (fun _ _ _ _ h => h) rfl rfl rfl rfl rfl
        refine ym (i := 12) (j := 2) (dj := 17) (b := true) (b' := false) rfl rfl ?_ (by assumption) (by decide +kernel) (by decide +kernel) (by decide +kernel) (fun _ _ _ _ h => h) rfl rfl rfl rfl rfl
        refine ym (i := 13) (j := 2) (dj := 17) (b := true) (b' := false) rfl rfl ?_ (by assumption) (by decide +kernel) (by decide +kernel) (by decide +kernel) (fun _ _ _ _ h => h) rfl rfl rfl rfl rfl
        refine ym (i := 14) (j := 2) (dj := 17) (b := true) (b' := false) rfl rfl ?_ (by assumption) (by decide +kernel) (by decide +kernel) (by decide +kernel) (fun _ _ _ _ h => h) rfl rfl rfl rfl rfl
        refine zp (i := 15) rfl (PureV.toS (zj rfl rfl)) ?_ (by assumption) (by decide +kernel) (by decide +kernel) (by decide +kernel) (fun _ _ _ _ h => h) rfl rfl rfl
        refine yZ (by decide +kernel) ?_
        refine zc (zk rfl (yn (zL (zL (yK (zc ?_))))))
        exact ⟨rfl, (), by rw [show plc lt x out i = 0 from hp]; exact (.cons rfl (.cons rfl (.cons rfl (.cons rfl (.nil _))))), hmq.no hH⟩
      obtain ⟨k, rfl⟩ : ∃ q, k = q + 1 := ⟨k - 1, by omega⟩
      have hy := List.getElem?_eq_getElem (show k < out.length by omega)
      generalize out[k] = y at hy
      obtain ⟨bo, oo, hBe, -, hroy⟩ := yr yw (by decide) (hob.1.no hmq) hy
      subst hBe
      have hrx := hrow.no hmq
      have hpl : plc lt x out (k + 1) = if lt x y = true then plc lt x out k else k + 1 := by
        rw [show plc lt x out (k + 1) = if (out[k]?.any fun y => lt x y) = true then plc lt x out k else k + 1 from rfl, hy]; rfl
      have hlb : lt x y = ltN x.name y.name := by rw [← hlt]
      cases hxy : lt x y with
      | false =>
        rw [hxy, if_neg (by decide)] at hpl
        rw [hxy] at hlb
        refine zf (zf ?_)
        refine yP 16 mixed rfl (fun hH => ?_)
        refine zp (i := 0) rfl (PureV.toS (za rfl)) ?_ (by assumption) (by decide +kernel) (by decide +kernel) (by decide +kernel) (fun _ _ _ _ h => h) rfl rfl rfl
        refine zp (i := 1) rfl (PureV.toS (yp rfl rfl (decide_eq_true (by omega)))) ?_ (by assumption) (by decide +kernel) (by decide +kernel) (by decide +kernel) (fun _ _ _ _ h => h) rfl rfl rfl
        refine zp (i := 2) rfl (PureV.toS (za rfl)) ?_ (by assumption) (by decide +kernel) (by decide +kernel) (by decide +kernel) (fun _ _ _ _ h => h) rfl rfl rfl
        refine zz (i := 3) (j := 2) (dj := 17) (b := true) rfl (PureV.toS (za rfl)) rfl ?_ (by assumption) (by decide +kernel) (by decide +kernel) (by decide +kernel) (fun _ _ _ _ h => h) rfl rfl rfl rfl
        refine zz (i := 4) (j := 2) (dj := 17) (b := true) rfl (PureV.toS (za rfl)) rfl ?_ (by assumption) (by decide +kernel) (by decide +kernel) (by decide +kernel) (fun _ _ _ _ h => h) rfl rfl rfl rfl
        refine zz (i := 5) (j := 2) (dj := 17) (b := true) rfl (PureV.toS (zn Tryz.underlying35 (zD yb) rfl rfl (j := i) rfl (by omega) (p := oa + i * 6) (by omega))) rfl ?_ (by assumption) (by decide +kernel) (by decide +kernel) (by decide +kernel) (fun _ _ _ _ h => h) rfl rfl rfl rfl
        refine zz (i := 6) (j := 2) (dj := 17) (b := true) rfl (PureV.toS (ze yx rfl)) rfl ?_ (by assumption) (by decide +kernel) (by decide +kernel) (by decide +kernel) (fun _ _ _ _ h => h) rfl rfl rfl rfl
        refine zz (i := 7) (j := 2) (dj := 17) (b := true) rfl (ya yc rfl (fun _ h => (hrx.no h) 0 _ rfl)) rfl ?_ (by assumption) (by decide +kernel) (by decide +kernel) (by decide +kernel) (fun _ _ _ _ h => h) rfl rfl rfl rfl
        refine zz (i := 8) (j := 2) (dj := 17) (b := true) rfl (PureV.toS (za rfl)) rfl ?_ (by assumption) (by decide +kernel) (by decide +kernel) (by decide +kernel) (fun _ _ _ _ h => h) rfl rfl rfl rfl
        refine zz (i := 9) (j := 2) (dj := 17) (b := true) rfl (PureV.toS (za rfl)) rfl ?_ (by assumption) (by decide +kernel) (by decide +kernel) (by decide +kernel) (fun _ _ _ _ h => h) rfl rfl rfl rfl
        refine zz (i := 10) (j := 2) (dj := 17) (b := true) rfl (PureV.toS (Zd rfl rfl (z1 (c := ((k : Nat) : Int)) (by omega)))) rfl ?_ (by assumption) (by decide +kernel) (by decide +kernel) (by decide +kernel) (fun _ _ _ _ h => h) rfl rfl rfl rfl
        refine zz (i := 11) (j := 2) (dj := 17) (b := true) rfl (PureV.toS (zn Tryz.underlying35 (zD yb) rfl rfl (j := k) rfl (by omega) (p := oo + k * 6) (by omega))) rfl ?_ (by assumption) (by decide +kernel) (by decide +kernel) (by decide +kernel) (fun _ _ _ _ h => h) rfl rfl rfl rfl
        refine zz (i := 12) (j := 2) (dj := 17) (b := true) rfl (PureV.toS (ze yx rfl)) rfl ?_ (by assumption) (by decide +kernel) (by decide +kernel) (by decide +kernel) (fun _ _ _ _ h => h) rfl rfl rfl rfl
        refine zz (i := 13) (j := 2) (dj := 17) (b := true) rfl (ya yc rfl (fun _ h => (hroy.no h) 0 _ rfl)) rfl ?_ (by assumption) (by decide +kernel) (by decide +kernel) (by decide +kernel) (fun _ _ _ _ h => h) rfl rfl rfl rfl
        refine zz (i := 14) (j := 2) (dj := 17) (b := true) rfl (PureV.toS (P_ltT rfl rfl hlb.symm)) rfl ?_ (by assumption) (by decide +kernel) (by decide +kernel) (by decide +kernel) (fun _ _ _ _ h => h) rfl rfl rfl rfl
        refine zp (i := 15) rfl (PureV.toS (zt rfl rfl)) ?_ (by assumption) (by decide +kernel) (by decide +kernel) (by decide +kernel) (fun _ _ _ _ h => h) rfl rfl rfl
        refine yZ (by decide +kernel) ?_
        refine zc (zk rfl (yn (zL (zL (yK (zc ?_))))))
        exact ⟨rfl, (), by rw [hp, hpl]; exact (.cons rfl (.cons rfl (.cons rfl (.cons rfl (.nil _))))), hmq.no hH⟩
      | true =>
        rw [hxy, if_pos rfl] at hpl
        rw [hxy] at hlb
        refine zf (zf ?_)
        refine yP 16 mixed rfl (fun hH => ?_)
        refine zp (i := 0) rfl (PureV.toS (za rfl)) ?_ (by assumption) (by decide +kernel) (by decide +kernel) (by decide +kernel) (fun _ _ _ _ h => h) rfl rfl rfl
        refine zp (i := 1) rfl (PureV.toS (yp rfl rfl (decide_eq_true (by omega)))) ?_ (by assumption) (by decide +kernel) (by decide +kernel) (by decide +kernel) (fun _ _ _ _ h => h) rfl rfl rfl
        refine zp (i := 2) rfl (PureV.toS (za rfl)) ?_ (by assumption) (by decide +kernel) (by decide +kernel) (by decide +kernel) (fun _ _ _ _ h => h) rfl rfl rfl
        refine zz (i := 3) (j := 2) (dj := 17) (b := true) rfl (PureV.toS (za rfl)) rfl ?_ (by assumption) (by decide +kernel) (by decide +kernel) (by decide +kernel) (fun _ _ _ _ h => h) rfl rfl rfl rfl
        refine zz (i := 4) (j := 2) (dj := 17) (b := true) rfl (PureV.toS (za rfl)) rfl ?_ (by assumption) (by decide +kernel) (by decide +kernel) (by decide +kernel) (fun _ _ _ _ h => h) rfl rfl rfl rfl
        refine zz (i := 5) (j := 2) (dj := 17) (b := true) rfl (PureV.toS (zn Tryz.underlying35 (zD yb) rfl rfl (j := i) rfl (by omega) (p := oa + i * 6) (by omega))) rfl ?_ (by assumption) (by decide +kernel) (by decide +kernel) (by decide +kernel) (fun _ _ _ _ h => h) rfl rfl rfl rfl
        refine zz (i := 6) (j := 2) (dj := 17) (b := true) rfl (PureV.toS (ze yx rfl)) rfl ?_ (by assumption) (by decide +kernel) (by decide +kernel) (by decide +kernel) (fun _ _ _ _ h => h) rfl rfl rfl rfl
        refine zz (i := 7) (j := 2) (dj := 17) (b := true) rfl (ya yc rfl (fun _ h => (hrx.no h) 0 _ rfl)) rfl ?_ (by assumption) (by decide +kernel) (by decide +kernel) (by decide +kernel) (fun _ _ _ _ h => h) rfl rfl rfl rfl
        refine zz (i := 8) (j := 2) (dj := 17) (b := true) rfl (PureV.toS (za rfl)) rfl ?_ (by assumption) (by decide +kernel) (by decide +kernel) (by decide +kernel) (fun _ _ _ _ h => h) rfl rfl rfl rfl
        refine zz (i := 9) (j := 2) (dj := 17) (b := true) rfl (PureV.toS (za rfl)) rfl ?_ (by assumption) (by decide +kernel) (by decide +kernel) (by decide +kernel) (fun _ _ _ _ h => h) rfl rfl rfl rfl
        refine zz (i := 10) (j := 2) (dj := 17) (b := true) rfl (PureV.toS (Zd rfl rfl (z1 (c := ((k : Nat) : Int)) (by omega)))) rfl ?_ (by assumption) (by decide +kernel) (by decide +kernel) (by decide +kernel) (fun _ _ _ _ h => h) rfl rfl rfl rfl
        refine zz (i := 11) (j := 2) (dj := 17) (b := true) rfl (PureV.toS (zn Tryz.underlying35 (zD yb) rfl rfl (j := k) rfl (by omega) (p := oo + k * 6) (by omega))) rfl ?_ (by assumption) (by decide +kernel) (by decide +kernel) (by decide +kernel) (fun _ _ _ _ h => h) rfl rfl rfl rfl
        refine zz (i := 12) (j := 2) (dj := 17) (b := true) rfl (PureV.toS (ze yx rfl)) rfl ?_ (by assumption) (by decide +kernel) (by decide +kernel) (by decide +kernel) (fun _ _ _ _ h => h) rfl rfl rfl rfl
        refine zz (i := 13) (j := 2) (dj := 17) (b := true) rfl (ya yc rfl (fun _ h => (hroy.no h) 0 _ rfl)) rfl ?_ (by assumption) (by decide +kernel) (by decide +kernel) (by decide +kernel) (fun _ _ _ _ h => h) rfl rfl rfl rfl
        refine zz (i := 14) (j := 2) (dj := 17) (b := true) rfl (PureV.toS (P_ltT rfl rfl hlb.symm)) rfl ?_ (by assumption) (by decide +kernel) (by decide +kernel) (by decide +kernel) (fun _ _ _ _ h => h) rfl rfl rfl rfl
        refine zp (i := 15) rfl (PureV.toS (zt rfl rfl)) ?_ (by assumption) (by decide +kernel) (by decide +kernel) (by decide +kernel) (fun _ _ _ _ h => h) rfl rfl rfl
        refine yZ (by decide +kernel) ?_
        refine zc (zr rfl (zo (zc (zx (zb (L (S (za rfl) ?_)))))))
        refine L (S (Zd rfl rfl (z1 (c := ((k : Nat) : Int)) (by omega))) ?_)
        refine L (S (zd rfl) (zg (yj (zc ?_))))
        exact ⟨rfl, k, (.cons rfl (.cons rfl (.cons rfl (.cons rfl (.nil _))))), ⟨by omega, hp.trans hpl, hmq.no hH⟩, by omega⟩
    rintro _ w4 hm4 f' hf'
    refine Zb hf' ?_
    clear hf' f'
    have hins : insB lt x out = out.take (plc lt x out i) ++ x :: out.drop (plc lt x out i) := by unfold insB; rw [hsl]
    generalize plc lt x out i = k at *
    have hrx := hrow.no hm4
    have ho4 := zE hor hm4
    have hpre : ∀ {wq}, Mv No w4 wq → SlR wq (cutA B 0 6 d) (zI yq (out.take k)) := fun h => SlR.pre yw ((yW ho4).1.no h) (by omega) k
    have hsuf : ∀ {wq}, Mv No w4 wq → SlR wq (cutA B k 6 d) (zI yq (out.drop k)) := fun h => by
      have h1 := ((yW ho4).1.no h).cut (l := k) (m := 6) (cap := d) (by rw [yB yw]; omega)
      rwa [Yh yw] at h1
    refine zf ?_
    refine ZT 10 mixed rfl ?_
    refine zF (i := 0) rfl (za rfl) ?_ (by decide +kernel) (by decide +kernel) (by decide +kernel) (fun _ _ _ _ h => h) rfl rfl rfl
    refine zF (i := 1) rfl (za rfl) ?_ (by decide +kernel) (by decide +kernel) (by decide +kernel) (fun _ _ _ _ h => h) rfl rfl rfl
    refine zF (i := 2) rfl (zn Tryz.underlying35 (zD yb) rfl rfl (j := i) rfl (by omega) (p := oa + i * 6) (by omega)) ?_ (by decide +kernel) (by decide +kernel) (by decide +kernel) (fun _ _ _ _ h => h) rfl rfl rfl
    refine zF (i := 5) rfl (za rfl) ?_ (by decide +kernel) (by decide +kernel) (by decide +kernel) (fun _ _ _ _ h => h) rfl rfl rfl
    refine zF (i := 6) rfl (za rfl) ?_ (by decide +kernel) (by decide +kernel) (by decide +kernel) (fun _ _ _ _ h => h) rfl rfl rfl
    refine zF (i := 7) rfl (YC Tryz.underlying35 (zD yb) rfl (zV (j := k) rfl rfl) yU (by omega) (by omega)) ?_ (by decide +kernel) (by decide +kernel) (by decide +kernel) (fun _ _ _ _ h => h) rfl rfl rfl
    refine zO (i := 3) (zS rfl (zB Zu rfl (hrx.no (Mv.refl _).drew) rfl ?_)) (by decide +kernel)
    refine zO (i := 4) (zS rfl (zU (l := [.tmp 36]) (vss := [yq x]) Tryz.underlying35 yb (by decide) rfl (by simp [yA, yq, Zt]) rfl (by decide) (by decide) ?_)) (by decide +kernel)
    rintro b7 w7 hb7 hm7 hn7
    refine zO (i := 8) (zS rfl (y9 Tryz.underlying35 yb rfl (by decide) rfl (hb7.own (n := 1) (m := 6) rfl (by decide) (Nat.le_refl b7) (by unfold maxLen; decide)) rfl (hsuf ((Mv.refl _).drew.no hm7)) (by rw [yB yw, List.length_drop]; omega) (Zn yz _) (Nat.le_of_lt hb7.lt) (by unfold maxLen; omega) (by omega) ?_)) (by decide +kernel)
    rintro A8 c8 w8 ho8 hm8
    refine zF (i := 9) rfl (zd rfl) ?_ (by decide +kernel) (by decide +kernel) (by decide +kernel) (fun _ _ _ _ h => h) rfl rfl rfl
    refine yH (by decide +kernel) ?_
    refine zc (zb ?_)
    refine L (ZQ Tryz.underlying35 yb ?_)
    rintro b9 w9 ho9 hm9 hn9
    refine L (S (za rfl) (L (S (za rfl) ?_)))
    refine L (S (YC Tryz.underlying35 (zD yb) rfl yU (zV (j := k) rfl rfl) (Nat.zero_le _) (by omega)) ?_)
    refine L (y9 Tryz.underlying35 yb rfl (by decide) rfl ho9 rfl (hpre ((((Mv.refl _).drew.no hm7).own hm8 (hb7.own (n := 1) (m := 6) rfl (by decide) (Nat.le_refl b7) (by unfold maxLen; decide)) hn7).no hm9)) (by rw [yB yw, List.length_take]; omega) (Zn yz _) hm9.size (by unfold maxLen; omega) (by omega) ?_)
    rintro A10 c10 w10 ho10 hm10
    refine L (S (za rfl) ?_)
    refine L (y9 Tryz.underlying35 yb rfl (by decide) rfl ho10 rfl (yW (yo (zE ho8 hm9) hm10 (fun q hq hq2 => by have := (ZN ho8 hq).2; have := (ZN ho9 hq2).1; omega))).1 (by rw [List.length_append, yB yw, List.length_drop, hsl, List.flatten_cons, List.flatten_nil, List.append_nil, yw]; omega) (fun u hu => (List.mem_append.1 hu).elim (fun hu => yz x u (by simpa using hu)) (Zn yz _ u)) (Nat.le_trans hm9.size hm10.size) (by unfold maxLen; omega) (by omega) ?_)
    rintro A11 c11 w11 ho11 hm11
    refine L (S (zd rfl) (zg (yj (zc (zb (L (S (za rfl) ?_)))))))
    refine L (S (zT rfl rfl (z1 (c := ((i + 1 : Nat) : Int)) (by omega))) ?_)
    refine L (S (zd rfl) (zg (zc ?_)))
    have hlen : 0 + (k - 0) + (1 + (i - k)) = i + 1 := by omega
    rw [hlen] at ho11
    have hm48 : Mv No w4 w8 := ((Mv.refl w4).drew.no hm7).own hm8 (hb7.own (n := 1) (m := 6) rfl (by decide) (Nat.le_refl b7) (by unfold maxLen; decide)) hn7
    have hm08 := (hmr.no hm4).no hm48
    have hm011 := ((hm08.no hm9).own hm10 ho9 hm08.size).own hm11 ho10 hm08.size
    refine ⟨rfl, (i + 1, A11, c11), by dsimp only; rw [← hlen]; exact (.cons rfl (.cons rfl (.cons rfl (.nil _)))), ⟨hc, ?_, hm011⟩, by dsimp only; omega⟩
    dsimp only
    rw [hsn, hins, yT, Yg]
    have h9 := Zs ho11 hm08.size
    rw [List.nil_append, List.flatten_cons, List.flatten_nil, List.append_nil] at h9
    exact h9
  · have e : xs.take i = xs := List.take_of_length_le (by omega)
    have hin : i = n := by omega
    subst hin
    rw [e] at hor
    refine zf (zf (zb (L (S (za rfl) (L (S (za rfl) ?_))))))
    refine L (S (zH Tryz.underlying35 rfl) ?_)
    refine L (S (zG rfl rfl (decide_eq_false (by omega))) ?_)
    refine zg (zc (zk rfl (yn (zL (zL (yK (zc (zf (zb (L (S (za rfl) (L (S (zd rfl) (zg (zc (zy ?_))))))))))))))))
    refine zC Tryz.results70 rfl ?_
    exact ⟨B, d, rfl, hor, hmr⟩
end
end Go.Proofs.YtnoioimphcmeiaaGreatDoor
namespace Go.Proofs.YtnoioimphcmeiaaGreatDoor
open Go.RowKit
set_option maxRecDepth 20000
set_option maxHeartbeats 2000000

section
variable {P : Program} {n : Nat} {N : Nxt} {Q : Post} {f : Fr} {ds : List Deferred} {w : World}
variable {d : Nat} {x y : Operand} {t ty : TypeId} {pos : String} {af : Array Edge} {g : Option (Nat × Bool)}
/-- 'append', the length by another name. -/
theorem Zk {e : TypeId} {z : Value} {m by_ base : Nat} {v : Value} {len : Nat} {xs : List Value} {A : Option Addr} {k c : Nat} {news : List Value}
    (hu : P.underlying t = some (.slice e)) (hi : Zm P e = some (some z, m, by_)) (hz : z.cells.size = m) (hm : 0 < m) (hx : ev f x = some v) (hown : w.ownsRow base e m v len xs) (hy : ev f y = some (.slice A k c)) (hr : SlR w A news) (hl : news.length = k * m)
    (hone : ∀ u ∈ news, u.oneCell' = true) (hbase : base ≤ w.heap.size) (h63 : len + k ≤ maxLen) (hby : (len + k) * by_ ≤ 140737488355328) {q : Nat} (hq : len + k = q) {ys : List Value} (hys : xs ++ news = ys)
    (h : ∀ A' c' w', w'.ownsRow base e m (.slice A' q c') q ys → Mv (Zx v) w w' → N ((d, .slice A' q c') :: f) ds w') (hn : Nat.blt d n = true := by rfl) :
    opF P n ⟨some d, .call { callee := .builtin .append, args := #[x, y], argTypes := #[t, t] }, ty, pos, af, g⟩ N Q f ds w := by
  subst hq; subst hys
  exact y9 hu hi hz hm hx hown hy hr hl hone hbase h63 hby h hn
end
section
variable {w : World}
theorem SchOk.setT {s : Sch} {ts : List Tab} {A : Option Addr} {c : Nat} (h : SchOk w s) (h1 : SlR w A (zI yA ts)) (h2 : ts.length ≤ c) (h3 : ∀ t ∈ ts, TabOk w t) : SchOk w { s with tabs := ts, A := A, c := c } := ⟨h1, h2, h3, h.isl, h.ile, h.idx⟩
theorem SchOk.setI {s : Sch} {ts : List Idx} {A : Option Addr} {c : Nat} (h : SchOk w s) (h1 : SlR w A (zI yq ts)) (h2 : ts.length ≤ c) (h3 : ∀ t ∈ ts, IdxOk w t) : SchOk w { s with idxs := ts, B := A, d := c } := ⟨h.tsl, h.tle, h.tab, h1, h2, h3⟩
theorem refput_ret (hv : Vr w) {s : Sch} {t : Tab} (hs : SchOk w s) (ht : TabOk w t) (hsm : SchSm s) (htm : TabSm t) : Ret Tryz.prog 33 [.agg (zM s).toArray, .agg (yA t).toArray] w fun v w' => ∃ o, v = .tuple #[.agg (zM o).toArray, .int .i64 (tE (s.tabs.map Tab.d) t.d : Nat)] ∧ SchOk w' o ∧ (tE (s.tabs.map Tab.d) t.d ≠ 0 → o = zX) ∧ (tE (s.tabs.map Tab.d) t.d = 0 → o.tabs.map Tab.d = tPut (s.tabs.map Tab.d) t.d ∧ o.idxs.map Idx.d_ = s.idxs.map Idx.d_) ∧ Mv No w w' := by
  have hl1 := hsm.lt
  have hl2 := hsm.li
  have hc1 := htm.cl
  have hn1 := htm.nm
  have hmap : (s.tabs.map Tab.d).length = s.tabs.length := List.length_map ..
  refine zN Tryz.func33 Tryz.ntmps33 rfl rfl ?_
  refine zf (zb ?_)
  refine L (Zl rfl ?_)
  rintro b2 w2 hb2 hm2 hn2
  refine L (Zl rfl ?_)
  rintro b3 w3 hb3 hm3 hn3
  refine L (ye (zs := [(.slice none 0 0), (.slice none 0 0)]) z6 rfl ?_)
  rintro b4 w4 hb4 hm4 hn4
  refine L (S (zd rfl) (zg (zc (zf (zb ?_)))))
  refine L (zB zZ rfl ((hb2.no hm3).no hm4).row rfl ?_)
  refine L (S (ze yG rfl) ?_)
  refine L (zi yc rfl ((hb3.no hm4).cell (i := 0) rfl) ?_)
  refine L (zq cb_16 rfl ((reftable_ret (s := s) (((hs.tsl.no hm2).no hm3).no hm4) (by omega) t.name)) ?_)
  rintro _ w5 ⟨rfl, hm5⟩
  refine L (S (zd rfl) (zg (zc (zf (zf ?_)))))
  have hm05 := ((hm2.no hm3).no hm4).no hm5
  have z2 := hm2.size
  have z3 := hm3.size
  have y4 := hb4.lt
  have y3 := hb3.lt
  have y2 := hb2.lt
  have z4 := hm4.size
  have z5 := hm5.size
  have hB2 : ∀ {wq}, Mv No w5 wq → Blk wq b2 (zM s) 37 := fun h => (((hb2.no hm3).no hm4).no hm5).no h
  have hB3 : ∀ {wq}, Mv No w5 wq → Blk wq b3 (yA t) 27 := fun h => ((hb3.no hm4).no hm5).no h
  have hB4 : ∀ {wq}, Mv No w5 wq → Blk wq b4 (zM zX) 37 := fun h => (hb4.no hm5).no h
  have hN : ∀ {β : Bool}, ZD t.name = β → _ := fun {β} h => refname_is (β := β) (hv.no hm05) (show t.name.length ≤ 100000 by omega) h
  rw [tAt_map]
  have htE : tE (s.tabs.map Tab.d) t.d = if ZD t.name = false ∨ t.root < 1 ∨ t.root > 1600 ∨ t.next < 1 ∨ t.rows < 0 then 7 else if tAt (s.tabs.map Tab.d) t.name < 0 ∧ 8 ≤ s.tabs.length then 11 else colsE t.cols := by unfold tE; rw [hmap]; rfl
  have htP : tPut (s.tabs.map Tab.d) t.d = if tAt (s.tabs.map Tab.d) t.name < 0 then y6 (fun a b => ltN a.1 b.1) (s.tabs.map Tab.d ++ [t.d]) else (s.tabs.map Tab.d).set (tAt (s.tabs.map Tab.d) t.name).toNat t.d := rfl
  have hat : ¬ tAt (s.tabs.map Tab.d) t.name < 0 → ∃ i : Nat, tAt (s.tabs.map Tab.d) t.name = (i : Int) ∧ i < s.tabs.length := fun h => by
    obtain ⟨i, a, h1, _, h3⟩ := Yt h
    exact ⟨i, h1, by rw [← hmap]; exact h3⟩
  rw [htE, htP]
  generalize tAt (s.tabs.map Tab.d) t.name = at_ at *
  clear htE htP
  by_cases q1 : ZD t.name = false
  · rw [if_pos (.inl q1)]
    refine zb (L (S (ze yG rfl) ?_))
    refine L (zi yc rfl ((hB3 (Mv.refl _)).cell (i := 0) rfl) ?_)
    refine L (zq Z3 rfl ((hN q1)) ?_)
    rintro _ w6 ⟨rfl, hm6⟩
    refine L (S (yu rfl rfl) (L (S (za rfl) (zl (j := 4) (dj := 17) (b := false) (b' := true) (d := 18) rfl (zl (j := 4) (dj := 17) (b := false) (b' := true) (d := 19) rfl (zl (j := 4) (dj := 17) (b := false) (b' := true) (d := 20) rfl (L (S (zt rfl rfl) (L (S (za rfl) (zl (j := 9) (dj := 22) (b := false) (b' := true) (d := 23) rfl (zl (j := 9) (dj := 22) (b := false) (b' := true) (d := 24) rfl (zl (j := 9) (dj := 22) (b := false) (b' := true) (d := 25) rfl (L (S (zt rfl rfl) (L (S (za rfl) (zl (j := 14) (dj := 27) (b := false) (b' := true) (d := 28) rfl (zl (j := 14) (dj := 27) (b := false) (b' := true) (d := 29) rfl (zl (j := 14) (dj := 27) (b := false) (b' := true) (d := 30) rfl (L (S (zt rfl rfl) (L (S (za rfl) (zl (j := 19) (dj := 32) (b := false) (b' := true) (d := 33) rfl (zl (j := 19) (dj := 32) (b := false) (b' := true) (d := 34) rfl (zl (j := 19) (dj := 32) (b := false) (b' := true) (d := 35) rfl (L (S (zt rfl rfl) (zg (zc (zr rfl ?_))))))))))))))))))))))))))))))))
    refine zf (zb ?_)
    refine L (S (zW (ix := []) (l := []) Zq rfl (by simp [Value.oneCell']) rfl) ?_)
    refine L (zw z6 rfl rfl (zJ zX) rfl (hB4 hm6) (by exact Nat.le_refl 2) ?_)
    rintro w9 hb9 hm9
    refine L (S (zd rfl) (zg (zc (zy (zm ?_)))))
    have hb9' : Blk w9 b4 (zM zX) 37 := hb9
    refine yk (rs := [.cell 4 37, .tmp 5]) [.agg (zM zX).toArray, .int .i64 (7 : Nat)] Tryz.results33 ?_ ?_
    · exact ⟨⟨_, rfl, zu zZ hb9'.row rfl⟩, rfl, trivial⟩
    exact ⟨zX, rfl, (Z1 (base := 0)).ok, fun _ => rfl, fun h => absurd h (by decide), (hm05.no hm6).new hm9 (by omega)⟩
  replace q1 : ZD t.name = true := by simpa using q1
  by_cases q2 : t.root < 1
  · rw [if_pos (.inr (.inl q2))]
    refine zb (L (S (ze yG rfl) ?_))
    refine L (zi yc rfl ((hB3 (Mv.refl _)).cell (i := 0) rfl) ?_)
    refine L (zq Z3 rfl ((hN q1)) ?_)
    rintro _ w6 ⟨rfl, hm6⟩
    refine L (S (yu rfl rfl) (L (S (za rfl) (zh (j := 4) (dj := 17) (b := false) (S (ze yJ rfl) ?_) rfl))))
    refine zh (j := 4) (dj := 17) (b := false) (zi z_ rfl ((hB3 hm6).cell (i := 2) rfl) ?_) rfl
    refine zh (j := 4) (dj := 17) (b := false) (S (zG rfl rfl (decide_eq_true (by omega))) ?_) rfl
    refine L (S (zj rfl rfl) (L (S (za rfl) (zl (j := 9) (dj := 22) (b := false) (b' := true) (d := 23) rfl (zl (j := 9) (dj := 22) (b := false) (b' := true) (d := 24) rfl (zl (j := 9) (dj := 22) (b := false) (b' := true) (d := 25) rfl (L (S (zt rfl rfl) (L (S (za rfl) (zl (j := 14) (dj := 27) (b := false) (b' := true) (d := 28) rfl (zl (j := 14) (dj := 27) (b := false) (b' := true) (d := 29) rfl (zl (j := 14) (dj := 27) (b := false) (b' := true) (d := 30) rfl (L (S (zt rfl rfl) (L (S (za rfl) (zl (j := 19) (dj := 32) (b := false) (b' := true) (d := 33) rfl (zl (j := 19) (dj := 32) (b := false) (b' := true) (d := 34) rfl (zl (j := 19) (dj := 32) (b := false) (b' := true) (d := 35) rfl (L (S (zt rfl rfl) (zg (zc (zr rfl (zf (zb ?_)))))))))))))))))))))))))))
    refine L (S (zW (ix := []) (l := []) Zq rfl (by simp [Value.oneCell']) rfl) ?_)
    refine L (zw z6 rfl rfl (zJ zX) rfl (hB4 hm6) (by exact Nat.le_refl 2) ?_)
    rintro w9 hb9 hm9
    refine L (S (zd rfl) (zg (zc (zy (zm ?_)))))
    have hb9' : Blk w9 b4 (zM zX) 37 := hb9
    refine yk (rs := [.cell 4 37, .tmp 5]) [.agg (zM zX).toArray, .int .i64 (7 : Nat)] Tryz.results33 ?_ ?_
    · exact ⟨⟨_, rfl, zu zZ hb9'.row rfl⟩, rfl, trivial⟩
    exact ⟨zX, rfl, (Z1 (base := 0)).ok, fun _ => rfl, fun h => absurd h (by decide), (hm05.no hm6).new hm9 (by omega)⟩
  by_cases q3 : t.root > 1600
  · rw [if_pos (.inr (.inr (.inl q3)))]
    refine zb (L (S (ze yG rfl) ?_))
    refine L (zi yc rfl ((hB3 (Mv.refl _)).cell (i := 0) rfl) ?_)
    refine L (zq Z3 rfl ((hN q1)) ?_)
    rintro _ w6 ⟨rfl, hm6⟩
    refine L (S (yu rfl rfl) (L (S (za rfl) (zh (j := 4) (dj := 17) (b := false) (S (ze yJ rfl) ?_) rfl))))
    refine zh (j := 4) (dj := 17) (b := false) (zi z_ rfl ((hB3 hm6).cell (i := 2) rfl) ?_) rfl
    refine zh (j := 4) (dj := 17) (b := false) (S (zG rfl rfl (decide_eq_false (by omega))) ?_) rfl
    refine L (S (zj rfl rfl) (L (S (za rfl) (zh (j := 9) (dj := 22) (b := false) (S (ze yJ rfl) ?_) rfl))))
    refine zh (j := 9) (dj := 22) (b := false) (zi z_ rfl ((hB3 hm6).cell (i := 2) rfl) ?_) rfl
    refine zh (j := 9) (dj := 22) (b := false) (S (yp rfl rfl (decide_eq_true (by omega))) ?_) rfl
    refine L (S (zj rfl rfl) (L (S (za rfl) (zl (j := 14) (dj := 27) (b := false) (b' := true) (d := 28) rfl (zl (j := 14) (dj := 27) (b := false) (b' := true) (d := 29) rfl (zl (j := 14) (dj := 27) (b := false) (b' := true) (d := 30) rfl (L (S (zt rfl rfl) (L (S (za rfl) (zl (j := 19) (dj := 32) (b := false) (b' := true) (d := 33) rfl (zl (j := 19) (dj := 32) (b := false) (b' := true) (d := 34) rfl (zl (j := 19) (dj := 32) (b := false) (b' := true) (d := 35) rfl (L (S (zt rfl rfl) (zg (zc (zr rfl (zf (zb ?_))))))))))))))))))))
    refine L (S (zW (ix := []) (l := []) Zq rfl (by simp [Value.oneCell']) rfl) ?_)
    refine L (zw z6 rfl rfl (zJ zX) rfl (hB4 hm6) (by exact Nat.le_refl 2) ?_)
    rintro w9 hb9 hm9
    refine L (S (zd rfl) (zg (zc (zy (zm ?_)))))
    have hb9' : Blk w9 b4 (zM zX) 37 := hb9
    refine yk (rs := [.cell 4 37, .tmp 5]) [.agg (zM zX).toArray, .int .i64 (7 : Nat)] Tryz.results33 ?_ ?_
    · exact ⟨⟨_, rfl, zu zZ hb9'.row rfl⟩, rfl, trivial⟩
    exact ⟨zX, rfl, (Z1 (base := 0)).ok, fun _ => rfl, fun h => absurd h (by decide), (hm05.no hm6).new hm9 (by omega)⟩
  by_cases q4 : t.next < 1
  · rw [if_pos (.inr (.inr (.inr (.inl q4))))]
    refine zb (L (S (ze yG rfl) ?_))
    refine L (zi yc rfl ((hB3 (Mv.refl _)).cell (i := 0) rfl) ?_)
    refine L (zq Z3 rfl ((hN q1)) ?_)
    rintro _ w6 ⟨rfl, hm6⟩
    refine L (S (yu rfl rfl) (L (S (za rfl) (zh (j := 4) (dj := 17) (b := false) (S (ze yJ rfl) ?_) rfl))))
    refine zh (j := 4) (dj := 17) (b := false) (zi z_ rfl ((hB3 hm6).cell (i := 2) rfl) ?_) rfl
    refine zh (j := 4) (dj := 17) (b := false) (S (zG rfl rfl (decide_eq_false (by omega))) ?_) rfl
    refine L (S (zj rfl rfl) (L (S (za rfl) (zh (j := 9) (dj := 22) (b := false) (S (ze yJ rfl) ?_) rfl))))
    refine zh (j := 9) (dj := 22) (b := false) (zi z_ rfl ((hB3 hm6).cell (i := 2) rfl) ?_) rfl
    refine zh (j := 9) (dj := 22) (b := false) (S (yp rfl rfl (decide_eq_false (by omega))) ?_) rfl
    refine L (S (zj rfl rfl) (L (S (za rfl) (zh (j := 14) (dj := 27) (b := false) (S (ze ZB rfl) ?_) rfl))))
    refine zh (j := 14) (dj := 27) (b := false) (zi Zw rfl ((hB3 hm6).cell (i := 3) rfl) ?_) rfl
    refine zh (j := 14) (dj := 27) (b := false) (S (zG rfl rfl (decide_eq_true (by omega))) ?_) rfl
    refine L (S (zj rfl rfl) (L (S (za rfl) (zl (j := 19) (dj := 32) (b := false) (b' := true) (d := 33) rfl (zl (j := 19) (dj := 32) (b := false) (b' := true) (d := 34) rfl (zl (j := 19) (dj := 32) (b := false) (b' := true) (d := 35) rfl (L (S (zt rfl rfl) (zg (zc (zr rfl (zf (zb ?_)))))))))))))
    refine L (S (zW (ix := []) (l := []) Zq rfl (by simp [Value.oneCell']) rfl) ?_)
    refine L (zw z6 rfl rfl (zJ zX) rfl (hB4 hm6) (by exact Nat.le_refl 2) ?_)
    rintro w9 hb9 hm9
    refine L (S (zd rfl) (zg (zc (zy (zm ?_)))))
    have hb9' : Blk w9 b4 (zM zX) 37 := hb9
    refine yk (rs := [.cell 4 37, .tmp 5]) [.agg (zM zX).toArray, .int .i64 (7 : Nat)] Tryz.results33 ?_ ?_
    · exact ⟨⟨_, rfl, zu zZ hb9'.row rfl⟩, rfl, trivial⟩
    exact ⟨zX, rfl, (Z1 (base := 0)).ok, fun _ => rfl, fun h => absurd h (by decide), (hm05.no hm6).new hm9 (by omega)⟩
  by_cases q5 : t.rows < 0
  · rw [if_pos (.inr (.inr (.inr (.inr q5))))]
    refine zb (L (S (ze yG rfl) ?_))
    refine L (zi yc rfl ((hB3 (Mv.refl _)).cell (i := 0) rfl) ?_)
    refine L (zq Z3 rfl ((hN q1)) ?_)
    rintro _ w6 ⟨rfl, hm6⟩
    refine L (S (yu rfl rfl) (L (S (za rfl) (zh (j := 4) (dj := 17) (b := false) (S (ze yJ rfl) ?_) rfl))))
    refine zh (j := 4) (dj := 17) (b := false) (zi z_ rfl ((hB3 hm6).cell (i := 2) rfl) ?_) rfl
    refine zh (j := 4) (dj := 17) (b := false) (S (zG rfl rfl (decide_eq_false (by omega))) ?_) rfl
    refine L (S (zj rfl rfl) (L (S (za rfl) (zh (j := 9) (dj := 22) (b := false) (S (ze yJ rfl) ?_) rfl))))
    refine zh (j := 9) (dj := 22) (b := false) (zi z_ rfl ((hB3 hm6).cell (i := 2) rfl) ?_) rfl
    refine zh (j := 9) (dj := 22) (b := false) (S (yp rfl rfl (decide_eq_false (by omega))) ?_) rfl
    refine L (S (zj rfl rfl) (L (S (za rfl) (zh (j := 14) (dj := 27) (b := false) (S (ze ZB rfl) ?_) rfl))))
    refine zh (j := 14) (dj := 27) (b := false) (zi Zw rfl ((hB3 hm6).cell (i := 3) rfl) ?_) rfl
    refine zh (j := 14) (dj := 27) (b := false) (S (zG rfl rfl (decide_eq_false (by omega))) ?_) rfl
    refine L (S (zj rfl rfl) (L (S (za rfl) (zh (j := 19) (dj := 32) (b := false) (S (ze ZV rfl) ?_) rfl))))
    refine zh (j := 19) (dj := 32) (b := false) (zi Zw rfl ((hB3 hm6).cell (i := 4) rfl) ?_) rfl
    refine zh (j := 19) (dj := 32) (b := false) (S (zG rfl rfl (decide_eq_true (by omega))) ?_) rfl
    refine L (S (zj rfl rfl) (zg (zc (zr rfl (zf (zb ?_))))))
    refine L (S (zW (ix := []) (l := []) Zq rfl (by simp [Value.oneCell']) rfl) ?_)
    refine L (zw z6 rfl rfl (zJ zX) rfl (hB4 hm6) (by exact Nat.le_refl 2) ?_)
    rintro w9 hb9 hm9
    refine L (S (zd rfl) (zg (zc (zy (zm ?_)))))
    have hb9' : Blk w9 b4 (zM zX) 37 := hb9
    refine yk (rs := [.cell 4 37, .tmp 5]) [.agg (zM zX).toArray, .int .i64 (7 : Nat)] Tryz.results33 ?_ ?_
    · exact ⟨⟨_, rfl, zu zZ hb9'.row rfl⟩, rfl, trivial⟩
    exact ⟨zX, rfl, (Z1 (base := 0)).ok, fun _ => rfl, fun h => absurd h (by decide), (hm05.no hm6).new hm9 (by omega)⟩
  rw [if_neg (by rw [q1]; simp; omega)]
  by_cases q6 : at_ < 0 ∧ 8 ≤ s.tabs.length
  · rw [if_pos q6]
    refine zb (L (S (ze yG rfl) ?_))
    refine L (zi yc rfl ((hB3 (Mv.refl _)).cell (i := 0) rfl) ?_)
    refine L (zq Z3 rfl ((hN q1)) ?_)
    rintro _ w6 ⟨rfl, hm6⟩
    refine L (S (yu rfl rfl) (L (S (za rfl) (zh (j := 4) (dj := 17) (b := false) (S (ze yJ rfl) ?_) rfl))))
    refine zh (j := 4) (dj := 17) (b := false) (zi z_ rfl ((hB3 hm6).cell (i := 2) rfl) ?_) rfl
    refine zh (j := 4) (dj := 17) (b := false) (S (zG rfl rfl (decide_eq_false (by omega))) ?_) rfl
    refine L (S (zj rfl rfl) (L (S (za rfl) (zh (j := 9) (dj := 22) (b := false) (S (ze yJ rfl) ?_) rfl))))
    refine zh (j := 9) (dj := 22) (b := false) (zi z_ rfl ((hB3 hm6).cell (i := 2) rfl) ?_) rfl
    refine zh (j := 9) (dj := 22) (b := false) (S (yp rfl rfl (decide_eq_false (by omega))) ?_) rfl
    refine L (S (zj rfl rfl) (L (S (za rfl) (zh (j := 14) (dj := 27) (b := false) (S (ze ZB rfl) ?_) rfl))))
    refine zh (j := 14) (dj := 27) (b := false) (zi Zw rfl ((hB3 hm6).cell (i := 3) rfl) ?_) rfl
    refine zh (j := 14) (dj := 27) (b := false) (S (zG rfl rfl (decide_eq_false (by omega))) ?_) rfl
    refine L (S (zj rfl rfl) (L (S (za rfl) (zh (j := 19) (dj := 32) (b := false) (S (ze ZV rfl) ?_) rfl))))
    refine zh (j := 19) (dj := 32) (b := false) (zi Zw rfl ((hB3 hm6).cell (i := 4) rfl) ?_) rfl
    refine zh (j := 19) (dj := 32) (b := false) (S (zG rfl rfl (decide_eq_false (by omega))) ?_) rfl
    refine L (S (zj rfl rfl) (zg (zc (zk rfl (zo (zc (zf (zf (zb (L (S (za rfl) ?_)))))))))))
    refine L (S (zG rfl rfl (decide_eq_true (by omega))) ?_)
    refine L (S (za rfl) (zh (j := 2) (dj := 40) (b := true) (S (ze yg rfl) ?_) rfl))
    refine zh (j := 2) (dj := 40) (b := true) (zi yX rfl ((hB2 hm6).cell (i := 0) rfl) ?_) rfl
    refine zh (j := 2) (dj := 40) (b := true) (S (zH Tryz.underlying34 rfl) ?_) rfl
    refine zh (j := 2) (dj := 40) (b := true) (S (y_ rfl rfl (decide_eq_true (by omega))) ?_) rfl
    refine L (S (zt rfl rfl) (zg (zc (zr rfl (zf (zb ?_))))))
    refine L (S (zW (ix := []) (l := []) Zq rfl (by simp [Value.oneCell']) rfl) ?_)
    refine L (zw z6 rfl rfl (zJ zX) rfl (hB4 hm6) (by exact Nat.le_refl 2) ?_)
    rintro w9 hb9 hm9
    refine L (S (zd rfl) (zg (zc (zy (zm ?_)))))
    have hb9' : Blk w9 b4 (zM zX) 37 := hb9
    refine yk (rs := [.cell 4 37, .tmp 5]) [.agg (zM zX).toArray, .int .i64 (11 : Nat)] Tryz.results33 ?_ ?_
    · exact ⟨⟨_, rfl, zu zZ hb9'.row rfl⟩, rfl, trivial⟩
    exact ⟨zX, rfl, (Z1 (base := 0)).ok, fun _ => rfl, fun h => absurd h (by decide), (hm05.no hm6).new hm9 (by omega)⟩
  rw [if_neg q6]
  have hC := fun {wq} (h : Mv No w5 wq) => refcolumns_ret (hv.no (hm05.no h)) (l := t.cols) (A := t.A) (c := t.cap) ((ht.sl.no hm05).no h) (by omega) (fun x hx => by have := htm.cn x hx; omega)
  by_cases q7 : colsE t.cols ≠ 0
  · by_cases q8 : at_ < 0
    · refine zb (L (S (ze yG rfl) ?_))
      refine L (zi yc rfl ((hB3 (Mv.refl _)).cell (i := 0) rfl) ?_)
      refine L (zq Z3 rfl ((hN q1)) ?_)
      rintro _ w6 ⟨rfl, hm6⟩
      refine L (S (yu rfl rfl) (L (S (za rfl) (zh (j := 4) (dj := 17) (b := false) (S (ze yJ rfl) ?_) rfl))))
      refine zh (j := 4) (dj := 17) (b := false) (zi z_ rfl ((hB3 hm6).cell (i := 2) rfl) ?_) rfl
      refine zh (j := 4) (dj := 17) (b := false) (S (zG rfl rfl (decide_eq_false (by omega))) ?_) rfl
      refine L (S (zj rfl rfl) (L (S (za rfl) (zh (j := 9) (dj := 22) (b := false) (S (ze yJ rfl) ?_) rfl))))
      refine zh (j := 9) (dj := 22) (b := false) (zi z_ rfl ((hB3 hm6).cell (i := 2) rfl) ?_) rfl
      refine zh (j := 9) (dj := 22) (b := false) (S (yp rfl rfl (decide_eq_false (by omega))) ?_) rfl
      refine L (S (zj rfl rfl) (L (S (za rfl) (zh (j := 14) (dj := 27) (b := false) (S (ze ZB rfl) ?_) rfl))))
      refine zh (j := 14) (dj := 27) (b := false) (zi Zw rfl ((hB3 hm6).cell (i := 3) rfl) ?_) rfl
      refine zh (j := 14) (dj := 27) (b := false) (S (zG rfl rfl (decide_eq_false (by omega))) ?_) rfl
      refine L (S (zj rfl rfl) (L (S (za rfl) (zh (j := 19) (dj := 32) (b := false) (S (ze ZV rfl) ?_) rfl))))
      refine zh (j := 19) (dj := 32) (b := false) (zi Zw rfl ((hB3 hm6).cell (i := 4) rfl) ?_) rfl
      refine zh (j := 19) (dj := 32) (b := false) (S (zG rfl rfl (decide_eq_false (by omega))) ?_) rfl
      refine L (S (zj rfl rfl) (zg (zc (zk rfl (zo (zc (zf (zf (zb (L (S (za rfl) ?_)))))))))))
      refine L (S (zG rfl rfl (decide_eq_true (by omega))) ?_)
      refine L (S (za rfl) (zh (j := 2) (dj := 40) (b := true) (S (ze yg rfl) ?_) rfl))
      refine zh (j := 2) (dj := 40) (b := true) (zi yX rfl ((hB2 hm6).cell (i := 0) rfl) ?_) rfl
      refine zh (j := 2) (dj := 40) (b := true) (S (zH Tryz.underlying34 rfl) ?_) rfl
      refine zh (j := 2) (dj := 40) (b := true) (S (y_ rfl rfl (decide_eq_false (by omega))) ?_) rfl
      refine L (S (zt rfl rfl) (zg (zc (zk rfl (zo (zc (zf (zf (zb (L (S (ze yV rfl) ?_)))))))))))
      refine L (zi ZC rfl ((hB3 hm6).cell (i := 1) rfl) ?_)
      refine L (zq cb_24 rfl ((hC hm6)) ?_)
      rintro _ w7 ⟨rfl, hm7⟩
      refine L (S (zd rfl) (zg (zc (zf (zb (L (S (za rfl) ?_)))))))
      refine L (S (Za rfl rfl (decide_eq_true (by omega))) ?_)
      refine zg (zc (zr rfl (zf (zb ?_))))
      refine L (S (zW (ix := []) (l := []) Zq rfl (by simp [Value.oneCell']) rfl) ?_)
      refine L (S (za rfl) ?_)
      refine L (zw z6 rfl rfl (zJ zX) rfl (hB4 (hm6.no hm7)) (by exact Nat.le_refl 2) ?_)
      rintro w9 hb9 hm9
      refine L (S (zd rfl) (zg (zc (zy (zm ?_)))))
      have hb9' : Blk w9 b4 (zM zX) 37 := hb9
      refine yk (rs := [.cell 4 37, .tmp 5]) [.agg (zM zX).toArray, .int .i64 (colsE t.cols : Nat)] Tryz.results33 ?_ ?_
      · exact ⟨⟨_, rfl, zu zZ hb9'.row rfl⟩, rfl, trivial⟩
      exact ⟨zX, rfl, (Z1 (base := 0)).ok, fun _ => rfl, fun h => absurd h q7, (hm05.no (hm6.no hm7)).new hm9 (by omega)⟩
    · refine zb (L (S (ze yG rfl) ?_))
      refine L (zi yc rfl ((hB3 (Mv.refl _)).cell (i := 0) rfl) ?_)
      refine L (zq Z3 rfl ((hN q1)) ?_)
      rintro _ w6 ⟨rfl, hm6⟩
      refine L (S (yu rfl rfl) (L (S (za rfl) (zh (j := 4) (dj := 17) (b := false) (S (ze yJ rfl) ?_) rfl))))
      refine zh (j := 4) (dj := 17) (b := false) (zi z_ rfl ((hB3 hm6).cell (i := 2) rfl) ?_) rfl
      refine zh (j := 4) (dj := 17) (b := false) (S (zG rfl rfl (decide_eq_false (by omega))) ?_) rfl
      refine L (S (zj rfl rfl) (L (S (za rfl) (zh (j := 9) (dj := 22) (b := false) (S (ze yJ rfl) ?_) rfl))))
      refine zh (j := 9) (dj := 22) (b := false) (zi z_ rfl ((hB3 hm6).cell (i := 2) rfl) ?_) rfl
      refine zh (j := 9) (dj := 22) (b := false) (S (yp rfl rfl (decide_eq_false (by omega))) ?_) rfl
      refine L (S (zj rfl rfl) (L (S (za rfl) (zh (j := 14) (dj := 27) (b := false) (S (ze ZB rfl) ?_) rfl))))
      refine zh (j := 14) (dj := 27) (b := false) (zi Zw rfl ((hB3 hm6).cell (i := 3) rfl) ?_) rfl
      refine zh (j := 14) (dj := 27) (b := false) (S (zG rfl rfl (decide_eq_false (by omega))) ?_) rfl
      refine L (S (zj rfl rfl) (L (S (za rfl) (zh (j := 19) (dj := 32) (b := false) (S (ze ZV rfl) ?_) rfl))))
      refine zh (j := 19) (dj := 32) (b := false) (zi Zw rfl ((hB3 hm6).cell (i := 4) rfl) ?_) rfl
      refine zh (j := 19) (dj := 32) (b := false) (S (zG rfl rfl (decide_eq_false (by omega))) ?_) rfl
      refine L (S (zj rfl rfl) (zg (zc (zk rfl (zo (zc (zf (zf (zb (L (S (za rfl) ?_)))))))))))
      refine L (S (zG rfl rfl (decide_eq_false (by omega))) ?_)
      refine L (S (za rfl) (zl (j := 2) (dj := 40) (b := true) (b' := false) (d := 41) rfl (zl (j := 2) (dj := 40) (b := true) (b' := false) (d := 42) rfl (zl (j := 2) (dj := 40) (b := true) (b' := false) (d := 43) rfl (zl (j := 2) (dj := 40) (b := true) (b' := false) (d := 44) rfl (L (S (zj rfl rfl) (zg (zc (zk rfl (zo (zc (zf (zf (zb (L (S (ze yV rfl) ?_)))))))))))))))))
      refine L (zi ZC rfl ((hB3 hm6).cell (i := 1) rfl) ?_)
      refine L (zq cb_24 rfl ((hC hm6)) ?_)
      rintro _ w7 ⟨rfl, hm7⟩
      refine L (S (zd rfl) (zg (zc (zf (zb (L (S (za rfl) ?_)))))))
      refine L (S (Za rfl rfl (decide_eq_true (by omega))) ?_)
      refine zg (zc (zr rfl (zf (zb ?_))))
      refine L (S (zW (ix := []) (l := []) Zq rfl (by simp [Value.oneCell']) rfl) ?_)
      refine L (S (za rfl) ?_)
      refine L (zw z6 rfl rfl (zJ zX) rfl (hB4 (hm6.no hm7)) (by exact Nat.le_refl 2) ?_)
      rintro w9 hb9 hm9
      refine L (S (zd rfl) (zg (zc (zy (zm ?_)))))
      have hb9' : Blk w9 b4 (zM zX) 37 := hb9
      refine yk (rs := [.cell 4 37, .tmp 5]) [.agg (zM zX).toArray, .int .i64 (colsE t.cols : Nat)] Tryz.results33 ?_ ?_
      · exact ⟨⟨_, rfl, zu zZ hb9'.row rfl⟩, rfl, trivial⟩
      exact ⟨zX, rfl, (Z1 (base := 0)).ok, fun _ => rfl, fun h => absurd h q7, (hm05.no (hm6.no hm7)).new hm9 (by omega)⟩
  have q7' : colsE t.cols = 0 := by omega
  rw [q7']
  by_cases q8 : at_ < 0
  · rw [if_pos q8]
    refine zb (L (S (ze yG rfl) ?_))
    refine L (zi yc rfl ((hB3 (Mv.refl _)).cell (i := 0) rfl) ?_)
    refine L (zq Z3 rfl ((hN q1)) ?_)
    rintro _ w6 ⟨rfl, hm6⟩
    refine L (S (yu rfl rfl) (L (S (za rfl) (zh (j := 4) (dj := 17) (b := false) (S (ze yJ rfl) ?_) rfl))))
    refine zh (j := 4) (dj := 17) (b := false) (zi z_ rfl ((hB3 hm6).cell (i := 2) rfl) ?_) rfl
    refine zh (j := 4) (dj := 17) (b := false) (S (zG rfl rfl (decide_eq_false (by omega))) ?_) rfl
    refine L (S (zj rfl rfl) (L (S (za rfl) (zh (j := 9) (dj := 22) (b := false) (S (ze yJ rfl) ?_) rfl))))
    refine zh (j := 9) (dj := 22) (b := false) (zi z_ rfl ((hB3 hm6).cell (i := 2) rfl) ?_) rfl
    refine zh (j := 9) (dj := 22) (b := false) (S (yp rfl rfl (decide_eq_false (by omega))) ?_) rfl
    refine L (S (zj rfl rfl) (L (S (za rfl) (zh (j := 14) (dj := 27) (b := false) (S (ze ZB rfl) ?_) rfl))))
    refine zh (j := 14) (dj := 27) (b := false) (zi Zw rfl ((hB3 hm6).cell (i := 3) rfl) ?_) rfl
    refine zh (j := 14) (dj := 27) (b := false) (S (zG rfl rfl (decide_eq_false (by omega))) ?_) rfl
    refine L (S (zj rfl rfl) (L (S (za rfl) (zh (j := 19) (dj := 32) (b := false) (S (ze ZV rfl) ?_) rfl))))
    refine zh (j := 19) (dj := 32) (b := false) (zi Zw rfl ((hB3 hm6).cell (i := 4) rfl) ?_) rfl
    refine zh (j := 19) (dj := 32) (b := false) (S (zG rfl rfl (decide_eq_false (by omega))) ?_) rfl
    refine L (S (zj rfl rfl) (zg (zc (zk rfl (zo (zc (zf (zf (zb (L (S (za rfl) ?_)))))))))))
    refine L (S (zG rfl rfl (decide_eq_true (by omega))) ?_)
    refine L (S (za rfl) (zh (j := 2) (dj := 40) (b := true) (S (ze yg rfl) ?_) rfl))
    refine zh (j := 2) (dj := 40) (b := true) (zi yX rfl ((hB2 hm6).cell (i := 0) rfl) ?_) rfl
    refine zh (j := 2) (dj := 40) (b := true) (S (zH Tryz.underlying34 rfl) ?_) rfl
    refine zh (j := 2) (dj := 40) (b := true) (S (y_ rfl rfl (decide_eq_false (by omega))) ?_) rfl
    refine L (S (zt rfl rfl) (zg (zc (zk rfl (zo (zc (zf (zf (zb (L (S (ze yV rfl) ?_)))))))))))
    refine L (zi ZC rfl ((hB3 hm6).cell (i := 1) rfl) ?_)
    refine L (zq cb_24 rfl ((hC hm6)) ?_)
    rintro _ w7 ⟨rfl, hm7⟩
    refine L (S (zd rfl) (zg (zc (zf (zb (L (S (za rfl) ?_)))))))
    refine L (S (Za rfl rfl (decide_eq_false (by omega))) ?_)
    refine zg (zc (zk rfl (zo (zc (zf (zb ?_))))))
    refine L (ZQ Tryz.underlying34 yl ?_)
    rintro b8 w8 ho8 hm8 hn8
    refine L (S (ze yg rfl) ?_)
    refine L (zi yX rfl (((hB2 (hm6.no hm7)).no hm8).cell (i := 0) rfl) ?_)
    refine L (Zk Tryz.underlying34 yl rfl (by decide) rfl ho8 rfl (((hs.tsl.no hm05).no (hm6.no hm7)).no hm8) (yB yI _) (Zn yN _) hm8.size (by unfold maxLen; omega) (by omega) (q := s.tabs.length) (by omega) (List.nil_append _) ?_)
    rintro A9 c9 w9 ho9 hm9
    refine L (S (zd rfl) (zg (zc (zf (zf (zb (L (S (za rfl) ?_))))))))
    refine L (S (y_ rfl rfl (decide_eq_false (by omega))) ?_)
    refine zg (zc (zk rfl (zo (zc (zf ?_)))))
    have hm57 : Mv No w5 w9 := ((hm6.no hm7).no hm8).own hm9 ho8 (hm6.no hm7).size
    have hm09 := hm05.no hm57
    have z9 := hm57.size
    have hs9 := hs.no hm09
    have ht9 := ht.no hm09
    have hsl : ∀ {wq}, Mv No w9 wq → wq.ownsRow _ 27 5 (.slice A9 s.tabs.length c9) s.tabs.length (zI yA s.tabs) := fun h => zE ho9 h
    refine zb (L (S (za rfl) ?_))
    refine L (zB Zo rfl (hB3 hm57).row rfl ?_)
    refine L (zU (l := [.tmp 69]) (vss := [yA t]) Tryz.underlying34 yl (by decide) rfl (by simp [yA, yq, Zt]) rfl (by decide) (by decide) ?_)
    rintro b10 w10 hb10 hm10 hn10
    refine L (Zk Tryz.underlying34 yl rfl (by decide) rfl (hsl hm10) rfl (.inr ⟨b10, 0, rfl, hb10.row⟩) rfl (yN t) (by have := hm57.size; have := hm10.size; have := (hm6.no hm7).size; have := hm8.size; have := hm9.size; omega) (by unfold maxLen; omega) (by omega) (q := (s.tabs ++ [t]).length) (by simp) (ys := zI yA (s.tabs ++ [t])) (by rw [yT, Zi]; rfl) ?_)
    rintro A11 c11 w11 ho11 hm11
    refine L (S (zd rfl) (zg (zc (zf ?_))))
    have hm011 : Mv No w w11 := (hm09.no hm10).own hm11 (hsl hm10) (hm05.no (hm6.no hm7)).size
    have hB4' : ∀ {wq}, Mv No w11 wq → Blk wq b4 (zM zX) 37 := fun h => ((((hB4 hm57).no hm10).mv hm11 (zK ((hB4 hm57).no hm10) (hsl hm10) (by decide)))).no h
    have hB2' : ∀ {wq}, Mv (At b4) w11 wq → Blk wq b2 (zM s) 37 := fun h => (((hB2 hm57).no hm10).mv hm11 (zK ((hB2 hm57).no hm10) (hsl hm10) (by decide))).ne h (by omega)
    have hlen : (s.tabs ++ [t]).length = s.tabs.length + 1 := by simp
    have hsort := fun {wq} (h : Mv No w11 wq) => reftables_ret (xs := (s.tabs ++ [t])) (c := c11) (n := (s.tabs ++ [t]).length) rfl ((yW ho11).1.no h) (by omega)
    refine C_drawG (b4) 7 mixed rfl (fun hH => ?_)
    refine zp (i := 0) rfl (PureV.toS (za rfl)) ?_ (by assumption) (by decide +kernel) (by decide +kernel) (by decide +kernel) (fun _ _ _ _ h => h) rfl rfl rfl
    refine zp (i := 2) rfl (PureV.toS (ze yf rfl)) ?_ (by assumption) (by decide +kernel) (by decide +kernel) (by decide +kernel) (fun _ _ _ _ h => h) rfl rfl rfl
    refine zp (i := 3) rfl (ya yS rfl (fun _ h => (hB2' h).cell (i := 1) rfl)) ?_ (by assumption) (by decide +kernel) (by decide +kernel) (by decide +kernel) (fun _ _ _ _ h => h) rfl rfl rfl
    refine Ze (i := 1) (Z8 rfl (zq cb_67 rfl ((hsort (Mv.refl _).drew)) ?_)) (by decide +kernel)
    rintro _ w12 ⟨B12, d12, rfl, ho12, hm12⟩
    refine yh (by first | assumption | exact Mv.no (by assumption) (by assumption) | exact Mv.trans (by assumption) (by assumption) fun _ _ h => h) (fun hH => ?_)
    refine zp (i := 4) rfl (PureV.toS (zW (ix := [0, 1]) (l := [.tmp 73, .tmp 75]) bi_37_0_1 rfl (by simp [Value.oneCell']) rfl)) ?_ (by assumption) (by decide +kernel) (by decide +kernel) (by decide +kernel) (fun _ _ _ _ h => h) rfl rfl rfl
    refine Ze (i := 5) (Z8 rfl (zw z6 rfl rfl (vs := zM { s with tabs := (s.tabs ++ [t]), A := B12, c := d12 }) (zJ _) rfl ((hB4' (Mv.refl _).drew).no hm12) (by exact Nat.le_refl 2) ?_)) (by decide +kernel)
    rintro w13 hb13 hm13
    refine yh (by first | assumption | exact Mv.no (by assumption) (by assumption) | exact Mv.trans (by assumption) (by assumption) fun _ _ h => h) (fun hH => ?_)
    refine zp (i := 6) rfl (PureV.toS (zd rfl)) ?_ (by assumption) (by decide +kernel) (by decide +kernel) (by decide +kernel) (fun _ _ _ _ h => h) rfl rfl rfl
    refine yZ (by decide +kernel) ?_
    refine zc (zy ?_)
    have hmE : Mv No w11 w12 := (Mv.refl w11).drew.no hm12
    have hm1113 : Mv No w w13 := (hm011.no hmE).new hm13 (by omega)
    have hsep : ∀ {b' : Nat} {cs : List Value}, Row w12 b' 0 cs → b' ≠ b4 → Row w13 b' 0 cs := fun h hne => h.mv hm13 hne
    have hb13' : Blk w13 b4 (zM { s with tabs := y6 (fun x y => ltN x.name y.name) (s.tabs ++ [t]), A := B12, c := d12 }) 37 := by have h9 := hb13; unfold zM at h9 ⊢; dsimp only at h9 ⊢; rw [ZK]; exact h9
    refine yk (rs := [.cell 4 37, .tmp 5]) [.agg (zM { s with tabs := y6 (fun x y => ltN x.name y.name) (s.tabs ++ [t]), A := B12, c := d12 }).toArray, .int .i64 ((0 : Nat) : Int)] Tryz.results33 ?_ ?_
    · exact ⟨⟨_, rfl, zu zZ hb13'.row rfl⟩, rfl, trivial⟩
    have ho13 := yo ho12 hm13 (fun q hq hq2 => by unfold At at hq2; subst hq2; exact zK ((hB4' (Mv.refl _).drew).no hm12) ho12 (by decide) hq)
    refine ⟨_, rfl, (hs.no hm1113).setT (yW ho13).1 (by rw [ZK]; exact (yW ho13).2) (fun x hx => ?_), fun h => absurd rfl h, fun _ => ⟨map_sortI (lt' := fun a b : TD => ltN a.1 b.1) (g := Tab.d) (fun _ _ => rfl) (s.tabs ++ [t]) |>.trans (by rw [List.map_append]; rfl), rfl⟩, hm1113⟩
    rcases List.mem_append.1 (mem_sortI hx) with hx | hx
    · exact (hs.no hm1113).tab x hx
    · have : x = t := by simpa using hx
      subst this; exact ht.no hm1113
  · rw [if_neg q8]
    obtain ⟨i, hi, hil⟩ := hat q8
    refine zb (L (S (ze yG rfl) ?_))
    refine L (zi yc rfl ((hB3 (Mv.refl _)).cell (i := 0) rfl) ?_)
    refine L (zq Z3 rfl ((hN q1)) ?_)
    rintro _ w6 ⟨rfl, hm6⟩
    refine L (S (yu rfl rfl) (L (S (za rfl) (zh (j := 4) (dj := 17) (b := false) (S (ze yJ rfl) ?_) rfl))))
    refine zh (j := 4) (dj := 17) (b := false) (zi z_ rfl ((hB3 hm6).cell (i := 2) rfl) ?_) rfl
    refine zh (j := 4) (dj := 17) (b := false) (S (zG rfl rfl (decide_eq_false (by omega))) ?_) rfl
    refine L (S (zj rfl rfl) (L (S (za rfl) (zh (j := 9) (dj := 22) (b := false) (S (ze yJ rfl) ?_) rfl))))
    refine zh (j := 9) (dj := 22) (b := false) (zi z_ rfl ((hB3 hm6).cell (i := 2) rfl) ?_) rfl
    refine zh (j := 9) (dj := 22) (b := false) (S (yp rfl rfl (decide_eq_false (by omega))) ?_) rfl
    refine L (S (zj rfl rfl) (L (S (za rfl) (zh (j := 14) (dj := 27) (b := false) (S (ze ZB rfl) ?_) rfl))))
    refine zh (j := 14) (dj := 27) (b := false) (zi Zw rfl ((hB3 hm6).cell (i := 3) rfl) ?_) rfl
    refine zh (j := 14) (dj := 27) (b := false) (S (zG rfl rfl (decide_eq_false (by omega))) ?_) rfl
    refine L (S (zj rfl rfl) (L (S (za rfl) (zh (j := 19) (dj := 32) (b := false) (S (ze ZV rfl) ?_) rfl))))
    refine zh (j := 19) (dj := 32) (b := false) (zi Zw rfl ((hB3 hm6).cell (i := 4) rfl) ?_) rfl
    refine zh (j := 19) (dj := 32) (b := false) (S (zG rfl rfl (decide_eq_false (by omega))) ?_) rfl
    refine L (S (zj rfl rfl) (zg (zc (zk rfl (zo (zc (zf (zf (zb (L (S (za rfl) ?_)))))))))))
    refine L (S (zG rfl rfl (decide_eq_false (by omega))) ?_)
    refine L (S (za rfl) (zl (j := 2) (dj := 40) (b := true) (b' := false) (d := 41) rfl (zl (j := 2) (dj := 40) (b := true) (b' := false) (d := 42) rfl (zl (j := 2) (dj := 40) (b := true) (b' := false) (d := 43) rfl (zl (j := 2) (dj := 40) (b := true) (b' := false) (d := 44) rfl (L (S (zj rfl rfl) (zg (zc (zk rfl (zo (zc (zf (zf (zb (L (S (ze yV rfl) ?_)))))))))))))))))
    refine L (zi ZC rfl ((hB3 hm6).cell (i := 1) rfl) ?_)
    refine L (zq cb_24 rfl ((hC hm6)) ?_)
    rintro _ w7 ⟨rfl, hm7⟩
    refine L (S (zd rfl) (zg (zc (zf (zb (L (S (za rfl) ?_)))))))
    refine L (S (Za rfl rfl (decide_eq_false (by omega))) ?_)
    refine zg (zc (zk rfl (zo (zc (zf (zb ?_))))))
    refine L (ZQ Tryz.underlying34 yl ?_)
    rintro b8 w8 ho8 hm8 hn8
    refine L (S (ze yg rfl) ?_)
    refine L (zi yX rfl (((hB2 (hm6.no hm7)).no hm8).cell (i := 0) rfl) ?_)
    refine L (Zk Tryz.underlying34 yl rfl (by decide) rfl ho8 rfl (((hs.tsl.no hm05).no (hm6.no hm7)).no hm8) (yB yI _) (Zn yN _) hm8.size (by unfold maxLen; omega) (by omega) (q := s.tabs.length) (by omega) (List.nil_append _) ?_)
    rintro A9 c9 w9 ho9 hm9
    refine L (S (zd rfl) (zg (zc (zf (zf (zb (L (S (za rfl) ?_))))))))
    refine L (S (y_ rfl rfl (decide_eq_true (by omega))) ?_)
    refine zg (zc (zr rfl (zf ?_)))
    have hm57 : Mv No w5 w9 := ((hm6.no hm7).no hm8).own hm9 ho8 (hm6.no hm7).size
    have hm09 := hm05.no hm57
    have z9 := hm57.size
    have hs9 := hs.no hm09
    have ht9 := ht.no hm09
    obtain ⟨bt, cst, hAt, hbt, -⟩ := Ym ho9 (by omega)
    subst hAt
    refine zb (L (S (za rfl) (L (S (za rfl) ?_))))
    refine L (zB Zo rfl (hB3 hm57).row rfl ?_)
    refine L (S (zn Tryz.underlying34 (zD yl) rfl rfl (j := i) hi (by omega) (p := 0 + i * 5) rfl) ?_)
    refine L (Zc (i := i) yI yl rfl (by omega) rfl (yN t) ho9 rfl (by omega) ?_)
    rintro w13 ho13 hm13
    refine zg (zc (zf (zb (L (S (za rfl) (L (S (ze yf rfl) ?_)))))))
    refine L (zi yS rfl (((hB2 hm57).mv (Z5 hm13 (n := s.tabs.length) (c := c9)) (zK (hB2 hm57) ho9 (by decide))).cell (i := 1) rfl) ?_)
    refine L (S (zW (ix := [0, 1]) (l := [.tmp 64, .tmp 66]) bi_37_0_1 rfl (by simp [Value.oneCell']) rfl) ?_)
    refine L (zw z6 rfl rfl (vs := zM { s with A := some ⟨bt, 0, none⟩, c := c9 }) (zJ _) rfl ((hB4 hm57).mv (Z5 hm13 (n := s.tabs.length) (c := c9)) (zK (hB4 hm57) ho9 (by decide))) (by exact Nat.le_refl 2) ?_)
    rintro w17 hb17 hm17
    refine L (S (zd rfl) (zg (zc (zy (zm ?_)))))
    have hm13o := Z5 hm13 (n := s.tabs.length) (c := c9)
    have hm013 : Mv No w w13 := hm09.own hm13o ho9 (hm05.no ((hm6.no hm7))).size
    have hm017 := hm013.new hm17 (by omega)
    have hb17' : Blk w17 b4 (zM { s with tabs := s.tabs.set i t, A := some ⟨bt, 0, none⟩, c := c9 }) 37 := by have h9 := hb17; unfold zM at h9 ⊢; dsimp only at h9 ⊢; rw [List.length_set]; exact h9
    refine yk (rs := [.cell 4 37, .tmp 5]) [.agg (zM { s with tabs := s.tabs.set i t, A := some ⟨bt, 0, none⟩, c := c9 }).toArray, .int .i64 ((0 : Nat) : Int)] Tryz.results33 ?_ ?_
    · exact ⟨⟨_, rfl, zu zZ hb17'.row rfl⟩, rfl, trivial⟩
    have ho17 := yo ho13 hm17 (fun q hq hq2 => by unfold At at hq2; subst hq2; exact zK ((hB4 hm57).mv hm13o (zK (hB4 hm57) ho9 (by decide))) ho13 (by decide) hq)
    refine ⟨_, rfl, (hs.no hm017).setT (yW ho17).1 (by rw [List.length_set]; exact (yW ho17).2) (fun x hx => ?_), fun h => absurd rfl h, fun _ => ⟨by rw [hi]; exact List.map_set .., rfl⟩, hm017⟩
    rcases List.mem_or_eq_of_mem_set hx with hx | hx
    · exact (hs.no hm017).tab x hx
    · subst hx; exact ht.no hm017
end
end Go.Proofs.YtnoioimphcmeiaaGreatDoor
namespace Go.Proofs.YtnoioimphcmeiaaGreatDoor
open Go.RowKit
set_option maxRecDepth 20000
set_option maxHeartbeats 2000000

section
variable {w : World}
theorem refputi_ret (hv : Vr w) {s : Sch} {t : Idx} (hs : SchOk w s) (ht : IdxOk w t) (hsm : SchSm s) (htm : IdxSm t) : Ret Tryz.prog 35 [.agg (zM s).toArray, .agg (yq t).toArray] w fun v w' => ∃ o, v = .tuple #[.agg (zM o).toArray, .int .i64 (iE (s.tabs.map Tab.d) (s.idxs.map Idx.d_) t.d_ : Nat)] ∧ SchOk w' o ∧ (iE (s.tabs.map Tab.d) (s.idxs.map Idx.d_) t.d_ ≠ 0 → o = zX) ∧ (iE (s.tabs.map Tab.d) (s.idxs.map Idx.d_) t.d_ = 0 → o.tabs.map Tab.d = s.tabs.map Tab.d ∧ o.idxs.map Idx.d_ = iPut (s.idxs.map Idx.d_) t.d_) ∧ Mv No w w' := by
  have hl1 := hsm.lt
  have hl2 := hsm.li
  have hc1 := htm.cl
  have hn1 := htm.nm
  have hmap : (s.tabs.map Tab.d).length = s.tabs.length := List.length_map ..
  have hmapi : (s.idxs.map Idx.d_).length = s.idxs.length := List.length_map ..
  refine zN Tryz.func35 Tryz.ntmps35 rfl rfl ?_
  refine zf (zb ?_)
  refine L (Zl rfl ?_)
  rintro b2 w2 hb2 hm2 hn2
  refine L (Zl rfl ?_)
  rintro b3 w3 hb3 hm3 hn3
  refine L (ye (zs := [(.slice none 0 0), (.slice none 0 0)]) z6 rfl ?_)
  rintro b4 w4 hb4 hm4 hn4
  refine L (S (zd rfl) (zg (zc (zf ?_))))
  refine yP 10 mixed rfl (fun hH => ?_)
  refine zp (i := 0) rfl (yE zZ rfl (fun _ h => (((hb2.no hm3).no hm4).no h).row) rfl) ?_ (by assumption) (by decide +kernel) (by decide +kernel) (by decide +kernel) (fun _ _ _ _ h => h) rfl rfl rfl
  refine zp (i := 1) rfl (PureV.toS (ze yx rfl)) ?_ (by assumption) (by decide +kernel) (by decide +kernel) (by decide +kernel) (fun _ _ _ _ h => h) rfl rfl rfl
  refine zp (i := 2) rfl (ya yc rfl (fun _ h => ((hb3.no hm4).no h).cell (i := 0) rfl)) ?_ (by assumption) (by decide +kernel) (by decide +kernel) (by decide +kernel) (fun _ _ _ _ h => h) rfl rfl rfl
  refine zp (i := 4) rfl (yE zZ rfl (fun _ h => (((hb2.no hm3).no hm4).no h).row) rfl) ?_ (by assumption) (by decide +kernel) (by decide +kernel) (by decide +kernel) (fun _ _ _ _ h => h) rfl rfl rfl
  refine zp (i := 5) rfl (PureV.toS (ze Zp rfl)) ?_ (by assumption) (by decide +kernel) (by decide +kernel) (by decide +kernel) (fun _ _ _ _ h => h) rfl rfl rfl
  refine zp (i := 6) rfl (ya yc rfl (fun _ h => ((hb3.no hm4).no h).cell (i := 1) rfl)) ?_ (by assumption) (by decide +kernel) (by decide +kernel) (by decide +kernel) (fun _ _ _ _ h => h) rfl rfl rfl
  refine Ze (i := 3) (Z8 rfl (zq cb_18 rfl ((refindex_ret (s := s) ((((hs.isl.no hm2).no hm3).no hm4).no hH) (by omega) t.name)) ?_)) (by decide +kernel)
  rintro _ w4' ⟨rfl, hm4'⟩
  refine yh (by first | assumption | exact Mv.no (by assumption) (by assumption)) (fun hH => ?_)
  refine Ze (i := 7) (Z8 rfl (zq cb_16 rfl ((reftable_ret (s := s) ((((hs.tsl.no hm2).no hm3).no hm4).no hH) (by omega) t.table)) ?_)) (by decide +kernel)
  rintro _ w5 ⟨rfl, hm5'⟩
  refine yh (by first | assumption | exact Mv.no (by assumption) (by assumption)) (fun hH => ?_)
  refine zp (i := 8) rfl (PureV.toS (zd rfl)) ?_ (by assumption) (by decide +kernel) (by decide +kernel) (by decide +kernel) (fun _ _ _ _ h => h) rfl rfl rfl
  refine zp (i := 9) rfl (PureV.toS (zd rfl)) ?_ (by assumption) (by decide +kernel) (by decide +kernel) (by decide +kernel) (fun _ _ _ _ h => h) rfl rfl rfl
  refine yZ (by decide +kernel) ?_
  refine zc (zf (zf ?_))
  have hm5 := hH
  have hm05 := ((hm2.no hm3).no hm4).no hm5
  have z2 := hm2.size
  have z3 := hm3.size
  have y4 := hb4.lt
  have y3 := hb3.lt
  have y2 := hb2.lt
  have z4 := hm4.size
  have z5 := hm5.size
  have hB2 : ∀ {wq}, Mv No w5 wq → Blk wq b2 (zM s) 37 := fun h => (((hb2.no hm3).no hm4).no hm5).no h
  have hB3 : ∀ {wq}, Mv No w5 wq → Blk wq b3 (yq t) 30 := fun h => ((hb3.no hm4).no hm5).no h
  have hB4 : ∀ {wq}, Mv No w5 wq → Blk wq b4 (zM zX) 37 := fun h => (hb4.no hm5).no h
  have hN : ∀ {β : Bool}, ZD t.name = β → _ := fun {β} h => refname_is (β := β) (hv.no hm05) (show t.name.length ≤ 100000 by omega) h
  rw [tAt_map, iAt_map]
  have htE : iE (s.tabs.map Tab.d) (s.idxs.map Idx.d_) t.d_ = if ZD t.name = false ∨ t.state < 1 ∨ t.state > 3 ∨ t.root < 1 ∨ t.root > 1600 ∨ t.cursor < 0 then 7 else if tAt (s.tabs.map Tab.d) t.table < 0 then 130 else if iAt (s.idxs.map Idx.d_) t.name < 0 ∧ 12 ≤ s.idxs.length then 11 else Z_ (((s.tabs.map Tab.d)[(tAt (s.tabs.map Tab.d) t.table).toNat]?.map fun t => t.2.1.length).getD 0) t.cols := by unfold iE; rw [hmapi]; rfl
  have htP : iPut (s.idxs.map Idx.d_) t.d_ = if iAt (s.idxs.map Idx.d_) t.name < 0 then y6 (fun a b => ltN a.1 b.1) (s.idxs.map Idx.d_ ++ [t.d_]) else (s.idxs.map Idx.d_).set (iAt (s.idxs.map Idx.d_) t.name).toNat t.d_ := rfl
  have hat : ¬ iAt (s.idxs.map Idx.d_) t.name < 0 → ∃ i : Nat, iAt (s.idxs.map Idx.d_) t.name = (i : Int) ∧ i < s.idxs.length := fun h => by
    obtain ⟨i, a, h1, _, h3⟩ := Yt h
    exact ⟨i, h1, by rw [← hmapi]; exact h3⟩
  have hof : ¬ tAt (s.tabs.map Tab.d) t.table < 0 → ∃ (j : Nat) (tj : Tab), tAt (s.tabs.map Tab.d) t.table = (j : Int) ∧ s.tabs[j]? = some tj ∧ j < s.tabs.length ∧ ((s.tabs.map Tab.d)[(tAt (s.tabs.map Tab.d) t.table).toNat]?.map fun t => t.2.1.length).getD 0 = tj.cols.length := fun h => by
    obtain ⟨j, a, h1, h2, h3⟩ := Yt h
    rw [List.getElem?_map] at h2
    obtain ⟨tj, htj, rfl⟩ := Option.map_eq_some_iff.1 h2
    refine ⟨j, tj, h1, htj, by rw [← hmap]; exact h3, ?_⟩
    rw [show (tAt (s.tabs.map Tab.d) t.table).toNat = j by rw [show tAt (s.tabs.map Tab.d) t.table = (j : Int) from h1]; rfl, List.getElem?_map, htj]
    rfl
  rw [htE, htP]
  generalize ((s.tabs.map Tab.d)[(tAt (s.tabs.map Tab.d) t.table).toNat]?.map fun t => t.2.1.length).getD 0 = pl at *
  generalize tAt (s.tabs.map Tab.d) t.table = of_ at *
  generalize iAt (s.idxs.map Idx.d_) t.name = at_ at *
  clear htE htP
  by_cases q1 : ZD t.name = false
  · rw [if_pos (.inl q1)]
    refine zb (L (S (ze yx rfl) ?_))
    refine L (zi yc rfl ((hB3 (Mv.refl _)).cell (i := 0) rfl) ?_)
    refine L (zq Z3 rfl ((hN q1)) ?_)
    rintro _ w6 ⟨rfl, hm6⟩
    refine L (S (yu rfl rfl) (L (S (za rfl) (zl (j := 4) (dj := 22) (b := false) (b' := true) (d := 23) rfl (zl (j := 4) (dj := 22) (b := false) (b' := true) (d := 24) rfl (zl (j := 4) (dj := 22) (b := false) (b' := true) (d := 25) rfl (L (S (zt rfl rfl) (L (S (za rfl) (zl (j := 9) (dj := 27) (b := false) (b' := true) (d := 28) rfl (zl (j := 9) (dj := 27) (b := false) (b' := true) (d := 29) rfl (zl (j := 9) (dj := 27) (b := false) (b' := true) (d := 30) rfl (L (S (zt rfl rfl) (L (S (za rfl) (zl (j := 14) (dj := 32) (b := false) (b' := true) (d := 33) rfl (zl (j := 14) (dj := 32) (b := false) (b' := true) (d := 34) rfl (zl (j := 14) (dj := 32) (b := false) (b' := true) (d := 35) rfl (L (S (zt rfl rfl) (L (S (za rfl) (zl (j := 19) (dj := 37) (b := false) (b' := true) (d := 38) rfl (zl (j := 19) (dj := 37) (b := false) (b' := true) (d := 39) rfl (zl (j := 19) (dj := 37) (b := false) (b' := true) (d := 40) rfl (L (S (zt rfl rfl) (L (S (za rfl) (zl (j := 24) (dj := 42) (b := false) (b' := true) (d := 43) rfl (zl (j := 24) (dj := 42) (b := false) (b' := true) (d := 44) rfl ?_)))))))))))))))))))))))))))))))))
    refine zl (j := 24) (dj := 42) (b := false) (b' := true) (d := 45) rfl (L (S (zt rfl rfl) (zg (zc (zr rfl (zf (zb ?_)))))))
    refine L (S (zW (ix := []) (l := []) Zq rfl (by simp [Value.oneCell']) rfl) ?_)
    refine L (zw z6 rfl rfl (zJ zX) rfl (hB4 hm6) (by exact Nat.le_refl 2) ?_)
    rintro w9 hb9 hm9
    refine L (S (zd rfl) (zg (zc (zy (zm ?_)))))
    have hb9' : Blk w9 b4 (zM zX) 37 := hb9
    refine yk (rs := [.cell 4 37, .tmp 5]) [.agg (zM zX).toArray, .int .i64 (7 : Nat)] Tryz.results35 ?_ ?_
    · exact ⟨⟨_, rfl, zu zZ hb9'.row rfl⟩, rfl, trivial⟩
    exact ⟨zX, rfl, (Z1 (base := 0)).ok, fun _ => rfl, fun h => absurd h (by decide), (hm05.no hm6).new hm9 (by omega)⟩
  replace q1 : ZD t.name = true := by simpa using q1
  by_cases q2 : t.state < 1
  · rw [if_pos (.inr (.inl q2))]
    refine zb (L (S (ze yx rfl) ?_))
    refine L (zi yc rfl ((hB3 (Mv.refl _)).cell (i := 0) rfl) ?_)
    refine L (zq Z3 rfl ((hN q1)) ?_)
    rintro _ w6 ⟨rfl, hm6⟩
    refine L (S (yu rfl rfl) (L (S (za rfl) (zh (j := 4) (dj := 22) (b := false) (S (ze yy rfl) ?_) rfl))))
    refine zh (j := 4) (dj := 22) (b := false) (zi z_ rfl ((hB3 hm6).cell (i := 3) rfl) ?_) rfl
    refine zh (j := 4) (dj := 22) (b := false) (S (zG rfl rfl (decide_eq_true (by omega))) ?_) rfl
    refine L (S (zj rfl rfl) (L (S (za rfl) (zl (j := 9) (dj := 27) (b := false) (b' := true) (d := 28) rfl (zl (j := 9) (dj := 27) (b := false) (b' := true) (d := 29) rfl (zl (j := 9) (dj := 27) (b := false) (b' := true) (d := 30) rfl (L (S (zt rfl rfl) (L (S (za rfl) (zl (j := 14) (dj := 32) (b := false) (b' := true) (d := 33) rfl (zl (j := 14) (dj := 32) (b := false) (b' := true) (d := 34) rfl (zl (j := 14) (dj := 32) (b := false) (b' := true) (d := 35) rfl (L (S (zt rfl rfl) (L (S (za rfl) (zl (j := 19) (dj := 37) (b := false) (b' := true) (d := 38) rfl (zl (j := 19) (dj := 37) (b := false) (b' := true) (d := 39) rfl (zl (j := 19) (dj := 37) (b := false) (b' := true) (d := 40) rfl (L (S (zt rfl rfl) (L (S (za rfl) (zl (j := 24) (dj := 42) (b := false) (b' := true) (d := 43) rfl (zl (j := 24) (dj := 42) (b := false) (b' := true) (d := 44) rfl (zl (j := 24) (dj := 42) (b := false) (b' := true) (d := 45) rfl (L (S (zt rfl rfl) (zg (zc (zr rfl ?_))))))))))))))))))))))))))))))))
    refine zf (zb ?_)
    refine L (S (zW (ix := []) (l := []) Zq rfl (by simp [Value.oneCell']) rfl) ?_)
    refine L (zw z6 rfl rfl (zJ zX) rfl (hB4 hm6) (by exact Nat.le_refl 2) ?_)
    rintro w9 hb9 hm9
    refine L (S (zd rfl) (zg (zc (zy (zm ?_)))))
    have hb9' : Blk w9 b4 (zM zX) 37 := hb9
    refine yk (rs := [.cell 4 37, .tmp 5]) [.agg (zM zX).toArray, .int .i64 (7 : Nat)] Tryz.results35 ?_ ?_
    · exact ⟨⟨_, rfl, zu zZ hb9'.row rfl⟩, rfl, trivial⟩
    exact ⟨zX, rfl, (Z1 (base := 0)).ok, fun _ => rfl, fun h => absurd h (by decide), (hm05.no hm6).new hm9 (by omega)⟩
  by_cases q3 : t.state > 3
  · rw [if_pos (.inr (.inr (.inl q3)))]
    refine zb (L (S (ze yx rfl) ?_))
    refine L (zi yc rfl ((hB3 (Mv.refl _)).cell (i := 0) rfl) ?_)
    refine L (zq Z3 rfl ((hN q1)) ?_)
    rintro _ w6 ⟨rfl, hm6⟩
    refine L (S (yu rfl rfl) (L (S (za rfl) (zh (j := 4) (dj := 22) (b := false) (S (ze yy rfl) ?_) rfl))))
    refine zh (j := 4) (dj := 22) (b := false) (zi z_ rfl ((hB3 hm6).cell (i := 3) rfl) ?_) rfl
    refine zh (j := 4) (dj := 22) (b := false) (S (zG rfl rfl (decide_eq_false (by omega))) ?_) rfl
    refine L (S (zj rfl rfl) (L (S (za rfl) (zh (j := 9) (dj := 27) (b := false) (S (ze yy rfl) ?_) rfl))))
    refine zh (j := 9) (dj := 27) (b := false) (zi z_ rfl ((hB3 hm6).cell (i := 3) rfl) ?_) rfl
    refine zh (j := 9) (dj := 27) (b := false) (S (yp rfl rfl (decide_eq_true (by omega))) ?_) rfl
    refine L (S (zj rfl rfl) (L (S (za rfl) (zl (j := 14) (dj := 32) (b := false) (b' := true) (d := 33) rfl (zl (j := 14) (dj := 32) (b := false) (b' := true) (d := 34) rfl (zl (j := 14) (dj := 32) (b := false) (b' := true) (d := 35) rfl (L (S (zt rfl rfl) (L (S (za rfl) (zl (j := 19) (dj := 37) (b := false) (b' := true) (d := 38) rfl (zl (j := 19) (dj := 37) (b := false) (b' := true) (d := 39) rfl (zl (j := 19) (dj := 37) (b := false) (b' := true) (d := 40) rfl (L (S (zt rfl rfl) (L (S (za rfl) (zl (j := 24) (dj := 42) (b := false) (b' := true) (d := 43) rfl (zl (j := 24) (dj := 42) (b := false) (b' := true) (d := 44) rfl (zl (j := 24) (dj := 42) (b := false) (b' := true) (d := 45) rfl (L (S (zt rfl rfl) (zg (zc (zr rfl (zf (zb ?_)))))))))))))))))))))))))))
    refine L (S (zW (ix := []) (l := []) Zq rfl (by simp [Value.oneCell']) rfl) ?_)
    refine L (zw z6 rfl rfl (zJ zX) rfl (hB4 hm6) (by exact Nat.le_refl 2) ?_)
    rintro w9 hb9 hm9
    refine L (S (zd rfl) (zg (zc (zy (zm ?_)))))
    have hb9' : Blk w9 b4 (zM zX) 37 := hb9
    refine yk (rs := [.cell 4 37, .tmp 5]) [.agg (zM zX).toArray, .int .i64 (7 : Nat)] Tryz.results35 ?_ ?_
    · exact ⟨⟨_, rfl, zu zZ hb9'.row rfl⟩, rfl, trivial⟩
    exact ⟨zX, rfl, (Z1 (base := 0)).ok, fun _ => rfl, fun h => absurd h (by decide), (hm05.no hm6).new hm9 (by omega)⟩
  by_cases q4 : t.root < 1
  · rw [if_pos (.inr (.inr (.inr (.inl q4))))]
    refine zb (L (S (ze yx rfl) ?_))
    refine L (zi yc rfl ((hB3 (Mv.refl _)).cell (i := 0) rfl) ?_)
    refine L (zq Z3 rfl ((hN q1)) ?_)
    rintro _ w6 ⟨rfl, hm6⟩
    refine L (S (yu rfl rfl) (L (S (za rfl) (zh (j := 4) (dj := 22) (b := false) (S (ze yy rfl) ?_) rfl))))
    refine zh (j := 4) (dj := 22) (b := false) (zi z_ rfl ((hB3 hm6).cell (i := 3) rfl) ?_) rfl
    refine zh (j := 4) (dj := 22) (b := false) (S (zG rfl rfl (decide_eq_false (by omega))) ?_) rfl
    refine L (S (zj rfl rfl) (L (S (za rfl) (zh (j := 9) (dj := 27) (b := false) (S (ze yy rfl) ?_) rfl))))
    refine zh (j := 9) (dj := 27) (b := false) (zi z_ rfl ((hB3 hm6).cell (i := 3) rfl) ?_) rfl
    refine zh (j := 9) (dj := 27) (b := false) (S (yp rfl rfl (decide_eq_false (by omega))) ?_) rfl
    refine L (S (zj rfl rfl) (L (S (za rfl) (zh (j := 14) (dj := 32) (b := false) (S (ze yO rfl) ?_) rfl))))
    refine zh (j := 14) (dj := 32) (b := false) (zi z_ rfl ((hB3 hm6).cell (i := 4) rfl) ?_) rfl
    refine zh (j := 14) (dj := 32) (b := false) (S (zG rfl rfl (decide_eq_true (by omega))) ?_) rfl
    refine L (S (zj rfl rfl) (L (S (za rfl) (zl (j := 19) (dj := 37) (b := false) (b' := true) (d := 38) rfl (zl (j := 19) (dj := 37) (b := false) (b' := true) (d := 39) rfl (zl (j := 19) (dj := 37) (b := false) (b' := true) (d := 40) rfl (L (S (zt rfl rfl) (L (S (za rfl) (zl (j := 24) (dj := 42) (b := false) (b' := true) (d := 43) rfl (zl (j := 24) (dj := 42) (b := false) (b' := true) (d := 44) rfl (zl (j := 24) (dj := 42) (b := false) (b' := true) (d := 45) rfl (L (S (zt rfl rfl) (zg (zc (zr rfl (zf (zb ?_))))))))))))))))))))
    refine L (S (zW (ix := []) (l := []) Zq rfl (by simp [Value.oneCell']) rfl) ?_)
    refine L (zw z6 rfl rfl (zJ zX) rfl (hB4 hm6) (by exact Nat.le_refl 2) ?_)
    rintro w9 hb9 hm9
    refine L (S (zd rfl) (zg (zc (zy (zm ?_)))))
    have hb9' : Blk w9 b4 (zM zX) 37 := hb9
    refine yk (rs := [.cell 4 37, .tmp 5]) [.agg (zM zX).toArray, .int .i64 (7 : Nat)] Tryz.results35 ?_ ?_
    · exact ⟨⟨_, rfl, zu zZ hb9'.row rfl⟩, rfl, trivial⟩
    exact ⟨zX, rfl, (Z1 (base := 0)).ok, fun _ => rfl, fun h => absurd h (by decide), (hm05.no hm6).new hm9 (by omega)⟩
  by_cases q5 : t.root > 1600
  · rw [if_pos (.inr (.inr (.inr (.inr (.inl q5)))))]
    refine zb (L (S (ze yx rfl) ?_))
    refine L (zi yc rfl ((hB3 (Mv.refl _)).cell (i := 0) rfl) ?_)
    refine L (zq Z3 rfl ((hN q1)) ?_)
    rintro _ w6 ⟨rfl, hm6⟩
    refine L (S (yu rfl rfl) (L (S (za rfl) (zh (j := 4) (dj := 22) (b := false) (S (ze yy rfl) ?_) rfl))))
    refine zh (j := 4) (dj := 22) (b := false) (zi z_ rfl ((hB3 hm6).cell (i := 3) rfl) ?_) rfl
    refine zh (j := 4) (dj := 22) (b := false) (S (zG rfl rfl (decide_eq_false (by omega))) ?_) rfl
    refine L (S (zj rfl rfl) (L (S (za rfl) (zh (j := 9) (dj := 27) (b := false) (S (ze yy rfl) ?_) rfl))))
    refine zh (j := 9) (dj := 27) (b := false) (zi z_ rfl ((hB3 hm6).cell (i := 3) rfl) ?_) rfl
    refine zh (j := 9) (dj := 27) (b := false) (S (yp rfl rfl (decide_eq_false (by omega))) ?_) rfl
    refine L (S (zj rfl rfl) (L (S (za rfl) (zh (j := 14) (dj := 32) (b := false) (S (ze yO rfl) ?_) rfl))))
    refine zh (j := 14) (dj := 32) (b := false) (zi z_ rfl ((hB3 hm6).cell (i := 4) rfl) ?_) rfl
    refine zh (j := 14) (dj := 32) (b := false) (S (zG rfl rfl (decide_eq_false (by omega))) ?_) rfl
    refine L (S (zj rfl rfl) (L (S (za rfl) (zh (j := 19) (dj := 37) (b := false) (S (ze yO rfl) ?_) rfl))))
    refine zh (j := 19) (dj := 37) (b := false) (zi z_ rfl ((hB3 hm6).cell (i := 4) rfl) ?_) rfl
    refine zh (j := 19) (dj := 37) (b := false) (S (yp rfl rfl (decide_eq_true (by omega))) ?_) rfl
    refine L (S (zj rfl rfl) (L (S (za rfl) (zl (j := 24) (dj := 42) (b := false) (b' := true) (d := 43) rfl (zl (j := 24) (dj := 42) (b := false) (b' := true) (d := 44) rfl (zl (j := 24) (dj := 42) (b := false) (b' := true) (d := 45) rfl (L (S (zt rfl rfl) (zg (zc (zr rfl (zf (zb ?_)))))))))))))
    refine L (S (zW (ix := []) (l := []) Zq rfl (by simp [Value.oneCell']) rfl) ?_)
    refine L (zw z6 rfl rfl (zJ zX) rfl (hB4 hm6) (by exact Nat.le_refl 2) ?_)
    rintro w9 hb9 hm9
    refine L (S (zd rfl) (zg (zc (zy (zm ?_)))))
    have hb9' : Blk w9 b4 (zM zX) 37 := hb9
    refine yk (rs := [.cell 4 37, .tmp 5]) [.agg (zM zX).toArray, .int .i64 (7 : Nat)] Tryz.results35 ?_ ?_
    · exact ⟨⟨_, rfl, zu zZ hb9'.row rfl⟩, rfl, trivial⟩
    exact ⟨zX, rfl, (Z1 (base := 0)).ok, fun _ => rfl, fun h => absurd h (by decide), (hm05.no hm6).new hm9 (by omega)⟩
  by_cases q9 : t.cursor < 0
  · rw [if_pos (.inr (.inr (.inr (.inr (.inr q9)))))]
    refine zb (L (S (ze yx rfl) ?_))
    refine L (zi yc rfl ((hB3 (Mv.refl _)).cell (i := 0) rfl) ?_)
    refine L (zq Z3 rfl ((hN q1)) ?_)
    rintro _ w6 ⟨rfl, hm6⟩
    refine L (S (yu rfl rfl) (L (S (za rfl) (zh (j := 4) (dj := 22) (b := false) (S (ze yy rfl) ?_) rfl))))
    refine zh (j := 4) (dj := 22) (b := false) (zi z_ rfl ((hB3 hm6).cell (i := 3) rfl) ?_) rfl
    refine zh (j := 4) (dj := 22) (b := false) (S (zG rfl rfl (decide_eq_false (by omega))) ?_) rfl
    refine L (S (zj rfl rfl) (L (S (za rfl) (zh (j := 9) (dj := 27) (b := false) (S (ze yy rfl) ?_) rfl))))
    refine zh (j := 9) (dj := 27) (b := false) (zi z_ rfl ((hB3 hm6).cell (i := 3) rfl) ?_) rfl
    refine zh (j := 9) (dj := 27) (b := false) (S (yp rfl rfl (decide_eq_false (by omega))) ?_) rfl
    refine L (S (zj rfl rfl) (L (S (za rfl) (zh (j := 14) (dj := 32) (b := false) (S (ze yO rfl) ?_) rfl))))
    refine zh (j := 14) (dj := 32) (b := false) (zi z_ rfl ((hB3 hm6).cell (i := 4) rfl) ?_) rfl
    refine zh (j := 14) (dj := 32) (b := false) (S (zG rfl rfl (decide_eq_false (by omega))) ?_) rfl
    refine L (S (zj rfl rfl) (L (S (za rfl) (zh (j := 19) (dj := 37) (b := false) (S (ze yO rfl) ?_) rfl))))
    refine zh (j := 19) (dj := 37) (b := false) (zi z_ rfl ((hB3 hm6).cell (i := 4) rfl) ?_) rfl
    refine zh (j := 19) (dj := 37) (b := false) (S (yp rfl rfl (decide_eq_false (by omega))) ?_) rfl
    refine L (S (zj rfl rfl) (L (S (za rfl) (zh (j := 24) (dj := 42) (b := false) (S (ze ZI rfl) ?_) rfl))))
    refine zh (j := 24) (dj := 42) (b := false) (zi Zw rfl ((hB3 hm6).cell (i := 5) rfl) ?_) rfl
    refine zh (j := 24) (dj := 42) (b := false) (S (zG rfl rfl (decide_eq_true (by omega))) ?_) rfl
    refine L (S (zj rfl rfl) (zg (zc (zr rfl (zf (zb ?_))))))
    refine L (S (zW (ix := []) (l := []) Zq rfl (by simp [Value.oneCell']) rfl) ?_)
    refine L (zw z6 rfl rfl (zJ zX) rfl (hB4 hm6) (by exact Nat.le_refl 2) ?_)
    rintro w9 hb9 hm9
    refine L (S (zd rfl) (zg (zc (zy (zm ?_)))))
    have hb9' : Blk w9 b4 (zM zX) 37 := hb9
    refine yk (rs := [.cell 4 37, .tmp 5]) [.agg (zM zX).toArray, .int .i64 (7 : Nat)] Tryz.results35 ?_ ?_
    · exact ⟨⟨_, rfl, zu zZ hb9'.row rfl⟩, rfl, trivial⟩
    exact ⟨zX, rfl, (Z1 (base := 0)).ok, fun _ => rfl, fun h => absurd h (by decide), (hm05.no hm6).new hm9 (by omega)⟩
  rw [if_neg (by rw [q1]; simp; omega)]
  by_cases q10 : of_ < 0
  · rw [if_pos q10]
    refine zb (L (S (ze yx rfl) ?_))
    refine L (zi yc rfl ((hB3 (Mv.refl _)).cell (i := 0) rfl) ?_)
    refine L (zq Z3 rfl ((hN q1)) ?_)
    rintro _ w6 ⟨rfl, hm6⟩
    refine L (S (yu rfl rfl) (L (S (za rfl) (zh (j := 4) (dj := 22) (b := false) (S (ze yy rfl) ?_) rfl))))
    refine zh (j := 4) (dj := 22) (b := false) (zi z_ rfl ((hB3 hm6).cell (i := 3) rfl) ?_) rfl
    refine zh (j := 4) (dj := 22) (b := false) (S (zG rfl rfl (decide_eq_false (by omega))) ?_) rfl
    refine L (S (zj rfl rfl) (L (S (za rfl) (zh (j := 9) (dj := 27) (b := false) (S (ze yy rfl) ?_) rfl))))
    refine zh (j := 9) (dj := 27) (b := false) (zi z_ rfl ((hB3 hm6).cell (i := 3) rfl) ?_) rfl
    refine zh (j := 9) (dj := 27) (b := false) (S (yp rfl rfl (decide_eq_false (by omega))) ?_) rfl
    refine L (S (zj rfl rfl) (L (S (za rfl) (zh (j := 14) (dj := 32) (b := false) (S (ze yO rfl) ?_) rfl))))
    refine zh (j := 14) (dj := 32) (b := false) (zi z_ rfl ((hB3 hm6).cell (i := 4) rfl) ?_) rfl
    refine zh (j := 14) (dj := 32) (b := false) (S (zG rfl rfl (decide_eq_false (by omega))) ?_) rfl
    refine L (S (zj rfl rfl) (L (S (za rfl) (zh (j := 19) (dj := 37) (b := false) (S (ze yO rfl) ?_) rfl))))
    refine zh (j := 19) (dj := 37) (b := false) (zi z_ rfl ((hB3 hm6).cell (i := 4) rfl) ?_) rfl
    refine zh (j := 19) (dj := 37) (b := false) (S (yp rfl rfl (decide_eq_false (by omega))) ?_) rfl
    refine L (S (zj rfl rfl) (L (S (za rfl) (zh (j := 24) (dj := 42) (b := false) (S (ze ZI rfl) ?_) rfl))))
    refine zh (j := 24) (dj := 42) (b := false) (zi Zw rfl ((hB3 hm6).cell (i := 5) rfl) ?_) rfl
    refine zh (j := 24) (dj := 42) (b := false) (S (zG rfl rfl (decide_eq_false (by omega))) ?_) rfl
    refine L (S (zj rfl rfl) (zg (zc (zk rfl (zo (zc (zf (zf (zb (L (S (za rfl) ?_)))))))))))
    refine L (S (zG rfl rfl (decide_eq_true (by omega))) ?_)
    refine zg (zc (zr rfl (zf (zb ?_))))
    refine L (S (zW (ix := []) (l := []) Zq rfl (by simp [Value.oneCell']) rfl) ?_)
    refine L (zw z6 rfl rfl (zJ zX) rfl (hB4 hm6) (by exact Nat.le_refl 2) ?_)
    rintro w9 hb9 hm9
    refine L (S (zd rfl) (zg (zc (zy (zm ?_)))))
    have hb9' : Blk w9 b4 (zM zX) 37 := hb9
    refine yk (rs := [.cell 4 37, .tmp 5]) [.agg (zM zX).toArray, .int .i64 (130 : Nat)] Tryz.results35 ?_ ?_
    · exact ⟨⟨_, rfl, zu zZ hb9'.row rfl⟩, rfl, trivial⟩
    exact ⟨zX, rfl, (Z1 (base := 0)).ok, fun _ => rfl, fun h => absurd h (by decide), (hm05.no hm6).new hm9 (by omega)⟩
  rw [if_neg q10]
  by_cases q6 : at_ < 0 ∧ 12 ≤ s.idxs.length
  · rw [if_pos q6]
    refine zb (L (S (ze yx rfl) ?_))
    refine L (zi yc rfl ((hB3 (Mv.refl _)).cell (i := 0) rfl) ?_)
    refine L (zq Z3 rfl ((hN q1)) ?_)
    rintro _ w6 ⟨rfl, hm6⟩
    refine L (S (yu rfl rfl) (L (S (za rfl) (zh (j := 4) (dj := 22) (b := false) (S (ze yy rfl) ?_) rfl))))
    refine zh (j := 4) (dj := 22) (b := false) (zi z_ rfl ((hB3 hm6).cell (i := 3) rfl) ?_) rfl
    refine zh (j := 4) (dj := 22) (b := false) (S (zG rfl rfl (decide_eq_false (by omega))) ?_) rfl
    refine L (S (zj rfl rfl) (L (S (za rfl) (zh (j := 9) (dj := 27) (b := false) (S (ze yy rfl) ?_) rfl))))
    refine zh (j := 9) (dj := 27) (b := false) (zi z_ rfl ((hB3 hm6).cell (i := 3) rfl) ?_) rfl
    refine zh (j := 9) (dj := 27) (b := false) (S (yp rfl rfl (decide_eq_false (by omega))) ?_) rfl
    refine L (S (zj rfl rfl) (L (S (za rfl) (zh (j := 14) (dj := 32) (b := false) (S (ze yO rfl) ?_) rfl))))
    refine zh (j := 14) (dj := 32) (b := false) (zi z_ rfl ((hB3 hm6).cell (i := 4) rfl) ?_) rfl
    refine zh (j := 14) (dj := 32) (b := false) (S (zG rfl rfl (decide_eq_false (by omega))) ?_) rfl
    refine L (S (zj rfl rfl) (L (S (za rfl) (zh (j := 19) (dj := 37) (b := false) (S (ze yO rfl) ?_) rfl))))
    refine zh (j := 19) (dj := 37) (b := false) (zi z_ rfl ((hB3 hm6).cell (i := 4) rfl) ?_) rfl
    refine zh (j := 19) (dj := 37) (b := false) (S (yp rfl rfl (decide_eq_false (by omega))) ?_) rfl
    refine L (S (zj rfl rfl) (L (S (za rfl) (zh (j := 24) (dj := 42) (b := false) (S (ze ZI rfl) ?_) rfl))))
    refine zh (j := 24) (dj := 42) (b := false) (zi Zw rfl ((hB3 hm6).cell (i := 5) rfl) ?_) rfl
    refine zh (j := 24) (dj := 42) (b := false) (S (zG rfl rfl (decide_eq_false (by omega))) ?_) rfl
    refine L (S (zj rfl rfl) (zg (zc (zk rfl (zo (zc (zf (zf (zb (L (S (za rfl) ?_)))))))))))
    refine L (S (zG rfl rfl (decide_eq_false (by omega))) ?_)
    refine zg (zc (zk rfl (zo (zc (zf (zf (zb (L (S (za rfl) ?_)))))))))
    refine L (S (zG rfl rfl (decide_eq_true (by omega))) ?_)
    refine L (S (za rfl) (zh (j := 2) (dj := 53) (b := true) (S (ze yf rfl) ?_) rfl))
    refine zh (j := 2) (dj := 53) (b := true) (zi yS rfl ((hB2 hm6).cell (i := 1) rfl) ?_) rfl
    refine zh (j := 2) (dj := 53) (b := true) (S (zH Tryz.underlying35 rfl) ?_) rfl
    refine zh (j := 2) (dj := 53) (b := true) (S (y_ rfl rfl (decide_eq_true (by omega))) ?_) rfl
    refine L (S (zt rfl rfl) (zg (zc (zr rfl (zf (zb ?_))))))
    refine L (S (zW (ix := []) (l := []) Zq rfl (by simp [Value.oneCell']) rfl) ?_)
    refine L (zw z6 rfl rfl (zJ zX) rfl (hB4 hm6) (by exact Nat.le_refl 2) ?_)
    rintro w9 hb9 hm9
    refine L (S (zd rfl) (zg (zc (zy (zm ?_)))))
    have hb9' : Blk w9 b4 (zM zX) 37 := hb9
    refine yk (rs := [.cell 4 37, .tmp 5]) [.agg (zM zX).toArray, .int .i64 (11 : Nat)] Tryz.results35 ?_ ?_
    · exact ⟨⟨_, rfl, zu zZ hb9'.row rfl⟩, rfl, trivial⟩
    exact ⟨zX, rfl, (Z1 (base := 0)).ok, fun _ => rfl, fun h => absurd h (by decide), (hm05.no hm6).new hm9 (by omega)⟩
  rw [if_neg q6]
  obtain ⟨j, tj, hj, htj, hjl, hpl⟩ := hof q10
  rw [hpl]
  have hjm := List.mem_of_getElem? htj
  obtain ⟨bj, oj, hAj, -, hrj0⟩ := yr yI (by decide) (hs.tsl.no hm05) htj
  have hrj : ∀ {wq}, Mv No w5 wq → Row wq bj (oj + j * 5) (yA tj) := fun h => hrj0.no h
  have hcj : ∀ {wq}, Mv No w5 wq → wq.cell? ⟨b2, 0, none⟩ = some (.slice (some ⟨bj, oj, none⟩) s.tabs.length s.c) := fun h => by rw [← hAj]; exact (hB2 h).cell (i := 0) rfl
  have hC := fun {wq} (h : Mv No w5 wq) => refplaces_ret (t := tj) (l := t.cols) (A := t.A) (c := t.cap) ((ht.sl.no hm05).no h) (by omega) (by have := (hsm.tab tj hjm).cl; omega)
  by_cases q7 : Z_ tj.cols.length t.cols ≠ 0
  · by_cases q8 : at_ < 0
    · refine zb (L (S (ze yx rfl) ?_))
      refine L (zi yc rfl ((hB3 (Mv.refl _)).cell (i := 0) rfl) ?_)
      refine L (zq Z3 rfl ((hN q1)) ?_)
      rintro _ w6 ⟨rfl, hm6⟩
      refine L (S (yu rfl rfl) (L (S (za rfl) (zh (j := 4) (dj := 22) (b := false) (S (ze yy rfl) ?_) rfl))))
      refine zh (j := 4) (dj := 22) (b := false) (zi z_ rfl ((hB3 hm6).cell (i := 3) rfl) ?_) rfl
      refine zh (j := 4) (dj := 22) (b := false) (S (zG rfl rfl (decide_eq_false (by omega))) ?_) rfl
      refine L (S (zj rfl rfl) (L (S (za rfl) (zh (j := 9) (dj := 27) (b := false) (S (ze yy rfl) ?_) rfl))))
      refine zh (j := 9) (dj := 27) (b := false) (zi z_ rfl ((hB3 hm6).cell (i := 3) rfl) ?_) rfl
      refine zh (j := 9) (dj := 27) (b := false) (S (yp rfl rfl (decide_eq_false (by omega))) ?_) rfl
      refine L (S (zj rfl rfl) (L (S (za rfl) (zh (j := 14) (dj := 32) (b := false) (S (ze yO rfl) ?_) rfl))))
      refine zh (j := 14) (dj := 32) (b := false) (zi z_ rfl ((hB3 hm6).cell (i := 4) rfl) ?_) rfl
      refine zh (j := 14) (dj := 32) (b := false) (S (zG rfl rfl (decide_eq_false (by omega))) ?_) rfl
      refine L (S (zj rfl rfl) (L (S (za rfl) (zh (j := 19) (dj := 37) (b := false) (S (ze yO rfl) ?_) rfl))))
      refine zh (j := 19) (dj := 37) (b := false) (zi z_ rfl ((hB3 hm6).cell (i := 4) rfl) ?_) rfl
      refine zh (j := 19) (dj := 37) (b := false) (S (yp rfl rfl (decide_eq_false (by omega))) ?_) rfl
      refine L (S (zj rfl rfl) (L (S (za rfl) (zh (j := 24) (dj := 42) (b := false) (S (ze ZI rfl) ?_) rfl))))
      refine zh (j := 24) (dj := 42) (b := false) (zi Zw rfl ((hB3 hm6).cell (i := 5) rfl) ?_) rfl
      refine zh (j := 24) (dj := 42) (b := false) (S (zG rfl rfl (decide_eq_false (by omega))) ?_) rfl
      refine L (S (zj rfl rfl) (zg (zc (zk rfl (zo (zc (zf (zf (zb (L (S (za rfl) ?_)))))))))))
      refine L (S (zG rfl rfl (decide_eq_false (by omega))) ?_)
      refine zg (zc (zk rfl (zo (zc (zf (zf (zb (L (S (za rfl) ?_)))))))))
      refine L (S (zG rfl rfl (decide_eq_true (by omega))) ?_)
      refine L (S (za rfl) (zh (j := 2) (dj := 53) (b := true) (S (ze yf rfl) ?_) rfl))
      refine zh (j := 2) (dj := 53) (b := true) (zi yS rfl ((hB2 hm6).cell (i := 1) rfl) ?_) rfl
      refine zh (j := 2) (dj := 53) (b := true) (S (zH Tryz.underlying35 rfl) ?_) rfl
      refine zh (j := 2) (dj := 53) (b := true) (S (y_ rfl rfl (decide_eq_false (by omega))) ?_) rfl
      refine L (S (zt rfl rfl) (zg (zc (zk rfl (zo (zc (zf (zf ?_))))))))
      refine yP 9 mixed rfl (fun hH => ?_)
      refine zp (i := 0) rfl (PureV.toS (ze yg rfl)) ?_ (by assumption) (by decide +kernel) (by decide +kernel) (by decide +kernel) (fun _ _ _ _ h => h) rfl rfl rfl
      refine zp (i := 1) rfl (ya yX rfl (fun _ h => hcj (hm6.no h))) ?_ (by assumption) (by decide +kernel) (by decide +kernel) (by decide +kernel) (fun _ _ _ _ h => h) rfl rfl rfl
      refine zp (i := 2) rfl (PureV.toS (za rfl)) ?_ (by assumption) (by decide +kernel) (by decide +kernel) (by decide +kernel) (fun _ _ _ _ h => h) rfl rfl rfl
      refine zp (i := 3) rfl (PureV.toS (zn Tryz.underlying34 (zD yl) rfl rfl (j := j) hj (by omega) (p := oj + j * 5) (by omega))) ?_ (by assumption) (by decide +kernel) (by decide +kernel) (by decide +kernel) (fun _ _ _ _ h => h) rfl rfl rfl
      refine zp (i := 4) rfl (yE Zo rfl (fun _ h => hrj (hm6.no h)) rfl) ?_ (by assumption) (by decide +kernel) (by decide +kernel) (by decide +kernel) (fun _ _ _ _ h => h) rfl rfl rfl
      refine zp (i := 5) rfl (PureV.toS (ze Zj rfl)) ?_ (by assumption) (by decide +kernel) (by decide +kernel) (by decide +kernel) (fun _ _ _ _ h => h) rfl rfl rfl
      refine zp (i := 6) rfl (ya Z6 rfl (fun _ h => (hB3 (hm6.no h)).cell (i := 2) rfl)) ?_ (by assumption) (by decide +kernel) (by decide +kernel) (by decide +kernel) (fun _ _ _ _ h => h) rfl rfl rfl
      refine Ze (i := 7) (Z8 rfl (zq cb_26 rfl ((hC (hm6.no hH))) ?_)) (by decide +kernel)
      rintro _ w7 ⟨rfl, hm7⟩
      refine yh (by first | assumption | exact Mv.no (by assumption) (by assumption)) (fun hH => ?_)
      refine zp (i := 8) rfl (PureV.toS (zd rfl)) ?_ (by assumption) (by decide +kernel) (by decide +kernel) (by decide +kernel) (fun _ _ _ _ h => h) rfl rfl rfl
      refine yZ (by decide +kernel) ?_
      refine zc (zf (zb (L (S (za rfl) ?_))))
      refine L (S (Za rfl rfl (decide_eq_true (by omega))) ?_)
      refine zg (zc (zr rfl (zf (zb ?_))))
      refine L (S (zW (ix := []) (l := []) Zq rfl (by simp [Value.oneCell']) rfl) ?_)
      refine L (S (za rfl) ?_)
      refine L (zw z6 rfl rfl (zJ zX) rfl (hB4 (hm6.no hH)) (by exact Nat.le_refl 2) ?_)
      rintro w9 hb9 hm9
      refine L (S (zd rfl) (zg (zc (zy (zm ?_)))))
      have hb9' : Blk w9 b4 (zM zX) 37 := hb9
      refine yk (rs := [.cell 4 37, .tmp 5]) [.agg (zM zX).toArray, .int .i64 (Z_ tj.cols.length t.cols : Nat)] Tryz.results35 ?_ ?_
      · exact ⟨⟨_, rfl, zu zZ hb9'.row rfl⟩, rfl, trivial⟩
      exact ⟨zX, rfl, (Z1 (base := 0)).ok, fun _ => rfl, fun h => absurd h q7, (hm05.no (hm6.no hH)).new hm9 (by omega)⟩
    · refine zb (L (S (ze yx rfl) ?_))
      refine L (zi yc rfl ((hB3 (Mv.refl _)).cell (i := 0) rfl) ?_)
      refine L (zq Z3 rfl ((hN q1)) ?_)
      rintro _ w6 ⟨rfl, hm6⟩
      refine L (S (yu rfl rfl) (L (S (za rfl) (zh (j := 4) (dj := 22) (b := false) (S (ze yy rfl) ?_) rfl))))
      refine zh (j := 4) (dj := 22) (b := false) (zi z_ rfl ((hB3 hm6).cell (i := 3) rfl) ?_) rfl
      refine zh (j := 4) (dj := 22) (b := false) (S (zG rfl rfl (decide_eq_false (by omega))) ?_) rfl
      refine L (S (zj rfl rfl) (L (S (za rfl) (zh (j := 9) (dj := 27) (b := false) (S (ze yy rfl) ?_) rfl))))
      refine zh (j := 9) (dj := 27) (b := false) (zi z_ rfl ((hB3 hm6).cell (i := 3) rfl) ?_) rfl
      refine zh (j := 9) (dj := 27) (b := false) (S (yp rfl rfl (decide_eq_false (by omega))) ?_) rfl
      refine L (S (zj rfl rfl) (L (S (za rfl) (zh (j := 14) (dj := 32) (b := false) (S (ze yO rfl) ?_) rfl))))
      refine zh (j := 14) (dj := 32) (b := false) (zi z_ rfl ((hB3 hm6).cell (i := 4) rfl) ?_) rfl
      refine zh (j := 14) (dj := 32) (b := false) (S (zG rfl rfl (decide_eq_false (by omega))) ?_) rfl
      refine L (S (zj rfl rfl) (L (S (za rfl) (zh (j := 19) (dj := 37) (b := false) (S (ze yO rfl) ?_) rfl))))
      refine zh (j := 19) (dj := 37) (b := false) (zi z_ rfl ((hB3 hm6).cell (i := 4) rfl) ?_) rfl
      refine zh (j := 19) (dj := 37) (b := false) (S (yp rfl rfl (decide_eq_false (by omega))) ?_) rfl
      refine L (S (zj rfl rfl) (L (S (za rfl) (zh (j := 24) (dj := 42) (b := false) (S (ze ZI rfl) ?_) rfl))))
      refine zh (j := 24) (dj := 42) (b := false) (zi Zw rfl ((hB3 hm6).cell (i := 5) rfl) ?_) rfl
      refine zh (j := 24) (dj := 42) (b := false) (S (zG rfl rfl (decide_eq_false (by omega))) ?_) rfl
      refine L (S (zj rfl rfl) (zg (zc (zk rfl (zo (zc (zf (zf (zb (L (S (za rfl) ?_)))))))))))
      refine L (S (zG rfl rfl (decide_eq_false (by omega))) ?_)
      refine zg (zc (zk rfl (zo (zc (zf (zf (zb (L (S (za rfl) ?_)))))))))
      refine L (S (zG rfl rfl (decide_eq_false (by omega))) ?_)
      refine L (S (za rfl) (zl (j := 2) (dj := 53) (b := true) (b' := false) (d := 54) rfl (zl (j := 2) (dj := 53) (b := true) (b' := false) (d := 55) rfl (zl (j := 2) (dj := 53) (b := true) (b' := false) (d := 56) rfl (zl (j := 2) (dj := 53) (b := true) (b' := false) (d := 57) rfl (L (S (zj rfl rfl) (zg (zc (zk rfl (zo (zc (zf (zf ?_))))))))))))))
      refine yP 9 mixed rfl (fun hH => ?_)
      refine zp (i := 0) rfl (PureV.toS (ze yg rfl)) ?_ (by assumption) (by decide +kernel) (by decide +kernel) (by decide +kernel) (fun _ _ _ _ h => h) rfl rfl rfl
      refine zp (i := 1) rfl (ya yX rfl (fun _ h => hcj (hm6.no h))) ?_ (by assumption) (by decide +kernel) (by decide +kernel) (by decide +kernel) (fun _ _ _ _ h => h) rfl rfl rfl
      refine zp (i := 2) rfl (PureV.toS (za rfl)) ?_ (by assumption) (by decide +kernel) (by decide +kernel) (by decide +kernel) (fun _ _ _ _ h => h) rfl rfl rfl
      refine zp (i := 3) rfl (PureV.toS (zn Tryz.underlying34 (zD yl) rfl rfl (j := j) hj (by omega) (p := oj + j * 5) (by omega))) ?_ (by assumption) (by decide +kernel) (by decide +kernel) (by decide +kernel) (fun _ _ _ _ h => h) rfl rfl rfl
      refine zp (i := 4) rfl (yE Zo rfl (fun _ h => hrj (hm6.no h)) rfl) ?_ (by assumption) (by decide +kernel) (by decide +kernel) (by decide +kernel) (fun _ _ _ _ h => h) rfl rfl rfl
      refine zp (i := 5) rfl (PureV.toS (ze Zj rfl)) ?_ (by assumption) (by decide +kernel) (by decide +kernel) (by decide +kernel) (fun _ _ _ _ h => h) rfl rfl rfl
      refine zp (i := 6) rfl (ya Z6 rfl (fun _ h => (hB3 (hm6.no h)).cell (i := 2) rfl)) ?_ (by assumption) (by decide +kernel) (by decide +kernel) (by decide +kernel) (fun _ _ _ _ h => h) rfl rfl rfl
      refine Ze (i := 7) (Z8 rfl (zq cb_26 rfl ((hC (hm6.no hH))) ?_)) (by decide +kernel)
      rintro _ w7 ⟨rfl, hm7⟩
      refine yh (by first | assumption | exact Mv.no (by assumption) (by assumption)) (fun hH => ?_)
      refine zp (i := 8) rfl (PureV.toS (zd rfl)) ?_ (by assumption) (by decide +kernel) (by decide +kernel) (by decide +kernel) (fun _ _ _ _ h => h) rfl rfl rfl
      refine yZ (by decide +kernel) ?_
      refine zc (zf (zb (L (S (za rfl) ?_))))
      refine L (S (Za rfl rfl (decide_eq_true (by omega))) ?_)
      refine zg (zc (zr rfl (zf (zb ?_))))
      refine L (S (zW (ix := []) (l := []) Zq rfl (by simp [Value.oneCell']) rfl) ?_)
      refine L (S (za rfl) ?_)
      refine L (zw z6 rfl rfl (zJ zX) rfl (hB4 (hm6.no hH)) (by exact Nat.le_refl 2) ?_)
      rintro w9 hb9 hm9
      refine L (S (zd rfl) (zg (zc (zy (zm ?_)))))
      have hb9' : Blk w9 b4 (zM zX) 37 := hb9
      refine yk (rs := [.cell 4 37, .tmp 5]) [.agg (zM zX).toArray, .int .i64 (Z_ tj.cols.length t.cols : Nat)] Tryz.results35 ?_ ?_
      · exact ⟨⟨_, rfl, zu zZ hb9'.row rfl⟩, rfl, trivial⟩
      exact ⟨zX, rfl, (Z1 (base := 0)).ok, fun _ => rfl, fun h => absurd h q7, (hm05.no (hm6.no hH)).new hm9 (by omega)⟩
  have q7' : Z_ tj.cols.length t.cols = 0 := by omega
  rw [q7']
  by_cases q8 : at_ < 0
  · rw [if_pos q8]
    refine zb (L (S (ze yx rfl) ?_))
    refine L (zi yc rfl ((hB3 (Mv.refl _)).cell (i := 0) rfl) ?_)
    refine L (zq Z3 rfl ((hN q1)) ?_)
    rintro _ w6 ⟨rfl, hm6⟩
    refine L (S (yu rfl rfl) (L (S (za rfl) (zh (j := 4) (dj := 22) (b := false) (S (ze yy rfl) ?_) rfl))))
    refine zh (j := 4) (dj := 22) (b := false) (zi z_ rfl ((hB3 hm6).cell (i := 3) rfl) ?_) rfl
    refine zh (j := 4) (dj := 22) (b := false) (S (zG rfl rfl (decide_eq_false (by omega))) ?_) rfl
    refine L (S (zj rfl rfl) (L (S (za rfl) (zh (j := 9) (dj := 27) (b := false) (S (ze yy rfl) ?_) rfl))))
    refine zh (j := 9) (dj := 27) (b := false) (zi z_ rfl ((hB3 hm6).cell (i := 3) rfl) ?_) rfl
    refine zh (j := 9) (dj := 27) (b := false) (S (yp rfl rfl (decide_eq_false (by omega))) ?_) rfl
    refine L (S (zj rfl rfl) (L (S (za rfl) (zh (j := 14) (dj := 32) (b := false) (S (ze yO rfl) ?_) rfl))))
    refine zh (j := 14) (dj := 32) (b := false) (zi z_ rfl ((hB3 hm6).cell (i := 4) rfl) ?_) rfl
    refine zh (j := 14) (dj := 32) (b := false) (S (zG rfl rfl (decide_eq_false (by omega))) ?_) rfl
    refine L (S (zj rfl rfl) (L (S (za rfl) (zh (j := 19) (dj := 37) (b := false) (S (ze yO rfl) ?_) rfl))))
    refine zh (j := 19) (dj := 37) (b := false) (zi z_ rfl ((hB3 hm6).cell (i := 4) rfl) ?_) rfl
    refine zh (j := 19) (dj := 37) (b := false) (S (yp rfl rfl (decide_eq_false (by omega))) ?_) rfl
    refine L (S (zj rfl rfl) (L (S (za rfl) (zh (j := 24) (dj := 42) (b := false) (S (ze ZI rfl) ?_) rfl))))
    refine zh (j := 24) (dj := 42) (b := false) (zi Zw rfl ((hB3 hm6).cell (i := 5) rfl) ?_) rfl
    refine zh (j := 24) (dj := 42) (b := false) (S (zG rfl rfl (decide_eq_false (by omega))) ?_) rfl
    refine L (S (zj rfl rfl) (zg (zc (zk rfl (zo (zc (zf (zf (zb (L (S (za rfl) ?_)))))))))))
    refine L (S (zG rfl rfl (decide_eq_false (by omega))) ?_)
    refine zg (zc (zk rfl (zo (zc (zf (zf (zb (L (S (za rfl) ?_)))))))))
    refine L (S (zG rfl rfl (decide_eq_true (by omega))) ?_)
    refine L (S (za rfl) (zh (j := 2) (dj := 53) (b := true) (S (ze yf rfl) ?_) rfl))
    refine zh (j := 2) (dj := 53) (b := true) (zi yS rfl ((hB2 hm6).cell (i := 1) rfl) ?_) rfl
    refine zh (j := 2) (dj := 53) (b := true) (S (zH Tryz.underlying35 rfl) ?_) rfl
    refine zh (j := 2) (dj := 53) (b := true) (S (y_ rfl rfl (decide_eq_false (by omega))) ?_) rfl
    refine L (S (zt rfl rfl) (zg (zc (zk rfl (zo (zc (zf (zf ?_))))))))
    refine yP 9 mixed rfl (fun hH => ?_)
    refine zp (i := 0) rfl (PureV.toS (ze yg rfl)) ?_ (by assumption) (by decide +kernel) (by decide +kernel) (by decide +kernel) (fun _ _ _ _ h => h) rfl rfl rfl
    refine zp (i := 1) rfl (ya yX rfl (fun _ h => hcj (hm6.no h))) ?_ (by assumption) (by decide +kernel) (by decide +kernel) (by decide +kernel) (fun _ _ _ _ h => h) rfl rfl rfl
    refine zp (i := 2) rfl (PureV.toS (za rfl)) ?_ (by assumption) (by decide +kernel) (by decide +kernel) (by decide +kernel) (fun _ _ _ _ h => h) rfl rfl rfl
    refine zp (i := 3) rfl (PureV.toS (zn Tryz.underlying34 (zD yl) rfl rfl (j := j) hj (by omega) (p := oj + j * 5) (by omega))) ?_ (by assumption) (by decide +kernel) (by decide +kernel) (by decide +kernel) (fun _ _ _ _ h => h) rfl rfl rfl
    refine zp (i := 4) rfl (yE Zo rfl (fun _ h => hrj (hm6.no h)) rfl) ?_ (by assumption) (by decide +kernel) (by decide +kernel) (by decide +kernel) (fun _ _ _ _ h => h) rfl rfl rfl
    refine zp (i := 5) rfl (PureV.toS (ze Zj rfl)) ?_ (by assumption) (by decide +kernel) (by decide +kernel) (by decide +kernel) (fun _ _ _ _ h => h) rfl rfl rfl
    refine zp (i := 6) rfl (ya Z6 rfl (fun _ h => (hB3 (hm6.no h)).cell (i := 2) rfl)) ?_ (by assumption) (by decide +kernel) (by decide +kernel) (by decide +kernel) (fun _ _ _ _ h => h) rfl rfl rfl
    refine Ze (i := 7) (Z8 rfl (zq cb_26 rfl ((hC (hm6.no hH))) ?_)) (by decide +kernel)
    rintro _ w7 ⟨rfl, hm7⟩
    refine yh (by first | assumption | exact Mv.no (by assumption) (by assumption)) (fun hH => ?_)
    refine zp (i := 8) rfl (PureV.toS (zd rfl)) ?_ (by assumption) (by decide +kernel) (by decide +kernel) (by decide +kernel) (fun _ _ _ _ h => h) rfl rfl rfl
    refine yZ (by decide +kernel) ?_
    refine zc (zf (zb (L (S (za rfl) ?_))))
    refine L (S (Za rfl rfl (decide_eq_false (by omega))) ?_)
    refine zg (zc (zk rfl (zo (zc (zf (zb ?_))))))
    refine L (ZQ Tryz.underlying35 yb ?_)
    rintro b8 w8 ho8 hm8 hn8
    refine L (S (ze yf rfl) ?_)
    refine L (zi yS rfl (((hB2 (hm6.no hH)).no hm8).cell (i := 1) rfl) ?_)
    refine L (Zk Tryz.underlying35 yb rfl (by decide) rfl ho8 rfl (((hs.isl.no hm05).no (hm6.no hH)).no hm8) (yB yw _) (Zn yz _) hm8.size (by unfold maxLen; omega) (by omega) (q := s.idxs.length) (by omega) (List.nil_append _) ?_)
    rintro A9 c9 w9 ho9 hm9
    refine L (S (zd rfl) (zg (zc (zf (zf (zb (L (S (za rfl) ?_))))))))
    refine L (S (y_ rfl rfl (decide_eq_false (by omega))) ?_)
    refine zg (zc (zk rfl (zo (zc (zf ?_)))))
    have hm57 : Mv No w5 w9 := ((hm6.no hH).no hm8).own hm9 ho8 (hm6.no hH).size
    have hm09 := hm05.no hm57
    have z9 := hm57.size
    have hs9 := hs.no hm09
    have ht9 := ht.no hm09
    have hsl : ∀ {wq}, Mv No w9 wq → wq.ownsRow _ 30 6 (.slice A9 s.idxs.length c9) s.idxs.length (zI yq s.idxs) := fun h => zE ho9 h
    refine zb (L (S (za rfl) ?_))
    refine L (zB Zu rfl (hB3 hm57).row rfl ?_)
    refine L (zU (l := [.tmp 87]) (vss := [yq t]) Tryz.underlying35 yb (by decide) rfl (by simp [yA, yq, Zt]) rfl (by decide) (by decide) ?_)
    rintro b10 w10 hb10 hm10 hn10
    refine L (Zk Tryz.underlying35 yb rfl (by decide) rfl (hsl hm10) rfl (.inr ⟨b10, 0, rfl, hb10.row⟩) rfl (yz t) (by have := hm57.size; have := hm10.size; have := (hm6.no hH).size; have := hm8.size; have := hm9.size; omega) (by unfold maxLen; omega) (by omega) (q := (s.idxs ++ [t]).length) (by simp) (ys := zI yq (s.idxs ++ [t])) (by rw [yT, Zi]; rfl) ?_)
    rintro A11 c11 w11 ho11 hm11
    refine L (S (zd rfl) (zg (zc (zf ?_))))
    have hm011 : Mv No w w11 := (hm09.no hm10).own hm11 (hsl hm10) (hm05.no (hm6.no hH)).size
    have hB4' : ∀ {wq}, Mv No w11 wq → Blk wq b4 (zM zX) 37 := fun h => ((((hB4 hm57).no hm10).mv hm11 (zK ((hB4 hm57).no hm10) (hsl hm10) (by decide)))).no h
    have hB2' : ∀ {wq}, Mv (At b4) w11 wq → Blk wq b2 (zM s) 37 := fun h => (((hB2 hm57).no hm10).mv hm11 (zK ((hB2 hm57).no hm10) (hsl hm10) (by decide))).ne h (by omega)
    have hlen : (s.idxs ++ [t]).length = s.idxs.length + 1 := by simp
    have hsort := fun {wq} (h : Mv No w11 wq) => refindexes_ret (xs := (s.idxs ++ [t])) (c := c11) (n := (s.idxs ++ [t]).length) rfl ((yW ho11).1.no h) (by omega)
    refine C_drawG (b4) 7 mixed rfl (fun hH => ?_)
    refine zp (i := 0) rfl (PureV.toS (ze yg rfl)) ?_ (by assumption) (by decide +kernel) (by decide +kernel) (by decide +kernel) (fun _ _ _ _ h => h) rfl rfl rfl
    refine zp (i := 1) rfl (ya yX rfl (fun _ h => (hB2' h).cell (i := 0) rfl)) ?_ (by assumption) (by decide +kernel) (by decide +kernel) (by decide +kernel) (fun _ _ _ _ h => h) rfl rfl rfl
    refine zp (i := 2) rfl (PureV.toS (za rfl)) ?_ (by assumption) (by decide +kernel) (by decide +kernel) (by decide +kernel) (fun _ _ _ _ h => h) rfl rfl rfl
    refine Ze (i := 3) (Z8 rfl (zq cb_70 rfl ((hsort (Mv.refl _).drew)) ?_)) (by decide +kernel)
    rintro _ w12 ⟨B12, d12, rfl, ho12, hm12⟩
    refine yh (by first | assumption | exact Mv.no (by assumption) (by assumption) | exact Mv.trans (by assumption) (by assumption) fun _ _ h => h) (fun hH => ?_)
    refine zp (i := 4) rfl (PureV.toS (zW (ix := [0, 1]) (l := [.tmp 91, .tmp 93]) bi_37_0_1 rfl (by simp [Value.oneCell']) rfl)) ?_ (by assumption) (by decide +kernel) (by decide +kernel) (by decide +kernel) (fun _ _ _ _ h => h) rfl rfl rfl
    refine Ze (i := 5) (Z8 rfl (zw z6 rfl rfl (vs := zM { s with idxs := (s.idxs ++ [t]), B := B12, d := d12 }) (zJ _) rfl ((hB4' (Mv.refl _).drew).no hm12) (by exact Nat.le_refl 2) ?_)) (by decide +kernel)
    rintro w13 hb13 hm13
    refine yh (by first | assumption | exact Mv.no (by assumption) (by assumption) | exact Mv.trans (by assumption) (by assumption) fun _ _ h => h) (fun hH => ?_)
    refine zp (i := 6) rfl (PureV.toS (zd rfl)) ?_ (by assumption) (by decide +kernel) (by decide +kernel) (by decide +kernel) (fun _ _ _ _ h => h) rfl rfl rfl
    refine yZ (by decide +kernel) ?_
    refine zc (zy ?_)
    have hmE : Mv No w11 w12 := (Mv.refl w11).drew.no hm12
    have hm1113 : Mv No w w13 := (hm011.no hmE).new hm13 (by omega)
    have hsep : ∀ {b' : Nat} {cs : List Value}, Row w12 b' 0 cs → b' ≠ b4 → Row w13 b' 0 cs := fun h hne => h.mv hm13 hne
    have hb13' : Blk w13 b4 (zM { s with idxs := y6 (fun x y => ltN x.name y.name) (s.idxs ++ [t]), B := B12, d := d12 }) 37 := by have h9 := hb13; unfold zM at h9 ⊢; dsimp only at h9 ⊢; rw [ZK]; exact h9
    refine yk (rs := [.cell 4 37, .tmp 5]) [.agg (zM { s with idxs := y6 (fun x y => ltN x.name y.name) (s.idxs ++ [t]), B := B12, d := d12 }).toArray, .int .i64 ((0 : Nat) : Int)] Tryz.results35 ?_ ?_
    · exact ⟨⟨_, rfl, zu zZ hb13'.row rfl⟩, rfl, trivial⟩
    have ho13 := yo ho12 hm13 (fun q hq hq2 => by unfold At at hq2; subst hq2; exact zK ((hB4' (Mv.refl _).drew).no hm12) ho12 (by decide) hq)
    refine ⟨_, rfl, (hs.no hm1113).setI (yW ho13).1 (by rw [ZK]; exact (yW ho13).2) (fun x hx => ?_), fun h => absurd rfl h, fun _ => ⟨rfl, map_sortI (lt' := fun a b : ID => ltN a.1 b.1) (g := Idx.d_) (fun _ _ => rfl) (s.idxs ++ [t]) |>.trans (by rw [List.map_append]; rfl)⟩, hm1113⟩
    rcases List.mem_append.1 (mem_sortI hx) with hx | hx
    · exact (hs.no hm1113).idx x hx
    · have : x = t := by simpa using hx
      subst this; exact ht.no hm1113
  · rw [if_neg q8]
    obtain ⟨i, hi, hil⟩ := hat q8
    refine zb (L (S (ze yx rfl) ?_))
    refine L (zi yc rfl ((hB3 (Mv.refl _)).cell (i := 0) rfl) ?_)
    refine L (zq Z3 rfl ((hN q1)) ?_)
    rintro _ w6 ⟨rfl, hm6⟩
    refine L (S (yu rfl rfl) (L (S (za rfl) (zh (j := 4) (dj := 22) (b := false) (S (ze yy rfl) ?_) rfl))))
    refine zh (j := 4) (dj := 22) (b := false) (zi z_ rfl ((hB3 hm6).cell (i := 3) rfl) ?_) rfl
    refine zh (j := 4) (dj := 22) (b := false) (S (zG rfl rfl (decide_eq_false (by omega))) ?_) rfl
    refine L (S (zj rfl rfl) (L (S (za rfl) (zh (j := 9) (dj := 27) (b := false) (S (ze yy rfl) ?_) rfl))))
    refine zh (j := 9) (dj := 27) (b := false) (zi z_ rfl ((hB3 hm6).cell (i := 3) rfl) ?_) rfl
    refine zh (j := 9) (dj := 27) (b := false) (S (yp rfl rfl (decide_eq_false (by omega))) ?_) rfl
    refine L (S (zj rfl rfl) (L (S (za rfl) (zh (j := 14) (dj := 32) (b := false) (S (ze yO rfl) ?_) rfl))))
    refine zh (j := 14) (dj := 32) (b := false) (zi z_ rfl ((hB3 hm6).cell (i := 4) rfl) ?_) rfl
    refine zh (j := 14) (dj := 32) (b := false) (S (zG rfl rfl (decide_eq_false (by omega))) ?_) rfl
    refine L (S (zj rfl rfl) (L (S (za rfl) (zh (j := 19) (dj := 37) (b := false) (S (ze yO rfl) ?_) rfl))))
    refine zh (j := 19) (dj := 37) (b := false) (zi z_ rfl ((hB3 hm6).cell (i := 4) rfl) ?_) rfl
    refine zh (j := 19) (dj := 37) (b := false) (S (yp rfl rfl (decide_eq_false (by omega))) ?_) rfl
    refine L (S (zj rfl rfl) (L (S (za rfl) (zh (j := 24) (dj := 42) (b := false) (S (ze ZI rfl) ?_) rfl))))
    refine zh (j := 24) (dj := 42) (b := false) (zi Zw rfl ((hB3 hm6).cell (i := 5) rfl) ?_) rfl
    refine zh (j := 24) (dj := 42) (b := false) (S (zG rfl rfl (decide_eq_false (by omega))) ?_) rfl
    refine L (S (zj rfl rfl) (zg (zc (zk rfl (zo (zc (zf (zf (zb (L (S (za rfl) ?_)))))))))))
    refine L (S (zG rfl rfl (decide_eq_false (by omega))) ?_)
    refine zg (zc (zk rfl (zo (zc (zf (zf (zb (L (S (za rfl) ?_)))))))))
    refine L (S (zG rfl rfl (decide_eq_false (by omega))) ?_)
    refine L (S (za rfl) (zl (j := 2) (dj := 53) (b := true) (b' := false) (d := 54) rfl (zl (j := 2) (dj := 53) (b := true) (b' := false) (d := 55) rfl (zl (j := 2) (dj := 53) (b := true) (b' := false) (d := 56) rfl (zl (j := 2) (dj := 53) (b := true) (b' := false) (d := 57) rfl (L (S (zj rfl rfl) (zg (zc (zk rfl (zo (zc (zf (zf ?_))))))))))))))
    refine yP 9 mixed rfl (fun hH => ?_)
    refine zp (i := 0) rfl (PureV.toS (ze yg rfl)) ?_ (by assumption) (by decide +kernel) (by decide +kernel) (by decide +kernel) (fun _ _ _ _ h => h) rfl rfl rfl
    refine zp (i := 1) rfl (ya yX rfl (fun _ h => hcj (hm6.no h))) ?_ (by assumption) (by decide +kernel) (by decide +kernel) (by decide +kernel) (fun _ _ _ _ h => h) rfl rfl rfl
    refine zp (i := 2) rfl (PureV.toS (za rfl)) ?_ (by assumption) (by decide +kernel) (by decide +kernel) (by decide +kernel) (fun _ _ _ _ h => h) rfl rfl rfl
    refine zp (i := 3) rfl (PureV.toS (zn Tryz.underlying34 (zD yl) rfl rfl (j := j) hj (by omega) (p := oj + j * 5) (by omega))) ?_ (by assumption) (by decide +kernel) (by decide +kernel) (by decide +kernel) (fun _ _ _ _ h => h) rfl rfl rfl
    refine zp (i := 4) rfl (yE Zo rfl (fun _ h => hrj (hm6.no h)) rfl) ?_ (by assumption) (by decide +kernel) (by decide +kernel) (by decide +kernel) (fun _ _ _ _ h => h) rfl rfl rfl
    refine zp (i := 5) rfl (PureV.toS (ze Zj rfl)) ?_ (by assumption) (by decide +kernel) (by decide +kernel) (by decide +kernel) (fun _ _ _ _ h => h) rfl rfl rfl
    refine zp (i := 6) rfl (ya Z6 rfl (fun _ h => (hB3 (hm6.no h)).cell (i := 2) rfl)) ?_ (by assumption) (by decide +kernel) (by decide +kernel) (by decide +kernel) (fun _ _ _ _ h => h) rfl rfl rfl
    refine Ze (i := 7) (Z8 rfl (zq cb_26 rfl ((hC (hm6.no hH))) ?_)) (by decide +kernel)
    rintro _ w7 ⟨rfl, hm7⟩
    refine yh (by first | assumption | exact Mv.no (by assumption) (by assumption)) (fun hH => ?_)
    refine zp (i := 8) rfl (PureV.toS (zd rfl)) ?_ (by assumption) (by decide +kernel) (by decide +kernel) (by decide +kernel) (fun _ _ _ _ h => h) rfl rfl rfl
    refine yZ (by decide +kernel) ?_
    refine zc (zf (zb (L (S (za rfl) ?_))))
    refine L (S (Za rfl rfl (decide_eq_false (by omega))) ?_)
    refine zg (zc (zk rfl (zo (zc (zf (zb ?_))))))
    refine L (ZQ Tryz.underlying35 yb ?_)
    rintro b8 w8 ho8 hm8 hn8
    refine L (S (ze yf rfl) ?_)
    refine L (zi yS rfl (((hB2 (hm6.no hH)).no hm8).cell (i := 1) rfl) ?_)
    refine L (Zk Tryz.underlying35 yb rfl (by decide) rfl ho8 rfl (((hs.isl.no hm05).no (hm6.no hH)).no hm8) (yB yw _) (Zn yz _) hm8.size (by unfold maxLen; omega) (by omega) (q := s.idxs.length) (by omega) (List.nil_append _) ?_)
    rintro A9 c9 w9 ho9 hm9
    refine L (S (zd rfl) (zg (zc (zf (zf (zb (L (S (za rfl) ?_))))))))
    refine L (S (y_ rfl rfl (decide_eq_true (by omega))) ?_)
    refine zg (zc (zr rfl (zf ?_)))
    have hm57 : Mv No w5 w9 := ((hm6.no hH).no hm8).own hm9 ho8 (hm6.no hH).size
    have hm09 := hm05.no hm57
    have z9 := hm57.size
    have hs9 := hs.no hm09
    have ht9 := ht.no hm09
    obtain ⟨bt, cst, hAt, hbt, -⟩ := Ym ho9 (by omega)
    subst hAt
    refine zb (L (S (za rfl) (L (S (za rfl) ?_))))
    refine L (zB Zu rfl (hB3 hm57).row rfl ?_)
    refine L (S (zn Tryz.underlying35 (zD yb) rfl rfl (j := i) hi (by omega) (p := 0 + i * 6) rfl) ?_)
    refine L (Zc (i := i) yw yb rfl (by omega) rfl (yz t) ho9 rfl (by omega) ?_)
    rintro w13 ho13 hm13
    refine zg (zc (zf (zb (L (S (ze yg rfl) ?_)))))
    refine L (zi yX rfl (((hB2 hm57).mv (Z5 hm13 (n := s.idxs.length) (c := c9)) (zK (hB2 hm57) ho9 (by decide))).cell (i := 0) rfl) ?_)
    refine L (S (za rfl) ?_)
    refine L (S (zW (ix := [0, 1]) (l := [.tmp 83, .tmp 84]) bi_37_0_1 rfl (by simp [Value.oneCell']) rfl) ?_)
    refine L (zw z6 rfl rfl (vs := zM { s with B := some ⟨bt, 0, none⟩, d := c9 }) (zJ _) rfl ((hB4 hm57).mv (Z5 hm13 (n := s.idxs.length) (c := c9)) (zK (hB4 hm57) ho9 (by decide))) (by exact Nat.le_refl 2) ?_)
    rintro w17 hb17 hm17
    refine L (S (zd rfl) (zg (zc (zy (zm ?_)))))
    have hm13o := Z5 hm13 (n := s.idxs.length) (c := c9)
    have hm013 : Mv No w w13 := hm09.own hm13o ho9 (hm05.no ((hm6.no hH))).size
    have hm017 := hm013.new hm17 (by omega)
    have hb17' : Blk w17 b4 (zM { s with idxs := s.idxs.set i t, B := some ⟨bt, 0, none⟩, d := c9 }) 37 := by have h9 := hb17; unfold zM at h9 ⊢; dsimp only at h9 ⊢; rw [List.length_set]; exact h9
    refine yk (rs := [.cell 4 37, .tmp 5]) [.agg (zM { s with idxs := s.idxs.set i t, B := some ⟨bt, 0, none⟩, d := c9 }).toArray, .int .i64 ((0 : Nat) : Int)] Tryz.results35 ?_ ?_
    · exact ⟨⟨_, rfl, zu zZ hb17'.row rfl⟩, rfl, trivial⟩
    have ho17 := yo ho13 hm17 (fun q hq hq2 => by unfold At at hq2; subst hq2; exact zK ((hB4 hm57).mv hm13o (zK (hB4 hm57) ho9 (by decide))) ho13 (by decide) hq)
    refine ⟨_, rfl, (hs.no hm017).setI (yW ho17).1 (by rw [List.length_set]; exact (yW ho17).2) (fun x hx => ?_), fun h => absurd rfl h, fun _ => ⟨rfl, by rw [hi]; exact List.map_set ..⟩, hm017⟩
    rcases List.mem_or_eq_of_mem_set hx with hx | hx
    · exact (hs.no hm017).idx x hx
    · subst hx; exact ht.no hm017
end
end Go.Proofs.YtnoioimphcmeiaaGreatDoor
namespace Go.Proofs.YtnoioimphcmeiaaGreatDoor
open Go.RowKit
set_option maxRecDepth 20000
set_option maxHeartbeats 1000000

theorem Mv.ownS {S : Nat → Prop} {a b c : World} {base : Nat} {e : TypeId} {size : Nat} {v : Value} {n : Nat} {xs : List Value} (h : Mv S a b) (k : Mv (Zx v) b c) (ho : b.ownsRow base e size v n xs) (hb : a.heap.size ≤ base) : Mv S a c :=
  h.trans k fun x hx hox => absurd (ZN ho hox).1 (by omega)
theorem erase_same {α : Type} {l : List α} {i : Nat} {x : α} (ha : l[i]? = some x) : (l.take (i + 1)).eraseIdx i = (l.take i).eraseIdx i := by
  have hl : (l.take i).length = i := by rw [List.length_take]; have := (List.getElem?_eq_some_iff.1 ha).1; omega
  rw [yY ha, List.eraseIdx_append_of_length_le (by omega), hl, Nat.sub_self, List.eraseIdx_of_length_le (l := l.take i) (by omega)]
  exact List.append_nil _
theorem erase_next {α : Type} {l : List α} {i k : Nat} {x : α} (ha : l[i]? = some x) (hk : i ≠ k) : (l.take (i + 1)).eraseIdx k = (l.take i).eraseIdx k ++ [x] := by
  have hl : (l.take i).length = i := by rw [List.length_take]; have := (List.getElem?_eq_some_iff.1 ha).1; omega
  rw [yY ha]
  rcases Nat.lt_or_ge k i with h | h
  · rw [List.eraseIdx_append_of_lt_length (by omega)]
  · rw [List.eraseIdx_of_length_le (by rw [List.length_append, hl]; simp; omega), List.eraseIdx_of_length_le (by omega)]
section
variable {w : World}
theorem refdrop_ret {s : Sch} (hs : SchOk w s) (hsm : SchSm s) (nm : List UInt8) : Ret Tryz.prog 37 [.agg (zM s).toArray, .string (str nm)] w fun v w' => ∃ o, v = .tuple #[.agg (zM o).toArray, .int .i64 (tDropE (s.tabs.map Tab.d) nm : Nat)] ∧ SchOk w' o ∧ (tDropE (s.tabs.map Tab.d) nm ≠ 0 → o = zX) ∧ (tDropE (s.tabs.map Tab.d) nm = 0 → o.tabs.map Tab.d = (s.tabs.map Tab.d).eraseIdx (tAt (s.tabs.map Tab.d) nm).toNat ∧ o.idxs.map Idx.d_ = iOff (s.idxs.map Idx.d_) nm) ∧ Mv No w w' := by
  have hl1 := hsm.lt
  have hl2 := hsm.li
  refine zN Tryz.func37 Tryz.ntmps37 rfl rfl ?_
  refine zf (zb ?_)
  refine L (Zl rfl ?_)
  rintro b2 w2 hb2 hm2 hn2
  refine L (ye (zs := [(.slice none 0 0), (.slice none 0 0)]) z6 rfl ?_)
  rintro b4 w4 hb4 hm4 hn4
  refine L (S (zd rfl) (zg (zc (zf (zb ?_)))))
  refine L (zB zZ rfl (hb2.no hm4).row rfl ?_)
  refine L (S (za rfl) ?_)
  refine L (zq cb_16 rfl ((reftable_ret (s := s) ((hs.tsl.no hm2).no hm4) (by omega) nm)) ?_)
  rintro _ w5 ⟨rfl, hm5⟩
  refine L (S (zd rfl) (zg (zc (zf (zf ?_)))))
  have hm05 := (hm2.no hm4).no hm5
  have hm45 := hm4.no hm5
  have z2 := hm2.size
  have y4 := hb4.lt
  have y2 := hb2.lt
  have z4 := hm4.size
  have z5 := hm5.size
  have hB2 : ∀ {wq}, Mv No w5 wq → Blk wq b2 (zM s) 37 := fun h => (hb2.no hm45).no h
  have hB4 : ∀ {wq}, Mv No w5 wq → Blk wq b4 (zM zX) 37 := fun h => (hb4.no hm5).no h
  rw [tAt_map]
  have hmap : (s.tabs.map Tab.d).length = s.tabs.length := List.length_map ..
  have hat : ¬ tAt (s.tabs.map Tab.d) nm < 0 → ∃ i : Nat, tAt (s.tabs.map Tab.d) nm = (i : Int) ∧ i < s.tabs.length := fun h => by
    obtain ⟨i, a, h1, _, h3⟩ := Yt h
    exact ⟨i, h1, by rw [← hmap]; exact h3⟩
  unfold tDropE
  generalize tAt (s.tabs.map Tab.d) nm = at_ at *
  by_cases q : at_ < 0
  · rw [if_pos q]
    refine zb (L (S (za rfl) ?_))
    refine L (S (zG rfl rfl (decide_eq_true (by omega))) ?_)
    refine zg (zc (zr rfl (zf (zb ?_))))
    refine L (S (zW (ix := []) (l := []) Zq rfl (by simp [Value.oneCell']) rfl) ?_)
    refine L (zw z6 rfl rfl (zJ zX) rfl (hB4 (Mv.refl _)) (by exact Nat.le_refl 2) ?_)
    rintro w9 hb9 hm9
    refine L (S (zd rfl) (zg (zc (zy (zm ?_)))))
    have hb9' : Blk w9 b4 (zM zX) 37 := hb9
    refine yk (rs := [.cell 4 37, .tmp 5]) [.agg (zM zX).toArray, .int .i64 ((130 : Nat) : Int)] Tryz.results37 ?_ ?_
    · exact ⟨⟨_, rfl, zu zZ hb9'.row rfl⟩, rfl, trivial⟩
    exact ⟨zX, rfl, (Z1 (base := 0)).ok, fun _ => rfl, fun h => absurd h (by decide), hm05.new hm9 (by omega)⟩
  rw [if_neg q]
  obtain ⟨k, rfl, hkl⟩ := hat q
  have hs5 := hs.no hm05
  refine zb (L (S (za rfl) ?_))
  refine L (S (zG rfl rfl (decide_eq_false (by omega))) ?_)
  refine zg (zc (zk rfl (zo (zc (zf (zb ?_))))))
  refine L (S (zW (ix := []) (l := []) Zq rfl (by simp [Value.oneCell']) rfl) ?_)
  refine L (ye (zs := [(.slice none 0 0), (.slice none 0 0)]) z6 rfl ?_)
  rintro b7 w6 hb6 hm6 hn6
  refine L (zw z6 rfl rfl (zJ zX) rfl hb6 (by exact Nat.le_refl 2) ?_)
  rintro w7 hb7 hm7
  refine zg (zc (zf (zf (zb (L (S (zd rfl) (zg (zc ?_))))))))
  have hb7' : Blk w7 b7 (zM zX) 37 := hb7
  have hm57 : Mv No w5 w7 := hm6.new hm7 hn6
  have y7 := hb7'.lt
  have z7 := hm57.size
  have hs7 := hs5.no hm57
  refine ZG (γ := Option Addr × Nat) (fun _ => [(1, .string (str nm)), (2, .pointer (some ⟨b2, 0, none⟩)), (4, .pointer (some ⟨b4, 0, none⟩)), (7, .pointer (some ⟨b7, 0, none⟩))]) (fun q wc => Mv (At b7) w7 wc ∧ Blk wc b7 (zM ⟨s.tabs.eraseIdx k, q.1, q.2, [], none, 0⟩) 37 ∧ wc.ownsRow w7.heap.size 27 5 (.slice q.1 (s.tabs.eraseIdx k).length q.2) (s.tabs.eraseIdx k).length (zI yA (s.tabs.eraseIdx k))) ?_ ?_
  · refine zx ?_
    refine yF (γ := Nat × Option Addr × Nat) (fun q => [(1, .string (str nm)), (2, .pointer (some ⟨b2, 0, none⟩)), (4, .pointer (some ⟨b4, 0, none⟩)), (6, .int .i64 (k : Int)), (7, .pointer (some ⟨b7, 0, none⟩)), (8, .int .i64 (q.1 : Int))]) (fun q wr => q.1 ≤ s.tabs.length ∧ Mv (At b7) w7 wr ∧ Blk wr b7 (zM ⟨(s.tabs.take q.1).eraseIdx k, q.2.1, q.2.2, [], none, 0⟩) 37 ∧ wr.ownsRow w7.heap.size 27 5 (.slice q.2.1 ((s.tabs.take q.1).eraseIdx k).length q.2.2) ((s.tabs.take q.1).eraseIdx k).length (zI yA ((s.tabs.take q.1).eraseIdx k))) (fun q => s.tabs.length - q.1) (0, none, 0) (.cons rfl (.cons rfl (.cons rfl (.cons rfl (.cons rfl (.cons rfl (.nil _))))))) ⟨Nat.zero_le _, Mv.refl w7, hb7', Yl⟩ ?_
    rintro ⟨i, A, c⟩ wr ⟨hi, hmr, hblk, hown⟩
    dsimp only at hi hblk hown
    dsimp only
    have hf2 : ∀ {wq}, Mv No wr wq → wq.cell? ⟨b2, 0, none⟩ = some (.slice s.A s.tabs.length s.c) := fun h => ((((hB2 hm57).ne hmr (by omega))).no h).cell (i := 0) rfl
    by_cases hlt : i < s.tabs.length
    · have ha := List.getElem?_eq_getElem hlt
      generalize s.tabs[i] = x at ha
      have hsl := hs7.tsl.mv hmr (fun a ha2 hb2 => by
        rcases hs.tsl with h | ⟨bb, oo, h1, h2⟩
        · have h9 := cellsL_nil yI (by decide) h
          rw [h9] at hlt; exact absurd hlt (Nat.not_lt_zero _)
        · rw [h1] at ha2
          cases ha2
          have h8 := (List.getElem?_eq_some_iff.1 ha).1
          have h7 := cell_lt (h2 0 _ (show (zI yA s.tabs)[0]? = some _ from List.getElem?_eq_getElem (by rw [yB yI]; omega)))
          unfold At at hb2
          dsimp only at h7 hb2
          omega)
      obtain ⟨ba, oa, hAe, -, hrow⟩ := yr yI (by decide) hsl ha
      rw [hAe] at hf2
      by_cases hik : i = k
      · subst hik
        have e := erase_same ha
        refine zf (zf (zb (L (S (za rfl) (L (S (ze yg rfl) ?_))))))
        refine L (zi yX rfl (hf2 (Mv.refl _)) ?_)
        refine L (S (zH Tryz.underlying34 rfl) ?_)
        refine L (S (zG rfl rfl (decide_eq_true (by omega))) ?_)
        refine zg (zc (zr rfl (zo (zc (zf (zx (zf (zb (L (S (za rfl) (L (S (za rfl) ?_))))))))))))
        refine L (S (Za rfl rfl (decide_eq_false (fun h => h rfl))) ?_)
        refine zg (zc (zk rfl (zo (yj (zc (zb (L (S (za rfl) ?_))))))))
        refine L (S (zT rfl rfl (z1 (c := ((i + 1 : Nat) : Int)) (by omega))) ?_)
        refine L (S (zd rfl) (zg (zc ?_)))
        exact ⟨rfl, (i + 1, A, c), (.cons rfl (.cons rfl (.cons rfl (.cons rfl (.cons rfl (.cons rfl (.nil _))))))), ⟨hlt, hmr, by dsimp only; rw [e]; exact hblk, by dsimp only; rw [e]; exact hown⟩, by dsimp only; omega⟩
      · have e := erase_next ha hik
        have hll : ((s.tabs.take i).eraseIdx k).length ≤ 1000 := Nat.le_trans (List.length_eraseIdx_le ..) (by rw [List.length_take]; omega)
        generalize (s.tabs.take i).eraseIdx k = l at *
        have hf7 : ∀ {wq}, Mv No wr wq → wq.cell? ⟨b7, 0, none⟩ = some (.slice A l.length c) := fun h => (hblk.no h).cell (i := 0) rfl
        refine zf (zf (zb (L (S (za rfl) (L (S (ze yg rfl) ?_))))))
        refine L (zi yX rfl (hf2 (Mv.refl _)) ?_)
        refine L (S (zH Tryz.underlying34 rfl) ?_)
        refine L (S (zG rfl rfl (decide_eq_true (by omega))) ?_)
        refine zg (zc (zr rfl (zo (zc (zf (zx (zf (zb (L (S (za rfl) (L (S (za rfl) ?_))))))))))))
        refine L (S (Za rfl rfl (decide_eq_true (by omega))) ?_)
        refine zg (zc (zr rfl ?_))
        refine ZT 11 mixed rfl ?_
        refine zF (i := 0) rfl (ze yg rfl) ?_ (by decide +kernel) (by decide +kernel) (by decide +kernel) (fun _ _ _ _ h => h) rfl rfl rfl
        refine zF (i := 2) rfl (ze yg rfl) ?_ (by decide +kernel) (by decide +kernel) (by decide +kernel) (fun _ _ _ _ h => h) rfl rfl rfl
        refine zF (i := 4) rfl (za rfl) ?_ (by decide +kernel) (by decide +kernel) (by decide +kernel) (fun _ _ _ _ h => h) rfl rfl rfl
        refine ZL (i := 1) (i2 := 3) (zS rfl (zi yX rfl (by first | exact hf7 ((Mv.refl _).drew) | exact hf7 ((Mv.refl _).drew.no hm5)) ?_)) (zS rfl (zi yX rfl (hf2 ((Mv.refl _).drew)) ?_)) (by decide +kernel)
        · refine zO (i := 3) (zS rfl (zi yX rfl (hf2 ((Mv.refl _).drew)) ?_)) (by decide +kernel)
          refine zF (i := 5) rfl (zn Tryz.underlying34 (zD yl) rfl rfl (j := i) rfl (by omega) (p := oa + i * 5) (by omega)) ?_ (by decide +kernel) (by decide +kernel) (by decide +kernel) (fun _ _ _ _ h => h) rfl rfl rfl
          refine zO (i := 6) (zS rfl (zB Zo rfl (hrow.no ((Mv.refl _).drew)) rfl ?_)) (by decide +kernel)
          refine zO (i := 7) (zS rfl (zU (l := [.tmp 33]) (vss := [yA x]) Tryz.underlying34 yl (by decide) rfl (by simp [yA, yq, Zt]) rfl (by decide) (by decide) ?_)) (by decide +kernel)
          rintro b5 w5 hb5 hm5 hn5
          refine zO (i := 8) (zS rfl (Zk Tryz.underlying34 yl rfl (by decide) rfl (zE hown ((Mv.refl _).drew.no hm5)) rfl (.inr ⟨b5, 0, rfl, hb5.row⟩) rfl (yN x) (by have := (((Mv.refl _).drew.no hm5) : Mv No wr w5).size; have := hmr.size; omega) (by unfold maxLen; omega) (by omega) (q := (l ++ [x]).length) (by simp) (ys := zI yA (l ++ [x])) (by rw [yT, Zi]; rfl) ?_)) (by decide +kernel)
          rintro A8 c8 w8 ho8 hm8
          refine zF (i := 9) rfl (ze yg rfl) ?_ (by decide +kernel) (by decide +kernel) (by decide +kernel) (fun _ _ _ _ h => h) rfl rfl rfl
          refine zO (i := 10) (zS rfl (yv ti_34 rfl rfl rfl ((hblk.no ((Mv.refl _).drew.no hm5)).mv hm8 (zK (hblk.no ((Mv.refl _).drew.no hm5)) (zE hown ((Mv.refl _).drew.no hm5)) (by decide))) (by show 0 < 2; decide) ?_)) (by decide +kernel)
          rintro w9 hb9 hm9
          refine yH (by decide +kernel) ?_
          refine yj (zc (zb (L (S (za rfl) ?_))))
          refine L (S (zT rfl rfl (z1 (c := ((i + 1 : Nat) : Int)) (by omega))) ?_)
          refine L (S (zd rfl) (zg (zc ?_)))
          have hmE : Mv No wr w5 := ((Mv.refl _).drew.no hm5)
          exact ⟨rfl, (i + 1, A8, c8), (.cons rfl (.cons rfl (.cons rfl (.cons rfl (.cons rfl (.cons rfl (.nil _))))))), ⟨hlt, mvAt ((hmr.no hmE).ownS hm8 (zE hown hmE) (Nat.le_refl _)) hm9, by dsimp only; rw [e]; exact hb9, by dsimp only; rw [e]; exact yo ho8 hm9 (fun q hq hq2 => by unfold At at hq2; subst hq2; exact zK ((hblk.no hmE).mv hm8 (zK (hblk.no hmE) (zE hown hmE) (by decide))) ho8 (by decide) hq)⟩, by dsimp only; omega⟩
        · refine zF (i := 5) rfl (zn Tryz.underlying34 (zD yl) rfl rfl (j := i) rfl (by omega) (p := oa + i * 5) (by omega)) ?_ (by decide +kernel) (by decide +kernel) (by decide +kernel) (fun _ _ _ _ h => h) rfl rfl rfl
          refine ZL (i := 1) (i2 := 6) (zS rfl (zi yX rfl (by first | exact hf7 ((Mv.refl _).drew) | exact hf7 ((Mv.refl _).drew.no hm5)) ?_)) (zS rfl (zB Zo rfl (hrow.no ((Mv.refl _).drew)) rfl ?_)) (by decide +kernel)
          · refine zO (i := 6) (zS rfl (zB Zo rfl (hrow.no ((Mv.refl _).drew)) rfl ?_)) (by decide +kernel)
            refine zO (i := 7) (zS rfl (zU (l := [.tmp 33]) (vss := [yA x]) Tryz.underlying34 yl (by decide) rfl (by simp [yA, yq, Zt]) rfl (by decide) (by decide) ?_)) (by decide +kernel)
            rintro b5 w5 hb5 hm5 hn5
            refine zO (i := 8) (zS rfl (Zk Tryz.underlying34 yl rfl (by decide) rfl (zE hown ((Mv.refl _).drew.no hm5)) rfl (.inr ⟨b5, 0, rfl, hb5.row⟩) rfl (yN x) (by have := (((Mv.refl _).drew.no hm5) : Mv No wr w5).size; have := hmr.size; omega) (by unfold maxLen; omega) (by omega) (q := (l ++ [x]).length) (by simp) (ys := zI yA (l ++ [x])) (by rw [yT, Zi]; rfl) ?_)) (by decide +kernel)
            rintro A8 c8 w8 ho8 hm8
            refine zF (i := 9) rfl (ze yg rfl) ?_ (by decide +kernel) (by decide +kernel) (by decide +kernel) (fun _ _ _ _ h => h) rfl rfl rfl
            refine zO (i := 10) (zS rfl (yv ti_34 rfl rfl rfl ((hblk.no ((Mv.refl _).drew.no hm5)).mv hm8 (zK (hblk.no ((Mv.refl _).drew.no hm5)) (zE hown ((Mv.refl _).drew.no hm5)) (by decide))) (by show 0 < 2; decide) ?_)) (by decide +kernel)
            rintro w9 hb9 hm9
            refine yH (by decide +kernel) ?_
            refine yj (zc (zb (L (S (za rfl) ?_))))
            refine L (S (zT rfl rfl (z1 (c := ((i + 1 : Nat) : Int)) (by omega))) ?_)
            refine L (S (zd rfl) (zg (zc ?_)))
            have hmE : Mv No wr w5 := ((Mv.refl _).drew.no hm5)
            exact ⟨rfl, (i + 1, A8, c8), (.cons rfl (.cons rfl (.cons rfl (.cons rfl (.cons rfl (.cons rfl (.nil _))))))), ⟨hlt, mvAt ((hmr.no hmE).ownS hm8 (zE hown hmE) (Nat.le_refl _)) hm9, by dsimp only; rw [e]; exact hb9, by dsimp only; rw [e]; exact yo ho8 hm9 (fun q hq hq2 => by unfold At at hq2; subst hq2; exact zK ((hblk.no hmE).mv hm8 (zK (hblk.no hmE) (zE hown hmE) (by decide))) ho8 (by decide) hq)⟩, by dsimp only; omega⟩
          · refine ZL (i := 1) (i2 := 7) (zS rfl (zi yX rfl (by first | exact hf7 ((Mv.refl _).drew) | exact hf7 ((Mv.refl _).drew.no hm5)) ?_)) (zS rfl (zU (l := [.tmp 33]) (vss := [yA x]) Tryz.underlying34 yl (by decide) rfl (by simp [yA, yq, Zt]) rfl (by decide) (by decide) ?_)) (by decide +kernel)
            · refine zO (i := 7) (zS rfl (zU (l := [.tmp 33]) (vss := [yA x]) Tryz.underlying34 yl (by decide) rfl (by simp [yA, yq, Zt]) rfl (by decide) (by decide) ?_)) (by decide +kernel)
              rintro b5 w5 hb5 hm5 hn5
              refine zO (i := 8) (zS rfl (Zk Tryz.underlying34 yl rfl (by decide) rfl (zE hown ((Mv.refl _).drew.no hm5)) rfl (.inr ⟨b5, 0, rfl, hb5.row⟩) rfl (yN x) (by have := (((Mv.refl _).drew.no hm5) : Mv No wr w5).size; have := hmr.size; omega) (by unfold maxLen; omega) (by omega) (q := (l ++ [x]).length) (by simp) (ys := zI yA (l ++ [x])) (by rw [yT, Zi]; rfl) ?_)) (by decide +kernel)
              rintro A8 c8 w8 ho8 hm8
              refine zF (i := 9) rfl (ze yg rfl) ?_ (by decide +kernel) (by decide +kernel) (by decide +kernel) (fun _ _ _ _ h => h) rfl rfl rfl
              refine zO (i := 10) (zS rfl (yv ti_34 rfl rfl rfl ((hblk.no ((Mv.refl _).drew.no hm5)).mv hm8 (zK (hblk.no ((Mv.refl _).drew.no hm5)) (zE hown ((Mv.refl _).drew.no hm5)) (by decide))) (by show 0 < 2; decide) ?_)) (by decide +kernel)
              rintro w9 hb9 hm9
              refine yH (by decide +kernel) ?_
              refine yj (zc (zb (L (S (za rfl) ?_))))
              refine L (S (zT rfl rfl (z1 (c := ((i + 1 : Nat) : Int)) (by omega))) ?_)
              refine L (S (zd rfl) (zg (zc ?_)))
              have hmE : Mv No wr w5 := ((Mv.refl _).drew.no hm5)
              exact ⟨rfl, (i + 1, A8, c8), (.cons rfl (.cons rfl (.cons rfl (.cons rfl (.cons rfl (.cons rfl (.nil _))))))), ⟨hlt, mvAt ((hmr.no hmE).ownS hm8 (zE hown hmE) (Nat.le_refl _)) hm9, by dsimp only; rw [e]; exact hb9, by dsimp only; rw [e]; exact yo ho8 hm9 (fun q hq hq2 => by unfold At at hq2; subst hq2; exact zK ((hblk.no hmE).mv hm8 (zK (hblk.no hmE) (zE hown hmE) (by decide))) ho8 (by decide) hq)⟩, by dsimp only; omega⟩
            · rintro b5 w5 hb5 hm5 hn5
              refine zO (i := 1) (zS rfl (zi yX rfl (by first | exact hf7 ((Mv.refl _).drew) | exact hf7 ((Mv.refl _).drew.no hm5)) ?_)) (by decide +kernel)
              refine zO (i := 8) (zS rfl (Zk Tryz.underlying34 yl rfl (by decide) rfl (zE hown ((Mv.refl _).drew.no hm5)) rfl (.inr ⟨b5, 0, rfl, hb5.row⟩) rfl (yN x) (by have := (((Mv.refl _).drew.no hm5) : Mv No wr w5).size; have := hmr.size; omega) (by unfold maxLen; omega) (by omega) (q := (l ++ [x]).length) (by simp) (ys := zI yA (l ++ [x])) (by rw [yT, Zi]; rfl) ?_)) (by decide +kernel)
              rintro A8 c8 w8 ho8 hm8
              refine zF (i := 9) rfl (ze yg rfl) ?_ (by decide +kernel) (by decide +kernel) (by decide +kernel) (fun _ _ _ _ h => h) rfl rfl rfl
              refine zO (i := 10) (zS rfl (yv ti_34 rfl rfl rfl ((hblk.no ((Mv.refl _).drew.no hm5)).mv hm8 (zK (hblk.no ((Mv.refl _).drew.no hm5)) (zE hown ((Mv.refl _).drew.no hm5)) (by decide))) (by show 0 < 2; decide) ?_)) (by decide +kernel)
              rintro w9 hb9 hm9
              refine yH (by decide +kernel) ?_
              refine yj (zc (zb (L (S (za rfl) ?_))))
              refine L (S (zT rfl rfl (z1 (c := ((i + 1 : Nat) : Int)) (by omega))) ?_)
              refine L (S (zd rfl) (zg (zc ?_)))
              have hmE : Mv No wr w5 := ((Mv.refl _).drew.no hm5)
              exact ⟨rfl, (i + 1, A8, c8), (.cons rfl (.cons rfl (.cons rfl (.cons rfl (.cons rfl (.cons rfl (.nil _))))))), ⟨hlt, mvAt ((hmr.no hmE).ownS hm8 (zE hown hmE) (Nat.le_refl _)) hm9, by dsimp only; rw [e]; exact hb9, by dsimp only; rw [e]; exact yo ho8 hm9 (fun q hq hq2 => by unfold At at hq2; subst hq2; exact zK ((hblk.no hmE).mv hm8 (zK (hblk.no hmE) (zE hown hmE) (by decide))) ho8 (by decide) hq)⟩, by dsimp only; omega⟩
    · have e : s.tabs.take i = s.tabs := List.take_of_length_le (by omega)
      rw [e] at hblk hown
      refine zf (zf (zb (L (S (za rfl) (L (S (ze yg rfl) ?_))))))
      refine L (zi yX rfl (hf2 (Mv.refl _)) ?_)
      refine L (S (zH Tryz.underlying34 rfl) ?_)
      refine L (S (zG rfl rfl (decide_eq_false (by omega))) ?_)
      refine zg (zc (zk rfl (yn (zL (zL (yK (zc ?_)))))))
      exact ⟨rfl, (A, c), (.cons rfl (.cons rfl (.cons rfl (.cons rfl (.nil _))))), hmr, hblk, hown⟩
  rintro ⟨A, c⟩ w8' ⟨hm8', hb8', ho8'⟩ f' hf'
  dsimp only at hb8' ho8'
  refine Zb hf' ?_
  clear hf' f'
  have ht8 := (yW ho8')
  have z8 := hm8'.size
  have hn7 : ∀ {q}, Zx (.slice A (s.tabs.eraseIdx k).length c) q → q ≠ b7 := fun hq h => by subst h; exact zK hb8' ho8' (by decide) hq
  have hB2' : ∀ {wq}, Mv (At b7) w8' wq → Blk wq b2 (zM s) 37 := fun h => ((hB2 hm57).ne (mvAt hm8' h) (by omega))
  have hB4' : ∀ {wq}, Mv (At b7) w8' wq → Blk wq b4 (zM zX) 37 := fun h => ((hB4 hm57).ne (mvAt hm8' h) (by omega))
  generalize hte : s.tabs.eraseIdx k = te at *
  refine zf (zf (zb (L (S (zd rfl) (zg (zc (zx ?_)))))))
  refine yF (γ := Nat × Option Addr × Nat) (fun q => [(1, .string (str nm)), (2, .pointer (some ⟨b2, 0, none⟩)), (4, .pointer (some ⟨b4, 0, none⟩)), (7, .pointer (some ⟨b7, 0, none⟩)), (9, .int .i64 (q.1 : Int))]) (fun q wr => q.1 ≤ s.idxs.length ∧ Mv (At b7) w8' wr ∧ Blk wr b7 (zM ⟨te, A, c, (s.idxs.take q.1).filter (fun x => !decide (x.table = nm)), q.2.1, q.2.2⟩) 37 ∧ wr.ownsRow w8'.heap.size 30 6 (.slice q.2.1 ((s.idxs.take q.1).filter (fun x => !decide (x.table = nm))).length q.2.2) ((s.idxs.take q.1).filter (fun x => !decide (x.table = nm))).length (zI yq ((s.idxs.take q.1).filter (fun x => !decide (x.table = nm))))) (fun q => s.idxs.length - q.1) (0, none, 0) (.cons rfl (.cons rfl (.cons rfl (.cons rfl (.cons rfl (.nil _)))))) ⟨Nat.zero_le _, Mv.refl w8', hb8', Yl⟩ ?_
  rintro ⟨i, B, d⟩ wr ⟨hi, hmr, hblk, hown⟩
  dsimp only at hi hblk hown
  dsimp only
  have hf2 : ∀ {wq}, Mv No wr wq → wq.cell? ⟨b2, 1, none⟩ = some (.slice s.B s.idxs.length s.d) := fun h => ((hB2' hmr).no h).cell (i := 1) rfl
  have hm7r : Mv (At b7) w7 wr := mvAt hm8' hmr
  by_cases hlt : i < s.idxs.length
  · have ha := List.getElem?_eq_getElem hlt
    generalize s.idxs[i] = x at ha
    have hsl := hs7.isl.mv hm7r (fun a ha2 hb2 => by
      rcases hs.isl with h | ⟨bb, oo, h1, h2⟩
      · have h9 := cellsL_nil yw (by decide) h
        rw [h9] at hlt; exact absurd hlt (Nat.not_lt_zero _)
      · rw [h1] at ha2
        cases ha2
        have h7 := cell_lt (h2 0 _ (show (zI yq s.idxs)[0]? = some _ from List.getElem?_eq_getElem (by rw [yB yw]; omega)))
        unfold At at hb2
        dsimp only at h7 hb2
        omega)
    obtain ⟨ba, oa, hAe, -, hrow⟩ := yr yw (by decide) hsl ha
    rw [hAe] at hf2
    by_cases hq : x.table = nm
    · have e : (s.idxs.take (i + 1)).filter (fun x => !decide (x.table = nm)) = (s.idxs.take i).filter (fun x => !decide (x.table = nm)) := by rw [yY ha, List.filter_append]; simp [hq]
      refine zf (zf (zb (L (S (za rfl) (L (S (ze yf rfl) ?_))))))
      refine L (zi yS rfl (hf2 (Mv.refl _)) ?_)
      refine L (S (zH Tryz.underlying35 rfl) ?_)
      refine L (S (zG rfl rfl (decide_eq_true (by omega))) ?_)
      refine zg (zc (zr rfl (zo (zc (zf (zx (zf (zb (L (S (ze yf rfl) ?_))))))))))
      refine L (zi yS rfl (hf2 (Mv.refl _)) ?_)
      refine L (S (za rfl) ?_)
      refine L (S (zn Tryz.underlying35 (zD yb) rfl rfl (j := i) rfl (by omega) (p := oa + i * 6) (by omega)) ?_)
      refine L (S (ze Zp rfl) ?_)
      refine L (zi yc rfl (hrow 1 _ rfl) ?_)
      refine L (S (za rfl) ?_)
      refine L (S (Z4 rfl rfl (decide_eq_false (fun h => h (congrArg str hq)))) ?_)
      refine zg (zc (zk rfl (zo (yj (zc (zb (L (S (za rfl) ?_))))))))
      refine L (S (zT rfl rfl (z1 (c := ((i + 1 : Nat) : Int)) (by omega))) ?_)
      refine L (S (zd rfl) (zg (zc ?_)))
      exact ⟨rfl, (i + 1, B, d), (.cons rfl (.cons rfl (.cons rfl (.cons rfl (.cons rfl (.nil _)))))), ⟨hlt, hmr, by dsimp only; rw [e]; exact hblk, by dsimp only; rw [e]; exact hown⟩, by dsimp only; omega⟩
    · have e : (s.idxs.take (i + 1)).filter (fun x => !decide (x.table = nm)) = (s.idxs.take i).filter (fun x => !decide (x.table = nm)) ++ [x] := by rw [yY ha, List.filter_append]; simp [hq]
      have hll : ((s.idxs.take i).filter (fun x => !decide (x.table = nm))).length ≤ 1000 := Nat.le_trans (List.length_filter_le ..) (by rw [List.length_take]; omega)
      generalize (s.idxs.take i).filter (fun x => !decide (x.table = nm)) = l at *
      have hf7 : ∀ {wq}, Mv No wr wq → wq.cell? ⟨b7, 1, none⟩ = some (.slice B l.length d) := fun h => (hblk.no h).cell (i := 1) rfl
      refine zf (zf (zb (L (S (za rfl) (L (S (ze yf rfl) ?_))))))
      refine L (zi yS rfl (hf2 (Mv.refl _)) ?_)
      refine L (S (zH Tryz.underlying35 rfl) ?_)
      refine L (S (zG rfl rfl (decide_eq_true (by omega))) ?_)
      refine zg (zc (zr rfl (zo (zc (zf (zx (zf (zb (L (S (ze yf rfl) ?_))))))))))
      refine L (zi yS rfl (hf2 (Mv.refl _)) ?_)
      refine L (S (za rfl) ?_)
      refine L (S (zn Tryz.underlying35 (zD yb) rfl rfl (j := i) rfl (by omega) (p := oa + i * 6) (by omega)) ?_)
      refine L (S (ze Zp rfl) ?_)
      refine L (zi yc rfl (hrow 1 _ rfl) ?_)
      refine L (S (za rfl) ?_)
      refine L (S (Z4 rfl rfl (decide_eq_true (fun h => hq (ZH h)))) ?_)
      refine zg (zc (zr rfl ?_))
      refine ZT 11 mixed rfl ?_
      refine zF (i := 0) rfl (ze yf rfl) ?_ (by decide +kernel) (by decide +kernel) (by decide +kernel) (fun _ _ _ _ h => h) rfl rfl rfl
      refine zF (i := 2) rfl (ze yf rfl) ?_ (by decide +kernel) (by decide +kernel) (by decide +kernel) (fun _ _ _ _ h => h) rfl rfl rfl
      refine zF (i := 4) rfl (za rfl) ?_ (by decide +kernel) (by decide +kernel) (by decide +kernel) (fun _ _ _ _ h => h) rfl rfl rfl
      refine ZL (i := 1) (i2 := 3) (zS rfl (zi yS rfl (by first | exact hf7 ((Mv.refl _).drew) | exact hf7 ((Mv.refl _).drew.no hm5)) ?_)) (zS rfl (zi yS rfl (hf2 ((Mv.refl _).drew)) ?_)) (by decide +kernel)
      · refine zO (i := 3) (zS rfl (zi yS rfl (hf2 ((Mv.refl _).drew)) ?_)) (by decide +kernel)
        refine zF (i := 5) rfl (zn Tryz.underlying35 (zD yb) rfl rfl (j := i) rfl (by omega) (p := oa + i * 6) (by omega)) ?_ (by decide +kernel) (by decide +kernel) (by decide +kernel) (fun _ _ _ _ h => h) rfl rfl rfl
        refine zO (i := 6) (zS rfl (zB Zu rfl (hrow.no ((Mv.refl _).drew)) rfl ?_)) (by decide +kernel)
        refine zO (i := 7) (zS rfl (zU (l := [.tmp 58]) (vss := [yq x]) Tryz.underlying35 yb (by decide) rfl (by simp [yA, yq, Zt]) rfl (by decide) (by decide) ?_)) (by decide +kernel)
        rintro b5 w5 hb5 hm5 hn5
        refine zO (i := 8) (zS rfl (Zk Tryz.underlying35 yb rfl (by decide) rfl (zE hown ((Mv.refl _).drew.no hm5)) rfl (.inr ⟨b5, 0, rfl, hb5.row⟩) rfl (yz x) (by have := (((Mv.refl _).drew.no hm5) : Mv No wr w5).size; have := hmr.size; omega) (by unfold maxLen; omega) (by omega) (q := (l ++ [x]).length) (by simp) (ys := zI yq (l ++ [x])) (by rw [yT, Zi]; rfl) ?_)) (by decide +kernel)
        rintro A8 c8 w8 ho8 hm8
        refine zF (i := 9) rfl (ze yf rfl) ?_ (by decide +kernel) (by decide +kernel) (by decide +kernel) (fun _ _ _ _ h => h) rfl rfl rfl
        refine zO (i := 10) (zS rfl (yv ti_35 rfl rfl rfl ((hblk.no ((Mv.refl _).drew.no hm5)).mv hm8 (zK (hblk.no ((Mv.refl _).drew.no hm5)) (zE hown ((Mv.refl _).drew.no hm5)) (by decide))) (by show 1 < 2; decide) ?_)) (by decide +kernel)
        rintro w9 hb9 hm9
        refine yH (by decide +kernel) ?_
        refine yj (zc (zb (L (S (za rfl) ?_))))
        refine L (S (zT rfl rfl (z1 (c := ((i + 1 : Nat) : Int)) (by omega))) ?_)
        refine L (S (zd rfl) (zg (zc ?_)))
        have hmE : Mv No wr w5 := ((Mv.refl _).drew.no hm5)
        exact ⟨rfl, (i + 1, A8, c8), (.cons rfl (.cons rfl (.cons rfl (.cons rfl (.cons rfl (.nil _)))))), ⟨hlt, mvAt ((hmr.no hmE).ownS hm8 (zE hown hmE) (Nat.le_refl _)) hm9, by dsimp only; rw [e]; exact hb9, by dsimp only; rw [e]; exact yo ho8 hm9 (fun q hq hq2 => by unfold At at hq2; subst hq2; exact zK ((hblk.no hmE).mv hm8 (zK (hblk.no hmE) (zE hown hmE) (by decide))) ho8 (by decide) hq)⟩, by dsimp only; omega⟩
      · refine zF (i := 5) rfl (zn Tryz.underlying35 (zD yb) rfl rfl (j := i) rfl (by omega) (p := oa + i * 6) (by omega)) ?_ (by decide +kernel) (by decide +kernel) (by decide +kernel) (fun _ _ _ _ h => h) rfl rfl rfl
        refine ZL (i := 1) (i2 := 6) (zS rfl (zi yS rfl (by first | exact hf7 ((Mv.refl _).drew) | exact hf7 ((Mv.refl _).drew.no hm5)) ?_)) (zS rfl (zB Zu rfl (hrow.no ((Mv.refl _).drew)) rfl ?_)) (by decide +kernel)
        · refine zO (i := 6) (zS rfl (zB Zu rfl (hrow.no ((Mv.refl _).drew)) rfl ?_)) (by decide +kernel)
          refine zO (i := 7) (zS rfl (zU (l := [.tmp 58]) (vss := [yq x]) Tryz.underlying35 yb (by decide) rfl (by simp [yA, yq, Zt]) rfl (by decide) (by decide) ?_)) (by decide +kernel)
          rintro b5 w5 hb5 hm5 hn5
          refine zO (i := 8) (zS rfl (Zk Tryz.underlying35 yb rfl (by decide) rfl (zE hown ((Mv.refl _).drew.no hm5)) rfl (.inr ⟨b5, 0, rfl, hb5.row⟩) rfl (yz x) (by have := (((Mv.refl _).drew.no hm5) : Mv No wr w5).size; have := hmr.size; omega) (by unfold maxLen; omega) (by omega) (q := (l ++ [x]).length) (by simp) (ys := zI yq (l ++ [x])) (by rw [yT, Zi]; rfl) ?_)) (by decide +kernel)
          rintro A8 c8 w8 ho8 hm8
          refine zF (i := 9) rfl (ze yf rfl) ?_ (by decide +kernel) (by decide +kernel) (by decide +kernel) (fun _ _ _ _ h => h) rfl rfl rfl
          refine zO (i := 10) (zS rfl (yv ti_35 rfl rfl rfl ((hblk.no ((Mv.refl _).drew.no hm5)).mv hm8 (zK (hblk.no ((Mv.refl _).drew.no hm5)) (zE hown ((Mv.refl _).drew.no hm5)) (by decide))) (by show 1 < 2; decide) ?_)) (by decide +kernel)
          rintro w9 hb9 hm9
          refine yH (by decide +kernel) ?_
          refine yj (zc (zb (L (S (za rfl) ?_))))
          refine L (S (zT rfl rfl (z1 (c := ((i + 1 : Nat) : Int)) (by omega))) ?_)
          refine L (S (zd rfl) (zg (zc ?_)))
          have hmE : Mv No wr w5 := ((Mv.refl _).drew.no hm5)
          exact ⟨rfl, (i + 1, A8, c8), (.cons rfl (.cons rfl (.cons rfl (.cons rfl (.cons rfl (.nil _)))))), ⟨hlt, mvAt ((hmr.no hmE).ownS hm8 (zE hown hmE) (Nat.le_refl _)) hm9, by dsimp only; rw [e]; exact hb9, by dsimp only; rw [e]; exact yo ho8 hm9 (fun q hq hq2 => by unfold At at hq2; subst hq2; exact zK ((hblk.no hmE).mv hm8 (zK (hblk.no hmE) (zE hown hmE) (by decide))) ho8 (by decide) hq)⟩, by dsimp only; omega⟩
        · refine ZL (i := 1) (i2 := 7) (zS rfl (zi yS rfl (by first | exact hf7 ((Mv.refl _).drew) | exact hf7 ((Mv.refl _).drew.no hm5)) ?_)) (zS rfl (zU (l := [.tmp 58]) (vss := [yq x]) Tryz.underlying35 yb (by decide) rfl (by simp [yA, yq, Zt]) rfl (by decide) (by decide) ?_)) (by decide +kernel)
          · refine zO (i := 7) (zS rfl (zU (l := [.tmp 58]) (vss := [yq x]) Tryz.underlying35 yb (by decide) rfl (by simp [yA, yq, Zt]) rfl (by decide) (by decide) ?_)) (by decide +kernel)
            rintro b5 w5 hb5 hm5 hn5
            refine zO (i := 8) (zS rfl (Zk Tryz.underlying35 yb rfl (by decide) rfl (zE hown ((Mv.refl _).drew.no hm5)) rfl (.inr ⟨b5, 0, rfl, hb5.row⟩) rfl (yz x) (by have := (((Mv.refl _).drew.no hm5) : Mv No wr w5).size; have := hmr.size; omega) (by unfold maxLen; omega) (by omega) (q := (l ++ [x]).length) (by simp) (ys := zI yq (l ++ [x])) (by rw [yT, Zi]; rfl) ?_)) (by decide +kernel)
            rintro A8 c8 w8 ho8 hm8
            refine zF (i := 9) rfl (ze yf rfl) ?_ (by decide +kernel) (by decide +kernel) (by decide +kernel) (fun _ _ _ _ h => h) rfl rfl rfl
            refine zO (i := 10) (zS rfl (yv ti_35 rfl rfl rfl ((hblk.no ((Mv.refl _).drew.no hm5)).mv hm8 (zK (hblk.no ((Mv.refl _).drew.no hm5)) (zE hown ((Mv.refl _).drew.no hm5)) (by decide))) (by show 1 < 2; decide) ?_)) (by decide +kernel)
            rintro w9 hb9 hm9
            refine yH (by decide +kernel) ?_
            refine yj (zc (zb (L (S (za rfl) ?_))))
            refine L (S (zT rfl rfl (z1 (c := ((i + 1 : Nat) : Int)) (by omega))) ?_)
            refine L (S (zd rfl) (zg (zc ?_)))
            have hmE : Mv No wr w5 := ((Mv.refl _).drew.no hm5)
            exact ⟨rfl, (i + 1, A8, c8), (.cons rfl (.cons rfl (.cons rfl (.cons rfl (.cons rfl (.nil _)))))), ⟨hlt, mvAt ((hmr.no hmE).ownS hm8 (zE hown hmE) (Nat.le_refl _)) hm9, by dsimp only; rw [e]; exact hb9, by dsimp only; rw [e]; exact yo ho8 hm9 (fun q hq hq2 => by unfold At at hq2; subst hq2; exact zK ((hblk.no hmE).mv hm8 (zK (hblk.no hmE) (zE hown hmE) (by decide))) ho8 (by decide) hq)⟩, by dsimp only; omega⟩
          · rintro b5 w5 hb5 hm5 hn5
            refine zO (i := 1) (zS rfl (zi yS rfl (by first | exact hf7 ((Mv.refl _).drew) | exact hf7 ((Mv.refl _).drew.no hm5)) ?_)) (by decide +kernel)
            refine zO (i := 8) (zS rfl (Zk Tryz.underlying35 yb rfl (by decide) rfl (zE hown ((Mv.refl _).drew.no hm5)) rfl (.inr ⟨b5, 0, rfl, hb5.row⟩) rfl (yz x) (by have := (((Mv.refl _).drew.no hm5) : Mv No wr w5).size; have := hmr.size; omega) (by unfold maxLen; omega) (by omega) (q := (l ++ [x]).length) (by simp) (ys := zI yq (l ++ [x])) (by rw [yT, Zi]; rfl) ?_)) (by decide +kernel)
            rintro A8 c8 w8 ho8 hm8
            refine zF (i := 9) rfl (ze yf rfl) ?_ (by decide +kernel) (by decide +kernel) (by decide +kernel) (fun _ _ _ _ h => h) rfl rfl rfl
            refine zO (i := 10) (zS rfl (yv ti_35 rfl rfl rfl ((hblk.no ((Mv.refl _).drew.no hm5)).mv hm8 (zK (hblk.no ((Mv.refl _).drew.no hm5)) (zE hown ((Mv.refl _).drew.no hm5)) (by decide))) (by show 1 < 2; decide) ?_)) (by decide +kernel)
            rintro w9 hb9 hm9
            refine yH (by decide +kernel) ?_
            refine yj (zc (zb (L (S (za rfl) ?_))))
            refine L (S (zT rfl rfl (z1 (c := ((i + 1 : Nat) : Int)) (by omega))) ?_)
            refine L (S (zd rfl) (zg (zc ?_)))
            have hmE : Mv No wr w5 := ((Mv.refl _).drew.no hm5)
            exact ⟨rfl, (i + 1, A8, c8), (.cons rfl (.cons rfl (.cons rfl (.cons rfl (.cons rfl (.nil _)))))), ⟨hlt, mvAt ((hmr.no hmE).ownS hm8 (zE hown hmE) (Nat.le_refl _)) hm9, by dsimp only; rw [e]; exact hb9, by dsimp only; rw [e]; exact yo ho8 hm9 (fun q hq hq2 => by unfold At at hq2; subst hq2; exact zK ((hblk.no hmE).mv hm8 (zK (hblk.no hmE) (zE hown hmE) (by decide))) ho8 (by decide) hq)⟩, by dsimp only; omega⟩
  · have e : s.idxs.take i = s.idxs := List.take_of_length_le (by omega)
    rw [e] at hblk hown
    refine zf (zf (zb (L (S (za rfl) (L (S (ze yf rfl) ?_))))))
    refine L (zi yS rfl (hf2 (Mv.refl _)) ?_)
    refine L (S (zH Tryz.underlying35 rfl) ?_)
    refine L (S (zG rfl rfl (decide_eq_false (by omega))) ?_)
    refine zg (zc (zk rfl (yn (zL (zL (yK (zc (zf (zb ?_)))))))))
    refine L (zB zZ rfl hblk.row rfl ?_)
    refine L (zw z6 rfl rfl (zJ ⟨te, A, c, s.idxs.filter (fun x => !decide (x.table = nm)), B, d⟩) rfl (hB4' hmr) (by exact Nat.le_refl 2) ?_)
    rintro w17 hb17 hm17
    refine L (S (zd rfl) (zg (zc (zy ?_))))
    have hb17' : Blk w17 b4 (zM ⟨te, A, c, s.idxs.filter (fun x => !decide (x.table = nm)), B, d⟩) 37 := hb17
    refine yk (rs := [.cell 4 37, .tmp 5]) [.agg (zM ⟨te, A, c, s.idxs.filter (fun x => !decide (x.table = nm)), B, d⟩).toArray, .int .i64 ((0 : Nat) : Int)] Tryz.results37 ?_ ?_
    · exact ⟨⟨_, rfl, zu zZ hb17'.row rfl⟩, rfl, trivial⟩
    have hm017 : Mv No w w17 := ((hm05.no hm57).new hm7r (by omega)).new hm17 (by omega)
    have hs17 := hs.no hm017
    have hot := yo (yo ho8' hmr (fun q hq hq2 => hn7 hq hq2)) hm17 (fun q hq hq2 => by unfold At at hq2; subst hq2; exact zK (hB4' (Mv.refl _)) ho8' (by decide) hq)
    have hoi := yo hown hm17 (fun q hq hq2 => by unfold At at hq2; subst hq2; exact zK (hB4' hmr) hown (by decide) hq)
    refine ⟨_, rfl, ⟨(yW hot).1, (yW hot).2, fun t ht => hs17.tab t ?_, (yW hoi).1, (yW hoi).2, fun t ht => hs17.idx t (List.mem_filter.1 ht).1⟩, fun h => absurd rfl h, fun _ => ⟨?_, off_map _ _⟩, hm017⟩
    · dsimp only at ht; rw [← hte] at ht; exact List.mem_of_mem_eraseIdx ht
    · dsimp only; rw [← hte, ZP]; rfl
theorem refdropi_ret {s : Sch} (hs : SchOk w s) (hsm : SchSm s) (nm : List UInt8) : Ret Tryz.prog 39 [.agg (zM s).toArray, .string (str nm)] w fun v w' => ∃ o, v = .tuple #[.agg (zM o).toArray, .int .i64 (iDropE (s.idxs.map Idx.d_) nm : Nat)] ∧ SchOk w' o ∧ (iDropE (s.idxs.map Idx.d_) nm ≠ 0 → o = zX) ∧ (iDropE (s.idxs.map Idx.d_) nm = 0 → o.tabs.map Tab.d = s.tabs.map Tab.d ∧ o.idxs.map Idx.d_ = (s.idxs.map Idx.d_).eraseIdx (iAt (s.idxs.map Idx.d_) nm).toNat) ∧ Mv No w w' := by
  have hl1 := hsm.lt
  have hl2 := hsm.li
  refine zN Tryz.func39 Tryz.ntmps39 rfl rfl ?_
  refine zf (zb ?_)
  refine L (Zl rfl ?_)
  rintro b2 w2 hb2 hm2 hn2
  refine L (ye (zs := [(.slice none 0 0), (.slice none 0 0)]) z6 rfl ?_)
  rintro b4 w4 hb4 hm4 hn4
  refine L (S (zd rfl) (zg (zc (zf (zb ?_)))))
  refine L (zB zZ rfl (hb2.no hm4).row rfl ?_)
  refine L (S (za rfl) ?_)
  refine L (zq cb_18 rfl ((refindex_ret (s := s) ((hs.isl.no hm2).no hm4) (by omega) nm)) ?_)
  rintro _ w5 ⟨rfl, hm5⟩
  refine L (S (zd rfl) (zg (zc (zf (zf ?_)))))
  have hm05 := (hm2.no hm4).no hm5
  have hm45 := hm4.no hm5
  have z2 := hm2.size
  have y4 := hb4.lt
  have y2 := hb2.lt
  have z4 := hm4.size
  have z5 := hm5.size
  have hB2 : ∀ {wq}, Mv No w5 wq → Blk wq b2 (zM s) 37 := fun h => (hb2.no hm45).no h
  have hB4 : ∀ {wq}, Mv No w5 wq → Blk wq b4 (zM zX) 37 := fun h => (hb4.no hm5).no h
  rw [iAt_map]
  have hmap : (s.idxs.map Idx.d_).length = s.idxs.length := List.length_map ..
  have hat : ¬ iAt (s.idxs.map Idx.d_) nm < 0 → ∃ i : Nat, iAt (s.idxs.map Idx.d_) nm = (i : Int) ∧ i < s.idxs.length := fun h => by
    obtain ⟨i, a, h1, _, h3⟩ := Yt h
    exact ⟨i, h1, by rw [← hmap]; exact h3⟩
  unfold iDropE
  generalize iAt (s.idxs.map Idx.d_) nm = at_ at *
  by_cases q : at_ < 0
  · rw [if_pos q]
    refine zb (L (S (za rfl) ?_))
    refine L (S (zG rfl rfl (decide_eq_true (by omega))) ?_)
    refine zg (zc (zr rfl (zf (zb ?_))))
    refine L (S (zW (ix := []) (l := []) Zq rfl (by simp [Value.oneCell']) rfl) ?_)
    refine L (zw z6 rfl rfl (zJ zX) rfl (hB4 (Mv.refl _)) (by exact Nat.le_refl 2) ?_)
    rintro w9 hb9 hm9
    refine L (S (zd rfl) (zg (zc (zy (zm ?_)))))
    have hb9' : Blk w9 b4 (zM zX) 37 := hb9
    refine yk (rs := [.cell 4 37, .tmp 5]) [.agg (zM zX).toArray, .int .i64 ((2 : Nat) : Int)] Tryz.results39 ?_ ?_
    · exact ⟨⟨_, rfl, zu zZ hb9'.row rfl⟩, rfl, trivial⟩
    exact ⟨zX, rfl, (Z1 (base := 0)).ok, fun _ => rfl, fun h => absurd h (by decide), hm05.new hm9 (by omega)⟩
  rw [if_neg q]
  obtain ⟨k, rfl, hkl⟩ := hat q
  have hs5 := hs.no hm05
  refine zb (L (S (za rfl) ?_))
  refine L (S (zG rfl rfl (decide_eq_false (by omega))) ?_)
  refine zg (zc (zk rfl (zo (zc (zf (zb (L (S (ze yg rfl) ?_))))))))
  refine L (zi yX rfl ((hB2 (Mv.refl _)).cell (i := 0) rfl) ?_)
  refine L (S (zW (ix := [0]) (l := [.tmp 16]) bi_37_0 rfl (by simp [Value.oneCell']) rfl) ?_)
  refine L (ye (zs := [(.slice none 0 0), (.slice none 0 0)]) z6 rfl ?_)
  rintro b7 w6 hb6 hm6 hn6
  refine L (zw z6 rfl rfl (zJ { s with idxs := [], B := none, d := 0 }) rfl hb6 (by exact Nat.le_refl 2) ?_)
  rintro w7 hb7 hm7
  refine zg (zc (zf (zf (zb (L (S (zd rfl) (zg (zc (zx ?_)))))))))
  have hb7' : Blk w7 b7 (zM { s with idxs := [], B := none, d := 0 }) 37 := hb7
  have hm57 : Mv No w5 w7 := hm6.new hm7 hn6
  have y7 := hb7'.lt
  have z7 := hm57.size
  have hs7 := hs5.no hm57
  refine yF (γ := Nat × Option Addr × Nat) (fun q => [(2, .pointer (some ⟨b2, 0, none⟩)), (4, .pointer (some ⟨b4, 0, none⟩)), (6, .int .i64 (k : Int)), (7, .pointer (some ⟨b7, 0, none⟩)), (8, .int .i64 (q.1 : Int))]) (fun q wr => q.1 ≤ s.idxs.length ∧ Mv (At b7) w7 wr ∧ Blk wr b7 (zM { s with idxs := (s.idxs.take q.1).eraseIdx k, B := q.2.1, d := q.2.2 }) 37 ∧ wr.ownsRow w7.heap.size 30 6 (.slice q.2.1 ((s.idxs.take q.1).eraseIdx k).length q.2.2) ((s.idxs.take q.1).eraseIdx k).length (zI yq ((s.idxs.take q.1).eraseIdx k))) (fun q => s.idxs.length - q.1) (0, none, 0) (.cons rfl (.cons rfl (.cons rfl (.cons rfl (.cons rfl (.nil _)))))) ⟨Nat.zero_le _, Mv.refl w7, hb7', Yl⟩ ?_
  rintro ⟨i, B, d⟩ wr ⟨hi, hmr, hblk, hown⟩
  dsimp only at hi hblk hown
  dsimp only
  have hf2 : ∀ {wq}, Mv No wr wq → wq.cell? ⟨b2, 1, none⟩ = some (.slice s.B s.idxs.length s.d) := fun h => ((((hB2 hm57).ne hmr (by omega))).no h).cell (i := 1) rfl
  by_cases hlt : i < s.idxs.length
  · have ha := List.getElem?_eq_getElem hlt
    generalize s.idxs[i] = x at ha
    have hsl := hs7.isl.mv hmr (fun a ha2 hb2 => by
      rcases hs.isl with h | ⟨bb, oo, h1, h2⟩
      · have h9 := cellsL_nil yw (by decide) h
        rw [h9] at hlt; exact absurd hlt (Nat.not_lt_zero _)
      · rw [h1] at ha2
        cases ha2
        have h7 := cell_lt (h2 0 _ (show (zI yq s.idxs)[0]? = some _ from List.getElem?_eq_getElem (by rw [yB yw]; omega)))
        unfold At at hb2
        dsimp only at h7 hb2
        omega)
    obtain ⟨ba, oa, hAe, -, hrow⟩ := yr yw (by decide) hsl ha
    rw [hAe] at hf2
    by_cases hik : i = k
    · subst hik
      have e := erase_same ha
      refine zf (zf (zb (L (S (za rfl) (L (S (ze yf rfl) ?_))))))
      refine L (zi yS rfl (hf2 (Mv.refl _)) ?_)
      refine L (S (zH Tryz.underlying35 rfl) ?_)
      refine L (S (zG rfl rfl (decide_eq_true (by omega))) ?_)
      refine zg (zc (zr rfl (zo (zc (zf (zx (zf (zb (L (S (za rfl) (L (S (za rfl) ?_))))))))))))
      refine L (S (Za rfl rfl (decide_eq_false (fun h => h rfl))) ?_)
      refine zg (zc (zk rfl (zo (yj (zc (zb (L (S (za rfl) ?_))))))))
      refine L (S (zT rfl rfl (z1 (c := ((i + 1 : Nat) : Int)) (by omega))) ?_)
      refine L (S (zd rfl) (zg (zc ?_)))
      exact ⟨rfl, (i + 1, B, d), (.cons rfl (.cons rfl (.cons rfl (.cons rfl (.cons rfl (.nil _)))))), ⟨hlt, hmr, by dsimp only; rw [e]; exact hblk, by dsimp only; rw [e]; exact hown⟩, by dsimp only; omega⟩
    · have e := erase_next ha hik
      have hll : ((s.idxs.take i).eraseIdx k).length ≤ 1000 := Nat.le_trans (List.length_eraseIdx_le ..) (by rw [List.length_take]; omega)
      generalize (s.idxs.take i).eraseIdx k = l at *
      have hf7 : ∀ {wq}, Mv No wr wq → wq.cell? ⟨b7, 1, none⟩ = some (.slice B l.length d) := fun h => (hblk.no h).cell (i := 1) rfl
      refine zf (zf (zb (L (S (za rfl) (L (S (ze yf rfl) ?_))))))
      refine L (zi yS rfl (hf2 (Mv.refl _)) ?_)
      refine L (S (zH Tryz.underlying35 rfl) ?_)
      refine L (S (zG rfl rfl (decide_eq_true (by omega))) ?_)
      refine zg (zc (zr rfl (zo (zc (zf (zx (zf (zb (L (S (za rfl) (L (S (za rfl) ?_))))))))))))
      refine L (S (Za rfl rfl (decide_eq_true (by omega))) ?_)
      refine zg (zc (zr rfl ?_))
      refine ZT 11 mixed rfl ?_
      refine zF (i := 0) rfl (ze yf rfl) ?_ (by decide +kernel) (by decide +kernel) (by decide +kernel) (fun _ _ _ _ h => h) rfl rfl rfl
      refine zF (i := 2) rfl (ze yf rfl) ?_ (by decide +kernel) (by decide +kernel) (by decide +kernel) (fun _ _ _ _ h => h) rfl rfl rfl
      refine zF (i := 4) rfl (za rfl) ?_ (by decide +kernel) (by decide +kernel) (by decide +kernel) (fun _ _ _ _ h => h) rfl rfl rfl
      refine ZL (i := 1) (i2 := 3) (zS rfl (zi yS rfl (by first | exact hf7 ((Mv.refl _).drew) | exact hf7 ((Mv.refl _).drew.no hm5)) ?_)) (zS rfl (zi yS rfl (hf2 ((Mv.refl _).drew)) ?_)) (by decide +kernel)
      · refine zO (i := 3) (zS rfl (zi yS rfl (hf2 ((Mv.refl _).drew)) ?_)) (by decide +kernel)
        refine zF (i := 5) rfl (zn Tryz.underlying35 (zD yb) rfl rfl (j := i) rfl (by omega) (p := oa + i * 6) (by omega)) ?_ (by decide +kernel) (by decide +kernel) (by decide +kernel) (fun _ _ _ _ h => h) rfl rfl rfl
        refine zO (i := 6) (zS rfl (zB Zu rfl (hrow.no ((Mv.refl _).drew)) rfl ?_)) (by decide +kernel)
        refine zO (i := 7) (zS rfl (zU (l := [.tmp 34]) (vss := [yq x]) Tryz.underlying35 yb (by decide) rfl (by simp [yA, yq, Zt]) rfl (by decide) (by decide) ?_)) (by decide +kernel)
        rintro b5 w5 hb5 hm5 hn5
        refine zO (i := 8) (zS rfl (Zk Tryz.underlying35 yb rfl (by decide) rfl (zE hown ((Mv.refl _).drew.no hm5)) rfl (.inr ⟨b5, 0, rfl, hb5.row⟩) rfl (yz x) (by have := (((Mv.refl _).drew.no hm5) : Mv No wr w5).size; have := hmr.size; omega) (by unfold maxLen; omega) (by omega) (q := (l ++ [x]).length) (by simp) (ys := zI yq (l ++ [x])) (by rw [yT, Zi]; rfl) ?_)) (by decide +kernel)
        rintro A8 c8 w8 ho8 hm8
        refine zF (i := 9) rfl (ze yf rfl) ?_ (by decide +kernel) (by decide +kernel) (by decide +kernel) (fun _ _ _ _ h => h) rfl rfl rfl
        refine zO (i := 10) (zS rfl (yv ti_35 rfl rfl rfl ((hblk.no ((Mv.refl _).drew.no hm5)).mv hm8 (zK (hblk.no ((Mv.refl _).drew.no hm5)) (zE hown ((Mv.refl _).drew.no hm5)) (by decide))) (by show 1 < 2; decide) ?_)) (by decide +kernel)
        rintro w9 hb9 hm9
        refine yH (by decide +kernel) ?_
        refine yj (zc (zb (L (S (za rfl) ?_))))
        refine L (S (zT rfl rfl (z1 (c := ((i + 1 : Nat) : Int)) (by omega))) ?_)
        refine L (S (zd rfl) (zg (zc ?_)))
        have hmE : Mv No wr w5 := ((Mv.refl _).drew.no hm5)
        exact ⟨rfl, (i + 1, A8, c8), (.cons rfl (.cons rfl (.cons rfl (.cons rfl (.cons rfl (.nil _)))))), ⟨hlt, mvAt ((hmr.no hmE).ownS hm8 (zE hown hmE) (Nat.le_refl _)) hm9, by dsimp only; rw [e]; exact hb9, by dsimp only; rw [e]; exact yo ho8 hm9 (fun q hq hq2 => by unfold At at hq2; subst hq2; exact zK ((hblk.no hmE).mv hm8 (zK (hblk.no hmE) (zE hown hmE) (by decide))) ho8 (by decide) hq)⟩, by dsimp only; omega⟩
      · refine zF (i := 5) rfl (zn Tryz.underlying35 (zD yb) rfl rfl (j := i) rfl (by omega) (p := oa + i * 6) (by omega)) ?_ (by decide +kernel) (by decide +kernel) (by decide +kernel) (fun _ _ _ _ h => h) rfl rfl rfl
        refine ZL (i := 1) (i2 := 6) (zS rfl (zi yS rfl (by first | exact hf7 ((Mv.refl _).drew) | exact hf7 ((Mv.refl _).drew.no hm5)) ?_)) (zS rfl (zB Zu rfl (hrow.no ((Mv.refl _).drew)) rfl ?_)) (by decide +kernel)
        · refine zO (i := 6) (zS rfl (zB Zu rfl (hrow.no ((Mv.refl _).drew)) rfl ?_)) (by decide +kernel)
          refine zO (i := 7) (zS rfl (zU (l := [.tmp 34]) (vss := [yq x]) Tryz.underlying35 yb (by decide) rfl (by simp [yA, yq, Zt]) rfl (by decide) (by decide) ?_)) (by decide +kernel)
          rintro b5 w5 hb5 hm5 hn5
          refine zO (i := 8) (zS rfl (Zk Tryz.underlying35 yb rfl (by decide) rfl (zE hown ((Mv.refl _).drew.no hm5)) rfl (.inr ⟨b5, 0, rfl, hb5.row⟩) rfl (yz x) (by have := (((Mv.refl _).drew.no hm5) : Mv No wr w5).size; have := hmr.size; omega) (by unfold maxLen; omega) (by omega) (q := (l ++ [x]).length) (by simp) (ys := zI yq (l ++ [x])) (by rw [yT, Zi]; rfl) ?_)) (by decide +kernel)
          rintro A8 c8 w8 ho8 hm8
          refine zF (i := 9) rfl (ze yf rfl) ?_ (by decide +kernel) (by decide +kernel) (by decide +kernel) (fun _ _ _ _ h => h) rfl rfl rfl
          refine zO (i := 10) (zS rfl (yv ti_35 rfl rfl rfl ((hblk.no ((Mv.refl _).drew.no hm5)).mv hm8 (zK (hblk.no ((Mv.refl _).drew.no hm5)) (zE hown ((Mv.refl _).drew.no hm5)) (by decide))) (by show 1 < 2; decide) ?_)) (by decide +kernel)
          rintro w9 hb9 hm9
          refine yH (by decide +kernel) ?_
          refine yj (zc (zb (L (S (za rfl) ?_))))
          refine L (S (zT rfl rfl (z1 (c := ((i + 1 : Nat) : Int)) (by omega))) ?_)
          refine L (S (zd rfl) (zg (zc ?_)))
          have hmE : Mv No wr w5 := ((Mv.refl _).drew.no hm5)
          exact ⟨rfl, (i + 1, A8, c8), (.cons rfl (.cons rfl (.cons rfl (.cons rfl (.cons rfl (.nil _)))))), ⟨hlt, mvAt ((hmr.no hmE).ownS hm8 (zE hown hmE) (Nat.le_refl _)) hm9, by dsimp only; rw [e]; exact hb9, by dsimp only; rw [e]; exact yo ho8 hm9 (fun q hq hq2 => by unfold At at hq2; subst hq2; exact zK ((hblk.no hmE).mv hm8 (zK (hblk.no hmE) (zE hown hmE) (by decide))) ho8 (by decide) hq)⟩, by dsimp only; omega⟩
        · refine ZL (i := 1) (i2 := 7) (zS rfl (zi yS rfl (by first | exact hf7 ((Mv.refl _).drew) | exact hf7 ((Mv.refl _).drew.no hm5)) ?_)) (zS rfl (zU (l := [.tmp 34]) (vss := [yq x]) Tryz.underlying35 yb (by decide) rfl (by simp [yA, yq, Zt]) rfl (by decide) (by decide) ?_)) (by decide +kernel)
          · refine zO (i := 7) (zS rfl (zU (l := [.tmp 34]) (vss := [yq x]) Tryz.underlying35 yb (by decide) rfl (by simp [yA, yq, Zt]) rfl (by decide) (by decide) ?_)) (by decide +kernel)
            rintro b5 w5 hb5 hm5 hn5
            refine zO (i := 8) (zS rfl (Zk Tryz.underlying35 yb rfl (by decide) rfl (zE hown ((Mv.refl _).drew.no hm5)) rfl (.inr ⟨b5, 0, rfl, hb5.row⟩) rfl (yz x) (by have := (((Mv.refl _).drew.no hm5) : Mv No wr w5).size; have := hmr.size; omega) (by unfold maxLen; omega) (by omega) (q := (l ++ [x]).length) (by simp) (ys := zI yq (l ++ [x])) (by rw [yT, Zi]; rfl) ?_)) (by decide +kernel)
            rintro A8 c8 w8 ho8 hm8
            refine zF (i := 9) rfl (ze yf rfl) ?_ (by decide +kernel) (by decide +kernel) (by decide +kernel) (fun _ _ _ _ h => h) rfl rfl rfl
            refine zO (i := 10) (zS rfl (yv ti_35 rfl rfl rfl ((hblk.no ((Mv.refl _).drew.no hm5)).mv hm8 (zK (hblk.no ((Mv.refl _).drew.no hm5)) (zE hown ((Mv.refl _).drew.no hm5)) (by decide))) (by show 1 < 2; decide) ?_)) (by decide +kernel)
            rintro w9 hb9 hm9
            refine yH (by decide +kernel) ?_
            refine yj (zc (zb (L (S (za rfl) ?_))))
            refine L (S (zT rfl rfl (z1 (c := ((i + 1 : Nat) : Int)) (by omega))) ?_)
            refine L (S (zd rfl) (zg (zc ?_)))
            have hmE : Mv No wr w5 := ((Mv.refl _).drew.no hm5)
            exact ⟨rfl, (i + 1, A8, c8), (.cons rfl (.cons rfl (.cons rfl (.cons rfl (.cons rfl (.nil _)))))), ⟨hlt, mvAt ((hmr.no hmE).ownS hm8 (zE hown hmE) (Nat.le_refl _)) hm9, by dsimp only; rw [e]; exact hb9, by dsimp only; rw [e]; exact yo ho8 hm9 (fun q hq hq2 => by unfold At at hq2; subst hq2; exact zK ((hblk.no hmE).mv hm8 (zK (hblk.no hmE) (zE hown hmE) (by decide))) ho8 (by decide) hq)⟩, by dsimp only; omega⟩
          · rintro b5 w5 hb5 hm5 hn5
            refine zO (i := 1) (zS rfl (zi yS rfl (by first | exact hf7 ((Mv.refl _).drew) | exact hf7 ((Mv.refl _).drew.no hm5)) ?_)) (by decide +kernel)
            refine zO (i := 8) (zS rfl (Zk Tryz.underlying35 yb rfl (by decide) rfl (zE hown ((Mv.refl _).drew.no hm5)) rfl (.inr ⟨b5, 0, rfl, hb5.row⟩) rfl (yz x) (by have := (((Mv.refl _).drew.no hm5) : Mv No wr w5).size; have := hmr.size; omega) (by unfold maxLen; omega) (by omega) (q := (l ++ [x]).length) (by simp) (ys := zI yq (l ++ [x])) (by rw [yT, Zi]; rfl) ?_)) (by decide +kernel)
            rintro A8 c8 w8 ho8 hm8
            refine zF (i := 9) rfl (ze yf rfl) ?_ (by decide +kernel) (by decide +kernel) (by decide +kernel) (fun _ _ _ _ h => h) rfl rfl rfl
            refine zO (i := 10) (zS rfl (yv ti_35 rfl rfl rfl ((hblk.no ((Mv.refl _).drew.no hm5)).mv hm8 (zK (hblk.no ((Mv.refl _).drew.no hm5)) (zE hown ((Mv.refl _).drew.no hm5)) (by decide))) (by show 1 < 2; decide) ?_)) (by decide +kernel)
            rintro w9 hb9 hm9
            refine yH (by decide +kernel) ?_
            refine yj (zc (zb (L (S (za rfl) ?_))))
            refine L (S (zT rfl rfl (z1 (c := ((i + 1 : Nat) : Int)) (by omega))) ?_)
            refine L (S (zd rfl) (zg (zc ?_)))
            have hmE : Mv No wr w5 := ((Mv.refl _).drew.no hm5)
            exact ⟨rfl, (i + 1, A8, c8), (.cons rfl (.cons rfl (.cons rfl (.cons rfl (.cons rfl (.nil _)))))), ⟨hlt, mvAt ((hmr.no hmE).ownS hm8 (zE hown hmE) (Nat.le_refl _)) hm9, by dsimp only; rw [e]; exact hb9, by dsimp only; rw [e]; exact yo ho8 hm9 (fun q hq hq2 => by unfold At at hq2; subst hq2; exact zK ((hblk.no hmE).mv hm8 (zK (hblk.no hmE) (zE hown hmE) (by decide))) ho8 (by decide) hq)⟩, by dsimp only; omega⟩
  · have e : s.idxs.take i = s.idxs := List.take_of_length_le (by omega)
    rw [e] at hblk hown
    have hb4r := (hB4 hm57).ne hmr (by omega)
    refine zf (zf (zb (L (S (za rfl) (L (S (ze yf rfl) ?_))))))
    refine L (zi yS rfl (hf2 (Mv.refl _)) ?_)
    refine L (S (zH Tryz.underlying35 rfl) ?_)
    refine L (S (zG rfl rfl (decide_eq_false (by omega))) ?_)
    refine zg (zc (zk rfl (yn (zL (zL (yK (zc (zf (zb ?_)))))))))
    refine L (zB zZ rfl hblk.row rfl ?_)
    refine L (zw z6 rfl rfl (zJ { s with idxs := s.idxs.eraseIdx k, B := B, d := d }) rfl hb4r (by exact Nat.le_refl 2) ?_)
    rintro w17 hb17 hm17
    refine L (S (zd rfl) (zg (zc (zy ?_))))
    have hb17' : Blk w17 b4 (zM { s with idxs := s.idxs.eraseIdx k, B := B, d := d }) 37 := hb17
    refine yk (rs := [.cell 4 37, .tmp 5]) [.agg (zM { s with idxs := s.idxs.eraseIdx k, B := B, d := d }).toArray, .int .i64 ((0 : Nat) : Int)] Tryz.results39 ?_ ?_
    · exact ⟨⟨_, rfl, zu zZ hb17'.row rfl⟩, rfl, trivial⟩
    have hm017 : Mv No w w17 := ((hm05.no hm57).new hmr (by omega)).new hm17 (by omega)
    have hoi := yo hown hm17 (fun q hq hq2 => by unfold At at hq2; subst hq2; exact zK hb4r hown (by decide) hq)
    exact ⟨_, rfl, (hs.no hm017).setI (yW hoi).1 (yW hoi).2 (fun t ht => (hs.no hm017).idx t (List.mem_of_mem_eraseIdx ht)), fun h => absurd rfl h, fun _ => ⟨rfl, ZP _ _⟩, hm017⟩
end
end Go.Proofs.YtnoioimphcmeiaaGreatDoor
namespace Go.Proofs.YtnoioimphcmeiaaGreatDoor
open Go.RowKit
set_option maxRecDepth 20000
set_option maxHeartbeats 2000000

theorem tripCol : TripT Tryz.prog 43 .str (.int .i64) .bool := ⟨_, _, _, Tryz.underlying43, by kernel_rfl, by kernel_rfl, by kernel_rfl, by decide, ⟨rfl, rfl, rfl⟩, ⟨by kernel_rfl, by kernel_rfl, by kernel_rfl⟩, by kernel_rfl, by kernel_rfl⟩
section
variable {w : World}
theorem same_ret {a b : Sch} (ha : SchOk w a) (hb : SchOk w b) (hl1 : a.tabs.length ≤ 100000) (hl2 : a.idxs.length ≤ 100000) (hla : ∀ t ∈ a.tabs, t.cols.length ≤ 100000) (hli : ∀ t ∈ a.idxs, t.cols.length ≤ 100000) : Ret Tryz.prog 14 [.agg (zM a).toArray, .agg (zM b).toArray] w fun v w' => ∃ β, v = .bool β ∧ (a.tabs.map Tab.d = b.tabs.map Tab.d → a.idxs.map Idx.d_ = b.idxs.map Idx.d_ → β = true) ∧ Mv No w w' := by
  refine zN Tryz.func14 Tryz.ntmps14 rfl rfl ?_
  refine zf (zb ?_)
  refine L (Zl rfl ?_)
  rintro b2 w2 hb2 hm2 hn2
  refine L (Zl rfl ?_)
  rintro b3 w3 hb3 hm3 hn3
  refine L (S (zd rfl) (zg (zc (zf (zf ?_)))))
  have hb2 := hb2.no hm3
  have hm03 := hm2.no hm3
  have h3a := ha.no hm03
  have h3b := hb.no hm03
  by_cases hlt1 : a.tabs.length = b.tabs.length
  rotate_left
  · refine zb (L (S (ze yg rfl) ?_))
    refine L (zi yX rfl (hb2.cell (i := 0) rfl) ?_)
    refine L (S (zH Tryz.underlying34 rfl) ?_)
    refine L (S (ze yg rfl) ?_)
    refine L (zi yX rfl (hb3.cell (i := 0) rfl) ?_)
    refine L (S (zH Tryz.underlying34 rfl) ?_)
    refine L (S (Za rfl rfl (decide_eq_true (by omega))) ?_)
    refine L (S (za rfl) (zl (j := 7) (dj := 20) (b := false) (b' := true) (d := 21) rfl (zl (j := 7) (dj := 20) (b := false) (b' := true) (d := 22) rfl (zl (j := 7) (dj := 20) (b := false) (b' := true) (d := 23) rfl (zl (j := 7) (dj := 20) (b := false) (b' := true) (d := 24) rfl (zl (j := 7) (dj := 20) (b := false) (b' := true) (d := 25) rfl (zl (j := 7) (dj := 20) (b := false) (b' := true) (d := 26) rfl (zl (j := 7) (dj := 20) (b := false) (b' := true) (d := 27) rfl (L (S (zt rfl rfl) (zg (zc (zr rfl (zf (zb (L (S (zd rfl) (zg (zc (zy (zm ?_)))))))))))))))))))))
    refine zC Tryz.results14 rfl ?_
    exact ⟨false, rfl, fun ht hi => absurd (by simpa using congrArg List.length ht) hlt1, hm03⟩
  by_cases hlt2 : a.idxs.length = b.idxs.length
  rotate_left
  · refine zb (L (S (ze yg rfl) ?_))
    refine L (zi yX rfl (hb2.cell (i := 0) rfl) ?_)
    refine L (S (zH Tryz.underlying34 rfl) ?_)
    refine L (S (ze yg rfl) ?_)
    refine L (zi yX rfl (hb3.cell (i := 0) rfl) ?_)
    refine L (S (zH Tryz.underlying34 rfl) ?_)
    refine L (S (Za rfl rfl (decide_eq_false (by omega))) ?_)
    refine L (S (za rfl) (zh (j := 7) (dj := 20) (b := false) (S (ze yf rfl) ?_) rfl))
    refine zh (j := 7) (dj := 20) (b := false) (zi yS rfl (hb2.cell (i := 1) rfl) ?_) rfl
    refine zh (j := 7) (dj := 20) (b := false) (S (zH Tryz.underlying35 rfl) ?_) rfl
    refine zh (j := 7) (dj := 20) (b := false) (S (ze yf rfl) ?_) rfl
    refine zh (j := 7) (dj := 20) (b := false) (zi yS rfl (hb3.cell (i := 1) rfl) ?_) rfl
    refine zh (j := 7) (dj := 20) (b := false) (S (zH Tryz.underlying35 rfl) ?_) rfl
    refine zh (j := 7) (dj := 20) (b := false) (S (Za rfl rfl (decide_eq_true (by omega))) ?_) rfl
    refine L (S (zj rfl rfl) (zg (zc (zr rfl (zf (zb (L (S (zd rfl) (zg (zc (zy (zm ?_))))))))))))
    refine zC Tryz.results14 rfl ?_
    exact ⟨false, rfl, fun ht hi => absurd (by simpa using congrArg List.length hi) hlt2, hm03⟩
  refine zb (L (S (ze yg rfl) ?_))
  refine L (zi yX rfl (hb2.cell (i := 0) rfl) ?_)
  refine L (S (zH Tryz.underlying34 rfl) ?_)
  refine L (S (ze yg rfl) ?_)
  refine L (zi yX rfl (hb3.cell (i := 0) rfl) ?_)
  refine L (S (zH Tryz.underlying34 rfl) ?_)
  refine L (S (Za rfl rfl (decide_eq_false (by omega))) ?_)
  refine L (S (za rfl) (zh (j := 7) (dj := 20) (b := false) (S (ze yf rfl) ?_) rfl))
  refine zh (j := 7) (dj := 20) (b := false) (zi yS rfl (hb2.cell (i := 1) rfl) ?_) rfl
  refine zh (j := 7) (dj := 20) (b := false) (S (zH Tryz.underlying35 rfl) ?_) rfl
  refine zh (j := 7) (dj := 20) (b := false) (S (ze yf rfl) ?_) rfl
  refine zh (j := 7) (dj := 20) (b := false) (zi yS rfl (hb3.cell (i := 1) rfl) ?_) rfl
  refine zh (j := 7) (dj := 20) (b := false) (S (zH Tryz.underlying35 rfl) ?_) rfl
  refine zh (j := 7) (dj := 20) (b := false) (S (Za rfl rfl (decide_eq_false (by omega))) ?_) rfl
  refine L (S (zj rfl rfl) (zg (zc (zk rfl (zo (zc (zf (zf (zb (L (S (zd rfl) (zg (zc (zx ?_))))))))))))))
  refine yF (γ := Nat) (fun i => [(2, .pointer (some ⟨b2, 0, none⟩)), (3, .pointer (some ⟨b3, 0, none⟩)), (5, .int .i64 (i : Int))]) (fun i wr => Mv No w3 wr ∧ i ≤ a.tabs.length) (fun i => a.tabs.length - i) 0 (.cons rfl (.cons rfl (.cons rfl (.nil _)))) ⟨Mv.refl w3, Nat.zero_le _⟩ ?_
  rintro i wr ⟨hmr, hi⟩
  by_cases hlt : i < a.tabs.length
  · have hx := List.getElem?_eq_getElem hlt
    have hy := List.getElem?_eq_getElem (show i < b.tabs.length by omega)
    generalize a.tabs[i] = x at hx
    generalize b.tabs[i] = y at hy
    have hd : a.tabs.map Tab.d = b.tabs.map Tab.d → x.d = y.d := fun h => by
      have h9 := congrArg (·[i]?) h
      simpa [hx, hy] using h9
    obtain ⟨ba, oa, hAe, -, hrx⟩ := yr yI (by decide) (h3a.tsl.no hmr) hx
    obtain ⟨bb, ob, hBe, -, hry⟩ := yr yI (by decide) (h3b.tsl.no hmr) hy
    have hca : ∀ {wq}, Mv No wr wq → wq.cell? ⟨b2, 0, none⟩ = some (.slice (some ⟨ba, oa, none⟩) a.tabs.length a.c) := fun h => by rw [← hAe]; exact ((hb2.no hmr).no h).cell (i := 0) rfl
    have hcb : ∀ {wq}, Mv No wr wq → wq.cell? ⟨b3, 0, none⟩ = some (.slice (some ⟨bb, ob, none⟩) b.tabs.length b.c) := fun h => by rw [← hBe]; exact ((hb3.no hmr).no h).cell (i := 0) rfl
    have hxok := (h3a.tab x (List.mem_of_getElem? hx)).no hmr
    have hyok := (h3b.tab y (List.mem_of_getElem? hy)).no hmr
    have hlx := hla x (List.mem_of_getElem? hx)
    refine zf (zf (zb (L (S (za rfl) (L (S (ze yg rfl) ?_))))))
    refine L (zi yX rfl (hca (Mv.refl _)) ?_)
    refine L (S (zH Tryz.underlying34 rfl) ?_)
    refine L (S (zG rfl rfl (decide_eq_true (by omega))) ?_)
    refine zg (zc (zr rfl (zo (zc (zf (zx (zf ?_)))))))
    refine ZG (γ := Nat × Nat) (fun q => [(2, .pointer (some ⟨b2, 0, none⟩)), (3, .pointer (some ⟨b3, 0, none⟩)), (5, .int .i64 (i : Int)), (6, .pointer (some ⟨q.1, 0, none⟩)), (7, .pointer (some ⟨q.2, 0, none⟩))]) (fun q wc => Mv No wr wc ∧ Blk wc q.1 (yA x) 27 ∧ Blk wc q.2 (yA y) 27) ?_ ?_
    · refine yP 14 mixed rfl (fun hH => ?_)
      refine zp (i := 0) rfl (PureV.toS (ze yg rfl)) ?_ (by assumption) (by decide +kernel) (by decide +kernel) (by decide +kernel) (fun _ _ _ _ h => h) rfl rfl rfl
      refine zp (i := 1) rfl (ya yX rfl (fun _ h => hca h)) ?_ (by assumption) (by decide +kernel) (by decide +kernel) (by decide +kernel) (fun _ _ _ _ h => h) rfl rfl rfl
      refine zp (i := 2) rfl (PureV.toS (za rfl)) ?_ (by assumption) (by decide +kernel) (by decide +kernel) (by decide +kernel) (fun _ _ _ _ h => h) rfl rfl rfl
      refine zp (i := 3) rfl (PureV.toS (zn Tryz.underlying34 (zD yl) rfl rfl (j := i) rfl (by omega) (p := oa + i * 5) (by omega))) ?_ (by assumption) (by decide +kernel) (by decide +kernel) (by decide +kernel) (fun _ _ _ _ h => h) rfl rfl rfl
      refine zp (i := 4) rfl (yE Zo rfl (fun _ h => hrx.no h) rfl) ?_ (by assumption) (by decide +kernel) (by decide +kernel) (by decide +kernel) (fun _ _ _ _ h => h) rfl rfl rfl
      refine zp (i := 5) rfl (PureV.toS (ze yg rfl)) ?_ (by assumption) (by decide +kernel) (by decide +kernel) (by decide +kernel) (fun _ _ _ _ h => h) rfl rfl rfl
      refine zp (i := 6) rfl (ya yX rfl (fun _ h => hcb h)) ?_ (by assumption) (by decide +kernel) (by decide +kernel) (by decide +kernel) (fun _ _ _ _ h => h) rfl rfl rfl
      refine zp (i := 7) rfl (PureV.toS (za rfl)) ?_ (by assumption) (by decide +kernel) (by decide +kernel) (by decide +kernel) (fun _ _ _ _ h => h) rfl rfl rfl
      refine zp (i := 8) rfl (PureV.toS (zn Tryz.underlying34 (zD yl) rfl rfl (j := i) rfl (by omega) (p := ob + i * 5) (by omega))) ?_ (by assumption) (by decide +kernel) (by decide +kernel) (by decide +kernel) (fun _ _ _ _ h => h) rfl rfl rfl
      refine zp (i := 9) rfl (yE Zo rfl (fun _ h => hry.no h) rfl) ?_ (by assumption) (by decide +kernel) (by decide +kernel) (by decide +kernel) (fun _ _ _ _ h => h) rfl rfl rfl
      refine H_two (i := 10) (i2 := 11) (Z8 rfl (ye (zs := [(.string (ByteArray.mk #[])), (.slice none 0 0), (.int .i64 0), (.int .i64 0), (.int .i64 0)]) yl rfl ?_)) (Z8 rfl (ye (zs := [(.string (ByteArray.mk #[])), (.slice none 0 0), (.int .i64 0), (.int .i64 0), (.int .i64 0)]) yl rfl ?_)) (by decide +kernel)
      · rintro g1 wa hg1 hma hna
        refine yh (by first | assumption | exact Mv.no (by assumption) (by assumption)) (fun hH => ?_)
        refine Ze (i := 11) (Z8 rfl (ye (zs := [(.string (ByteArray.mk #[])), (.slice none 0 0), (.int .i64 0), (.int .i64 0), (.int .i64 0)]) yl rfl ?_)) (by decide +kernel)
        rintro g2 wb hg2 hmb hnb
        refine yh (by first | assumption | exact Mv.no (by assumption) (by assumption)) (fun hH => ?_)
        refine Ze (i := 12) (Z8 rfl (zw yl rfl rfl (yN x) rfl (by first | exact hg1.no hmb | exact hg1) (by exact Nat.le_refl 5) ?_)) (by decide +kernel)
        rintro wc hgc hmc
        refine yh (hH.new hmc (by have h1 := hma.size; have h2 := hmb.size; have h3 := hna; have h4 := hnb; have h5 : wr.drew.heap.size = wr.heap.size := rfl; omega)) (fun hH => ?_)
        refine Ze (i := 13) (Z8 rfl (zw yl rfl rfl (yN y) rfl (by have h1 := hma.size; have h2 := hmb.size; have h3 := hna; have h4 := hnb; have h5 := hg1.lt; have h6 := hg2.lt; first | exact (hg2.no hma).ne hmc (by omega) | exact hg2.ne hmc (by omega)) (by exact Nat.le_refl 5) ?_)) (by decide +kernel)
        rintro wd hgd hmd
        refine yh (hH.new hmd (by have h1 := hma.size; have h2 := hmb.size; have h3 := hna; have h4 := hnb; have h5 : wr.drew.heap.size = wr.heap.size := rfl; omega)) (fun hH => ?_)
        refine yZ (by decide +kernel) ?_
        refine zc ?_
        have hx9 : g1 ≠ g2 := by have h1 := hma.size; have h2 := hmb.size; have h3 := hna; have h4 := hnb; have h5 := hg1.lt; have h6 := hg2.lt; omega
        exact ⟨rfl, (g1, g2), (.cons rfl (.cons rfl (.cons rfl (.cons rfl (.cons rfl (.nil _)))))), hH, (show Blk _ g1 (yA x) 27 from hgc).ne hmd hx9, hgd⟩
      · rintro g2 wb hg2 hmb hnb
        refine yh (by first | assumption | exact Mv.no (by assumption) (by assumption)) (fun hH => ?_)
        refine Ze (i := 10) (Z8 rfl (ye (zs := [(.string (ByteArray.mk #[])), (.slice none 0 0), (.int .i64 0), (.int .i64 0), (.int .i64 0)]) yl rfl ?_)) (by decide +kernel)
        rintro g1 wa hg1 hma hna
        refine yh (by first | assumption | exact Mv.no (by assumption) (by assumption)) (fun hH => ?_)
        refine Ze (i := 12) (Z8 rfl (zw yl rfl rfl (yN x) rfl (by first | exact hg1.no hmb | exact hg1) (by exact Nat.le_refl 5) ?_)) (by decide +kernel)
        rintro wc hgc hmc
        refine yh (hH.new hmc (by have h1 := hma.size; have h2 := hmb.size; have h3 := hna; have h4 := hnb; have h5 : wr.drew.heap.size = wr.heap.size := rfl; omega)) (fun hH => ?_)
        refine Ze (i := 13) (Z8 rfl (zw yl rfl rfl (yN y) rfl (by have h1 := hma.size; have h2 := hmb.size; have h3 := hna; have h4 := hnb; have h5 := hg1.lt; have h6 := hg2.lt; first | exact (hg2.no hma).ne hmc (by omega) | exact hg2.ne hmc (by omega)) (by exact Nat.le_refl 5) ?_)) (by decide +kernel)
        rintro wd hgd hmd
        refine yh (hH.new hmd (by have h1 := hma.size; have h2 := hmb.size; have h3 := hna; have h4 := hnb; have h5 : wr.drew.heap.size = wr.heap.size := rfl; omega)) (fun hH => ?_)
        refine yZ (by decide +kernel) ?_
        refine zc ?_
        have hx9 : g1 ≠ g2 := by have h1 := hma.size; have h2 := hmb.size; have h3 := hna; have h4 := hnb; have h5 := hg1.lt; have h6 := hg2.lt; omega
        exact ⟨rfl, (g1, g2), (.cons rfl (.cons rfl (.cons rfl (.cons rfl (.cons rfl (.nil _)))))), hH, (show Blk _ g1 (yA x) 27 from hgc).ne hmd hx9, hgd⟩
    rintro ⟨g1, g2⟩ w5 ⟨hm5, hg1, hg2⟩ f' hf'
    dsimp only at hg1 hg2
    dsimp only at hf'
    refine Zb hf' ?_
    clear hf' f'
    have hm35 := hmr.no hm5
    by_cases q0 : x.name = y.name
    rotate_left
    · refine zf (zf (zb (L (S (ze yG rfl) ?_))))
      refine L (zi yc rfl (hg1.cell (i := 0) rfl) ?_)
      refine L (S (ze yG rfl) ?_)
      refine L (zi yc rfl (hg2.cell (i := 0) rfl) ?_)
      refine L (S (Z4 rfl rfl (decide_eq_true (fun h => q0 (ZH h)))) ?_)
      refine L (S (za rfl) (zl (j := 5) (dj := 51) (b := false) (b' := true) (d := 52) rfl (zl (j := 5) (dj := 51) (b := false) (b' := true) (d := 53) rfl (zl (j := 5) (dj := 51) (b := false) (b' := true) (d := 54) rfl (zl (j := 5) (dj := 51) (b := false) (b' := true) (d := 55) rfl (zl (j := 5) (dj := 51) (b := false) (b' := true) (d := 56) rfl (L (S (zt rfl rfl) (L (S (za rfl) (zl (j := 12) (dj := 58) (b := false) (b' := true) (d := 59) rfl (zl (j := 12) (dj := 58) (b := false) (b' := true) (d := 60) rfl (zl (j := 12) (dj := 58) (b := false) (b' := true) (d := 61) rfl (zl (j := 12) (dj := 58) (b := false) (b' := true) (d := 62) rfl (zl (j := 12) (dj := 58) (b := false) (b' := true) (d := 63) rfl (L (S (zt rfl rfl) (L (S (za rfl) (zl (j := 19) (dj := 65) (b := false) (b' := true) (d := 66) rfl (zl (j := 19) (dj := 65) (b := false) (b' := true) (d := 67) rfl (zl (j := 19) (dj := 65) (b := false) (b' := true) (d := 68) rfl (zl (j := 19) (dj := 65) (b := false) (b' := true) (d := 69) rfl (zl (j := 19) (dj := 65) (b := false) (b' := true) (d := 70) rfl (L (S (zt rfl rfl) (L (S (za rfl) (zl (j := 26) (dj := 72) (b := false) (b' := true) (d := 73) rfl (zl (j := 26) (dj := 72) (b := false) (b' := true) (d := 74) rfl ?_))))))))))))))))))))))))))))))
      refine zl (j := 26) (dj := 72) (b := false) (b' := true) (d := 75) rfl (zl (j := 26) (dj := 72) (b := false) (b' := true) (d := 76) rfl (zl (j := 26) (dj := 72) (b := false) (b' := true) (d := 77) rfl (zl (j := 26) (dj := 72) (b := false) (b' := true) (d := 78) rfl (zl (j := 26) (dj := 72) (b := false) (b' := true) (d := 79) rfl (L (S (zt rfl rfl) (zg (zc (zr rfl (zf (zb (L (S (zd rfl) (zg (zc (zy (zm (zP (zm (zm (zP (zm ?_))))))))))))))))))))))
      refine zC Tryz.results14 rfl ?_
      exact ⟨false, rfl, fun ht hi => absurd (congrArg (fun z : TD => z.1) (hd ht)) q0, hm03.no hm35⟩
    by_cases q1 : x.root = y.root
    rotate_left
    · refine zf (zf (zb (L (S (ze yG rfl) ?_))))
      refine L (zi yc rfl (hg1.cell (i := 0) rfl) ?_)
      refine L (S (ze yG rfl) ?_)
      refine L (zi yc rfl (hg2.cell (i := 0) rfl) ?_)
      refine L (S (Z4 rfl rfl (decide_eq_false (fun h => h (congrArg str q0)))) ?_)
      refine L (S (za rfl) (zh (j := 5) (dj := 51) (b := false) (S (ze yJ rfl) ?_) rfl))
      refine zh (j := 5) (dj := 51) (b := false) (zi z_ rfl (hg1.cell (i := 2) rfl) ?_) rfl
      refine zh (j := 5) (dj := 51) (b := false) (S (ze yJ rfl) ?_) rfl
      refine zh (j := 5) (dj := 51) (b := false) (zi z_ rfl (hg2.cell (i := 2) rfl) ?_) rfl
      refine zh (j := 5) (dj := 51) (b := false) (S (Za rfl rfl (decide_eq_true (by omega))) ?_) rfl
      refine L (S (zj rfl rfl) (L (S (za rfl) (zl (j := 12) (dj := 58) (b := false) (b' := true) (d := 59) rfl (zl (j := 12) (dj := 58) (b := false) (b' := true) (d := 60) rfl (zl (j := 12) (dj := 58) (b := false) (b' := true) (d := 61) rfl (zl (j := 12) (dj := 58) (b := false) (b' := true) (d := 62) rfl (zl (j := 12) (dj := 58) (b := false) (b' := true) (d := 63) rfl (L (S (zt rfl rfl) (L (S (za rfl) (zl (j := 19) (dj := 65) (b := false) (b' := true) (d := 66) rfl (zl (j := 19) (dj := 65) (b := false) (b' := true) (d := 67) rfl (zl (j := 19) (dj := 65) (b := false) (b' := true) (d := 68) rfl (zl (j := 19) (dj := 65) (b := false) (b' := true) (d := 69) rfl (zl (j := 19) (dj := 65) (b := false) (b' := true) (d := 70) rfl (L (S (zt rfl rfl) (L (S (za rfl) (zl (j := 26) (dj := 72) (b := false) (b' := true) (d := 73) rfl (zl (j := 26) (dj := 72) (b := false) (b' := true) (d := 74) rfl (zl (j := 26) (dj := 72) (b := false) (b' := true) (d := 75) rfl (zl (j := 26) (dj := 72) (b := false) (b' := true) (d := 76) rfl (zl (j := 26) (dj := 72) (b := false) (b' := true) (d := 77) rfl (zl (j := 26) (dj := 72) (b := false) (b' := true) (d := 78) rfl (zl (j := 26) (dj := 72) (b := false) (b' := true) (d := 79) rfl (L (S (zt rfl rfl) ?_))))))))))))))))))))))))))))))
      refine zg (zc (zr rfl (zf (zb (L (S (zd rfl) (zg (zc (zy (zm (zP (zm (zm (zP (zm ?_)))))))))))))))
      refine zC Tryz.results14 rfl ?_
      exact ⟨false, rfl, fun ht hi => absurd (congrArg (fun z : TD => z.2.2.1) (hd ht)) q1, hm03.no hm35⟩
    by_cases q2 : x.next = y.next
    rotate_left
    · refine zf (zf (zb (L (S (ze yG rfl) ?_))))
      refine L (zi yc rfl (hg1.cell (i := 0) rfl) ?_)
      refine L (S (ze yG rfl) ?_)
      refine L (zi yc rfl (hg2.cell (i := 0) rfl) ?_)
      refine L (S (Z4 rfl rfl (decide_eq_false (fun h => h (congrArg str q0)))) ?_)
      refine L (S (za rfl) (zh (j := 5) (dj := 51) (b := false) (S (ze yJ rfl) ?_) rfl))
      refine zh (j := 5) (dj := 51) (b := false) (zi z_ rfl (hg1.cell (i := 2) rfl) ?_) rfl
      refine zh (j := 5) (dj := 51) (b := false) (S (ze yJ rfl) ?_) rfl
      refine zh (j := 5) (dj := 51) (b := false) (zi z_ rfl (hg2.cell (i := 2) rfl) ?_) rfl
      refine zh (j := 5) (dj := 51) (b := false) (S (Za rfl rfl (decide_eq_false (by omega))) ?_) rfl
      refine L (S (zj rfl rfl) (L (S (za rfl) (zh (j := 12) (dj := 58) (b := false) (S (ze ZB rfl) ?_) rfl))))
      refine zh (j := 12) (dj := 58) (b := false) (zi Zw rfl (hg1.cell (i := 3) rfl) ?_) rfl
      refine zh (j := 12) (dj := 58) (b := false) (S (ze ZB rfl) ?_) rfl
      refine zh (j := 12) (dj := 58) (b := false) (zi Zw rfl (hg2.cell (i := 3) rfl) ?_) rfl
      refine zh (j := 12) (dj := 58) (b := false) (S (Za rfl rfl (decide_eq_true (by omega))) ?_) rfl
      refine L (S (zj rfl rfl) (L (S (za rfl) (zl (j := 19) (dj := 65) (b := false) (b' := true) (d := 66) rfl (zl (j := 19) (dj := 65) (b := false) (b' := true) (d := 67) rfl (zl (j := 19) (dj := 65) (b := false) (b' := true) (d := 68) rfl (zl (j := 19) (dj := 65) (b := false) (b' := true) (d := 69) rfl (zl (j := 19) (dj := 65) (b := false) (b' := true) (d := 70) rfl (L (S (zt rfl rfl) (L (S (za rfl) (zl (j := 26) (dj := 72) (b := false) (b' := true) (d := 73) rfl (zl (j := 26) (dj := 72) (b := false) (b' := true) (d := 74) rfl (zl (j := 26) (dj := 72) (b := false) (b' := true) (d := 75) rfl (zl (j := 26) (dj := 72) (b := false) (b' := true) (d := 76) rfl (zl (j := 26) (dj := 72) (b := false) (b' := true) (d := 77) rfl (zl (j := 26) (dj := 72) (b := false) (b' := true) (d := 78) rfl (zl (j := 26) (dj := 72) (b := false) (b' := true) (d := 79) rfl (L (S (zt rfl rfl) (zg (zc (zr rfl (zf (zb (L (S (zd rfl) (zg ?_)))))))))))))))))))))))))))))
      refine zc (zy (zm (zP (zm (zm (zP (zm ?_)))))))
      refine zC Tryz.results14 rfl ?_
      exact ⟨false, rfl, fun ht hi => absurd (congrArg (fun z : TD => z.2.2.2.1) (hd ht)) q2, hm03.no hm35⟩
    by_cases q3 : x.rows = y.rows
    rotate_left
    · refine zf (zf (zb (L (S (ze yG rfl) ?_))))
      refine L (zi yc rfl (hg1.cell (i := 0) rfl) ?_)
      refine L (S (ze yG rfl) ?_)
      refine L (zi yc rfl (hg2.cell (i := 0) rfl) ?_)
      refine L (S (Z4 rfl rfl (decide_eq_false (fun h => h (congrArg str q0)))) ?_)
      refine L (S (za rfl) (zh (j := 5) (dj := 51) (b := false) (S (ze yJ rfl) ?_) rfl))
      refine zh (j := 5) (dj := 51) (b := false) (zi z_ rfl (hg1.cell (i := 2) rfl) ?_) rfl
      refine zh (j := 5) (dj := 51) (b := false) (S (ze yJ rfl) ?_) rfl
      refine zh (j := 5) (dj := 51) (b := false) (zi z_ rfl (hg2.cell (i := 2) rfl) ?_) rfl
      refine zh (j := 5) (dj := 51) (b := false) (S (Za rfl rfl (decide_eq_false (by omega))) ?_) rfl
      refine L (S (zj rfl rfl) (L (S (za rfl) (zh (j := 12) (dj := 58) (b := false) (S (ze ZB rfl) ?_) rfl))))
      refine zh (j := 12) (dj := 58) (b := false) (zi Zw rfl (hg1.cell (i := 3) rfl) ?_) rfl
      refine zh (j := 12) (dj := 58) (b := false) (S (ze ZB rfl) ?_) rfl
      refine zh (j := 12) (dj := 58) (b := false) (zi Zw rfl (hg2.cell (i := 3) rfl) ?_) rfl
      refine zh (j := 12) (dj := 58) (b := false) (S (Za rfl rfl (decide_eq_false (by omega))) ?_) rfl
      refine L (S (zj rfl rfl) (L (S (za rfl) (zh (j := 19) (dj := 65) (b := false) (S (ze ZV rfl) ?_) rfl))))
      refine zh (j := 19) (dj := 65) (b := false) (zi Zw rfl (hg1.cell (i := 4) rfl) ?_) rfl
      refine zh (j := 19) (dj := 65) (b := false) (S (ze ZV rfl) ?_) rfl
      refine zh (j := 19) (dj := 65) (b := false) (zi Zw rfl (hg2.cell (i := 4) rfl) ?_) rfl
      refine zh (j := 19) (dj := 65) (b := false) (S (Za rfl rfl (decide_eq_true (by omega))) ?_) rfl
      refine L (S (zj rfl rfl) (L (S (za rfl) (zl (j := 26) (dj := 72) (b := false) (b' := true) (d := 73) rfl (zl (j := 26) (dj := 72) (b := false) (b' := true) (d := 74) rfl (zl (j := 26) (dj := 72) (b := false) (b' := true) (d := 75) rfl (zl (j := 26) (dj := 72) (b := false) (b' := true) (d := 76) rfl (zl (j := 26) (dj := 72) (b := false) (b' := true) (d := 77) rfl (zl (j := 26) (dj := 72) (b := false) (b' := true) (d := 78) rfl (zl (j := 26) (dj := 72) (b := false) (b' := true) (d := 79) rfl (L (S (zt rfl rfl) (zg (zc (zr rfl (zf (zb (L (S (zd rfl) (zg (zc (zy (zm (zP (zm (zm (zP ?_)))))))))))))))))))))))))))
      refine zm ?_
      refine zC Tryz.results14 rfl ?_
      exact ⟨false, rfl, fun ht hi => absurd (congrArg (fun z : TD => z.2.2.2.2) (hd ht)) q3, hm03.no hm35⟩
    by_cases q4 : x.cols.length = y.cols.length
    rotate_left
    · refine zf (zf (zb (L (S (ze yG rfl) ?_))))
      refine L (zi yc rfl (hg1.cell (i := 0) rfl) ?_)
      refine L (S (ze yG rfl) ?_)
      refine L (zi yc rfl (hg2.cell (i := 0) rfl) ?_)
      refine L (S (Z4 rfl rfl (decide_eq_false (fun h => h (congrArg str q0)))) ?_)
      refine L (S (za rfl) (zh (j := 5) (dj := 51) (b := false) (S (ze yJ rfl) ?_) rfl))
      refine zh (j := 5) (dj := 51) (b := false) (zi z_ rfl (hg1.cell (i := 2) rfl) ?_) rfl
      refine zh (j := 5) (dj := 51) (b := false) (S (ze yJ rfl) ?_) rfl
      refine zh (j := 5) (dj := 51) (b := false) (zi z_ rfl (hg2.cell (i := 2) rfl) ?_) rfl
      refine zh (j := 5) (dj := 51) (b := false) (S (Za rfl rfl (decide_eq_false (by omega))) ?_) rfl
      refine L (S (zj rfl rfl) (L (S (za rfl) (zh (j := 12) (dj := 58) (b := false) (S (ze ZB rfl) ?_) rfl))))
      refine zh (j := 12) (dj := 58) (b := false) (zi Zw rfl (hg1.cell (i := 3) rfl) ?_) rfl
      refine zh (j := 12) (dj := 58) (b := false) (S (ze ZB rfl) ?_) rfl
      refine zh (j := 12) (dj := 58) (b := false) (zi Zw rfl (hg2.cell (i := 3) rfl) ?_) rfl
      refine zh (j := 12) (dj := 58) (b := false) (S (Za rfl rfl (decide_eq_false (by omega))) ?_) rfl
      refine L (S (zj rfl rfl) (L (S (za rfl) (zh (j := 19) (dj := 65) (b := false) (S (ze ZV rfl) ?_) rfl))))
      refine zh (j := 19) (dj := 65) (b := false) (zi Zw rfl (hg1.cell (i := 4) rfl) ?_) rfl
      refine zh (j := 19) (dj := 65) (b := false) (S (ze ZV rfl) ?_) rfl
      refine zh (j := 19) (dj := 65) (b := false) (zi Zw rfl (hg2.cell (i := 4) rfl) ?_) rfl
      refine zh (j := 19) (dj := 65) (b := false) (S (Za rfl rfl (decide_eq_false (by omega))) ?_) rfl
      refine L (S (zj rfl rfl) (L (S (za rfl) (zh (j := 26) (dj := 72) (b := false) (S (ze yV rfl) ?_) rfl))))
      refine zh (j := 26) (dj := 72) (b := false) (zi ZC rfl (hg1.cell (i := 1) rfl) ?_) rfl
      refine zh (j := 26) (dj := 72) (b := false) (S (zH Tryz.underlying25 rfl) ?_) rfl
      refine zh (j := 26) (dj := 72) (b := false) (S (ze yV rfl) ?_) rfl
      refine zh (j := 26) (dj := 72) (b := false) (zi ZC rfl (hg2.cell (i := 1) rfl) ?_) rfl
      refine zh (j := 26) (dj := 72) (b := false) (S (zH Tryz.underlying25 rfl) ?_) rfl
      refine zh (j := 26) (dj := 72) (b := false) (S (Za rfl rfl (decide_eq_true (by omega))) ?_) rfl
      refine L (S (zj rfl rfl) (zg (zc (zr rfl (zf (zb (L (S (zd rfl) (zg (zc (zy (zm (zP (zm (zm (zP (zm ?_)))))))))))))))))
      refine zC Tryz.results14 rfl ?_
      exact ⟨false, rfl, fun ht hi => absurd (congrArg List.length (congrArg (fun z : TD => z.2.1) (hd ht))) q4, hm03.no hm35⟩
    refine zf (zf (zb (L (S (ze yG rfl) ?_))))
    refine L (zi yc rfl (hg1.cell (i := 0) rfl) ?_)
    refine L (S (ze yG rfl) ?_)
    refine L (zi yc rfl (hg2.cell (i := 0) rfl) ?_)
    refine L (S (Z4 rfl rfl (decide_eq_false (fun h => h (congrArg str q0)))) ?_)
    refine L (S (za rfl) (zh (j := 5) (dj := 51) (b := false) (S (ze yJ rfl) ?_) rfl))
    refine zh (j := 5) (dj := 51) (b := false) (zi z_ rfl (hg1.cell (i := 2) rfl) ?_) rfl
    refine zh (j := 5) (dj := 51) (b := false) (S (ze yJ rfl) ?_) rfl
    refine zh (j := 5) (dj := 51) (b := false) (zi z_ rfl (hg2.cell (i := 2) rfl) ?_) rfl
    refine zh (j := 5) (dj := 51) (b := false) (S (Za rfl rfl (decide_eq_false (by omega))) ?_) rfl
    refine L (S (zj rfl rfl) (L (S (za rfl) (zh (j := 12) (dj := 58) (b := false) (S (ze ZB rfl) ?_) rfl))))
    refine zh (j := 12) (dj := 58) (b := false) (zi Zw rfl (hg1.cell (i := 3) rfl) ?_) rfl
    refine zh (j := 12) (dj := 58) (b := false) (S (ze ZB rfl) ?_) rfl
    refine zh (j := 12) (dj := 58) (b := false) (zi Zw rfl (hg2.cell (i := 3) rfl) ?_) rfl
    refine zh (j := 12) (dj := 58) (b := false) (S (Za rfl rfl (decide_eq_false (by omega))) ?_) rfl
    refine L (S (zj rfl rfl) (L (S (za rfl) (zh (j := 19) (dj := 65) (b := false) (S (ze ZV rfl) ?_) rfl))))
    refine zh (j := 19) (dj := 65) (b := false) (zi Zw rfl (hg1.cell (i := 4) rfl) ?_) rfl
    refine zh (j := 19) (dj := 65) (b := false) (S (ze ZV rfl) ?_) rfl
    refine zh (j := 19) (dj := 65) (b := false) (zi Zw rfl (hg2.cell (i := 4) rfl) ?_) rfl
    refine zh (j := 19) (dj := 65) (b := false) (S (Za rfl rfl (decide_eq_false (by omega))) ?_) rfl
    refine L (S (zj rfl rfl) (L (S (za rfl) (zh (j := 26) (dj := 72) (b := false) (S (ze yV rfl) ?_) rfl))))
    refine zh (j := 26) (dj := 72) (b := false) (zi ZC rfl (hg1.cell (i := 1) rfl) ?_) rfl
    refine zh (j := 26) (dj := 72) (b := false) (S (zH Tryz.underlying25 rfl) ?_) rfl
    refine zh (j := 26) (dj := 72) (b := false) (S (ze yV rfl) ?_) rfl
    refine zh (j := 26) (dj := 72) (b := false) (zi ZC rfl (hg2.cell (i := 1) rfl) ?_) rfl
    refine zh (j := 26) (dj := 72) (b := false) (S (zH Tryz.underlying25 rfl) ?_) rfl
    refine zh (j := 26) (dj := 72) (b := false) (S (Za rfl rfl (decide_eq_false (by omega))) ?_) rfl
    refine L (S (zj rfl rfl) (zg (zc (zk rfl (zo (zc (zf (zb (L (S (zd rfl) (zg (zc (zx ?_)))))))))))))
    have hcol : a.tabs.map Tab.d = b.tabs.map Tab.d → x.cols = y.cols := fun h => congrArg (fun z : TD => z.2.1) (hd h)
    have hx5 := hxok.no hm5
    have hy5 := hyok.no hm5
    refine yF (γ := Nat) (fun k => [(2, .pointer (some ⟨b2, 0, none⟩)), (3, .pointer (some ⟨b3, 0, none⟩)), (5, .int .i64 (i : Int)), (6, .pointer (some ⟨g1, 0, none⟩)), (7, .pointer (some ⟨g2, 0, none⟩)), (8, .int .i64 (k : Int))]) (fun k wq => Mv No w5 wq ∧ k ≤ x.cols.length) (fun k => x.cols.length - k) 0 (.cons rfl (.cons rfl (.cons rfl (.cons rfl (.cons rfl (.cons rfl (.nil _))))))) ⟨Mv.refl w5, Nat.zero_le _⟩ ?_
    rintro k wq ⟨hmq, hk⟩
    have hc1 : ∀ {wz}, Mv No wq wz → wz.cell? ⟨g1, 1, none⟩ = some (.slice x.A x.cols.length x.cap) := fun h => ((hg1.no hmq).no h).cell (i := 1) rfl
    have hc2 : ∀ {wz}, Mv No wq wz → wz.cell? ⟨g2, 1, none⟩ = some (.slice y.A y.cols.length y.cap) := fun h => ((hg2.no hmq).no h).cell (i := 1) rfl
    by_cases hkl : k < x.cols.length
    · have hu := List.getElem?_eq_getElem hkl
      have hv := List.getElem?_eq_getElem (show k < y.cols.length by omega)
      generalize x.cols[k] = u at hu
      generalize y.cols[k] = v at hv
      have huv : a.tabs.map Tab.d = b.tabs.map Tab.d → u = v := fun h => by
        rw [hcol h, hv] at hu
        exact (Option.some.inj hu).symm
      obtain ⟨bu, ou, hUe, -, hru⟩ := yr Yi (by decide) (hx5.sl.no hmq) hu
      obtain ⟨bv, ov, hVe, -, hrv⟩ := yr Yi (by decide) (hy5.sl.no hmq) hv
      rw [hUe] at hc1
      rw [hVe] at hc2
      cases hβ : (!(eqSc (.string (str u.name)) (.string (str v.name)) && eqSc (.int .i64 u.ty) (.int .i64 v.ty) && eqSc (.bool u.nt) (.bool v.nt))) with
      | true =>
        refine zf (zf (zb (L (S (za rfl) (L (S (ze yV rfl) ?_))))))
        refine L (zi ZC rfl (hc1 (Mv.refl _)) ?_)
        refine L (S (zH Tryz.underlying25 rfl) ?_)
        refine L (S (zG rfl rfl (decide_eq_true (by omega))) ?_)
        refine zg (zc (zr rfl (zo (zc (zf (zx (zf ?_)))))))
        refine yP 11 mixed rfl (fun hH => ?_)
        refine zp (i := 0) rfl (PureV.toS (ze yV rfl)) ?_ (by assumption) (by decide +kernel) (by decide +kernel) (by decide +kernel) (fun _ _ _ _ h => h) rfl rfl rfl
        refine zp (i := 1) rfl (ya ZC rfl (fun _ h => hc1 h)) ?_ (by assumption) (by decide +kernel) (by decide +kernel) (by decide +kernel) (fun _ _ _ _ h => h) rfl rfl rfl
        refine zp (i := 2) rfl (PureV.toS (za rfl)) ?_ (by assumption) (by decide +kernel) (by decide +kernel) (by decide +kernel) (fun _ _ _ _ h => h) rfl rfl rfl
        refine zp (i := 3) rfl (PureV.toS (zn Tryz.underlying25 (zD ZM) rfl rfl (j := k) rfl (by omega) (p := ou + k * 3) (by omega))) ?_ (by assumption) (by decide +kernel) (by decide +kernel) (by decide +kernel) (fun _ _ _ _ h => h) rfl rfl rfl
        refine zp (i := 4) rfl (yE st_43 rfl (fun _ h => hru.no h) rfl) ?_ (by assumption) (by decide +kernel) (by decide +kernel) (by decide +kernel) (fun _ _ _ _ h => h) rfl rfl rfl
        refine zp (i := 5) rfl (PureV.toS (ze yV rfl)) ?_ (by assumption) (by decide +kernel) (by decide +kernel) (by decide +kernel) (fun _ _ _ _ h => h) rfl rfl rfl
        refine zp (i := 6) rfl (ya ZC rfl (fun _ h => hc2 h)) ?_ (by assumption) (by decide +kernel) (by decide +kernel) (by decide +kernel) (fun _ _ _ _ h => h) rfl rfl rfl
        refine zp (i := 7) rfl (PureV.toS (za rfl)) ?_ (by assumption) (by decide +kernel) (by decide +kernel) (by decide +kernel) (fun _ _ _ _ h => h) rfl rfl rfl
        refine zp (i := 8) rfl (PureV.toS (zn Tryz.underlying25 (zD ZM) rfl rfl (j := k) rfl (by omega) (p := ov + k * 3) (by omega))) ?_ (by assumption) (by decide +kernel) (by decide +kernel) (by decide +kernel) (fun _ _ _ _ h => h) rfl rfl rfl
        refine zp (i := 9) rfl (yE st_43 rfl (fun _ h => hrv.no h) rfl) ?_ (by assumption) (by decide +kernel) (by decide +kernel) (by decide +kernel) (fun _ _ _ _ h => h) rfl rfl rfl
        refine zp (i := 10) rfl (PureV.toS (P_neTrip tripCol rfl rfl ⟨⟨_, rfl⟩, ⟨_, rfl⟩⟩ ⟨⟨_, rfl⟩, ⟨_, rfl⟩⟩ ⟨⟨_, rfl⟩, ⟨_, rfl⟩⟩ hβ)) ?_ (by assumption) (by decide +kernel) (by decide +kernel) (by decide +kernel) (fun _ _ _ _ h => h) rfl rfl rfl
        refine yZ (by decide +kernel) ?_
        refine zc (zr rfl (zf (zb (L (S (zd rfl) (zg (zc (zy (zP (zm (zm (zP (zP (zm (zm (zP (zm ?_)))))))))))))))))
        refine zC Tryz.results14 rfl ?_
        exact ⟨false, rfl, fun ht hi => absurd hβ (by rw [huv ht]; simp [eqSc, bs_self]), (hm03.no (hm35.no hmq)).no hH⟩
      | false =>
        refine zf (zf (zb (L (S (za rfl) (L (S (ze yV rfl) ?_))))))
        refine L (zi ZC rfl (hc1 (Mv.refl _)) ?_)
        refine L (S (zH Tryz.underlying25 rfl) ?_)
        refine L (S (zG rfl rfl (decide_eq_true (by omega))) ?_)
        refine zg (zc (zr rfl (zo (zc (zf (zx (zf ?_)))))))
        refine yP 11 mixed rfl (fun hH => ?_)
        refine zp (i := 0) rfl (PureV.toS (ze yV rfl)) ?_ (by assumption) (by decide +kernel) (by decide +kernel) (by decide +kernel) (fun _ _ _ _ h => h) rfl rfl rfl
        refine zp (i := 1) rfl (ya ZC rfl (fun _ h => hc1 h)) ?_ (by assumption) (by decide +kernel) (by decide +kernel) (by decide +kernel) (fun _ _ _ _ h => h) rfl rfl rfl
        refine zp (i := 2) rfl (PureV.toS (za rfl)) ?_ (by assumption) (by decide +kernel) (by decide +kernel) (by decide +kernel) (fun _ _ _ _ h => h) rfl rfl rfl
        refine zp (i := 3) rfl (PureV.toS (zn Tryz.underlying25 (zD ZM) rfl rfl (j := k) rfl (by omega) (p := ou + k * 3) (by omega))) ?_ (by assumption) (by decide +kernel) (by decide +kernel) (by decide +kernel) (fun _ _ _ _ h => h) rfl rfl rfl
        refine zp (i := 4) rfl (yE st_43 rfl (fun _ h => hru.no h) rfl) ?_ (by assumption) (by decide +kernel) (by decide +kernel) (by decide +kernel) (fun _ _ _ _ h => h) rfl rfl rfl
        refine zp (i := 5) rfl (PureV.toS (ze yV rfl)) ?_ (by assumption) (by decide +kernel) (by decide +kernel) (by decide +kernel) (fun _ _ _ _ h => h) rfl rfl rfl
        refine zp (i := 6) rfl (ya ZC rfl (fun _ h => hc2 h)) ?_ (by assumption) (by decide +kernel) (by decide +kernel) (by decide +kernel) (fun _ _ _ _ h => h) rfl rfl rfl
        refine zp (i := 7) rfl (PureV.toS (za rfl)) ?_ (by assumption) (by decide +kernel) (by decide +kernel) (by decide +kernel) (fun _ _ _ _ h => h) rfl rfl rfl
        refine zp (i := 8) rfl (PureV.toS (zn Tryz.underlying25 (zD ZM) rfl rfl (j := k) rfl (by omega) (p := ov + k * 3) (by omega))) ?_ (by assumption) (by decide +kernel) (by decide +kernel) (by decide +kernel) (fun _ _ _ _ h => h) rfl rfl rfl
        refine zp (i := 9) rfl (yE st_43 rfl (fun _ h => hrv.no h) rfl) ?_ (by assumption) (by decide +kernel) (by decide +kernel) (by decide +kernel) (fun _ _ _ _ h => h) rfl rfl rfl
        refine zp (i := 10) rfl (PureV.toS (P_neTrip tripCol rfl rfl ⟨⟨_, rfl⟩, ⟨_, rfl⟩⟩ ⟨⟨_, rfl⟩, ⟨_, rfl⟩⟩ ⟨⟨_, rfl⟩, ⟨_, rfl⟩⟩ hβ)) ?_ (by assumption) (by decide +kernel) (by decide +kernel) (by decide +kernel) (fun _ _ _ _ h => h) rfl rfl rfl
        refine yZ (by decide +kernel) ?_
        refine zc (zk rfl (zo (yj (zc (zb (L (S (za rfl) ?_)))))))
        refine L (S (zT rfl rfl (z1 (c := ((k + 1 : Nat) : Int)) (by omega))) ?_)
        refine L (S (zd rfl) (zg (zc ?_)))
        exact ⟨rfl, k + 1, (.cons rfl (.cons rfl (.cons rfl (.cons rfl (.cons rfl (.cons rfl (.nil _))))))), ⟨hmq.no hH, by omega⟩, by omega⟩
    · refine zf (zf (zb (L (S (za rfl) (L (S (ze yV rfl) ?_))))))
      refine L (zi ZC rfl (hc1 (Mv.refl _)) ?_)
      refine L (S (zH Tryz.underlying25 rfl) ?_)
      refine L (S (zG rfl rfl (decide_eq_false (by omega))) ?_)
      refine zg (zc (zk rfl (yn (zL (zL (yK (yj (zc (zb (L (S (za rfl) ?_)))))))))))
      refine L (S (zT rfl rfl (z1 (c := ((i + 1 : Nat) : Int)) (by omega))) ?_)
      refine L (S (zd rfl) (zg (zc ?_)))
      exact ⟨rfl, i + 1, (.cons rfl (.cons rfl (.cons rfl (.nil _)))), ⟨hm35.no hmq, by omega⟩, by omega⟩
  · refine zf (zf (zb (L (S (za rfl) (L (S (ze yg rfl) ?_))))))
    refine L (zi yX rfl ((hb2.no hmr).cell (i := 0) rfl) ?_)
    refine L (S (zH Tryz.underlying34 rfl) ?_)
    refine L (S (zG rfl rfl (decide_eq_false (by omega))) ?_)
    refine zg (zc (zk rfl (yn (zL (zL (yK (zc (zf (zf (zb (L (S (zd rfl) (zg (zc (zx ?_)))))))))))))))
    refine yF (γ := Nat) (fun i => [(2, .pointer (some ⟨b2, 0, none⟩)), (3, .pointer (some ⟨b3, 0, none⟩)), (9, .int .i64 (i : Int))]) (fun i wr => Mv No w3 wr ∧ i ≤ a.idxs.length) (fun i => a.idxs.length - i) 0 (.cons rfl (.cons rfl (.cons rfl (.nil _)))) ⟨hmr, Nat.zero_le _⟩ ?_
    rintro i wr ⟨hmr, hi⟩
    by_cases hlt : i < a.idxs.length
    · have hx := List.getElem?_eq_getElem hlt
      have hy := List.getElem?_eq_getElem (show i < b.idxs.length by omega)
      generalize a.idxs[i] = x at hx
      generalize b.idxs[i] = y at hy
      have hd : a.idxs.map Idx.d_ = b.idxs.map Idx.d_ → x.d_ = y.d_ := fun h => by
        have h9 := congrArg (·[i]?) h
        simpa [hx, hy] using h9
      obtain ⟨ba, oa, hAe, -, hrx⟩ := yr yw (by decide) (h3a.isl.no hmr) hx
      obtain ⟨bb, ob, hBe, -, hry⟩ := yr yw (by decide) (h3b.isl.no hmr) hy
      have hca : ∀ {wq}, Mv No wr wq → wq.cell? ⟨b2, 1, none⟩ = some (.slice (some ⟨ba, oa, none⟩) a.idxs.length a.d) := fun h => by rw [← hAe]; exact ((hb2.no hmr).no h).cell (i := 1) rfl
      have hcb : ∀ {wq}, Mv No wr wq → wq.cell? ⟨b3, 1, none⟩ = some (.slice (some ⟨bb, ob, none⟩) b.idxs.length b.d) := fun h => by rw [← hBe]; exact ((hb3.no hmr).no h).cell (i := 1) rfl
      have hxok := (h3a.idx x (List.mem_of_getElem? hx)).no hmr
      have hyok := (h3b.idx y (List.mem_of_getElem? hy)).no hmr
      have hlx := hli x (List.mem_of_getElem? hx)
      refine zf (zf (zb (L (S (za rfl) (L (S (ze yf rfl) ?_))))))
      refine L (zi yS rfl (hca (Mv.refl _)) ?_)
      refine L (S (zH Tryz.underlying35 rfl) ?_)
      refine L (S (zG rfl rfl (decide_eq_true (by omega))) ?_)
      refine zg (zc (zr rfl (zo (zc (zf (zx (zf ?_)))))))
      refine ZG (γ := Nat × Nat) (fun q => [(2, .pointer (some ⟨b2, 0, none⟩)), (3, .pointer (some ⟨b3, 0, none⟩)), (9, .int .i64 (i : Int)), (10, .pointer (some ⟨q.1, 0, none⟩)), (11, .pointer (some ⟨q.2, 0, none⟩))]) (fun q wc => Mv No wr wc ∧ Blk wc q.1 (yq x) 30 ∧ Blk wc q.2 (yq y) 30) ?_ ?_
      · refine yP 14 mixed rfl (fun hH => ?_)
        refine zp (i := 0) rfl (PureV.toS (ze yf rfl)) ?_ (by assumption) (by decide +kernel) (by decide +kernel) (by decide +kernel) (fun _ _ _ _ h => h) rfl rfl rfl
        refine zp (i := 1) rfl (ya yS rfl (fun _ h => hca h)) ?_ (by assumption) (by decide +kernel) (by decide +kernel) (by decide +kernel) (fun _ _ _ _ h => h) rfl rfl rfl
        refine zp (i := 2) rfl (PureV.toS (za rfl)) ?_ (by assumption) (by decide +kernel) (by decide +kernel) (by decide +kernel) (fun _ _ _ _ h => h) rfl rfl rfl
        refine zp (i := 3) rfl (PureV.toS (zn Tryz.underlying35 (zD yb) rfl rfl (j := i) rfl (by omega) (p := oa + i * 6) (by omega))) ?_ (by assumption) (by decide +kernel) (by decide +kernel) (by decide +kernel) (fun _ _ _ _ h => h) rfl rfl rfl
        refine zp (i := 4) rfl (yE Zu rfl (fun _ h => hrx.no h) rfl) ?_ (by assumption) (by decide +kernel) (by decide +kernel) (by decide +kernel) (fun _ _ _ _ h => h) rfl rfl rfl
        refine zp (i := 5) rfl (PureV.toS (ze yf rfl)) ?_ (by assumption) (by decide +kernel) (by decide +kernel) (by decide +kernel) (fun _ _ _ _ h => h) rfl rfl rfl
        refine zp (i := 6) rfl (ya yS rfl (fun _ h => hcb h)) ?_ (by assumption) (by decide +kernel) (by decide +kernel) (by decide +kernel) (fun _ _ _ _ h => h) rfl rfl rfl
        refine zp (i := 7) rfl (PureV.toS (za rfl)) ?_ (by assumption) (by decide +kernel) (by decide +kernel) (by decide +kernel) (fun _ _ _ _ h => h) rfl rfl rfl
        refine zp (i := 8) rfl (PureV.toS (zn Tryz.underlying35 (zD yb) rfl rfl (j := i) rfl (by omega) (p := ob + i * 6) (by omega))) ?_ (by assumption) (by decide +kernel) (by decide +kernel) (by decide +kernel) (fun _ _ _ _ h => h) rfl rfl rfl
        refine zp (i := 9) rfl (yE Zu rfl (fun _ h => hry.no h) rfl) ?_ (by assumption) (by decide +kernel) (by decide +kernel) (by decide +kernel) (fun _ _ _ _ h => h) rfl rfl rfl
        refine H_two (i := 10) (i2 := 11) (Z8 rfl (ye (zs := [(.string (ByteArray.mk #[])), (.string (ByteArray.mk #[])), (.slice none 0 0), (.int .i64 0), (.int .i64 0), (.int .i64 0)]) yb rfl ?_)) (Z8 rfl (ye (zs := [(.string (ByteArray.mk #[])), (.string (ByteArray.mk #[])), (.slice none 0 0), (.int .i64 0), (.int .i64 0), (.int .i64 0)]) yb rfl ?_)) (by decide +kernel)
        · rintro g1 wa hg1 hma hna
          refine yh (by first | assumption | exact Mv.no (by assumption) (by assumption)) (fun hH => ?_)
          refine Ze (i := 11) (Z8 rfl (ye (zs := [(.string (ByteArray.mk #[])), (.string (ByteArray.mk #[])), (.slice none 0 0), (.int .i64 0), (.int .i64 0), (.int .i64 0)]) yb rfl ?_)) (by decide +kernel)
          rintro g2 wb hg2 hmb hnb
          refine yh (by first | assumption | exact Mv.no (by assumption) (by assumption)) (fun hH => ?_)
          refine Ze (i := 12) (Z8 rfl (zw yb rfl rfl (yz x) rfl (by first | exact hg1.no hmb | exact hg1) (by exact Nat.le_refl 6) ?_)) (by decide +kernel)
          rintro wc hgc hmc
          refine yh (hH.new hmc (by have h1 := hma.size; have h2 := hmb.size; have h3 := hna; have h4 := hnb; have h5 : wr.drew.heap.size = wr.heap.size := rfl; omega)) (fun hH => ?_)
          refine Ze (i := 13) (Z8 rfl (zw yb rfl rfl (yz y) rfl (by have h1 := hma.size; have h2 := hmb.size; have h3 := hna; have h4 := hnb; have h5 := hg1.lt; have h6 := hg2.lt; first | exact (hg2.no hma).ne hmc (by omega) | exact hg2.ne hmc (by omega)) (by exact Nat.le_refl 6) ?_)) (by decide +kernel)
          rintro wd hgd hmd
          refine yh (hH.new hmd (by have h1 := hma.size; have h2 := hmb.size; have h3 := hna; have h4 := hnb; have h5 : wr.drew.heap.size = wr.heap.size := rfl; omega)) (fun hH => ?_)
          refine yZ (by decide +kernel) ?_
          refine zc ?_
          have hx9 : g1 ≠ g2 := by have h1 := hma.size; have h2 := hmb.size; have h3 := hna; have h4 := hnb; have h5 := hg1.lt; have h6 := hg2.lt; omega
          exact ⟨rfl, (g1, g2), (.cons rfl (.cons rfl (.cons rfl (.cons rfl (.cons rfl (.nil _)))))), hH, (show Blk _ g1 (yq x) 30 from hgc).ne hmd hx9, hgd⟩
        · rintro g2 wb hg2 hmb hnb
          refine yh (by first | assumption | exact Mv.no (by assumption) (by assumption)) (fun hH => ?_)
          refine Ze (i := 10) (Z8 rfl (ye (zs := [(.string (ByteArray.mk #[])), (.string (ByteArray.mk #[])), (.slice none 0 0), (.int .i64 0), (.int .i64 0), (.int .i64 0)]) yb rfl ?_)) (by decide +kernel)
          rintro g1 wa hg1 hma hna
          refine yh (by first | assumption | exact Mv.no (by assumption) (by assumption)) (fun hH => ?_)
          refine Ze (i := 12) (Z8 rfl (zw yb rfl rfl (yz x) rfl (by first | exact hg1.no hmb | exact hg1) (by exact Nat.le_refl 6) ?_)) (by decide +kernel)
          rintro wc hgc hmc
          refine yh (hH.new hmc (by have h1 := hma.size; have h2 := hmb.size; have h3 := hna; have h4 := hnb; have h5 : wr.drew.heap.size = wr.heap.size := rfl; omega)) (fun hH => ?_)
          refine Ze (i := 13) (Z8 rfl (zw yb rfl rfl (yz y) rfl (by have h1 := hma.size; have h2 := hmb.size; have h3 := hna; have h4 := hnb; have h5 := hg1.lt; have h6 := hg2.lt; first | exact (hg2.no hma).ne hmc (by omega) | exact hg2.ne hmc (by omega)) (by exact Nat.le_refl 6) ?_)) (by decide +kernel)
          rintro wd hgd hmd
          refine yh (hH.new hmd (by have h1 := hma.size; have h2 := hmb.size; have h3 := hna; have h4 := hnb; have h5 : wr.drew.heap.size = wr.heap.size := rfl; omega)) (fun hH => ?_)
          refine yZ (by decide +kernel) ?_
          refine zc ?_
          have hx9 : g1 ≠ g2 := by have h1 := hma.size; have h2 := hmb.size; have h3 := hna; have h4 := hnb; have h5 := hg1.lt; have h6 := hg2.lt; omega
          exact ⟨rfl, (g1, g2), (.cons rfl (.cons rfl (.cons rfl (.cons rfl (.cons rfl (.nil _)))))), hH, (show Blk _ g1 (yq x) 30 from hgc).ne hmd hx9, hgd⟩
      rintro ⟨g1, g2⟩ w5 ⟨hm5, hg1, hg2⟩ f' hf'
      dsimp only at hg1 hg2
      dsimp only at hf'
      refine Zb hf' ?_
      clear hf' f'
      have hm35 := hmr.no hm5
      by_cases q0 : x.name = y.name
      rotate_left
      · refine zf (zf (zb (L (S (ze yx rfl) ?_))))
        refine L (zi yc rfl (hg1.cell (i := 0) rfl) ?_)
        refine L (S (ze yx rfl) ?_)
        refine L (zi yc rfl (hg2.cell (i := 0) rfl) ?_)
        refine L (S (Z4 rfl rfl (decide_eq_true (fun h => q0 (ZH h)))) ?_)
        refine L (S (za rfl) (zl (j := 5) (dj := 121) (b := false) (b' := true) (d := 122) rfl (zl (j := 5) (dj := 121) (b := false) (b' := true) (d := 123) rfl (zl (j := 5) (dj := 121) (b := false) (b' := true) (d := 124) rfl (zl (j := 5) (dj := 121) (b := false) (b' := true) (d := 125) rfl (zl (j := 5) (dj := 121) (b := false) (b' := true) (d := 126) rfl (L (S (zt rfl rfl) (L (S (za rfl) (zl (j := 12) (dj := 128) (b := false) (b' := true) (d := 129) rfl (zl (j := 12) (dj := 128) (b := false) (b' := true) (d := 130) rfl (zl (j := 12) (dj := 128) (b := false) (b' := true) (d := 131) rfl (zl (j := 12) (dj := 128) (b := false) (b' := true) (d := 132) rfl (zl (j := 12) (dj := 128) (b := false) (b' := true) (d := 133) rfl (L (S (zt rfl rfl) (L (S (za rfl) (zl (j := 19) (dj := 135) (b := false) (b' := true) (d := 136) rfl (zl (j := 19) (dj := 135) (b := false) (b' := true) (d := 137) rfl (zl (j := 19) (dj := 135) (b := false) (b' := true) (d := 138) rfl (zl (j := 19) (dj := 135) (b := false) (b' := true) (d := 139) rfl (zl (j := 19) (dj := 135) (b := false) (b' := true) (d := 140) rfl (L (S (zt rfl rfl) (L (S (za rfl) (zl (j := 26) (dj := 142) (b := false) (b' := true) (d := 143) rfl (zl (j := 26) (dj := 142) (b := false) (b' := true) (d := 144) rfl ?_))))))))))))))))))))))))))))))
        refine zl (j := 26) (dj := 142) (b := false) (b' := true) (d := 145) rfl (zl (j := 26) (dj := 142) (b := false) (b' := true) (d := 146) rfl (zl (j := 26) (dj := 142) (b := false) (b' := true) (d := 147) rfl (L (S (zt rfl rfl) (L (S (za rfl) (zl (j := 33) (dj := 149) (b := false) (b' := true) (d := 150) rfl (zl (j := 33) (dj := 149) (b := false) (b' := true) (d := 151) rfl (zl (j := 33) (dj := 149) (b := false) (b' := true) (d := 152) rfl (zl (j := 33) (dj := 149) (b := false) (b' := true) (d := 153) rfl (zl (j := 33) (dj := 149) (b := false) (b' := true) (d := 154) rfl (zl (j := 33) (dj := 149) (b := false) (b' := true) (d := 155) rfl (zl (j := 33) (dj := 149) (b := false) (b' := true) (d := 156) rfl (L (S (zt rfl rfl) (zg (zc (zr rfl (zf (zb (L (S (zd rfl) (zg (zc (zy (zm (zP ?_)))))))))))))))))))))))))))
        refine zm (zm (zP (zm ?_)))
        refine zC Tryz.results14 rfl ?_
        exact ⟨false, rfl, fun ht hi => absurd (congrArg (fun z : ID => z.1) (hd hi)) q0, hm03.no hm35⟩
      by_cases q1 : x.table = y.table
      rotate_left
      · refine zf (zf (zb (L (S (ze yx rfl) ?_))))
        refine L (zi yc rfl (hg1.cell (i := 0) rfl) ?_)
        refine L (S (ze yx rfl) ?_)
        refine L (zi yc rfl (hg2.cell (i := 0) rfl) ?_)
        refine L (S (Z4 rfl rfl (decide_eq_false (fun h => h (congrArg str q0)))) ?_)
        refine L (S (za rfl) (zh (j := 5) (dj := 121) (b := false) (S (ze Zp rfl) ?_) rfl))
        refine zh (j := 5) (dj := 121) (b := false) (zi yc rfl (hg1.cell (i := 1) rfl) ?_) rfl
        refine zh (j := 5) (dj := 121) (b := false) (S (ze Zp rfl) ?_) rfl
        refine zh (j := 5) (dj := 121) (b := false) (zi yc rfl (hg2.cell (i := 1) rfl) ?_) rfl
        refine zh (j := 5) (dj := 121) (b := false) (S (Z4 rfl rfl (decide_eq_true (fun h => q1 (ZH h)))) ?_) rfl
        refine L (S (zj rfl rfl) (L (S (za rfl) (zl (j := 12) (dj := 128) (b := false) (b' := true) (d := 129) rfl (zl (j := 12) (dj := 128) (b := false) (b' := true) (d := 130) rfl (zl (j := 12) (dj := 128) (b := false) (b' := true) (d := 131) rfl (zl (j := 12) (dj := 128) (b := false) (b' := true) (d := 132) rfl (zl (j := 12) (dj := 128) (b := false) (b' := true) (d := 133) rfl (L (S (zt rfl rfl) (L (S (za rfl) (zl (j := 19) (dj := 135) (b := false) (b' := true) (d := 136) rfl (zl (j := 19) (dj := 135) (b := false) (b' := true) (d := 137) rfl (zl (j := 19) (dj := 135) (b := false) (b' := true) (d := 138) rfl (zl (j := 19) (dj := 135) (b := false) (b' := true) (d := 139) rfl (zl (j := 19) (dj := 135) (b := false) (b' := true) (d := 140) rfl (L (S (zt rfl rfl) (L (S (za rfl) (zl (j := 26) (dj := 142) (b := false) (b' := true) (d := 143) rfl (zl (j := 26) (dj := 142) (b := false) (b' := true) (d := 144) rfl (zl (j := 26) (dj := 142) (b := false) (b' := true) (d := 145) rfl (zl (j := 26) (dj := 142) (b := false) (b' := true) (d := 146) rfl (zl (j := 26) (dj := 142) (b := false) (b' := true) (d := 147) rfl (L (S (zt rfl rfl) (L (S (za rfl) (zl (j := 33) (dj := 149) (b := false) (b' := true) (d := 150) rfl ?_)))))))))))))))))))))))))))))))
        refine zl (j := 33) (dj := 149) (b := false) (b' := true) (d := 151) rfl (zl (j := 33) (dj := 149) (b := false) (b' := true) (d := 152) rfl (zl (j := 33) (dj := 149) (b := false) (b' := true) (d := 153) rfl (zl (j := 33) (dj := 149) (b := false) (b' := true) (d := 154) rfl (zl (j := 33) (dj := 149) (b := false) (b' := true) (d := 155) rfl (zl (j := 33) (dj := 149) (b := false) (b' := true) (d := 156) rfl (L (S (zt rfl rfl) (zg (zc (zr rfl (zf (zb (L (S (zd rfl) (zg (zc (zy (zm (zP (zm (zm (zP (zm ?_)))))))))))))))))))))))
        refine zC Tryz.results14 rfl ?_
        exact ⟨false, rfl, fun ht hi => absurd (congrArg (fun z : ID => z.2.1) (hd hi)) q1, hm03.no hm35⟩
      by_cases q2 : x.state = y.state
      rotate_left
      · refine zf (zf (zb (L (S (ze yx rfl) ?_))))
        refine L (zi yc rfl (hg1.cell (i := 0) rfl) ?_)
        refine L (S (ze yx rfl) ?_)
        refine L (zi yc rfl (hg2.cell (i := 0) rfl) ?_)
        refine L (S (Z4 rfl rfl (decide_eq_false (fun h => h (congrArg str q0)))) ?_)
        refine L (S (za rfl) (zh (j := 5) (dj := 121) (b := false) (S (ze Zp rfl) ?_) rfl))
        refine zh (j := 5) (dj := 121) (b := false) (zi yc rfl (hg1.cell (i := 1) rfl) ?_) rfl
        refine zh (j := 5) (dj := 121) (b := false) (S (ze Zp rfl) ?_) rfl
        refine zh (j := 5) (dj := 121) (b := false) (zi yc rfl (hg2.cell (i := 1) rfl) ?_) rfl
        refine zh (j := 5) (dj := 121) (b := false) (S (Z4 rfl rfl (decide_eq_false (fun h => h (congrArg str q1)))) ?_) rfl
        refine L (S (zj rfl rfl) (L (S (za rfl) (zh (j := 12) (dj := 128) (b := false) (S (ze yy rfl) ?_) rfl))))
        refine zh (j := 12) (dj := 128) (b := false) (zi z_ rfl (hg1.cell (i := 3) rfl) ?_) rfl
        refine zh (j := 12) (dj := 128) (b := false) (S (ze yy rfl) ?_) rfl
        refine zh (j := 12) (dj := 128) (b := false) (zi z_ rfl (hg2.cell (i := 3) rfl) ?_) rfl
        refine zh (j := 12) (dj := 128) (b := false) (S (Za rfl rfl (decide_eq_true (by omega))) ?_) rfl
        refine L (S (zj rfl rfl) (L (S (za rfl) (zl (j := 19) (dj := 135) (b := false) (b' := true) (d := 136) rfl (zl (j := 19) (dj := 135) (b := false) (b' := true) (d := 137) rfl (zl (j := 19) (dj := 135) (b := false) (b' := true) (d := 138) rfl (zl (j := 19) (dj := 135) (b := false) (b' := true) (d := 139) rfl (zl (j := 19) (dj := 135) (b := false) (b' := true) (d := 140) rfl (L (S (zt rfl rfl) (L (S (za rfl) (zl (j := 26) (dj := 142) (b := false) (b' := true) (d := 143) rfl (zl (j := 26) (dj := 142) (b := false) (b' := true) (d := 144) rfl (zl (j := 26) (dj := 142) (b := false) (b' := true) (d := 145) rfl (zl (j := 26) (dj := 142) (b := false) (b' := true) (d := 146) rfl (zl (j := 26) (dj := 142) (b := false) (b' := true) (d := 147) rfl (L (S (zt rfl rfl) (L (S (za rfl) (zl (j := 33) (dj := 149) (b := false) (b' := true) (d := 150) rfl (zl (j := 33) (dj := 149) (b := false) (b' := true) (d := 151) rfl (zl (j := 33) (dj := 149) (b := false) (b' := true) (d := 152) rfl (zl (j := 33) (dj := 149) (b := false) (b' := true) (d := 153) rfl (zl (j := 33) (dj := 149) (b := false) (b' := true) (d := 154) rfl (zl (j := 33) (dj := 149) (b := false) (b' := true) (d := 155) rfl (zl (j := 33) (dj := 149) (b := false) (b' := true) (d := 156) rfl (L (S (zt rfl rfl) ?_))))))))))))))))))))))))))))))
        refine zg (zc (zr rfl (zf (zb (L (S (zd rfl) (zg (zc (zy (zm (zP (zm (zm (zP (zm ?_)))))))))))))))
        refine zC Tryz.results14 rfl ?_
        exact ⟨false, rfl, fun ht hi => absurd (congrArg (fun z : ID => z.2.2.2.1) (hd hi)) q2, hm03.no hm35⟩
      by_cases q3 : x.root = y.root
      rotate_left
      · refine zf (zf (zb (L (S (ze yx rfl) ?_))))
        refine L (zi yc rfl (hg1.cell (i := 0) rfl) ?_)
        refine L (S (ze yx rfl) ?_)
        refine L (zi yc rfl (hg2.cell (i := 0) rfl) ?_)
        refine L (S (Z4 rfl rfl (decide_eq_false (fun h => h (congrArg str q0)))) ?_)
        refine L (S (za rfl) (zh (j := 5) (dj := 121) (b := false) (S (ze Zp rfl) ?_) rfl))
        refine zh (j := 5) (dj := 121) (b := false) (zi yc rfl (hg1.cell (i := 1) rfl) ?_) rfl
        refine zh (j := 5) (dj := 121) (b := false) (S (ze Zp rfl) ?_) rfl
        refine zh (j := 5) (dj := 121) (b := false) (zi yc rfl (hg2.cell (i := 1) rfl) ?_) rfl
        refine zh (j := 5) (dj := 121) (b := false) (S (Z4 rfl rfl (decide_eq_false (fun h => h (congrArg str q1)))) ?_) rfl
        refine L (S (zj rfl rfl) (L (S (za rfl) (zh (j := 12) (dj := 128) (b := false) (S (ze yy rfl) ?_) rfl))))
        refine zh (j := 12) (dj := 128) (b := false) (zi z_ rfl (hg1.cell (i := 3) rfl) ?_) rfl
        refine zh (j := 12) (dj := 128) (b := false) (S (ze yy rfl) ?_) rfl
        refine zh (j := 12) (dj := 128) (b := false) (zi z_ rfl (hg2.cell (i := 3) rfl) ?_) rfl
        refine zh (j := 12) (dj := 128) (b := false) (S (Za rfl rfl (decide_eq_false (by omega))) ?_) rfl
        refine L (S (zj rfl rfl) (L (S (za rfl) (zh (j := 19) (dj := 135) (b := false) (S (ze yO rfl) ?_) rfl))))
        refine zh (j := 19) (dj := 135) (b := false) (zi z_ rfl (hg1.cell (i := 4) rfl) ?_) rfl
        refine zh (j := 19) (dj := 135) (b := false) (S (ze yO rfl) ?_) rfl
        refine zh (j := 19) (dj := 135) (b := false) (zi z_ rfl (hg2.cell (i := 4) rfl) ?_) rfl
        refine zh (j := 19) (dj := 135) (b := false) (S (Za rfl rfl (decide_eq_true (by omega))) ?_) rfl
        refine L (S (zj rfl rfl) (L (S (za rfl) (zl (j := 26) (dj := 142) (b := false) (b' := true) (d := 143) rfl (zl (j := 26) (dj := 142) (b := false) (b' := true) (d := 144) rfl (zl (j := 26) (dj := 142) (b := false) (b' := true) (d := 145) rfl (zl (j := 26) (dj := 142) (b := false) (b' := true) (d := 146) rfl (zl (j := 26) (dj := 142) (b := false) (b' := true) (d := 147) rfl (L (S (zt rfl rfl) (L (S (za rfl) (zl (j := 33) (dj := 149) (b := false) (b' := true) (d := 150) rfl (zl (j := 33) (dj := 149) (b := false) (b' := true) (d := 151) rfl (zl (j := 33) (dj := 149) (b := false) (b' := true) (d := 152) rfl (zl (j := 33) (dj := 149) (b := false) (b' := true) (d := 153) rfl (zl (j := 33) (dj := 149) (b := false) (b' := true) (d := 154) rfl (zl (j := 33) (dj := 149) (b := false) (b' := true) (d := 155) rfl (zl (j := 33) (dj := 149) (b := false) (b' := true) (d := 156) rfl (L (S (zt rfl rfl) (zg (zc (zr rfl (zf (zb (L (S (zd rfl) (zg ?_)))))))))))))))))))))))))))))
        refine zc (zy (zm (zP (zm (zm (zP (zm ?_)))))))
        refine zC Tryz.results14 rfl ?_
        exact ⟨false, rfl, fun ht hi => absurd (congrArg (fun z : ID => z.2.2.2.2.1) (hd hi)) q3, hm03.no hm35⟩
      by_cases q4 : x.cursor = y.cursor
      rotate_left
      · refine zf (zf (zb (L (S (ze yx rfl) ?_))))
        refine L (zi yc rfl (hg1.cell (i := 0) rfl) ?_)
        refine L (S (ze yx rfl) ?_)
        refine L (zi yc rfl (hg2.cell (i := 0) rfl) ?_)
        refine L (S (Z4 rfl rfl (decide_eq_false (fun h => h (congrArg str q0)))) ?_)
        refine L (S (za rfl) (zh (j := 5) (dj := 121) (b := false) (S (ze Zp rfl) ?_) rfl))
        refine zh (j := 5) (dj := 121) (b := false) (zi yc rfl (hg1.cell (i := 1) rfl) ?_) rfl
        refine zh (j := 5) (dj := 121) (b := false) (S (ze Zp rfl) ?_) rfl
        refine zh (j := 5) (dj := 121) (b := false) (zi yc rfl (hg2.cell (i := 1) rfl) ?_) rfl
        refine zh (j := 5) (dj := 121) (b := false) (S (Z4 rfl rfl (decide_eq_false (fun h => h (congrArg str q1)))) ?_) rfl
        refine L (S (zj rfl rfl) (L (S (za rfl) (zh (j := 12) (dj := 128) (b := false) (S (ze yy rfl) ?_) rfl))))
        refine zh (j := 12) (dj := 128) (b := false) (zi z_ rfl (hg1.cell (i := 3) rfl) ?_) rfl
        refine zh (j := 12) (dj := 128) (b := false) (S (ze yy rfl) ?_) rfl
        refine zh (j := 12) (dj := 128) (b := false) (zi z_ rfl (hg2.cell (i := 3) rfl) ?_) rfl
        refine zh (j := 12) (dj := 128) (b := false) (S (Za rfl rfl (decide_eq_false (by omega))) ?_) rfl
        refine L (S (zj rfl rfl) (L (S (za rfl) (zh (j := 19) (dj := 135) (b := false) (S (ze yO rfl) ?_) rfl))))
        refine zh (j := 19) (dj := 135) (b := false) (zi z_ rfl (hg1.cell (i := 4) rfl) ?_) rfl
        refine zh (j := 19) (dj := 135) (b := false) (S (ze yO rfl) ?_) rfl
        refine zh (j := 19) (dj := 135) (b := false) (zi z_ rfl (hg2.cell (i := 4) rfl) ?_) rfl
        refine zh (j := 19) (dj := 135) (b := false) (S (Za rfl rfl (decide_eq_false (by omega))) ?_) rfl
        refine L (S (zj rfl rfl) (L (S (za rfl) (zh (j := 26) (dj := 142) (b := false) (S (ze ZI rfl) ?_) rfl))))
        refine zh (j := 26) (dj := 142) (b := false) (zi Zw rfl (hg1.cell (i := 5) rfl) ?_) rfl
        refine zh (j := 26) (dj := 142) (b := false) (S (ze ZI rfl) ?_) rfl
        refine zh (j := 26) (dj := 142) (b := false) (zi Zw rfl (hg2.cell (i := 5) rfl) ?_) rfl
        refine zh (j := 26) (dj := 142) (b := false) (S (Za rfl rfl (decide_eq_true (by omega))) ?_) rfl
        refine L (S (zj rfl rfl) (L (S (za rfl) (zl (j := 33) (dj := 149) (b := false) (b' := true) (d := 150) rfl (zl (j := 33) (dj := 149) (b := false) (b' := true) (d := 151) rfl (zl (j := 33) (dj := 149) (b := false) (b' := true) (d := 152) rfl (zl (j := 33) (dj := 149) (b := false) (b' := true) (d := 153) rfl (zl (j := 33) (dj := 149) (b := false) (b' := true) (d := 154) rfl (zl (j := 33) (dj := 149) (b := false) (b' := true) (d := 155) rfl (zl (j := 33) (dj := 149) (b := false) (b' := true) (d := 156) rfl (L (S (zt rfl rfl) (zg (zc (zr rfl (zf (zb (L (S (zd rfl) (zg (zc (zy (zm (zP (zm (zm (zP ?_)))))))))))))))))))))))))))
        refine zm ?_
        refine zC Tryz.results14 rfl ?_
        exact ⟨false, rfl, fun ht hi => absurd (congrArg (fun z : ID => z.2.2.2.2.2) (hd hi)) q4, hm03.no hm35⟩
      by_cases q5 : x.cols.length = y.cols.length
      rotate_left
      · refine zf (zf (zb (L (S (ze yx rfl) ?_))))
        refine L (zi yc rfl (hg1.cell (i := 0) rfl) ?_)
        refine L (S (ze yx rfl) ?_)
        refine L (zi yc rfl (hg2.cell (i := 0) rfl) ?_)
        refine L (S (Z4 rfl rfl (decide_eq_false (fun h => h (congrArg str q0)))) ?_)
        refine L (S (za rfl) (zh (j := 5) (dj := 121) (b := false) (S (ze Zp rfl) ?_) rfl))
        refine zh (j := 5) (dj := 121) (b := false) (zi yc rfl (hg1.cell (i := 1) rfl) ?_) rfl
        refine zh (j := 5) (dj := 121) (b := false) (S (ze Zp rfl) ?_) rfl
        refine zh (j := 5) (dj := 121) (b := false) (zi yc rfl (hg2.cell (i := 1) rfl) ?_) rfl
        refine zh (j := 5) (dj := 121) (b := false) (S (Z4 rfl rfl (decide_eq_false (fun h => h (congrArg str q1)))) ?_) rfl
        refine L (S (zj rfl rfl) (L (S (za rfl) (zh (j := 12) (dj := 128) (b := false) (S (ze yy rfl) ?_) rfl))))
        refine zh (j := 12) (dj := 128) (b := false) (zi z_ rfl (hg1.cell (i := 3) rfl) ?_) rfl
        refine zh (j := 12) (dj := 128) (b := false) (S (ze yy rfl) ?_) rfl
        refine zh (j := 12) (dj := 128) (b := false) (zi z_ rfl (hg2.cell (i := 3) rfl) ?_) rfl
        refine zh (j := 12) (dj := 128) (b := false) (S (Za rfl rfl (decide_eq_false (by omega))) ?_) rfl
        refine L (S (zj rfl rfl) (L (S (za rfl) (zh (j := 19) (dj := 135) (b := false) (S (ze yO rfl) ?_) rfl))))
        refine zh (j := 19) (dj := 135) (b := false) (zi z_ rfl (hg1.cell (i := 4) rfl) ?_) rfl
        refine zh (j := 19) (dj := 135) (b := false) (S (ze yO rfl) ?_) rfl
        refine zh (j := 19) (dj := 135) (b := false) (zi z_ rfl (hg2.cell (i := 4) rfl) ?_) rfl
        refine zh (j := 19) (dj := 135) (b := false) (S (Za rfl rfl (decide_eq_false (by omega))) ?_) rfl
        refine L (S (zj rfl rfl) (L (S (za rfl) (zh (j := 26) (dj := 142) (b := false) (S (ze ZI rfl) ?_) rfl))))
        refine zh (j := 26) (dj := 142) (b := false) (zi Zw rfl (hg1.cell (i := 5) rfl) ?_) rfl
        refine zh (j := 26) (dj := 142) (b := false) (S (ze ZI rfl) ?_) rfl
        refine zh (j := 26) (dj := 142) (b := false) (zi Zw rfl (hg2.cell (i := 5) rfl) ?_) rfl
        refine zh (j := 26) (dj := 142) (b := false) (S (Za rfl rfl (decide_eq_false (by omega))) ?_) rfl
        refine L (S (zj rfl rfl) (L (S (za rfl) (zh (j := 33) (dj := 149) (b := false) (S (ze Zj rfl) ?_) rfl))))
        refine zh (j := 33) (dj := 149) (b := false) (zi Z6 rfl (hg1.cell (i := 2) rfl) ?_) rfl
        refine zh (j := 33) (dj := 149) (b := false) (S (zH Tryz.underlying28 rfl) ?_) rfl
        refine zh (j := 33) (dj := 149) (b := false) (S (ze Zj rfl) ?_) rfl
        refine zh (j := 33) (dj := 149) (b := false) (zi Z6 rfl (hg2.cell (i := 2) rfl) ?_) rfl
        refine zh (j := 33) (dj := 149) (b := false) (S (zH Tryz.underlying28 rfl) ?_) rfl
        refine zh (j := 33) (dj := 149) (b := false) (S (Za rfl rfl (decide_eq_true (by omega))) ?_) rfl
        refine L (S (zj rfl rfl) (zg (zc (zr rfl (zf (zb (L (S (zd rfl) (zg (zc (zy (zm (zP (zm (zm (zP (zm ?_)))))))))))))))))
        refine zC Tryz.results14 rfl ?_
        exact ⟨false, rfl, fun ht hi => absurd (congrArg List.length (congrArg (fun z : ID => z.2.2.1) (hd hi))) q5, hm03.no hm35⟩
      refine zf (zf (zb (L (S (ze yx rfl) ?_))))
      refine L (zi yc rfl (hg1.cell (i := 0) rfl) ?_)
      refine L (S (ze yx rfl) ?_)
      refine L (zi yc rfl (hg2.cell (i := 0) rfl) ?_)
      refine L (S (Z4 rfl rfl (decide_eq_false (fun h => h (congrArg str q0)))) ?_)
      refine L (S (za rfl) (zh (j := 5) (dj := 121) (b := false) (S (ze Zp rfl) ?_) rfl))
      refine zh (j := 5) (dj := 121) (b := false) (zi yc rfl (hg1.cell (i := 1) rfl) ?_) rfl
      refine zh (j := 5) (dj := 121) (b := false) (S (ze Zp rfl) ?_) rfl
      refine zh (j := 5) (dj := 121) (b := false) (zi yc rfl (hg2.cell (i := 1) rfl) ?_) rfl
      refine zh (j := 5) (dj := 121) (b := false) (S (Z4 rfl rfl (decide_eq_false (fun h => h (congrArg str q1)))) ?_) rfl
      refine L (S (zj rfl rfl) (L (S (za rfl) (zh (j := 12) (dj := 128) (b := false) (S (ze yy rfl) ?_) rfl))))
      refine zh (j := 12) (dj := 128) (b := false) (zi z_ rfl (hg1.cell (i := 3) rfl) ?_) rfl
      refine zh (j := 12) (dj := 128) (b := false) (S (ze yy rfl) ?_) rfl
      refine zh (j := 12) (dj := 128) (b := false) (zi z_ rfl (hg2.cell (i := 3) rfl) ?_) rfl
      refine zh (j := 12) (dj := 128) (b := false) (S (Za rfl rfl (decide_eq_false (by omega))) ?_) rfl
      refine L (S (zj rfl rfl) (L (S (za rfl) (zh (j := 19) (dj := 135) (b := false) (S (ze yO rfl) ?_) rfl))))
      refine zh (j := 19) (dj := 135) (b := false) (zi z_ rfl (hg1.cell (i := 4) rfl) ?_) rfl
      refine zh (j := 19) (dj := 135) (b := false) (S (ze yO rfl) ?_) rfl
      refine zh (j := 19) (dj := 135) (b := false) (zi z_ rfl (hg2.cell (i := 4) rfl) ?_) rfl
      refine zh (j := 19) (dj := 135) (b := false) (S (Za rfl rfl (decide_eq_false (by omega))) ?_) rfl
      refine L (S (zj rfl rfl) (L (S (za rfl) (zh (j := 26) (dj := 142) (b := false) (S (ze ZI rfl) ?_) rfl))))
      refine zh (j := 26) (dj := 142) (b := false) (zi Zw rfl (hg1.cell (i := 5) rfl) ?_) rfl
      refine zh (j := 26) (dj := 142) (b := false) (S (ze ZI rfl) ?_) rfl
      refine zh (j := 26) (dj := 142) (b := false) (zi Zw rfl (hg2.cell (i := 5) rfl) ?_) rfl
      refine zh (j := 26) (dj := 142) (b := false) (S (Za rfl rfl (decide_eq_false (by omega))) ?_) rfl
      refine L (S (zj rfl rfl) (L (S (za rfl) (zh (j := 33) (dj := 149) (b := false) (S (ze Zj rfl) ?_) rfl))))
      refine zh (j := 33) (dj := 149) (b := false) (zi Z6 rfl (hg1.cell (i := 2) rfl) ?_) rfl
      refine zh (j := 33) (dj := 149) (b := false) (S (zH Tryz.underlying28 rfl) ?_) rfl
      refine zh (j := 33) (dj := 149) (b := false) (S (ze Zj rfl) ?_) rfl
      refine zh (j := 33) (dj := 149) (b := false) (zi Z6 rfl (hg2.cell (i := 2) rfl) ?_) rfl
      refine zh (j := 33) (dj := 149) (b := false) (S (zH Tryz.underlying28 rfl) ?_) rfl
      refine zh (j := 33) (dj := 149) (b := false) (S (Za rfl rfl (decide_eq_false (by omega))) ?_) rfl
      refine L (S (zj rfl rfl) (zg (zc (zk rfl (zo (zc (zf (zb (L (S (zd rfl) (zg (zc (zx ?_)))))))))))))
      have hcol : a.idxs.map Idx.d_ = b.idxs.map Idx.d_ → x.cols = y.cols := fun h => congrArg (fun z : ID => z.2.2.1) (hd h)
      have hx5 := hxok.no hm5
      have hy5 := hyok.no hm5
      refine yF (γ := Nat) (fun k => [(2, .pointer (some ⟨b2, 0, none⟩)), (3, .pointer (some ⟨b3, 0, none⟩)), (9, .int .i64 (i : Int)), (10, .pointer (some ⟨g1, 0, none⟩)), (11, .pointer (some ⟨g2, 0, none⟩)), (12, .int .i64 (k : Int))]) (fun k wq => Mv No w5 wq ∧ k ≤ x.cols.length) (fun k => x.cols.length - k) 0 (.cons rfl (.cons rfl (.cons rfl (.cons rfl (.cons rfl (.cons rfl (.nil _))))))) ⟨Mv.refl w5, Nat.zero_le _⟩ ?_
      rintro k wq ⟨hmq, hk⟩
      have hc1 : ∀ {wz}, Mv No wq wz → wz.cell? ⟨g1, 2, none⟩ = some (.slice x.A x.cols.length x.cap) := fun h => ((hg1.no hmq).no h).cell (i := 2) rfl
      have hc2 : ∀ {wz}, Mv No wq wz → wz.cell? ⟨g2, 2, none⟩ = some (.slice y.A y.cols.length y.cap) := fun h => ((hg2.no hmq).no h).cell (i := 2) rfl
      by_cases hkl : k < x.cols.length
      · have hu := List.getElem?_eq_getElem hkl
        have hv := List.getElem?_eq_getElem (show k < y.cols.length by omega)
        generalize x.cols[k] = u at hu
        generalize y.cols[k] = v at hv
        have huv : a.idxs.map Idx.d_ = b.idxs.map Idx.d_ → u = v := fun h => by
          rw [hcol h, hv] at hu
          exact (Option.some.inj hu).symm
        obtain ⟨bu, ou, hUe, -, hru⟩ := yr Ys (by decide) (hx5.sl.no hmq) hu
        obtain ⟨bv, ov, hVe, -, hrv⟩ := yr Ys (by decide) (hy5.sl.no hmq) hv
        rw [hUe] at hc1
        rw [hVe] at hc2
        by_cases hβ : u = v
        · refine zf (zf (zb (L (S (za rfl) (L (S (ze Zj rfl) ?_))))))
          refine L (zi Z6 rfl (hc1 (Mv.refl _)) ?_)
          refine L (S (zH Tryz.underlying28 rfl) ?_)
          refine L (S (zG rfl rfl (decide_eq_true (by omega))) ?_)
          refine zg (zc (zr rfl (zo (zc (zf (zx (zf ?_)))))))
          refine yP 11 mixed rfl (fun hH => ?_)
          refine zp (i := 0) rfl (PureV.toS (ze Zj rfl)) ?_ (by assumption) (by decide +kernel) (by decide +kernel) (by decide +kernel) (fun _ _ _ _ h => h) rfl rfl rfl
          refine zp (i := 1) rfl (ya Z6 rfl (fun _ h => hc1 h)) ?_ (by assumption) (by decide +kernel) (by decide +kernel) (by decide +kernel) (fun _ _ _ _ h => h) rfl rfl rfl
          refine zp (i := 2) rfl (PureV.toS (za rfl)) ?_ (by assumption) (by decide +kernel) (by decide +kernel) (by decide +kernel) (fun _ _ _ _ h => h) rfl rfl rfl
          refine zp (i := 3) rfl (PureV.toS (zn Tryz.underlying28 (zD Yf) rfl rfl (j := k) rfl (by omega) (p := ou + k * 1) (by omega))) ?_ (by assumption) (by decide +kernel) (by decide +kernel) (by decide +kernel) (fun _ _ _ _ h => h) rfl rfl rfl
          refine zp (i := 4) rfl (ya z_ rfl (fun _ h => (hru.no h) 0 _ rfl)) ?_ (by assumption) (by decide +kernel) (by decide +kernel) (by decide +kernel) (fun _ _ _ _ h => h) rfl rfl rfl
          refine zp (i := 5) rfl (PureV.toS (ze Zj rfl)) ?_ (by assumption) (by decide +kernel) (by decide +kernel) (by decide +kernel) (fun _ _ _ _ h => h) rfl rfl rfl
          refine zp (i := 6) rfl (ya Z6 rfl (fun _ h => hc2 h)) ?_ (by assumption) (by decide +kernel) (by decide +kernel) (by decide +kernel) (fun _ _ _ _ h => h) rfl rfl rfl
          refine zp (i := 7) rfl (PureV.toS (za rfl)) ?_ (by assumption) (by decide +kernel) (by decide +kernel) (by decide +kernel) (fun _ _ _ _ h => h) rfl rfl rfl
          refine zp (i := 8) rfl (PureV.toS (zn Tryz.underlying28 (zD Yf) rfl rfl (j := k) rfl (by omega) (p := ov + k * 1) (by omega))) ?_ (by assumption) (by decide +kernel) (by decide +kernel) (by decide +kernel) (fun _ _ _ _ h => h) rfl rfl rfl
          refine zp (i := 9) rfl (ya z_ rfl (fun _ h => (hrv.no h) 0 _ rfl)) ?_ (by assumption) (by decide +kernel) (by decide +kernel) (by decide +kernel) (fun _ _ _ _ h => h) rfl rfl rfl
          refine zp (i := 10) rfl (PureV.toS (Za rfl rfl (decide_eq_false (fun h => h hβ)))) ?_ (by assumption) (by decide +kernel) (by decide +kernel) (by decide +kernel) (fun _ _ _ _ h => h) rfl rfl rfl
          refine yZ (by decide +kernel) ?_
          refine zc (zk rfl (zo (yj (zc (zb (L (S (za rfl) ?_)))))))
          refine L (S (zT rfl rfl (z1 (c := ((k + 1 : Nat) : Int)) (by omega))) ?_)
          refine L (S (zd rfl) (zg (zc ?_)))
          exact ⟨rfl, k + 1, (.cons rfl (.cons rfl (.cons rfl (.cons rfl (.cons rfl (.cons rfl (.nil _))))))), ⟨hmq.no hH, by omega⟩, by omega⟩
        · refine zf (zf (zb (L (S (za rfl) (L (S (ze Zj rfl) ?_))))))
          refine L (zi Z6 rfl (hc1 (Mv.refl _)) ?_)
          refine L (S (zH Tryz.underlying28 rfl) ?_)
          refine L (S (zG rfl rfl (decide_eq_true (by omega))) ?_)
          refine zg (zc (zr rfl (zo (zc (zf (zx (zf ?_)))))))
          refine yP 11 mixed rfl (fun hH => ?_)
          refine zp (i := 0) rfl (PureV.toS (ze Zj rfl)) ?_ (by assumption) (by decide +kernel) (by decide +kernel) (by decide +kernel) (fun _ _ _ _ h => h) rfl rfl rfl
          refine zp (i := 1) rfl (ya Z6 rfl (fun _ h => hc1 h)) ?_ (by assumption) (by decide +kernel) (by decide +kernel) (by decide +kernel) (fun _ _ _ _ h => h) rfl rfl rfl
          refine zp (i := 2) rfl (PureV.toS (za rfl)) ?_ (by assumption) (by decide +kernel) (by decide +kernel) (by decide +kernel) (fun _ _ _ _ h => h) rfl rfl rfl
          refine zp (i := 3) rfl (PureV.toS (zn Tryz.underlying28 (zD Yf) rfl rfl (j := k) rfl (by omega) (p := ou + k * 1) (by omega))) ?_ (by assumption) (by decide +kernel) (by decide +kernel) (by decide +kernel) (fun _ _ _ _ h => h) rfl rfl rfl
          refine zp (i := 4) rfl (ya z_ rfl (fun _ h => (hru.no h) 0 _ rfl)) ?_ (by assumption) (by decide +kernel) (by decide +kernel) (by decide +kernel) (fun _ _ _ _ h => h) rfl rfl rfl
          refine zp (i := 5) rfl (PureV.toS (ze Zj rfl)) ?_ (by assumption) (by decide +kernel) (by decide +kernel) (by decide +kernel) (fun _ _ _ _ h => h) rfl rfl rfl
          refine zp (i := 6) rfl (ya Z6 rfl (fun _ h => hc2 h)) ?_ (by assumption) (by decide +kernel) (by decide +kernel) (by decide +kernel) (fun _ _ _ _ h => h) rfl rfl rfl
          refine zp (i := 7) rfl (PureV.toS (za rfl)) ?_ (by assumption) (by decide +kernel) (by decide +kernel) (by decide +kernel) (fun _ _ _ _ h => h) rfl rfl rfl
          refine zp (i := 8) rfl (PureV.toS (zn Tryz.underlying28 (zD Yf) rfl rfl (j := k) rfl (by omega) (p := ov + k * 1) (by omega))) ?_ (by assumption) (by decide +kernel) (by decide +kernel) (by decide +kernel) (fun _ _ _ _ h => h) rfl rfl rfl
          refine zp (i := 9) rfl (ya z_ rfl (fun _ h => (hrv.no h) 0 _ rfl)) ?_ (by assumption) (by decide +kernel) (by decide +kernel) (by decide +kernel) (fun _ _ _ _ h => h) rfl rfl rfl
          refine zp (i := 10) rfl (PureV.toS (Za rfl rfl (decide_eq_true hβ))) ?_ (by assumption) (by decide +kernel) (by decide +kernel) (by decide +kernel) (fun _ _ _ _ h => h) rfl rfl rfl
          refine yZ (by decide +kernel) ?_
          refine zc (zr rfl (zf (zb (L (S (zd rfl) (zg (zc (zy (zP (zm (zm (zP (zP (zm (zm (zP (zm ?_)))))))))))))))))
          refine zC Tryz.results14 rfl ?_
          exact ⟨false, rfl, fun ht hi => absurd (huv hi) hβ, (hm03.no (hm35.no hmq)).no hH⟩
      · refine zf (zf (zb (L (S (za rfl) (L (S (ze Zj rfl) ?_))))))
        refine L (zi Z6 rfl (hc1 (Mv.refl _)) ?_)
        refine L (S (zH Tryz.underlying28 rfl) ?_)
        refine L (S (zG rfl rfl (decide_eq_false (by omega))) ?_)
        refine zg (zc (zk rfl (yn (zL (zL (yK (yj (zc (zb (L (S (za rfl) ?_)))))))))))
        refine L (S (zT rfl rfl (z1 (c := ((i + 1 : Nat) : Int)) (by omega))) ?_)
        refine L (S (zd rfl) (zg (zc ?_)))
        exact ⟨rfl, i + 1, (.cons rfl (.cons rfl (.cons rfl (.nil _)))), ⟨hm35.no hmq, by omega⟩, by omega⟩
    · refine zf (zf (zb (L (S (za rfl) (L (S (ze yf rfl) ?_))))))
      refine L (zi yS rfl ((hb2.no hmr).cell (i := 1) rfl) ?_)
      refine L (S (zH Tryz.underlying35 rfl) ?_)
      refine L (S (zG rfl rfl (decide_eq_false (by omega))) ?_)
      refine zg (zc (zk rfl (yn (zL (zL (yK (zc (zf (zb (L (S (zd rfl) (zg (zc (zy ?_))))))))))))))
      refine zC Tryz.results14 rfl ?_
      exact ⟨true, rfl, fun _ _ => rfl, hm03.no hmr⟩
end
end Go.Proofs.YtnoioimphcmeiaaGreatDoor
