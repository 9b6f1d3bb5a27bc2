import Derived.Test.YthihhibadpbncaaDoorGFitsL
import Derived.Test.YthihhibadpbncaaDoorOwn
namespace Go.Proofs.YthihhibadpbncaaDoor
open Go.RowKit

/-- The number of a list of things. -/
def setL : List Nat → Nat
  | [] => 0
  | x :: r => 2 ^ x + setL r
def ni (x : Nat) : Value := .int .i64 (x : Int)
/-- Does a list of things fit? -/
def fitsL (sz : List Int) : List Nat → Int → Bool
  | [], _ => true
  | x :: r, left => if sz.getD x 0 < 0 ∨ left < sz.getD x 0 then false else fitsL sz r (left - sz.getD x 0)
theorem setL_append (a b : List Nat) : setL (a ++ b) = setL a + setL b := by
  induction a with
  | nil => simp [setL]
  | cons x r ih => simp only [List.cons_append, setL, ih]; omega
theorem setL_bound {l : List Nat} (h : ∀ x ∈ l, x < 10) : setL l ≤ 512 * l.length := by
  induction l with
  | nil => simp [setL]
  | cons x r ih =>
    have h1 := ih (fun y hy => h y (by simp [hy]))
    have h2 : 2 ^ x ≤ 2 ^ 9 := Nat.pow_le_pow_right (by omega) (by have := h x (by simp); omega)
    simp only [setL, List.length_cons]
    omega
theorem drop_get {l : List Nat} {i x : Nat} (h : l[i]? = some x) : l.drop i = x :: l.drop (i + 1) := by
  obtain ⟨hl, he⟩ := List.getElem?_eq_some_iff.1 h
  rw [List.drop_eq_getElem_cons hl, he]

section
variable {w : World} {A : Option Addr} {cap : Nat}
theorem refset_ret (l : List Nat) (hs : SlR w A (l.map ni)) (hl : ∀ x ∈ l, x < 10) (hn : l.length ≤ 100) :
    Ret Tryd.prog 12 [.slice A l.length cap] w fun r w' => r = .int .i64 (setL l : Int) ∧ w = w' := by
  have hbd := setL_bound hl
  refine F_enter Tryd.func12 Tryd.ntmps12 rfl rfl ?_
  refine C_seq ?_
  refine C_region ?_
  refine L (S (P_assign rfl) ?_)
  refine L_nil ?_
  refine then_n ?_
  refine C_seq ?_
  refine C_region ?_
  refine L (S (P_assign rfl) ?_)
  refine L_nil ?_
  refine then_n ?_
  refine C_seq ?_
  refine C_seq ?_
  refine C_region ?_
  refine L (S (P_assign rfl) ?_)
  refine L_nil ?_
  refine then_n ?_
  refine C_block ?_
  refine C_loop (γ := Nat × Nat) (fun q => [(0, .slice A l.length cap), (3, .int .i64 (q.2 : Int)), (4, .int .i64 (q.1 : Int))]) (fun q wr => wr = w ∧ q.1 ≤ l.length ∧ q.2 + setL (l.drop q.1) = setL l) (fun q => l.length - q.1) (0, 0) (.cons rfl (.cons rfl (.cons rfl (.nil _)))) ⟨rfl, by omega, by simp⟩ ?_
  rintro ⟨i, acc⟩ wr ⟨rfl, hi, hinv⟩
  dsimp only at hi hinv
  dsimp only
  refine C_seq ?_
  refine C_seq ?_
  refine C_region ?_
  refine L (S (P_move rfl) ?_)
  refine L (S (P_move rfl) ?_)
  refine L (S (P_lenS Tryd.underlying34 rfl) ?_)
  refine L (S (P_lt rfl rfl rfl) ?_)
  refine L_nil ?_
  refine then_n ?_
  refine C_ifp rfl rfl (fun hlt => ?_) (fun hge => ?_)
  · have hil : i < l.length := by omega
    obtain ⟨x, hx⟩ : ∃ x, l[i]? = some x := ⟨l[i], List.getElem?_eq_getElem hil⟩
    have hx10 := hl x (List.mem_of_getElem? hx)
    rw [drop_get hx] at hinv
    simp only [setL] at hinv
    obtain ⟨b, o, rfl, hrow⟩ := hs.form (i := i) (by simpa using hil)
    have hcell : wr.cell? ⟨b, o + i, none⟩ = some (.int .i64 (x : Int)) := hrow i _ (by rw [List.getElem?_map, hx]; rfl)
    have hp10 : 2 ^ x ≤ 2 ^ 9 := Nat.pow_le_pow_right (by omega) (by omega)
    refine C_skip ?_
    refine then_n ?_
    refine C_seq ?_
    refine C_block ?_
    refine C_seq ?_
    refine C_region ?_
    refine L (S (P_assign rfl) ?_)
    refine L_nil ?_
    refine then_n ?_
    refine C_seq ?_
    refine C_seq ?_
    refine C_region ?_
    refine L (S (P_assign rfl) ?_)
    refine L_nil ?_
    refine then_n ?_
    refine C_block ?_
    refine C_loop (γ := Nat) (fun k => [(0, .slice (some ⟨b, o, none⟩) l.length cap), (3, .int .i64 (acc : Int)), (4, .int .i64 (i : Int)), (5, .int .i64 ((2 ^ k : Nat) : Int)), (6, .int .i64 (k : Int))]) (fun k wq => wq = wr ∧ k ≤ x) (fun k => x - k) 0 (.cons rfl (.cons rfl (.cons rfl (.cons rfl (.cons rfl (.nil _)))))) ⟨rfl, by omega⟩ ?_
    rintro k wq ⟨rfl, hk⟩
    have hpk : 2 ^ k ≤ 2 ^ 9 := Nat.pow_le_pow_right (by omega) (by omega)
    refine C_seq ?_
    refine C_seq ?_
    refine C_region ?_
    refine L (S (P_move rfl) ?_)
    refine L (S (P_move rfl) ?_)
    refine L (S (P_move rfl) ?_)
    refine L (S (P_indexAddr Tryd.underlying34 (csz_of ti_3) rfl rfl (j := i) rfl hil (p := o + i) (by omega)) ?_)
    refine L (S_load sc_3 rfl hcell ?_)
    refine L (S (P_lt rfl rfl rfl) ?_)
    refine L_nil ?_
    refine then_n ?_
    refine C_ifp rfl rfl (fun hlt2 => ?_) (fun hge2 => ?_)
    · refine C_skip ?_
      refine then_n ?_
      refine C_seq ?_
      refine C_block ?_
      refine C_region ?_
      refine L (S (P_move rfl) ?_)
      refine L (S (P_mul rfl rfl (wI64 (c := ((2 ^ (k + 1) : Nat) : Int)) (by rw [Nat.pow_succ]; omega))) ?_)
      refine L (S (P_assign rfl) ?_)
      refine L_nil ?_
      refine blk_n ?_
      refine then_n ?_
      refine C_region ?_
      refine L (S (P_move rfl) ?_)
      refine L (S (P_add rfl rfl (wI64 (c := ((k + 1 : Nat) : Int)) (by omega))) ?_)
      refine L (S (P_assign rfl) ?_)
      refine L_nil ?_
      refine then_n ?_
      exact ⟨rfl, k + 1, .cons rfl (.cons rfl (.cons rfl (.cons rfl (.cons rfl (.nil _))))), ⟨rfl, by omega⟩, by omega⟩
    · have hkx : k = x := by omega
      subst hkx
      clear hp10
      generalize 2 ^ k = z at *
      refine C_exit ?_
      refine then_x ?_
      refine then_x ?_
      refine blk_x ?_
      refine then_n ?_
      refine C_region ?_
      refine L (S (P_move rfl) ?_)
      refine L (S (P_move rfl) ?_)
      refine L (S (P_add rfl rfl (wI64 (c := ((acc + z : Nat) : Int)) (by omega))) ?_)
      refine L (S (P_assign rfl) ?_)
      refine L_nil ?_
      refine blk_n ?_
      refine then_n ?_
      refine C_region ?_
      refine L (S (P_move rfl) ?_)
      refine L (S (P_add rfl rfl (wI64 (c := ((i + 1 : Nat) : Int)) (by omega))) ?_)
      refine L (S (P_assign rfl) ?_)
      refine L_nil ?_
      refine then_n ?_
      exact ⟨rfl, (i + 1, acc + z), .cons rfl (.cons rfl (.cons rfl (.nil _))), ⟨rfl, by dsimp only; omega, by dsimp only; omega⟩, by dsimp only; omega⟩
  · have hn : l.drop i = [] := List.drop_eq_nil_of_le (by omega)
    rw [hn] at hinv
    simp only [setL, Nat.add_zero] at hinv
    subst hinv
    refine C_exit ?_
    refine then_x ?_
    refine then_x ?_
    refine blk_x ?_
    refine then_n ?_
    refine C_seq ?_
    refine C_region ?_
    refine L (S (P_move rfl) ?_)
    refine L (S (P_assign rfl) ?_)
    refine L_nil ?_
    refine then_n ?_
    refine C_ret ?_
    refine F_ret1 Tryd.results12 rfl ?_
    exact ⟨rfl, rfl⟩

theorem refhas_ret (l : List Nat) (n : Nat) (hs : SlR w A (l.map ni)) (hn : l.length ≤ 100) :
    Ret Tryd.prog 22 [.slice A l.length cap, .int .i64 (n : Int)] w fun r w' => r = .bool (l.contains n) ∧ w = w' := by
  refine F_enter Tryd.func22 Tryd.ntmps22 rfl rfl ?_
  refine C_seq ?_
  refine C_region ?_
  refine L (S (P_assign rfl) ?_)
  refine L_nil ?_
  refine then_n ?_
  refine C_seq ?_
  refine C_seq ?_
  refine C_region ?_
  refine L (S (P_assign rfl) ?_)
  refine L_nil ?_
  refine then_n ?_
  refine C_block ?_
  refine C_loop (γ := Nat) (fun i => [(0, .slice A l.length cap), (1, .int .i64 (n : Int)), (5, .int .i64 (i : Int))]) (fun i wr => wr = w ∧ i ≤ l.length ∧ (l.drop i).contains n = l.contains n) (fun i => l.length - i) 0 (.cons rfl (.cons rfl (.cons rfl (.nil _)))) ⟨rfl, by omega, rfl⟩ ?_
  rintro i wr ⟨rfl, hi, hinv⟩
  refine C_seq ?_
  refine C_seq ?_
  refine C_region ?_
  refine L (S (P_move rfl) ?_)
  refine L (S (P_move rfl) ?_)
  refine L (S (P_lenS Tryd.underlying34 rfl) ?_)
  refine L (S (P_lt rfl rfl rfl) ?_)
  refine L_nil ?_
  refine then_n ?_
  refine C_ifp rfl rfl (fun hlt => ?_) (fun hge => ?_)
  · have hil : i < l.length := by omega
    obtain ⟨x, hx⟩ : ∃ x, l[i]? = some x := ⟨l[i], List.getElem?_eq_getElem hil⟩
    rw [drop_get hx] at hinv
    obtain ⟨b, o, rfl, hrow⟩ := hs.form (i := i) (by simpa using hil)
    have hcell : wr.cell? ⟨b, o + i, none⟩ = some (.int .i64 (x : Int)) := hrow i _ (by rw [List.getElem?_map, hx]; rfl)
    by_cases he : x = n
    · subst he
      have h1 : l.contains x = true := by rw [← hinv]; simp
      rw [h1]
      refine C_skip ?_
      refine then_n ?_
      refine C_seq ?_
      refine C_block ?_
      refine C_seq ?_
      refine C_region ?_
      refine L (S (P_move rfl) ?_)
      refine L (S (P_move rfl) ?_)
      refine L (S (P_indexAddr Tryd.underlying34 (csz_of ti_3) rfl rfl (j := i) rfl hil (p := o + i) (by omega)) ?_)
      refine L (S_load sc_3 rfl hcell ?_)
      refine L (S (P_move rfl) ?_)
      refine L (S (P_eq rfl rfl (decide_eq_true rfl)) ?_)
      refine L_nil ?_
      refine then_n ?_
      refine C_true rfl ?_
      refine C_seq ?_
      refine C_region ?_
      refine L (S (P_assign rfl) ?_)
      refine L_nil ?_
      refine then_n ?_
      refine C_ret ?_
      refine blk_r ?_
      refine then_r ?_
      refine then_r ?_
      refine blk_r ?_
      refine then_r ?_
      refine F_ret1 Tryd.results22 rfl ?_
      exact ⟨rfl, rfl⟩
    · have h1 : (l.drop (i + 1)).contains n = l.contains n := by
        rw [← hinv]
        simp only [List.contains_cons]
        have : (n == x) = false := by simp; omega
        rw [this, Bool.false_or]
      refine C_skip ?_
      refine then_n ?_
      refine C_seq ?_
      refine C_block ?_
      refine C_seq ?_
      refine C_region ?_
      refine L (S (P_move rfl) ?_)
      refine L (S (P_move rfl) ?_)
      refine L (S (P_indexAddr Tryd.underlying34 (csz_of ti_3) rfl rfl (j := i) rfl hil (p := o + i) (by omega)) ?_)
      refine L (S_load sc_3 rfl hcell ?_)
      refine L (S (P_move rfl) ?_)
      refine L (S (P_eq rfl rfl (decide_eq_false (by omega))) ?_)
      refine L_nil ?_
      refine then_n ?_
      refine C_false rfl ?_
      refine C_skip ?_
      refine blk_n ?_
      refine then_n ?_
      refine C_region ?_
      refine L (S (P_move rfl) ?_)
      refine L (S (P_add rfl rfl (wI64 (c := ((i + 1 : Nat) : Int)) (by omega))) ?_)
      refine L (S (P_assign rfl) ?_)
      refine L_nil ?_
      refine then_n ?_
      exact ⟨rfl, i + 1, .cons rfl (.cons rfl (.cons rfl (.nil _))), ⟨rfl, by omega, h1⟩, by omega⟩
  · have hn : l.drop i = [] := List.drop_eq_nil_of_le (by omega)
    rw [hn] at hinv
    rw [← hinv]
    refine C_exit ?_
    refine then_x ?_
    refine then_x ?_
    refine blk_x ?_
    refine then_n ?_
    refine C_seq ?_
    refine C_region ?_
    refine L (S (P_assign rfl) ?_)
    refine L_nil ?_
    refine then_n ?_
    refine C_ret ?_
    refine F_ret1 Tryd.results22 rfl ?_
    exact ⟨rfl, rfl⟩

def pbV (A : Option Addr) (n cap : Nat) (bud : Int) (A2 : Option Addr) (n2 c2 : Nat) : Value := .agg #[.slice A n cap, .int .i64 bud, .slice A2 n2 c2]
def pb2C (A : Option Addr) (n cap : Nat) (bud : Int) (A2 : Option Addr) (n2 c2 : Nat) : List Value := [.slice A n cap, .int .i64 bud, .slice A2 n2 c2]
variable {A1 A2 : Option Addr} {c1 c2 n2 : Nat}
theorem reffits_ret (sz : List Int) (bud : Int) (l : List Nat) (hs : SlR w A1 (sz.map iv)) (hr : Inr sz) (hl : SlR w A (l.map ni)) (hb0 : 0 ≤ bud) (hb9 : bud < 9223372036854775808) (hin : ∀ x ∈ l, x < sz.length) (hsl : sz.length ≤ 100) (hll : l.length ≤ 100) :
    Ret Tryd.prog 23 [pbV A1 sz.length c1 bud A2 n2 c2, .slice A l.length cap] w fun r w' => r = .bool (fitsL sz l bud) ∧ Mv No w w' := by
  refine F_enter Tryd.func23 Tryd.ntmps23 rfl rfl ?_
  refine C_seq ?_
  refine C_region ?_
  refine L (S_box rfl ?_)
  rintro b2 w1 hb2 hm1 hn1
  refine L (S (P_assign rfl) ?_)
  refine L_nil ?_
  refine then_n ?_
  refine C_seq ?_
  have h2 : Blk w1 b2 (pb2C A1 sz.length c1 bud A2 n2 c2) 37 := hb2
  refine C_region ?_
  refine L (S (P_fieldAddr fo_37_1 rfl) ?_)
  refine L (S_load sc_2 rfl (h2.cell (i := 1) rfl) ?_)
  refine L (S (P_assign rfl) ?_)
  refine L_nil ?_
  refine then_n ?_
  refine C_seq ?_
  refine C_seq ?_
  refine C_region ?_
  refine L (S (P_assign rfl) ?_)
  refine L_nil ?_
  refine then_n ?_
  refine C_block ?_
  refine C_loop (γ := Nat × Int) (fun q => [(1, .slice A l.length cap), (2, .pointer (some ⟨b2, 0, none⟩)), (5, .int .i64 q.2), (6, .int .i64 (q.1 : Int))]) (fun q wr => Mv No w1 wr ∧ q.1 ≤ l.length ∧ 0 ≤ q.2 ∧ q.2 < 9223372036854775808 ∧ fitsL sz (l.drop q.1) q.2 = fitsL sz l bud) (fun q => l.length - q.1) (0, bud) (.cons rfl (.cons rfl (.cons rfl (.cons rfl (.nil _))))) ⟨Mv.refl _, by omega, hb0, hb9, rfl⟩ ?_
  rintro ⟨i, left⟩ wr ⟨hmr, hi, hl0, hl9, hF⟩
  dsimp only at hi hl0 hl9 hF
  have hs1 := hs.no (hm1.no hmr.drew)
  have hl1 := hl.no (hm1.no hmr.drew)
  have h2r := h2.no hmr.drew
  dsimp only
  refine C_seq ?_
  refine C_seq ?_
  refine C_region ?_
  refine L (S (P_move rfl) ?_)
  refine L (S (P_move rfl) ?_)
  refine L (S (P_lenS Tryd.underlying34 rfl) ?_)
  refine L (S (P_lt rfl rfl rfl) ?_)
  refine L_nil ?_
  refine then_n ?_
  refine C_ifp rfl rfl (fun hlt => ?_) (fun hge => ?_)
  · have hil : i < l.length := by omega
    obtain ⟨x, hx⟩ : ∃ x, l[i]? = some x := ⟨l[i], List.getElem?_eq_getElem hil⟩
    have hxs := hin x (List.mem_of_getElem? hx)
    have hrg := hr (sz.getD x 0) (by rw [List.getD_eq_getElem?_getD, List.getElem?_eq_getElem hxs]; exact List.getElem_mem hxs)
    rw [drop_get hx] at hF
    simp only [fitsL] at hF
    obtain ⟨b, o, rfl, hrow⟩ := hl1.form (i := i) (by simpa using hil)
    have hcell : wr.drew.cell? ⟨b, o + i, none⟩ = some (.int .i64 (x : Int)) := hrow i _ (by rw [List.getElem?_map, hx]; rfl)
    obtain ⟨b', o', rfl, hrow'⟩ := hs1.form (i := x) (by simpa using hxs)
    have hcell' : wr.drew.cell? ⟨b', o' + x, none⟩ = some (.int .i64 (sz.getD x 0)) := hrow' x _ (by rw [List.getElem?_map, getD_get hxs]; rfl)
    generalize sz.getD x 0 = n at *
    have hmrd : Mv No w1 wr.drew := hmr.drew
    refine C_skip ?_
    refine then_n ?_
    refine C_seq ?_
    refine C_block ?_
    refine C_seq ?_
    refine C_cutg (γ := Unit) (fun _ => [(1, .slice (some ⟨b, o, none⟩) l.length cap), (2, .pointer (some ⟨b2, 0, none⟩)), (5, .int .i64 left), (6, .int .i64 (i : Int)), (7, .int .i64 n)]) (fun _ wc => Mv No w1 wc) ?_ ?_
    · refine C_draw 9 mixed rfl ?_
      refine A_pure (i := 0) rfl (P_fieldAddr fo_37_0 rfl) ?_ (by decide +kernel) (by decide +kernel) (by decide +kernel) (fun _ _ _ _ h => h) rfl rfl rfl
      refine A_pure (i := 2) rfl (P_move rfl) ?_ (by decide +kernel) (by decide +kernel) (by decide +kernel) (fun _ _ _ _ h => h) rfl rfl rfl
      refine A_pure (i := 3) rfl (P_move rfl) ?_ (by decide +kernel) (by decide +kernel) (by decide +kernel) (fun _ _ _ _ h => h) rfl rfl rfl
      refine A_pure (i := 4) rfl (P_indexAddr Tryd.underlying34 (csz_of ti_3) rfl rfl (j := i) rfl hil (p := o + i) (by omega)) ?_ (by decide +kernel) (by decide +kernel) (by decide +kernel) (fun _ _ _ _ h => h) rfl rfl rfl
      refine A_two (i := 1) (i2 := 5) (A_op rfl (S_load sc_22 rfl (h2r.cell (i := 0) rfl) ?_)) (A_op rfl (S_load sc_3 rfl hcell ?_)) (by decide +kernel)
      · refine A_one (i := 5) (A_op rfl (S_load sc_3 rfl hcell ?_)) (by decide +kernel)
        refine A_pure (i := 6) rfl (P_indexAddr Tryd.underlying22 (csz_of ti_2) rfl rfl (j := x) rfl hxs (p := o' + x) (by omega)) ?_ (by decide +kernel) (by decide +kernel) (by decide +kernel) (fun _ _ _ _ h => h) rfl rfl rfl
        refine A_one (i := 7) (A_op rfl (S_load sc_2 rfl hcell' ?_)) (by decide +kernel)
        refine A_pure (i := 8) rfl (P_assign rfl) ?_ (by decide +kernel) (by decide +kernel) (by decide +kernel) (fun _ _ _ _ h => h) rfl rfl rfl
        refine A_done (by decide +kernel) ?_
        refine then_n ?_
        exact ⟨rfl, (), .cons rfl (.cons rfl (.cons rfl (.cons rfl (.cons rfl (.nil _))))), hmrd⟩
      · refine A_one (i := 1) (A_op rfl (S_load sc_22 rfl (h2r.cell (i := 0) rfl) ?_)) (by decide +kernel)
        refine A_pure (i := 6) rfl (P_indexAddr Tryd.underlying22 (csz_of ti_2) rfl rfl (j := x) rfl hxs (p := o' + x) (by omega)) ?_ (by decide +kernel) (by decide +kernel) (by decide +kernel) (fun _ _ _ _ h => h) rfl rfl rfl
        refine A_one (i := 7) (A_op rfl (S_load sc_2 rfl hcell' ?_)) (by decide +kernel)
        refine A_pure (i := 8) rfl (P_assign rfl) ?_ (by decide +kernel) (by decide +kernel) (by decide +kernel) (fun _ _ _ _ h => h) rfl rfl rfl
        refine A_done (by decide +kernel) ?_
        refine then_n ?_
        exact ⟨rfl, (), .cons rfl (.cons rfl (.cons rfl (.cons rfl (.cons rfl (.nil _))))), hmrd⟩
    rintro _ wc hmc f' hf'
    refine C_forget hf' ?_
    by_cases hbad : n < 0 ∨ left < n
    · rw [if_pos hbad] at hF
      rw [← hF]
      by_cases hneg : n < 0
      · refine C_seq ?_
        refine C_seq ?_
        refine C_region ?_
        refine L (S (P_move rfl) ?_)
        refine L (S (P_lt rfl rfl (decide_eq_true hneg)) ?_)
        refine L (S (P_move rfl) ?_)
        refine L_no (j := 2) (dj := 26) (b := false) (b' := true) (d := 27) rfl ?_
        refine L_no (j := 2) (dj := 26) (b := false) (b' := true) (d := 28) rfl ?_
        refine L_no (j := 2) (dj := 26) (b := false) (b' := true) (d := 29) rfl ?_
        refine L (S (P_pickT rfl rfl) ?_)
        refine L_nil ?_
        refine then_n ?_
        refine C_true rfl ?_
        refine C_seq ?_
        refine C_region ?_
        refine L (S (P_assign rfl) ?_)
        refine L_nil ?_
        refine then_n ?_
        refine C_ret ?_
        refine then_r ?_
        refine blk_r ?_
        refine then_r ?_
        refine then_r ?_
        refine blk_r ?_
        refine then_r ?_
        refine F_ret1 Tryd.results23 rfl ?_
        exact ⟨rfl, hm1.no hmc⟩
      · refine C_seq ?_
        refine C_seq ?_
        refine C_region ?_
        refine L (S (P_move rfl) ?_)
        refine L (S (P_lt rfl rfl (decide_eq_false hneg)) ?_)
        refine L (S (P_move rfl) ?_)
        refine L_yes (j := 2) (dj := 26) (b := false) (S (P_move rfl) ?_) rfl
        refine L_yes (j := 2) (dj := 26) (b := false) (S (P_move rfl) ?_) rfl
        refine L_yes (j := 2) (dj := 26) (b := false) (S (P_gt rfl rfl (decide_eq_true (by omega))) ?_) rfl
        refine L (S (P_pickF rfl rfl) ?_)
        refine L_nil ?_
        refine then_n ?_
        refine C_true rfl ?_
        refine C_seq ?_
        refine C_region ?_
        refine L (S (P_assign rfl) ?_)
        refine L_nil ?_
        refine then_n ?_
        refine C_ret ?_
        refine then_r ?_
        refine blk_r ?_
        refine then_r ?_
        refine then_r ?_
        refine blk_r ?_
        refine then_r ?_
        refine F_ret1 Tryd.results23 rfl ?_
        exact ⟨rfl, hm1.no hmc⟩
    · rw [if_neg hbad] at hF
      refine C_seq ?_
      refine C_seq ?_
      refine C_region ?_
      refine L (S (P_move rfl) ?_)
      refine L (S (P_lt rfl rfl (decide_eq_false (by omega))) ?_)
      refine L (S (P_move rfl) ?_)
      refine L_yes (j := 2) (dj := 26) (b := false) (S (P_move rfl) ?_) rfl
      refine L_yes (j := 2) (dj := 26) (b := false) (S (P_move rfl) ?_) rfl
      refine L_yes (j := 2) (dj := 26) (b := false) (S (P_gt rfl rfl (decide_eq_false (by omega))) ?_) rfl
      refine L (S (P_pickF rfl rfl) ?_)
      refine L_nil ?_
      refine then_n ?_
      refine C_false rfl ?_
      refine C_skip ?_
      refine then_n ?_
      refine C_region ?_
      refine L (S (P_move rfl) ?_)
      refine L (S (P_move rfl) ?_)
      refine L (S (P_sub rfl rfl (wI64 (c := left - n) (by omega))) ?_)
      refine L (S (P_assign rfl) ?_)
      refine L_nil ?_
      refine blk_n ?_
      refine then_n ?_
      refine C_region ?_
      refine L (S (P_move rfl) ?_)
      refine L (S (P_add rfl rfl (wI64 (c := ((i + 1 : Nat) : Int)) (by omega))) ?_)
      refine L (S (P_assign rfl) ?_)
      refine L_nil ?_
      refine then_n ?_
      exact ⟨rfl, (i + 1, left - n), .cons rfl (.cons rfl (.cons rfl (.cons rfl (.nil _)))), ⟨hmc, by dsimp only; omega, by dsimp only; omega, by dsimp only; omega, hF⟩, by dsimp only; omega⟩
  · have hn : l.drop i = [] := List.drop_eq_nil_of_le (by omega)
    rw [hn] at hF
    simp only [fitsL] at hF
    rw [← hF]
    refine C_exit ?_
    refine then_x ?_
    refine then_x ?_
    refine blk_x ?_
    refine then_n ?_
    refine C_seq ?_
    refine C_region ?_
    refine L (S (P_assign rfl) ?_)
    refine L_nil ?_
    refine then_n ?_
    refine C_ret ?_
    refine F_ret1 Tryd.results23 rfl ?_
    exact ⟨rfl, hm1.no hmr⟩
end
end Go.Proofs.YthihhibadpbncaaDoor
