import Derived.Test.YtnoioimphcmeiaaGreatDoorSFind
namespace Go.Proofs.YtnoioimphcmeiaaGreatDoor
open Go.RowKit
set_option maxRecDepth 20000
set_option maxHeartbeats 1000000

theorem findN_any {α : Type} {p : α → Bool} {l : List α} : decide (findN p l ≥ 0) = l.any p := by
  rcases findN_cases p l with ⟨h, hb⟩ | ⟨i, a, h, ha, hp, hb⟩
  · rw [h, List.any_eq_false.2 (fun x hx => by rw [hb x hx]; decide)]; decide
  · rw [h, List.any_eq_true.2 ⟨a, List.mem_of_getElem? ha, hp⟩]; exact decide_eq_true (by omega)
theorem findN_lt {α : Type} {p : α → Bool} {l : List α} {i : Nat} {a : α} (ha : l[i]? = some a) (hp : p a = true) : decide (findN p l < (i : Int)) = (l.take i).any p := by
  rcases findN_cases p l with ⟨h, hb⟩ | ⟨j, c, h, hc, hpc, hb⟩
  · rw [hb a (List.mem_of_getElem? ha)] at hp; cases hp
  · rw [h]
    by_cases hj : j < i
    · rw [List.any_eq_true.2 ⟨c, List.mem_of_getElem? (i := j) (by rw [List.getElem?_take_of_lt hj]; exact hc), hpc⟩]
      exact decide_eq_true (by omega)
    · have e : (l.take i).any p = false := by
        rw [List.any_eq_false]
        intro x hx
        have : x ∈ l.take j := by
          rw [show l.take i = (l.take j).take i by rw [List.take_take, Nat.min_eq_left (by omega)]] at hx
          exact List.mem_of_mem_take hx
        rw [hb x this]; decide
      rw [e]; exact decide_eq_false (by omega)
/-- Why columns may not be a table's. -/
def colsG (pre : List Col) : List Col → Nat
  | [] => 0
  | c :: r => if nameB c.name = false ∨ c.ty < 1 ∨ c.ty > 3 then 7 else if pre.any (fun d => decide (d.name = c.name)) = true then 8 else colsG (pre ++ [c]) r
def colsE (l : List Col) : Nat := if l.length = 0 then 7 else if 6 < l.length then 11 else colsG [] l
/-- Why places may not be an index's. -/
def placesG (n : Nat) (pre : List Int) : List Int → Nat
  | [] => 0
  | c :: r => if c < 0 ∨ (n : Int) ≤ c then 131 else if pre.any (fun d => decide (d = c)) = true then 8 else placesG n (pre ++ [c]) r
def placesE (n : Nat) (l : List Int) : Nat := if l.length = 0 then 7 else if 3 < l.length then 11 else placesG n [] l
section
variable {w : World}
theorem name_is (hv : Vr w) {l : List UInt8} (hl : l.length ≤ 100000) {β : Bool} (hβ : nameB l = β) : Ret Tryz.prog 9 [.string (str l)] w fun v w' => v = .bool β ∧ Mv No w w' := by subst hβ; exact name_ret hv l hl
theorem refname_is (hv : Vr w) {l : List UInt8} (hl : l.length ≤ 100000) {β : Bool} (hβ : nameB l = β) : Ret Tryz.prog 10 [.string (str l)] w fun v w' => v = .bool β ∧ Mv No w w' := by subst hβ; exact refname_ret hv l hl
theorem SlR.pre {α : Type} {f : α → List Value} {m : Nat} (h : ∀ a, (f a).length = m) {A : Option Addr} {l : List α} {c : Nat} (hs : SlR w A (cellsL f l)) (hc : l.length ≤ c) (i : Nat) : SlR w (cutA A 0 m c) (cellsL f (l.take i)) := by
  have h1 := hs.cut (l := 0) (m := m) (cap := c) (by rw [cellsL_len h]; exact Nat.mul_le_mul_right m hc)
  rw [Nat.zero_mul, List.drop_zero] at h1
  have h2 := h1.take (i * m)
  rwa [cellsL_take h] at h2
theorem hasCol_ret {xs : List Col} {A : Option Addr} {c k : Nat} (hk : xs.length = k) (hA : SlR w A (cellsL colC xs)) (hl : xs.length ≤ 1000000) {fv : Value} {p : Col → Bool} (hp : FnB Tryz.prog w fv colC p) {β : Bool} (hβ : xs.any p = β) : Ret Tryz.prog 49 [.slice A k c, fv] w fun v w' => v = .bool β ∧ Mv No w w' := by
  refine F_enter Tryz.func49 Tryz.ntmps49 rfl rfl ?_
  refine C_seq ?_
  refine C_region ?_
  refine L (S (P_assign rfl) ?_)
  refine L_nil ?_
  refine then_n ?_
  refine C_seq ?_
  refine C_region ?_
  refine L (S (P_move rfl) ?_)
  refine L (S (P_move rfl) ?_)
  refine L (S_call cb_47 rfl ((ixCol_ret hk hA hl hp)) ?_)
  rintro _ w1 ⟨rfl, hm1⟩
  refine L (S (P_ge rfl rfl (findN_any.trans hβ)) ?_)
  refine L (S (P_assign rfl) ?_)
  refine L_nil ?_
  refine then_n ?_
  refine C_ret ?_
  refine F_ret1 Tryz.results49 rfl ?_
  exact ⟨rfl, hm1⟩
theorem twice_fn {b : Nat} {c : Col} (hb : Blk w b (colC c) 43) : FnB Tryz.prog w (.func (.func 50) #[] #[.pointer (some ⟨b, 0, none⟩)]) colC (fun x => decide (x.name = c.name)) := by
  refine ⟨_, [], [_], rfl, cb_50, fun w2 x hm => ?_⟩
  show Ret _ _ [.agg (colC x).toArray, .pointer (some ⟨b, 0, none⟩)] w2 _
  refine F_enter Tryz.func50 Tryz.ntmps50 rfl rfl ?_
  refine C_seq ?_
  refine C_region ?_
  refine L (S_box rfl ?_)
  rintro b1 w1 hb1 hm1 hn1
  refine L (S (P_assign rfl) ?_)
  refine L_nil ?_
  refine then_n ?_
  refine C_seq ?_
  refine C_region ?_
  refine L (S (P_fieldAddr fo_43_0 rfl) ?_)
  refine L (S_load sc_9 rfl (hb1.cell (i := 0) rfl) ?_)
  refine L (S (P_fieldAddr fo_43_0 rfl) ?_)
  refine L (S_load sc_9 rfl (((hb.no hm).no hm1).cell (i := 0) rfl) ?_)
  refine L (S (P_eqT rfl rfl str_dec) ?_)
  refine L (S (P_assign rfl) ?_)
  refine L_nil ?_
  refine then_n ?_
  refine C_ret ?_
  refine F_ret1 Tryz.results50 rfl ?_
  exact ⟨rfl, hm1⟩
theorem columns_ret (hv : Vr w) {l : List Col} {A : Option Addr} {c : Nat} (hA : SlR w A (cellsL colC l)) (hc : l.length ≤ c) (hl : l.length ≤ 1000000) (hn : ∀ x ∈ l, x.name.length ≤ 100000) : Ret Tryz.prog 23 [.slice A l.length c] w fun v w' => v = .int .i64 (colsE l : Nat) ∧ Mv No w w' := by
  unfold colsE
  refine F_enter Tryz.func23 Tryz.ntmps23 rfl rfl ?_
  by_cases h0 : l.length = 0
  · rw [if_pos h0]
    refine C_seq ?_
    refine C_region ?_
    refine L (S (P_assign rfl) ?_)
    refine L_nil ?_
    refine then_n ?_
    refine C_seq ?_
    refine C_seq ?_
    refine C_region ?_
    refine L (S (P_move rfl) ?_)
    refine L (S (P_lenS Tryz.underlying25 rfl) ?_)
    refine L (S (P_eq rfl rfl (decide_eq_true (by omega))) ?_)
    refine L_nil ?_
    refine then_n ?_
    refine C_true rfl ?_
    refine C_seq ?_
    refine C_region ?_
    refine L (S (P_assign rfl) ?_)
    refine L_nil ?_
    refine then_n ?_
    refine C_ret ?_
    refine then_r ?_
    refine F_ret1 Tryz.results23 rfl ?_
    exact ⟨rfl, Mv.refl w⟩
  rw [if_neg h0]
  by_cases h6 : 6 < l.length
  · rw [if_pos h6]
    refine C_seq ?_
    refine C_region ?_
    refine L (S (P_assign rfl) ?_)
    refine L_nil ?_
    refine then_n ?_
    refine C_seq ?_
    refine C_seq ?_
    refine C_region ?_
    refine L (S (P_move rfl) ?_)
    refine L (S (P_lenS Tryz.underlying25 rfl) ?_)
    refine L (S (P_eq rfl rfl (decide_eq_false (by omega))) ?_)
    refine L_nil ?_
    refine then_n ?_
    refine C_false rfl ?_
    refine C_skip ?_
    refine then_n ?_
    refine C_seq ?_
    refine C_seq ?_
    refine C_region ?_
    refine L (S (P_move rfl) ?_)
    refine L (S (P_lenS Tryz.underlying25 rfl) ?_)
    refine L (S (P_gt rfl rfl (decide_eq_true (by omega))) ?_)
    refine L_nil ?_
    refine then_n ?_
    refine C_true rfl ?_
    refine C_seq ?_
    refine C_region ?_
    refine L (S (P_assign rfl) ?_)
    refine L_nil ?_
    refine then_n ?_
    refine C_ret ?_
    refine then_r ?_
    refine F_ret1 Tryz.results23 rfl ?_
    exact ⟨rfl, Mv.refl w⟩
  rw [if_neg h6]
  refine C_seq ?_
  refine C_region ?_
  refine L (S (P_assign rfl) ?_)
  refine L_nil ?_
  refine then_n ?_
  refine C_seq ?_
  refine C_seq ?_
  refine C_region ?_
  refine L (S (P_move rfl) ?_)
  refine L (S (P_lenS Tryz.underlying25 rfl) ?_)
  refine L (S (P_eq rfl rfl (decide_eq_false (by omega))) ?_)
  refine L_nil ?_
  refine then_n ?_
  refine C_false rfl ?_
  refine C_skip ?_
  refine then_n ?_
  refine C_seq ?_
  refine C_seq ?_
  refine C_region ?_
  refine L (S (P_move rfl) ?_)
  refine L (S (P_lenS Tryz.underlying25 rfl) ?_)
  refine L (S (P_gt rfl rfl (decide_eq_false (by omega))) ?_)
  refine L_nil ?_
  refine then_n ?_
  refine C_false rfl ?_
  refine C_skip ?_
  refine then_n ?_
  refine C_seq ?_
  refine C_seq ?_
  refine C_region ?_
  refine L (S (P_move rfl) ?_)
  refine L (S (P_lenS Tryz.underlying25 rfl) ?_)
  refine L (S (P_move rfl) ?_)
  refine L_nil ?_
  refine then_n ?_
  refine C_block ?_
  refine C_loop (γ := Nat) (fun i => [(0, .slice A l.length c), (11, .slice A l.length c), (12, .int .i64 (l.length : Int)), (13, .int .i64 (i : Int))]) (fun i wr => Mv No w wr ∧ i ≤ l.length ∧ colsG [] l = colsG (l.take i) (l.drop i)) (fun i => l.length - i) 0 (.cons rfl (.cons rfl (.cons rfl (.cons rfl (.nil _))))) ⟨Mv.refl w, Nat.zero_le _, rfl⟩ ?_
  rintro i wr ⟨hmr, hi, hg⟩
  rw [hg]
  by_cases hlt : i < l.length
  · have ha := List.getElem?_eq_getElem hlt
    generalize l[i] = x at ha
    have hnx := hn x (List.mem_of_getElem? ha)
    have hN : ∀ {w' : World} {β : Bool}, Mv No w w' → nameB x.name = β → _ := fun {w'} {β} h hβ => name_is (β := β) (hv.no h) hnx hβ
    obtain ⟨b, o, hAe, hrr, hrow⟩ := cellsL_at colC_len (by decide) (hA.no hmr) ha
    have hpre := SlR.pre colC_len (hA.no hmr) hc i
    subst hAe
    have hgs : colsG (l.take i) (l.drop i) = if nameB x.name = false ∨ x.ty < 1 ∨ x.ty > 3 then 7 else if (l.take i).any (fun d => decide (d.name = x.name)) = true then 8 else colsG (l.take (i + 1)) (l.drop (i + 1)) := by rw [drop_at ha, take_at ha]; rfl
    refine C_seq ?_
    refine C_region ?_
    refine L (S (P_lt rfl rfl (decide_eq_true (by omega))) ?_)
    refine L_nil ?_
    refine then_n ?_
    refine C_seq ?_
    refine C_true rfl ?_
    refine C_skip ?_
    refine then_n ?_
    refine C_seq ?_
    refine C_block ?_
    refine C_seq ?_
    refine C_region ?_
    refine L (S (P_move rfl) ?_)
    refine L (S (P_indexAddr Tryz.underlying25 (csz_of ti_43) rfl rfl (j := i) rfl (by omega) (p := o + i * 3) (by omega)) ?_)
    refine L (S_loadS st_43 rfl hrow rfl ?_)
    refine L (S_alloc (zs := [(.string (ByteArray.mk #[])), (.int .i64 0), (.bool false)]) ti_43 rfl ?_)
    rintro b4 w4 hb4 hm4 hn4
    refine L (S (P_assign rfl) ?_)
    refine L (S_storeS ti_43 rfl rfl (colC_one x) rfl hb4 (by exact Nat.le_refl 3) ?_)
    rintro w5 hb5 hm5
    refine L_nil ?_
    refine then_n ?_
    refine C_seq ?_
    refine C_seq ?_
    have hb5' : Blk w5 b4 (colC x) 43 := hb5
    have hm45 : Mv No wr w5 := hm4.new hm5 hn4
    have hm05 := hmr.no hm45
    have hty : ∀ wq, Mv No w5 wq → wq.cell? ⟨b4, 1, none⟩ = some (.int .i64 x.ty) := fun wq h => (hb5'.no h).cell (i := 1) rfl
    by_cases q1 : nameB x.name = true
    rotate_left
    · have q1' : nameB x.name = false := by simpa using q1
      rw [hgs, if_pos (.inl q1')]
      refine C_region ?_
      refine L (S (P_fieldAddr fo_43_0 rfl) ?_)
      refine L (S_load sc_9 rfl (hb5'.cell (i := 0) rfl) ?_)
      refine L (S_call cb_9 rfl ((hN hm05 q1')) ?_)
      rintro _ w6 ⟨rfl, hm6⟩
      refine L (S (P_not rfl rfl) ?_)
      refine L (S (P_move rfl) ?_)
      refine L_no (j := 4) (dj := 22) (b := false) (b' := true) (d := 23) rfl ?_
      refine L_no (j := 4) (dj := 22) (b := false) (b' := true) (d := 24) rfl ?_
      refine L_no (j := 4) (dj := 22) (b := false) (b' := true) (d := 25) rfl ?_
      refine L (S (P_pickT rfl rfl) ?_)
      refine L (S (P_move rfl) ?_)
      refine L_no (j := 9) (dj := 27) (b := false) (b' := true) (d := 28) rfl ?_
      refine L_no (j := 9) (dj := 27) (b := false) (b' := true) (d := 29) rfl ?_
      refine L_no (j := 9) (dj := 27) (b := false) (b' := true) (d := 30) rfl ?_
      refine L (S (P_pickT rfl rfl) ?_)
      refine L_nil ?_
      refine then_n ?_
      refine C_true rfl ?_
      refine C_seq ?_
      refine C_region ?_
      refine L (S (P_assign rfl) ?_)
      refine L_nil ?_
      refine then_n ?_
      refine C_ret ?_
      refine then_r ?_
      refine blk_r ?_
      refine then_r ?_
      refine then_r ?_
      refine blk_r ?_
      refine then_r ?_
      refine F_ret1 Tryz.results23 rfl ?_
      exact ⟨rfl, hm05.no hm6⟩
    by_cases q2 : x.ty < 1
    · rw [hgs, if_pos (.inr (.inl q2))]
      refine C_region ?_
      refine L (S (P_fieldAddr fo_43_0 rfl) ?_)
      refine L (S_load sc_9 rfl (hb5'.cell (i := 0) rfl) ?_)
      refine L (S_call cb_9 rfl ((hN hm05 q1)) ?_)
      rintro _ w6 ⟨rfl, hm6⟩
      refine L (S (P_not rfl rfl) ?_)
      refine L (S (P_move rfl) ?_)
      refine L_yes (j := 4) (dj := 22) (b := false) (S (P_fieldAddr fo_43_1 rfl) ?_) rfl
      refine L_yes (j := 4) (dj := 22) (b := false) (S_load sc_3 rfl (hty _ hm6) ?_) rfl
      refine L_yes (j := 4) (dj := 22) (b := false) (S (P_lt rfl rfl (decide_eq_true (by omega))) ?_) rfl
      refine L (S (P_pickF rfl rfl) ?_)
      refine L (S (P_move rfl) ?_)
      refine L_no (j := 9) (dj := 27) (b := false) (b' := true) (d := 28) rfl ?_
      refine L_no (j := 9) (dj := 27) (b := false) (b' := true) (d := 29) rfl ?_
      refine L_no (j := 9) (dj := 27) (b := false) (b' := true) (d := 30) rfl ?_
      refine L (S (P_pickT rfl rfl) ?_)
      refine L_nil ?_
      refine then_n ?_
      refine C_true rfl ?_
      refine C_seq ?_
      refine C_region ?_
      refine L (S (P_assign rfl) ?_)
      refine L_nil ?_
      refine then_n ?_
      refine C_ret ?_
      refine then_r ?_
      refine blk_r ?_
      refine then_r ?_
      refine then_r ?_
      refine blk_r ?_
      refine then_r ?_
      refine F_ret1 Tryz.results23 rfl ?_
      exact ⟨rfl, hm05.no hm6⟩
    by_cases q3 : x.ty > 3
    · rw [hgs, if_pos (.inr (.inr q3))]
      refine C_region ?_
      refine L (S (P_fieldAddr fo_43_0 rfl) ?_)
      refine L (S_load sc_9 rfl (hb5'.cell (i := 0) rfl) ?_)
      refine L (S_call cb_9 rfl ((hN hm05 q1)) ?_)
      rintro _ w6 ⟨rfl, hm6⟩
      refine L (S (P_not rfl rfl) ?_)
      refine L (S (P_move rfl) ?_)
      refine L_yes (j := 4) (dj := 22) (b := false) (S (P_fieldAddr fo_43_1 rfl) ?_) rfl
      refine L_yes (j := 4) (dj := 22) (b := false) (S_load sc_3 rfl (hty _ hm6) ?_) rfl
      refine L_yes (j := 4) (dj := 22) (b := false) (S (P_lt rfl rfl (decide_eq_false (by omega))) ?_) rfl
      refine L (S (P_pickF rfl rfl) ?_)
      refine L (S (P_move rfl) ?_)
      refine L_yes (j := 9) (dj := 27) (b := false) (S (P_fieldAddr fo_43_1 rfl) ?_) rfl
      refine L_yes (j := 9) (dj := 27) (b := false) (S_load sc_3 rfl (hty _ hm6) ?_) rfl
      refine L_yes (j := 9) (dj := 27) (b := false) (S (P_gt rfl rfl (decide_eq_true (by omega))) ?_) rfl
      refine L (S (P_pickF rfl rfl) ?_)
      refine L_nil ?_
      refine then_n ?_
      refine C_true rfl ?_
      refine C_seq ?_
      refine C_region ?_
      refine L (S (P_assign rfl) ?_)
      refine L_nil ?_
      refine then_n ?_
      refine C_ret ?_
      refine then_r ?_
      refine blk_r ?_
      refine then_r ?_
      refine then_r ?_
      refine blk_r ?_
      refine then_r ?_
      refine F_ret1 Tryz.results23 rfl ?_
      exact ⟨rfl, hm05.no hm6⟩
    have hq : ¬ (nameB x.name = false ∨ x.ty < 1 ∨ x.ty > 3) := by rw [q1]; simp; omega
    rw [if_neg hq] at hgs
    have hlen : (l.take i).length = i - 0 := by rw [List.length_take]; omega
    by_cases q4 : (l.take i).any (fun d => decide (d.name = x.name)) = true
    · rw [hgs, if_pos q4]
      refine C_region ?_
      refine L (S (P_fieldAddr fo_43_0 rfl) ?_)
      refine L (S_load sc_9 rfl (hb5'.cell (i := 0) rfl) ?_)
      refine L (S_call cb_9 rfl ((hN hm05 q1)) ?_)
      rintro _ w6 ⟨rfl, hm6⟩
      refine L (S (P_not rfl rfl) ?_)
      refine L (S (P_move rfl) ?_)
      refine L_yes (j := 4) (dj := 22) (b := false) (S (P_fieldAddr fo_43_1 rfl) ?_) rfl
      refine L_yes (j := 4) (dj := 22) (b := false) (S_load sc_3 rfl (hty _ hm6) ?_) rfl
      refine L_yes (j := 4) (dj := 22) (b := false) (S (P_lt rfl rfl (decide_eq_false (by omega))) ?_) rfl
      refine L (S (P_pickF rfl rfl) ?_)
      refine L (S (P_move rfl) ?_)
      refine L_yes (j := 9) (dj := 27) (b := false) (S (P_fieldAddr fo_43_1 rfl) ?_) rfl
      refine L_yes (j := 9) (dj := 27) (b := false) (S_load sc_3 rfl (hty _ hm6) ?_) rfl
      refine L_yes (j := 9) (dj := 27) (b := false) (S (P_gt rfl rfl (decide_eq_false (by omega))) ?_) rfl
      refine L (S (P_pickF rfl rfl) ?_)
      refine L_nil ?_
      refine then_n ?_
      refine C_false rfl ?_
      refine C_skip ?_
      refine then_n ?_
      refine C_seq ?_
      refine C_region ?_
      refine L (S (P_move rfl) ?_)
      refine L (S (P_move rfl) ?_)
      refine L (S (P_slice Tryz.underlying25 (csz_of ti_43) rfl bnd_none (bnd_some (j := i) rfl rfl) (Nat.zero_le _) (by omega)) ?_)
      refine L (S (P_makeFunc rfl rfl) ?_)
      refine L (S_call cb_49 rfl ((hasCol_ret hlen ((hpre.no hm45).no hm6) (by omega) (twice_fn (hb5'.no hm6)) q4)) ?_)
      rintro _ w7 ⟨rfl, hm7⟩
      refine L_nil ?_
      refine then_n ?_
      refine C_true rfl ?_
      refine C_seq ?_
      refine C_region ?_
      refine L (S (P_assign rfl) ?_)
      refine L_nil ?_
      refine then_n ?_
      refine C_ret ?_
      refine blk_r ?_
      refine then_r ?_
      refine then_r ?_
      refine blk_r ?_
      refine then_r ?_
      refine F_ret1 Tryz.results23 rfl ?_
      exact ⟨rfl, (hm05.no hm6).no hm7⟩
    · have q4' : (l.take i).any (fun d => decide (d.name = x.name)) = false := by simpa using q4
      rw [if_neg q4] at hgs
      refine C_region ?_
      refine L (S (P_fieldAddr fo_43_0 rfl) ?_)
      refine L (S_load sc_9 rfl (hb5'.cell (i := 0) rfl) ?_)
      refine L (S_call cb_9 rfl ((hN hm05 q1)) ?_)
      rintro _ w6 ⟨rfl, hm6⟩
      refine L (S (P_not rfl rfl) ?_)
      refine L (S (P_move rfl) ?_)
      refine L_yes (j := 4) (dj := 22) (b := false) (S (P_fieldAddr fo_43_1 rfl) ?_) rfl
      refine L_yes (j := 4) (dj := 22) (b := false) (S_load sc_3 rfl (hty _ hm6) ?_) rfl
      refine L_yes (j := 4) (dj := 22) (b := false) (S (P_lt rfl rfl (decide_eq_false (by omega))) ?_) rfl
      refine L (S (P_pickF rfl rfl) ?_)
      refine L (S (P_move rfl) ?_)
      refine L_yes (j := 9) (dj := 27) (b := false) (S (P_fieldAddr fo_43_1 rfl) ?_) rfl
      refine L_yes (j := 9) (dj := 27) (b := false) (S_load sc_3 rfl (hty _ hm6) ?_) rfl
      refine L_yes (j := 9) (dj := 27) (b := false) (S (P_gt rfl rfl (decide_eq_false (by omega))) ?_) rfl
      refine L (S (P_pickF rfl rfl) ?_)
      refine L_nil ?_
      refine then_n ?_
      refine C_false rfl ?_
      refine C_skip ?_
      refine then_n ?_
      refine C_seq ?_
      refine C_region ?_
      refine L (S (P_move rfl) ?_)
      refine L (S (P_move rfl) ?_)
      refine L (S (P_slice Tryz.underlying25 (csz_of ti_43) rfl bnd_none (bnd_some (j := i) rfl rfl) (Nat.zero_le _) (by omega)) ?_)
      refine L (S (P_makeFunc rfl rfl) ?_)
      refine L (S_call cb_49 rfl ((hasCol_ret hlen ((hpre.no hm45).no hm6) (by omega) (twice_fn (hb5'.no hm6)) q4')) ?_)
      rintro _ w7 ⟨rfl, hm7⟩
      refine L_nil ?_
      refine then_n ?_
      refine C_false rfl ?_
      refine C_skip ?_
      refine blk_n ?_
      refine then_n ?_
      refine C_region ?_
      refine L (S (P_add rfl rfl (wI64 (c := ((i + 1 : Nat) : Int)) (by omega))) ?_)
      refine L (S (P_move rfl) ?_)
      refine L_nil ?_
      refine then_n ?_
      exact ⟨rfl, i + 1, (.cons rfl (.cons rfl (.cons rfl (.cons rfl (.nil _))))), ⟨(hm05.no hm6).no hm7, by omega, hgs⟩, by omega⟩
  · have e : colsG (l.take i) (l.drop i) = 0 := by rw [List.drop_eq_nil_of_le (by omega)]; rfl
    rw [e]
    refine C_seq ?_
    refine C_region ?_
    refine L (S (P_lt rfl rfl (decide_eq_false (by omega))) ?_)
    refine L_nil ?_
    refine then_n ?_
    refine C_seq ?_
    refine C_false rfl ?_
    refine C_exit ?_
    refine then_x ?_
    refine then_x ?_
    refine blk_x ?_
    refine then_n ?_
    refine C_seq ?_
    refine C_region ?_
    refine L (S (P_assign rfl) ?_)
    refine L_nil ?_
    refine then_n ?_
    refine C_ret ?_
    refine F_ret1 Tryz.results23 rfl ?_
    exact ⟨rfl, hmr⟩
end
end Go.Proofs.YtnoioimphcmeiaaGreatDoor
