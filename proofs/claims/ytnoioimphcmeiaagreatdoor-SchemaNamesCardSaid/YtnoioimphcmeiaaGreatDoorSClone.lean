import Derived.Test.YtnoioimphcmeiaaGreatDoorSOps
namespace Go.Proofs.YtnoioimphcmeiaaGreatDoor
open Go.RowKit
set_option maxRecDepth 20000
set_option maxHeartbeats 1000000

theorem cellsL_ones {α : Type} {f : α → List Value} (h : ∀ a, ∀ v ∈ f a, v.oneCell' = true) (l : List α) : ∀ v ∈ cellsL f l, v.oneCell' = true := fun v hv => by
  obtain ⟨a, _, ha⟩ := List.mem_flatMap.1 hv
  exact h a v ha
theorem intC_one (c : Int) : ∀ v ∈ intC c, v.oneCell' = true := by simp [intC, Value.oneCell']
theorem cellsL_nil {α : Type} {f : α → List Value} {m : Nat} (h : ∀ a, (f a).length = m) (hm : 0 < m) {l : List α} (he : cellsL f l = []) : l = [] := by
  have h1 := cellsL_len h l
  rw [he] at h1
  have h2 : l.length * m = 0 := h1.symm
  rcases Nat.mul_eq_zero.1 h2 with h3 | h3
  · exact List.eq_nil_of_length_eq_zero h3
  · omega
/-- What a table says, wherever its columns lie. -/
def Tab.d (t : Tab) : List UInt8 × List Col × Int × Int × Int := (t.name, t.cols, t.root, t.next, t.rows)
def Idx.d_ (t : Idx) : List UInt8 × List UInt8 × List Int × Int × Int × Int := (t.name, t.table, t.cols, t.state, t.root, t.cursor)
/-- A table whose columns are of the call's own. -/
def TabOwn (base : Nat) (w : World) (t : Tab) : Prop := w.ownsRow base 43 3 (.slice t.A t.cols.length t.cap) t.cols.length (cellsL colC t.cols)
def IdxOwn (base : Nat) (w : World) (t : Idx) : Prop := w.ownsRow base 3 1 (.slice t.A t.cols.length t.cap) t.cols.length (cellsL intC t.cols)
structure SchOwn (base : Nat) (w : World) (s : Sch) : Prop where
  tsl : w.ownsRow base 27 5 (.slice s.A s.tabs.length s.c) s.tabs.length (cellsL tabC s.tabs)
  tab : ∀ t ∈ s.tabs, TabOwn base w t
  isl : w.ownsRow base 30 6 (.slice s.B s.idxs.length s.d) s.idxs.length (cellsL idxC s.idxs)
  idx : ∀ t ∈ s.idxs, IdxOwn base w t
theorem own_slr {w : World} {base : Nat} {e : TypeId} {m n c : Nat} {A : Option Addr} {xs : List Value} (h : w.ownsRow base e m (.slice A n c) n xs) : SlR w A xs ∧ n ≤ c := by
  obtain ⟨A', c', he, h1, h2, _⟩ := own_reads h
  cases he
  exact ⟨h1, h2⟩
theorem TabOwn.ok {base : Nat} {w : World} {t : Tab} (h : TabOwn base w t) : TabOk w t := ⟨(own_slr h).1, (own_slr h).2⟩
theorem IdxOwn.ok {base : Nat} {w : World} {t : Idx} (h : IdxOwn base w t) : IdxOk w t := ⟨(own_slr h).1, (own_slr h).2⟩
theorem SchOwn.ok {base : Nat} {w : World} {s : Sch} (h : SchOwn base w s) : SchOk w s := ⟨(own_slr h.tsl).1, (own_slr h.tsl).2, fun t ht => (h.tab t ht).ok, (own_slr h.isl).1, (own_slr h.isl).2, fun t ht => (h.idx t ht).ok⟩
theorem SchOwn.no {base : Nat} {w w' : World} {s : Sch} (h : SchOwn base w s) (hm : Mv No w w') : SchOwn base w' s := ⟨own_no h.tsl hm, fun t ht => own_no (h.tab t ht) hm, own_no h.isl hm, fun t ht => own_no (h.idx t ht) hm⟩
theorem SchOwn.down {base base' : Nat} {w : World} {s : Sch} (h : SchOwn base w s) (hb : base' ≤ base) : SchOwn base' w s := ⟨own_base h.tsl hb, fun t ht => own_base (h.tab t ht) hb, own_base h.isl hb, fun t ht => own_base (h.idx t ht) hb⟩
section
variable {w : World}
theorem cloneCol_ret {l : List Col} {A : Option Addr} {c k : Nat} (hk : l.length = k) (hA : SlR w A (cellsL colC l)) (hl : l.length ≤ 1000000) : Ret Tryz.prog 75 [.slice A k c] w fun v w' => ∃ A' c', v = .slice A' k c' ∧ w'.ownsRow w.heap.size 43 3 (.slice A' k c') k (cellsL colC l) ∧ Mv No w w' := by
  subst hk
  have hlen := cellsL_len colC_len l
  refine F_enter Tryz.func75 Tryz.ntmps75 rfl rfl ?_
  cases A with
  | none =>
    have h0 : l = [] := by
      rcases hA with h | ⟨_, _, h, _⟩
      · exact cellsL_nil colC_len (by decide) h
      · cases h
    subst h0
    refine C_seq ?_
    refine C_region ?_
    refine L (S (P_assign rfl) ?_)
    refine L_nil ?_
    refine then_n ?_
    refine C_seq ?_
    refine C_seq ?_
    refine C_region ?_
    refine L (S (P_move rfl) ?_)
    refine L (S (P_eqSlN Tryz.underlying25 rfl rfl) ?_)
    refine L_nil ?_
    refine then_n ?_
    refine C_true rfl ?_
    refine C_seq ?_
    refine C_region ?_
    refine L (S (P_assign rfl) ?_)
    refine L_nil ?_
    refine then_n ?_
    refine C_ret ?_
    refine then_r ?_
    refine F_ret1 Tryz.results75 rfl ?_
    exact ⟨none, 0, rfl, own_nil, Mv.refl w⟩
  | some ad =>
    refine C_seq ?_
    refine C_region ?_
    refine L (S (P_assign rfl) ?_)
    refine L_nil ?_
    refine then_n ?_
    refine C_seq ?_
    refine C_seq ?_
    refine C_region ?_
    refine L (S (P_move rfl) ?_)
    refine L (S (P_eqSlN Tryz.underlying25 rfl rfl) ?_)
    refine L_nil ?_
    refine then_n ?_
    refine C_false rfl ?_
    refine C_skip ?_
    refine then_n ?_
    refine C_seq ?_
    refine C_region ?_
    refine L (S_buildSlice0 Tryz.underlying25 ti_43 ?_)
    rintro b5 w5 ho5 hm5 hn5
    refine L (S (P_move rfl) ?_)
    refine L (S_appendV Tryz.underlying25 ti_43 rfl (by decide) rfl ho5 rfl (hA.no hm5) hlen (cellsL_ones colC_one l) (Nat.le_of_lt (Nat.lt_of_le_of_lt hn5 (own_lt ho5 rfl).2)) (by unfold maxLen; omega) (by omega) ?_)
    rintro A7 c7 w7 ho7 hm7
    refine L (S (P_assign rfl) ?_)
    refine L_nil ?_
    refine then_n ?_
    refine C_ret ?_
    refine F_ret1 Tryz.results75 rfl ?_
    rw [Nat.zero_add, List.nil_append] at ho7
    exact ⟨A7, c7, by rw [Nat.zero_add], ho7, hm5.own hm7 ho5 (Nat.le_refl _)⟩
theorem cloneInt_ret {l : List Int} {A : Option Addr} {c k : Nat} (hk : l.length = k) (hA : SlR w A (cellsL intC l)) (hl : l.length ≤ 1000000) : Ret Tryz.prog 76 [.slice A k c] w fun v w' => ∃ A' c', v = .slice A' k c' ∧ w'.ownsRow w.heap.size 3 1 (.slice A' k c') k (cellsL intC l) ∧ Mv No w w' := by
  subst hk
  have hlen := cellsL_len intC_len l
  refine F_enter Tryz.func76 Tryz.ntmps76 rfl rfl ?_
  cases A with
  | none =>
    have h0 : l = [] := by
      rcases hA with h | ⟨_, _, h, _⟩
      · exact cellsL_nil intC_len (by decide) h
      · cases h
    subst h0
    refine C_seq ?_
    refine C_region ?_
    refine L (S (P_assign rfl) ?_)
    refine L_nil ?_
    refine then_n ?_
    refine C_seq ?_
    refine C_seq ?_
    refine C_region ?_
    refine L (S (P_move rfl) ?_)
    refine L (S (P_eqSlN Tryz.underlying28 rfl rfl) ?_)
    refine L_nil ?_
    refine then_n ?_
    refine C_true rfl ?_
    refine C_seq ?_
    refine C_region ?_
    refine L (S (P_assign rfl) ?_)
    refine L_nil ?_
    refine then_n ?_
    refine C_ret ?_
    refine then_r ?_
    refine F_ret1 Tryz.results76 rfl ?_
    exact ⟨none, 0, rfl, own_nil, Mv.refl w⟩
  | some ad =>
    refine C_seq ?_
    refine C_region ?_
    refine L (S (P_assign rfl) ?_)
    refine L_nil ?_
    refine then_n ?_
    refine C_seq ?_
    refine C_seq ?_
    refine C_region ?_
    refine L (S (P_move rfl) ?_)
    refine L (S (P_eqSlN Tryz.underlying28 rfl rfl) ?_)
    refine L_nil ?_
    refine then_n ?_
    refine C_false rfl ?_
    refine C_skip ?_
    refine then_n ?_
    refine C_seq ?_
    refine C_region ?_
    refine L (S_buildSlice0 Tryz.underlying28 ti_3 ?_)
    rintro b5 w5 ho5 hm5 hn5
    refine L (S (P_move rfl) ?_)
    refine L (S_appendV Tryz.underlying28 ti_3 rfl (by decide) rfl ho5 rfl (hA.no hm5) hlen (cellsL_ones intC_one l) (Nat.le_of_lt (Nat.lt_of_le_of_lt hn5 (own_lt ho5 rfl).2)) (by unfold maxLen; omega) (by omega) ?_)
    rintro A7 c7 w7 ho7 hm7
    refine L (S (P_assign rfl) ?_)
    refine L_nil ?_
    refine then_n ?_
    refine C_ret ?_
    refine F_ret1 Tryz.results76 rfl ?_
    rw [Nat.zero_add, List.nil_append] at ho7
    exact ⟨A7, c7, by rw [Nat.zero_add], ho7, hm5.own hm7 ho5 (Nat.le_refl _)⟩
theorem clone_ret {t : Tab} (ht : TabOk w t) (hl : t.cols.length ≤ 1000000) : Ret Tryz.prog 40 [.agg (tabC t).toArray] w fun v w' => ∃ A c, v = .agg (tabC { t with A := A, cap := c }).toArray ∧ TabOwn w.heap.size w' { t with A := A, cap := c } ∧ Mv No w w' := by
  refine F_enter Tryz.func40 Tryz.ntmps40 rfl rfl ?_
  refine C_seq ?_
  refine C_region ?_
  refine L (S_box rfl ?_)
  rintro b1 w1 hb1 hm1 hn1
  refine L (S_alloc (zs := [(.string (ByteArray.mk #[])), (.slice none 0 0), (.int .i64 0), (.int .i64 0), (.int .i64 0)]) ti_27 rfl ?_)
  rintro b2 w2 hb2 hm2 hn2
  refine L_nil ?_
  refine then_n ?_
  refine C_seq ?_
  refine C_region ?_
  refine L (S (P_fieldAddr fo_27_1 rfl) ?_)
  refine L (S_load sc_25 rfl ((hb1.no hm2).cell (i := 1) rfl) ?_)
  refine L (S_call cb_75 rfl ((cloneCol_ret rfl ((ht.sl.no hm1).no hm2) hl)) ?_)
  rintro _ w3 ⟨A, c, rfl, ho3, hm3⟩
  refine L (S (P_fieldAddr fo_27_1 rfl) ?_)
  refine L (S_store ti_25 rfl rfl rfl ((hb1.no hm2).no hm3) (by show 1 < 5; decide) ?_)
  rintro w4 hb4 hm4
  refine L_nil ?_
  refine then_n ?_
  refine C_seq ?_
  refine C_region ?_
  refine L (S_loadS st_27 rfl hb4.row rfl ?_)
  refine L (S_storeS ti_27 rfl rfl (tabC_one { t with A := A, cap := c }) rfl (((hb2.no hm3).ne hm4 (by have := hb1.lt; omega))) (by exact Nat.le_refl 5) ?_)
  rintro w5 hb5 hm5
  refine L_nil ?_
  refine then_n ?_
  refine C_ret ?_
  have hb5' : Blk w5 b2 (tabC { t with A := A, cap := c }) 27 := hb5
  have hbl := hb1.lt
  have hs12 := hm1.size
  have hs2 := hm2.size
  have hm12 := hm1.no hm2
  have ho5 : TabOwn w.heap.size w5 { t with A := A, cap := c } := own_base (own_mv (own_mv ho3 hm4 (fun k hk hk2 => by have := (own_lt ho3 hk).1; unfold At at hk2; omega)) hm5 (fun k hk hk2 => by have := (own_lt ho3 hk).1; have := hb2.lt; unfold At at hk2; omega)) hm12.size
  refine F_ret (rs := [.cell 2 27]) [.agg (tabC { t with A := A, cap := c }).toArray] Tryz.results40 ?_ ?_
  · exact ⟨⟨_, rfl, run_loadVar_struct st_27 hb5'.row rfl⟩, trivial⟩
  exact ⟨A, c, rfl, ho5, ((hm12.no hm3).new hm4 hn1).new hm5 (Nat.le_trans hs12 hn2)⟩
theorem cloneIdx_ret {t : Idx} (ht : IdxOk w t) (hl : t.cols.length ≤ 1000000) : Ret Tryz.prog 41 [.agg (idxC t).toArray] w fun v w' => ∃ A c, v = .agg (idxC { t with A := A, cap := c }).toArray ∧ IdxOwn w.heap.size w' { t with A := A, cap := c } ∧ Mv No w w' := by
  refine F_enter Tryz.func41 Tryz.ntmps41 rfl rfl ?_
  refine C_seq ?_
  refine C_region ?_
  refine L (S_box rfl ?_)
  rintro b1 w1 hb1 hm1 hn1
  refine L (S_alloc (zs := [(.string (ByteArray.mk #[])), (.string (ByteArray.mk #[])), (.slice none 0 0), (.int .i64 0), (.int .i64 0), (.int .i64 0)]) ti_30 rfl ?_)
  rintro b2 w2 hb2 hm2 hn2
  refine L_nil ?_
  refine then_n ?_
  refine C_seq ?_
  refine C_region ?_
  refine L (S (P_fieldAddr fo_30_2 rfl) ?_)
  refine L (S_load sc_28 rfl ((hb1.no hm2).cell (i := 2) rfl) ?_)
  refine L (S_call cb_76 rfl ((cloneInt_ret rfl ((ht.sl.no hm1).no hm2) hl)) ?_)
  rintro _ w3 ⟨A, c, rfl, ho3, hm3⟩
  refine L (S (P_fieldAddr fo_30_2 rfl) ?_)
  refine L (S_store ti_28 rfl rfl rfl ((hb1.no hm2).no hm3) (by show 2 < 6; decide) ?_)
  rintro w4 hb4 hm4
  refine L_nil ?_
  refine then_n ?_
  refine C_seq ?_
  refine C_region ?_
  refine L (S_loadS st_30 rfl hb4.row rfl ?_)
  refine L (S_storeS ti_30 rfl rfl (idxC_one { t with A := A, cap := c }) rfl (((hb2.no hm3).ne hm4 (by have := hb1.lt; omega))) (by exact Nat.le_refl 6) ?_)
  rintro w5 hb5 hm5
  refine L_nil ?_
  refine then_n ?_
  refine C_ret ?_
  have hb5' : Blk w5 b2 (idxC { t with A := A, cap := c }) 30 := hb5
  have hbl := hb1.lt
  have hs12 := hm1.size
  have hs2 := hm2.size
  have hm12 := hm1.no hm2
  have ho5 : IdxOwn w.heap.size w5 { t with A := A, cap := c } := own_base (own_mv (own_mv ho3 hm4 (fun k hk hk2 => by have := (own_lt ho3 hk).1; unfold At at hk2; omega)) hm5 (fun k hk hk2 => by have := (own_lt ho3 hk).1; have := hb2.lt; unfold At at hk2; omega)) hm12.size
  refine F_ret (rs := [.cell 2 30]) [.agg (idxC { t with A := A, cap := c }).toArray] Tryz.results41 ?_ ?_
  · exact ⟨⟨_, rfl, run_loadVar_struct st_30 hb5'.row rfl⟩, trivial⟩
  exact ⟨A, c, rfl, ho5, ((hm12.no hm3).new hm4 hn1).new hm5 (Nat.le_trans hs12 hn2)⟩
end
end Go.Proofs.YtnoioimphcmeiaaGreatDoor
