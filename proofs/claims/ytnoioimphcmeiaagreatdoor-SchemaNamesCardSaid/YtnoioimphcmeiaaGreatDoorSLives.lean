import Derived.Test.YtnoioimphcmeiaaGreatDoorSPut
namespace Go.Proofs.YtnoioimphcmeiaaGreatDoor
open Go.RowKit
set_option maxRecDepth 20000
set_option maxHeartbeats 2000000

section
variable {w : World}
theorem put_ok (hv : Vr w) {s : Sch} {t : Tab} (hs : SchOk w s) (ht : TabOk w t) (hsm : SchSm s) (htm : TabSm t) (hE : tE (s.tabs.map Tab.d) t.d = 0) : Ret Tryz.prog 30 [.agg (schC s).toArray, .agg (tabC t).toArray] w fun v w' => ∃ o, v = .tuple #[.agg (schC o).toArray, .int .i64 0] ∧ SchOwn w.heap.size w' o ∧ o.tabs.map Tab.d = tPut (s.tabs.map Tab.d) t.d ∧ o.idxs.map Idx.d_ = s.idxs.map Idx.d_ ∧ Mv No w w' :=
  (put_ret hv hs ht hsm htm).mono fun v w' ⟨o, h1, h2, _, h4, h5⟩ => ⟨o, by rw [h1, hE]; rfl, h2, (h4 hE).1, (h4 hE).2, h5⟩
def livC : List Col := [⟨[120], 1, false⟩]
def livB : TD := ([98], livC, 2, 1, 0)
def livA : TD := ([97], livC, 3, 1, 0)
theorem liv_1 : tE [] livB = 0 := by decide +kernel
theorem liv_2 : tPut [] livB = [livB] := by decide +kernel
theorem liv_3 : tE [livB] livA = 0 := by decide +kernel
theorem liv_4 : tPut [livB] livA = [livA, livB] := by decide +kernel
theorem liv_5 : nameB [97] = true := by decide +kernel
theorem liv_6 : nameB [115, 101, 108, 101, 99, 116] = false := by decide +kernel
theorem lives_ret (hv : Vr w) : Ret Tryz.prog 8 [] w fun v w' => v = .bool true ∧ Mv No w w' := by
  refine F_enter Tryz.func8 Tryz.ntmps8 rfl rfl ?_
  refine C_seq ?_
  refine C_region ?_
  refine L (S (P_assign rfl) ?_)
  refine L_nil ?_
  refine then_n ?_
  refine C_seq ?_
  refine C_region ?_
  refine L (S (P_buildC (ix := [0, 1]) (l := [.const (.string (ByteArray.mk #[120])), .const (.int .i64 1)]) bi_43_0_1 rfl (by simp [Value.oneCell']) rfl) ?_)
  refine L (S_buildSliceS (l := [.tmp 6]) (vss := [colC ⟨[120], 1, false⟩]) Tryz.underlying25 ti_43 (by decide) rfl (by simp [tabC, idxC, colC]) rfl (by decide) (by decide) ?_)
  rintro b1 w1 hb1 hm1 hn1
  refine L (S (P_assign rfl) ?_)
  refine L_nil ?_
  refine then_n ?_
  refine C_seq ?_
  have hsl : ∀ {wq}, Mv No w1 wq → SlR wq (some ⟨b1, 0, none⟩) (cellsL colC livC) := fun h => .inr ⟨b1, 0, rfl, (hb1.no h).row⟩
  have hsm0 : SchSm sch0 := ⟨by decide, by decide, fun _ h => by simp [sch0] at h, fun _ h => by simp [sch0] at h⟩
  have hcn : ∀ c ∈ livC, c.name.length ≤ 1000 := by decide
  have h2 := put_ok (hv.no hm1) (s := sch0) (t := ⟨[98], livC, some ⟨b1, 0, none⟩, 1, 2, 1, 0⟩) (own0 (base := 0)).ok ⟨hsl (Mv.refl _), Nat.le_refl 1⟩ hsm0 ⟨show [98].length ≤ 1000 by decide, show livC.length ≤ 1000 by decide, hcn⟩ liv_1
  refine C_region ?_
  refine L (S (P_buildC (ix := []) (l := []) bi_37 rfl (by simp [Value.oneCell']) rfl) ?_)
  refine L (S (P_move rfl) ?_)
  refine L (S (P_buildC (ix := [0, 1, 2, 3]) (l := [.const (.string (ByteArray.mk #[98])), .tmp 10, .const (.int .i64 2), .const (.int .i64 1)]) bi_27_0_1_2_3 rfl (by simp [Value.oneCell']) rfl) ?_)
  refine L (S_call cb_30 rfl (h2) ?_)
  rintro _ w2 ⟨o1, rfl, ho1, hd1, he1, hm2⟩
  refine L (S (P_move rfl) ?_)
  refine L (S (P_extract rfl rfl) ?_)
  refine L (S (P_extract rfl rfl) ?_)
  refine L (S_alloc (zs := [(.slice none 0 0), (.slice none 0 0)]) ti_37 rfl ?_)
  rintro b3 w3 hb3 hm3 hn3
  refine L (S_storeS ti_37 rfl rfl (schC_one o1) rfl hb3 (by exact Nat.le_refl 2) ?_)
  rintro w4 hb4 hm4
  refine L (S (P_assign rfl) ?_)
  refine L_nil ?_
  refine then_n ?_
  refine C_seq ?_
  have hb4' : Blk w4 b3 (schC o1) 37 := hb4
  have hm24 : Mv No w2 w4 := hm3.new hm4 hn3
  have hd1' : o1.tabs.map Tab.d = [livB] := hd1.trans liv_2
  have hl1 : o1.tabs.length = 1 := by simpa using congrArg List.length hd1'
  have hi1 : o1.idxs = [] := by
    have h9 : o1.idxs.map Idx.d_ = [] := he1
    exact List.map_eq_nil_iff.1 h9
  have hsm1 : SchSm o1 := ⟨by omega, by rw [hi1]; decide, fun t ht => by
    have h9 : t.d ∈ o1.tabs.map Tab.d := List.mem_map_of_mem ht
    rw [hd1'] at h9
    have h8 : t.d = livB := by simpa using h9
    have e1 : t.name = [98] := congrArg (·.1) h8
    have e2 : t.cols = livC := congrArg (·.2.1) h8
    exact ⟨by rw [e1]; decide, by rw [e2]; decide, by rw [e2]; exact hcn⟩, fun t ht => by rw [hi1] at ht; simp at ht⟩
  have hm14 := hm2.no hm24
  have h3 := put_ok ((hv.no hm1).no hm14) (s := o1) (t := ⟨[97], livC, some ⟨b1, 0, none⟩, 1, 3, 1, 0⟩) (ho1.no hm24).ok ⟨hsl hm14, Nat.le_refl 1⟩ hsm1 ⟨show [97].length ≤ 1000 by decide, show livC.length ≤ 1000 by decide, hcn⟩ (by rw [hd1']; exact liv_3)
  refine C_region ?_
  refine L (S_loadS st_37 rfl hb4'.row rfl ?_)
  refine L (S (P_move rfl) ?_)
  refine L (S (P_buildC (ix := [0, 1, 2, 3]) (l := [.const (.string (ByteArray.mk #[97])), .tmp 17, .const (.int .i64 3), .const (.int .i64 1)]) bi_27_0_1_2_3 rfl (by simp [Value.oneCell']) rfl) ?_)
  refine L (S_call cb_30 rfl (h3) ?_)
  rintro _ w5 ⟨o2, rfl, ho2, hd2, he2, hm5⟩
  refine L (S (P_move rfl) ?_)
  refine L (S (P_extract rfl rfl) ?_)
  refine L (S (P_extract rfl rfl) ?_)
  refine L (S_alloc (zs := [(.slice none 0 0), (.slice none 0 0)]) ti_37 rfl ?_)
  rintro b6 w6 hb6 hm6 hn6
  refine L (S_storeS ti_37 rfl rfl (schC_one o2) rfl hb6 (by exact Nat.le_refl 2) ?_)
  rintro w7 hb7 hm7
  refine L (S (P_assign rfl) ?_)
  refine L_nil ?_
  refine then_n ?_
  refine C_seq ?_
  have hb7' : Blk w7 b6 (schC o2) 37 := hb7
  have hm57 : Mv No w5 w7 := hm6.new hm7 hn6
  have hm07 := ((hm1.no hm14).no hm5).no hm57
  rw [hd1', show Tab.d ⟨[97], livC, some ⟨b1, 0, none⟩, 1, 3, 1, 0⟩ = livA from rfl, liv_4] at hd2
  have hl2 : o2.tabs.length = 2 := by simpa using congrArg List.length hd2
  have hts : ∀ {wq}, Mv No w7 wq → SlR wq o2.A (cellsL tabC o2.tabs) := fun h => ((ho2.no hm57).no h).ok.tsl
  have hta : findN (fun x : Tab => decide (x.name = [97])) o2.tabs = 0 := by rw [tAt_map, hd2]; decide +kernel
  have htc : findN (fun x : Tab => decide (x.name = [99])) o2.tabs = -1 := by rw [tAt_map, hd2]; decide +kernel
  have hA := table_ret (s := o2) (hts (Mv.refl _)) (by omega) [97]
  have hC := fun {wq} (h : Mv No w7 wq) => table_ret (s := o2) (hts h) (by omega) [99]
  rw [hta] at hA
  rw [htc] at hC
  refine C_region ?_
  refine L (S (P_move rfl) ?_)
  refine L (S (P_eq rfl rfl (decide_eq_true rfl)) ?_)
  refine L (S (P_move rfl) ?_)
  refine L_yes (j := 2) (dj := 24) (b := true) (S (P_move rfl) ?_) rfl
  refine L_yes (j := 2) (dj := 24) (b := true) (S (P_eq rfl rfl (decide_eq_true rfl)) ?_) rfl
  refine L (S (P_pickT rfl rfl) ?_)
  refine L (S (P_move rfl) ?_)
  refine L_yes (j := 6) (dj := 28) (b := true) (S (P_fieldAddr fo_37_0 rfl) ?_) rfl
  refine L_yes (j := 6) (dj := 28) (b := true) (S_load sc_34 rfl (hb7'.cell (i := 0) rfl) ?_) rfl
  refine L_yes (j := 6) (dj := 28) (b := true) (S (P_lenS Tryz.underlying34 rfl) ?_) rfl
  refine L_yes (j := 6) (dj := 28) (b := true) (S (P_eq rfl rfl (decide_eq_true (by omega))) ?_) rfl
  refine L (S (P_pickT rfl rfl) ?_)
  refine L (S (P_move rfl) ?_)
  refine L_yes (j := 12) (dj := 34) (b := true) (S_loadS st_37 rfl hb7'.row rfl ?_) rfl
  refine L_yes (j := 12) (dj := 34) (b := true) (S_call cb_15 rfl (hA) ?_) rfl
  rintro _ w8 ⟨rfl, hm8⟩
  refine L_yes (j := 12) (dj := 34) (b := true) (S (P_eq rfl rfl (decide_eq_true rfl)) ?_) rfl
  refine L (S (P_pickT rfl rfl) ?_)
  refine L (S (P_move rfl) ?_)
  refine L_yes (j := 17) (dj := 39) (b := true) (S_loadS st_37 rfl (hb7'.no hm8).row rfl ?_) rfl
  refine L_yes (j := 17) (dj := 39) (b := true) (S_call cb_15 rfl ((hC hm8)) ?_) rfl
  rintro _ w9 ⟨rfl, hm9⟩
  refine L_yes (j := 17) (dj := 39) (b := true) (S (P_eq rfl rfl (decide_eq_true rfl)) ?_) rfl
  refine L (S (P_pickT rfl rfl) ?_)
  refine L (S (P_move rfl) ?_)
  refine L_yes (j := 22) (dj := 44) (b := true) (S_call cb_9 rfl ((name_is (((hv.no hm07).no hm8).no hm9) (by decide) liv_5)) ?_) rfl
  rintro _ w10 ⟨rfl, hm10⟩
  refine L (S (P_pickT rfl rfl) ?_)
  refine L (S (P_move rfl) ?_)
  refine L_yes (j := 25) (dj := 47) (b := true) (S_call cb_9 rfl ((name_is ((((hv.no hm07).no hm8).no hm9).no hm10) (by decide) liv_6)) ?_) rfl
  rintro _ w11 ⟨rfl, hm11⟩
  refine L_yes (j := 25) (dj := 47) (b := true) (S (P_not rfl rfl) ?_) rfl
  refine L (S (P_pickT rfl rfl) ?_)
  refine L (S (P_assign rfl) ?_)
  refine L_nil ?_
  refine then_n ?_
  refine C_ret ?_
  refine F_ret1 Tryz.results8 rfl ?_
  exact ⟨rfl, (((hm07.no hm8).no hm9).no hm10).no hm11⟩
theorem schemaNames_ret (hv : Vr w) (l : List UInt8) (hl : l.length < 9223372036854775808) : Ret Tryz.prog 3 [.string (str l)] w fun v w' => v = .bool true ∧ Mv No w w' := by
  have hsz := str_size l
  have hli := fun w' (h : Mv No w w') => lives_ret (hv.no h)
  refine F_enter Tryz.func3 Tryz.ntmps3 rfl rfl ?_
  by_cases h100 : 100 < l.length
  · refine C_seq ?_
    refine C_region ?_
    refine L (S (P_assign rfl) ?_)
    refine L_nil ?_
    refine then_n ?_
    refine C_seq ?_
    refine C_seq ?_
    refine C_region ?_
    refine L (S_call cb_8 rfl ((hli _ (Mv.refl w))) ?_)
    rintro _ w1 ⟨rfl, hm1⟩
    refine L (S (P_not rfl rfl) ?_)
    refine L (S (P_move rfl) ?_)
    refine L_yes (j := 2) (dj := 5) (b := false) (S (P_move rfl) ?_) rfl
    refine L_yes (j := 2) (dj := 5) (b := false) (S (P_lenT Tryz.underlying9 rfl) ?_) rfl
    refine L_yes (j := 2) (dj := 5) (b := false) (S (P_gt rfl rfl (decide_eq_true (by omega))) ?_) rfl
    refine L (S (P_pickF rfl rfl) ?_)
    refine L_nil ?_
    refine then_n ?_
    refine C_true rfl ?_
    refine C_seq ?_
    refine C_region ?_
    refine L (S_call cb_8 rfl ((hli _ hm1)) ?_)
    rintro _ w2 ⟨rfl, hm2⟩
    refine L (S (P_assign rfl) ?_)
    refine L_nil ?_
    refine then_n ?_
    refine C_ret ?_
    refine then_r ?_
    refine F_ret1 Tryz.results3 rfl ?_
    exact ⟨rfl, hm1.no hm2⟩
  · refine C_seq ?_
    refine C_region ?_
    refine L (S (P_assign rfl) ?_)
    refine L_nil ?_
    refine then_n ?_
    refine C_seq ?_
    refine C_seq ?_
    refine C_region ?_
    refine L (S_call cb_8 rfl ((hli _ (Mv.refl w))) ?_)
    rintro _ w1 ⟨rfl, hm1⟩
    refine L (S (P_not rfl rfl) ?_)
    refine L (S (P_move rfl) ?_)
    refine L_yes (j := 2) (dj := 5) (b := false) (S (P_move rfl) ?_) rfl
    refine L_yes (j := 2) (dj := 5) (b := false) (S (P_lenT Tryz.underlying9 rfl) ?_) rfl
    refine L_yes (j := 2) (dj := 5) (b := false) (S (P_gt rfl rfl (decide_eq_false (by omega))) ?_) rfl
    refine L (S (P_pickF rfl rfl) ?_)
    refine L_nil ?_
    refine then_n ?_
    refine C_false rfl ?_
    refine C_skip ?_
    refine then_n ?_
    refine C_seq ?_
    refine C_region ?_
    refine L (S (P_move rfl) ?_)
    refine L (S_call cb_9 rfl ((name_ret (hv.no hm1) l (by omega))) ?_)
    rintro _ w2 ⟨rfl, hm2⟩
    refine L (S (P_move rfl) ?_)
    refine L (S_call cb_10 rfl ((refname_ret ((hv.no hm1).no hm2) l (by omega))) ?_)
    rintro _ w3 ⟨rfl, hm3⟩
    refine L (S (P_eqB (β := true) Tryz.underlying4 rfl rfl (by simp)) ?_)
    refine L (S (P_assign rfl) ?_)
    refine L_nil ?_
    refine then_n ?_
    refine C_ret ?_
    refine F_ret1 Tryz.results3 rfl ?_
    exact ⟨rfl, (hm1.no hm2).no hm3⟩
end
end Go.Proofs.YtnoioimphcmeiaaGreatDoor
