/- Texts of this claim, joined by a program: SLives, SDo, SSmall, SPlays, SAny, RowOp. -/
import Derived.Test.YtnoioimphcmeiaaGreatDoorK5
set_option linter.unusedVariables false
set_option linter.unusedSimpArgs false
namespace Go.Proofs.YtnoioimphcmeiaaGreatDoor
open Go.RowKit
set_option maxRecDepth 20000
set_option maxHeartbeats 2000000

section
variable {w : World}
theorem put_ok (hv : Vr w) {s : Sch} {t : Tab} (hs : SchOk w s) (ht : TabOk w t) (hsm : SchSm s) (htm : TabSm t) (hE : tE (s.tabs.map Tab.d) t.d = 0) : Ret Tryz.prog 30 [.agg (zM s).toArray, .agg (yA t).toArray] w fun v w' => ∃ o, v = .tuple #[.agg (zM o).toArray, .int .i64 0] ∧ SchOwn w.heap.size w' o ∧ o.tabs.map Tab.d = tPut (s.tabs.map Tab.d) t.d ∧ o.idxs.map Idx.d_ = s.idxs.map Idx.d_ ∧ Mv No w w' :=
  (put_ret hv hs ht hsm htm).mono fun v w' ⟨o, h1, h2, _, h4, h5⟩ => ⟨o, by rw [h1, hE]; rfl, h2, (h4 hE).1, (h4 hE).2, h5⟩
def livC : List Col := [⟨[120], 1, false⟩]
def livB : TD := ([98], livC, 2, 1, 0)
def livA : TD := ([97], livC, 3, 1, 0)
theorem liv_1 : tE [] livB = 0 := by decide +kernel
theorem liv_2 : tPut [] livB = [livB] := by decide +kernel
theorem liv_3 : tE [livB] livA = 0 := by decide +kernel
theorem liv_4 : tPut [livB] livA = [livA, livB] := by decide +kernel
theorem liv_5 : ZD [97] = true := by decide +kernel
theorem liv_6 : ZD [115, 101, 108, 101, 99, 116] = false := by decide +kernel
theorem lives_ret (hv : Vr w) : Ret Tryz.prog 8 [] w fun v w' => v = .bool true ∧ Mv No w w' := by
  refine zN Tryz.func8 Tryz.ntmps8 rfl rfl ?_
  refine zf (zb (L (S (zd rfl) (zg (zc (zf (zb ?_)))))))
  refine L (S (zW (ix := [0, 1]) (l := [.const (.string (ByteArray.mk #[120])), .const (.int .i64 1)]) bi_43_0_1 rfl (by simp [Value.oneCell']) rfl) ?_)
  refine L (zU (l := [.tmp 6]) (vss := [Zt ⟨[120], 1, false⟩]) Tryz.underlying25 ZM (by decide) rfl (by simp [yA, yq, Zt]) rfl (by decide) (by decide) ?_)
  rintro b1 w1 hb1 hm1 hn1
  refine L (S (zd rfl) (zg (zc (zf ?_))))
  have hsl : ∀ {wq}, Mv No w1 wq → SlR wq (some ⟨b1, 0, none⟩) (zI Zt livC) := fun h => .inr ⟨b1, 0, rfl, (hb1.no h).row⟩
  have hsm0 : SchSm zX := ⟨by decide, by decide, fun _ h => by simp [zX] at h, fun _ h => by simp [zX] at h⟩
  have hcn : ∀ c ∈ livC, c.name.length ≤ 1000 := by decide
  have h2 := put_ok (hv.no hm1) (s := zX) (t := ⟨[98], livC, some ⟨b1, 0, none⟩, 1, 2, 1, 0⟩) (Z1 (base := 0)).ok ⟨hsl (Mv.refl _), Nat.le_refl 1⟩ hsm0 ⟨show [98].length ≤ 1000 by decide, show livC.length ≤ 1000 by decide, hcn⟩ liv_1
  refine zb ?_
  refine L (S (zW (ix := []) (l := []) Zq rfl (by simp [Value.oneCell']) rfl) ?_)
  refine L (S (za rfl) ?_)
  refine L (S (zW (ix := [0, 1, 2, 3]) (l := [.const (.string (ByteArray.mk #[98])), .tmp 10, .const (.int .i64 2), .const (.int .i64 1)]) bi_27_0_1_2_3 rfl (by simp [Value.oneCell']) rfl) ?_)
  refine L (zq cb_30 rfl (h2) ?_)
  rintro _ w2 ⟨o1, rfl, ho1, hd1, he1, hm2⟩
  refine L (S (za rfl) (L (S (zv rfl rfl) (L (S (zv rfl rfl) ?_)))))
  refine L (ye (zs := [(.slice none 0 0), (.slice none 0 0)]) z6 rfl ?_)
  rintro b3 w3 hb3 hm3 hn3
  refine L (zw z6 rfl rfl (zJ o1) rfl hb3 (by exact Nat.le_refl 2) ?_)
  rintro w4 hb4 hm4
  refine L (S (zd rfl) (zg (zc (zf ?_))))
  have hb4' : Blk w4 b3 (zM o1) 37 := hb4
  have hm24 : Mv No w2 w4 := hm3.new hm4 hn3
  have hd1' : o1.tabs.map Tab.d = [livB] := hd1.trans liv_2
  have hl1 : o1.tabs.length = 1 := by simpa using congrArg List.length hd1'
  have hi1 : o1.idxs = [] := by
    have h9 : o1.idxs.map Idx.d_ = [] := he1
    exact List.map_eq_nil_iff.1 h9
  have hsm1 : SchSm o1 := ⟨by omega, by rw [hi1]; decide, fun t ht => by
    have h9 : t.d ∈ o1.tabs.map Tab.d := List.mem_map_of_mem ht
    rw [hd1'] at h9
    have h8 : t.d = livB := by simpa using h9
    have e1 : t.name = [98] := congrArg (·.1) h8
    have e2 : t.cols = livC := congrArg (·.2.1) h8
    exact ⟨by rw [e1]; decide, by rw [e2]; decide, by rw [e2]; exact hcn⟩, fun t ht => by rw [hi1] at ht; simp at ht⟩
  have hm14 := hm2.no hm24
  have h3 := put_ok ((hv.no hm1).no hm14) (s := o1) (t := ⟨[97], livC, some ⟨b1, 0, none⟩, 1, 3, 1, 0⟩) (ho1.no hm24).ok ⟨hsl hm14, Nat.le_refl 1⟩ hsm1 ⟨show [97].length ≤ 1000 by decide, show livC.length ≤ 1000 by decide, hcn⟩ (by rw [hd1']; exact liv_3)
  refine zb ?_
  refine L (zB zZ rfl hb4'.row rfl ?_)
  refine L (S (za rfl) ?_)
  refine L (S (zW (ix := [0, 1, 2, 3]) (l := [.const (.string (ByteArray.mk #[97])), .tmp 17, .const (.int .i64 3), .const (.int .i64 1)]) bi_27_0_1_2_3 rfl (by simp [Value.oneCell']) rfl) ?_)
  refine L (zq cb_30 rfl (h3) ?_)
  rintro _ w5 ⟨o2, rfl, ho2, hd2, he2, hm5⟩
  refine L (S (za rfl) (L (S (zv rfl rfl) (L (S (zv rfl rfl) ?_)))))
  refine L (ye (zs := [(.slice none 0 0), (.slice none 0 0)]) z6 rfl ?_)
  rintro b6 w6 hb6 hm6 hn6
  refine L (zw z6 rfl rfl (zJ o2) rfl hb6 (by exact Nat.le_refl 2) ?_)
  rintro w7 hb7 hm7
  refine L (S (zd rfl) (zg (zc (zf ?_))))
  have hb7' : Blk w7 b6 (zM o2) 37 := hb7
  have hm57 : Mv No w5 w7 := hm6.new hm7 hn6
  have hm07 := ((hm1.no hm14).no hm5).no hm57
  rw [hd1', show Tab.d ⟨[97], livC, some ⟨b1, 0, none⟩, 1, 3, 1, 0⟩ = livA from rfl, liv_4] at hd2
  have hl2 : o2.tabs.length = 2 := by simpa using congrArg List.length hd2
  have hts : ∀ {wq}, Mv No w7 wq → SlR wq o2.A (zI yA o2.tabs) := fun h => ((ho2.no hm57).no h).ok.tsl
  have hta : Z0 (fun x : Tab => decide (x.name = [97])) o2.tabs = 0 := by rw [tAt_map, hd2]; decide +kernel
  have htc : Z0 (fun x : Tab => decide (x.name = [99])) o2.tabs = -1 := by rw [tAt_map, hd2]; decide +kernel
  have hA := table_ret (s := o2) (hts (Mv.refl _)) (by omega) [97]
  have hC := fun {wq} (h : Mv No w7 wq) => table_ret (s := o2) (hts h) (by omega) [99]
  rw [hta] at hA
  rw [htc] at hC
  refine zb (L (S (za rfl) ?_))
  refine L (S (zR rfl rfl (decide_eq_true rfl)) ?_)
  refine L (S (za rfl) (zh (j := 2) (dj := 24) (b := true) (S (za rfl) ?_) rfl))
  refine zh (j := 2) (dj := 24) (b := true) (S (zR rfl rfl (decide_eq_true rfl)) ?_) rfl
  refine L (S (zt rfl rfl) (L (S (za rfl) (zh (j := 6) (dj := 28) (b := true) (S (ze yg rfl) ?_) rfl))))
  refine zh (j := 6) (dj := 28) (b := true) (zi yX rfl (hb7'.cell (i := 0) rfl) ?_) rfl
  refine zh (j := 6) (dj := 28) (b := true) (S (zH Tryz.underlying34 rfl) ?_) rfl
  refine zh (j := 6) (dj := 28) (b := true) (S (zR rfl rfl (decide_eq_true (by omega))) ?_) rfl
  refine L (S (zt rfl rfl) (L (S (za rfl) ?_)))
  refine zh (j := 12) (dj := 34) (b := true) (zB zZ rfl hb7'.row rfl ?_) rfl
  refine zh (j := 12) (dj := 34) (b := true) (zq cb_15 rfl (hA) ?_) rfl
  rintro _ w8 ⟨rfl, hm8⟩
  refine zh (j := 12) (dj := 34) (b := true) (S (zR rfl rfl (decide_eq_true rfl)) ?_) rfl
  refine L (S (zt rfl rfl) (L (S (za rfl) ?_)))
  refine zh (j := 17) (dj := 39) (b := true) (zB zZ rfl (hb7'.no hm8).row rfl ?_) rfl
  refine zh (j := 17) (dj := 39) (b := true) (zq cb_15 rfl ((hC hm8)) ?_) rfl
  rintro _ w9 ⟨rfl, hm9⟩
  refine zh (j := 17) (dj := 39) (b := true) (S (zR rfl rfl (decide_eq_true rfl)) ?_) rfl
  refine L (S (zt rfl rfl) (L (S (za rfl) ?_)))
  refine zh (j := 22) (dj := 44) (b := true) (zq Yz rfl ((name_is (((hv.no hm07).no hm8).no hm9) (by decide) liv_5)) ?_) rfl
  rintro _ w10 ⟨rfl, hm10⟩
  refine L (S (zt rfl rfl) (L (S (za rfl) ?_)))
  refine zh (j := 25) (dj := 47) (b := true) (zq Yz rfl ((name_is ((((hv.no hm07).no hm8).no hm9).no hm10) (by decide) liv_6)) ?_) rfl
  rintro _ w11 ⟨rfl, hm11⟩
  refine zh (j := 25) (dj := 47) (b := true) (S (yu rfl rfl) (L (S (zt rfl rfl) (L (S (zd rfl) (zg (zc (zy ?_)))))))) rfl
  refine zC Tryz.results8 rfl ?_
  exact ⟨rfl, (((hm07.no hm8).no hm9).no hm10).no hm11⟩
theorem schemaNames_ret (hv : Vr w) (l : List UInt8) (hl : l.length < 9223372036854775808) : Ret Tryz.prog 3 [.string (str l)] w fun v w' => v = .bool true ∧ Mv No w w' := by
  have hsz := yR l
  have hli := fun w' (h : Mv No w w') => lives_ret (hv.no h)
  refine zN Tryz.func3 Tryz.ntmps3 rfl rfl ?_
  by_cases h100 : 100 < l.length
  · refine zf (zb (L (S (zd rfl) (zg (zc (zf (zf (zb ?_))))))))
    refine L (zq cb_8 rfl ((hli _ (Mv.refl w))) ?_)
    rintro _ w1 ⟨rfl, hm1⟩
    refine L (S (yu rfl rfl) (L (S (za rfl) (zh (j := 2) (dj := 5) (b := false) (S (za rfl) ?_) rfl))))
    refine zh (j := 2) (dj := 5) (b := false) (S (yi Tryz.underlying9 rfl) ?_) rfl
    refine zh (j := 2) (dj := 5) (b := false) (S (yp rfl rfl (decide_eq_true (by omega))) ?_) rfl
    refine L (S (zj rfl rfl) (zg (zc (zr rfl (zf (zb ?_))))))
    refine L (zq cb_8 rfl ((hli _ hm1)) ?_)
    rintro _ w2 ⟨rfl, hm2⟩
    refine L (S (zd rfl) (zg (zc (zy (zm ?_)))))
    refine zC Tryz.results3 rfl ?_
    exact ⟨rfl, hm1.no hm2⟩
  · refine zf (zb (L (S (zd rfl) (zg (zc (zf (zf (zb ?_))))))))
    refine L (zq cb_8 rfl ((hli _ (Mv.refl w))) ?_)
    rintro _ w1 ⟨rfl, hm1⟩
    refine L (S (yu rfl rfl) (L (S (za rfl) (zh (j := 2) (dj := 5) (b := false) (S (za rfl) ?_) rfl))))
    refine zh (j := 2) (dj := 5) (b := false) (S (yi Tryz.underlying9 rfl) ?_) rfl
    refine zh (j := 2) (dj := 5) (b := false) (S (yp rfl rfl (decide_eq_false (by omega))) ?_) rfl
    refine L (S (zj rfl rfl) (zg (zc (zk rfl (zo (zc (zf (zb (L (S (za rfl) ?_))))))))))
    refine L (zq Yz rfl ((name_ret (hv.no hm1) l (by omega))) ?_)
    rintro _ w2 ⟨rfl, hm2⟩
    refine L (S (za rfl) ?_)
    refine L (zq Z3 rfl ((refname_ret ((hv.no hm1).no hm2) l (by omega))) ?_)
    rintro _ w3 ⟨rfl, hm3⟩
    refine L (S (P_eqB (β := true) Tryz.underlying4 rfl rfl (by simp)) ?_)
    refine L (S (zd rfl) (zg (zc (zy ?_))))
    refine zC Tryz.results3 rfl ?_
    exact ⟨rfl, (hm1.no hm2).no hm3⟩
end
end Go.Proofs.YtnoioimphcmeiaaGreatDoor
namespace Go.Proofs.YtnoioimphcmeiaaGreatDoor
open Go.RowKit
set_option maxRecDepth 20000
set_option maxHeartbeats 2000000

/-- Something that is done. -/
structure OpV where
  kind : Int
  t : Tab
  x : Idx
  name : List UInt8
def opC (o : OpV) : List Value := [.int .i64 o.kind, .string (str o.t.name), .slice o.t.A o.t.cols.length o.t.cap, .int .i64 o.t.root, .int .i64 o.t.next, .int .i64 o.t.rows,
  .string (str o.x.name), .string (str o.x.table), .slice o.x.A o.x.cols.length o.x.cap, .int .i64 o.x.state, .int .i64 o.x.root, .int .i64 o.x.cursor, .string (str o.name)]
theorem opC_len (o : OpV) : (opC o).length = 13 := rfl
theorem opC_one (o : OpV) : ∀ v ∈ opC o, v.oneCell' = true := by simp [opC, Value.oneCell']
structure OpOk (w : World) (o : OpV) : Prop where
  t : TabOk w o.t
  x : IdxOk w o.x
structure OpSm (o : OpV) : Prop where
  t : TabSm o.t
  x : IdxSm o.x
theorem OpOk.no {w w' : World} {o : OpV} (h : OpOk w o) (hm : Mv No w w') : OpOk w' o := ⟨h.t.no hm, h.x.no hm⟩
/-- A schema that came of another by one thing done. -/
structure Frm (s : Sch) (o : OpV) (s' : Sch) : Prop where
  lt : s'.tabs.length ≤ s.tabs.length + 1
  li : s'.idxs.length ≤ s.idxs.length + 1
  tab : ∀ t ∈ s'.tabs, t.d ∈ s.tabs.map Tab.d ∨ t.d = o.t.d
  idx : ∀ t ∈ s'.idxs, t.d_ ∈ s.idxs.map Idx.d_ ∨ t.d_ = o.x.d_
theorem Frm.refl (s : Sch) (o : OpV) : Frm s o s := ⟨Nat.le_succ _, Nat.le_succ _, fun _ h => .inl (List.mem_map_of_mem h), fun _ h => .inl (List.mem_map_of_mem h)⟩
theorem sm_of {t u : Tab} (h : t.d = u.d) (hs : TabSm u) : TabSm t := by
  have e1 : t.name = u.name := congrArg (·.1) h
  have e2 : t.cols = u.cols := congrArg (·.2.1) h
  exact ⟨by rw [e1]; exact hs.nm, by rw [e2]; exact hs.cl, by rw [e2]; exact hs.cn⟩
theorem smi_of {t u : Idx} (h : t.d_ = u.d_) (hs : IdxSm u) : IdxSm t := by
  have e1 : t.name = u.name := congrArg (·.1) h
  have e2 : t.cols = u.cols := congrArg (·.2.2.1) h
  exact ⟨by rw [e1]; exact hs.nm, by rw [e2]; exact hs.cl⟩
theorem Frm.sm {s s' : Sch} {o : OpV} (h : Frm s o s') (hs : SchSm s) (ho : OpSm o) (h1 : s.tabs.length ≤ 900) (h2 : s.idxs.length ≤ 900) : SchSm s' := by
  have a1 := h.lt
  have a2 := h.li
  refine ⟨by omega, by omega, fun t ht => ?_, fun t ht => ?_⟩
  · rcases h.tab t ht with h | h
    · obtain ⟨u, hu, he⟩ := List.mem_map.1 h
      exact sm_of he.symm (hs.tab u hu)
    · exact sm_of h ho.t
  · rcases h.idx t ht with h | h
    · obtain ⟨u, hu, he⟩ := List.mem_map.1 h
      exact smi_of he.symm (hs.idx u hu)
    · exact smi_of h ho.x
theorem sm_eq {s x : Sch} (h1 : s.tabs.map Tab.d = x.tabs.map Tab.d) (h2 : s.idxs.map Idx.d_ = x.idxs.map Idx.d_) (hs : SchSm s) : SchSm x := by
  have l1 : s.tabs.length = x.tabs.length := by simpa using congrArg List.length h1
  have l2 : s.idxs.length = x.idxs.length := by simpa using congrArg List.length h2
  have a1 := hs.lt
  have a2 := hs.li
  refine ⟨by omega, by omega, fun t ht => ?_, fun t ht => ?_⟩
  · have h9 : t.d ∈ s.tabs.map Tab.d := by rw [h1]; exact List.mem_map_of_mem ht
    obtain ⟨u, hu, he⟩ := List.mem_map.1 h9
    exact sm_of he.symm (hs.tab u hu)
  · have h9 : t.d_ ∈ s.idxs.map Idx.d_ := by rw [h2]; exact List.mem_map_of_mem ht
    obtain ⟨u, hu, he⟩ := List.mem_map.1 h9
    exact smi_of he.symm (hs.idx u hu)
theorem frm_of {s o' : Sch} {o : OpV} {ts : List TD} {is : List ID} (h1 : o'.tabs.map Tab.d = ts) (h2 : o'.idxs.map Idx.d_ = is) (l1 : ts.length ≤ s.tabs.length + 1) (l2 : is.length ≤ s.idxs.length + 1) (m1 : ∀ t ∈ ts, t ∈ s.tabs.map Tab.d ∨ t = o.t.d) (m2 : ∀ t ∈ is, t ∈ s.idxs.map Idx.d_ ∨ t = o.x.d_) : Frm s o o' := by
  refine ⟨?_, ?_, fun t ht => m1 _ (by rw [← h1]; exact List.mem_map_of_mem ht), fun t ht => m2 _ (by rw [← h2]; exact List.mem_map_of_mem ht)⟩
  · have := congrArg List.length h1; rw [List.length_map] at this; omega
  · have := congrArg List.length h2; rw [List.length_map] at this; omega
theorem tPut_len (ts : List TD) (t : TD) : (tPut ts t).length ≤ ts.length + 1 := by
  unfold tPut; split
  · rw [ZK]; simp
  · rw [List.length_set]; omega
theorem iPut_len (ts : List ID) (t : ID) : (iPut ts t).length ≤ ts.length + 1 := by
  unfold iPut; split
  · rw [ZK]; simp
  · rw [List.length_set]; omega
theorem mem_tPut {ts : List TD} {t u : TD} (h : u ∈ tPut ts t) : u ∈ ts ∨ u = t := by
  unfold tPut at h; split at h
  · rcases List.mem_append.1 (mem_sortI h) with h | h
    · exact .inl h
    · exact .inr (by simpa using h)
  · exact List.mem_or_eq_of_mem_set h
theorem mem_iPut {ts : List ID} {t u : ID} (h : u ∈ iPut ts t) : u ∈ ts ∨ u = t := by
  unfold iPut at h; split at h
  · rcases List.mem_append.1 (mem_sortI h) with h | h
    · exact .inl h
    · exact .inr (by simpa using h)
  · exact List.mem_or_eq_of_mem_set h
section
variable {w : World}
theorem SchOwn.at_ {base : Nat} {s : Sch} {w' : World} {b : Nat} {cs : List Value} (h : SchOwn base w s) (hb : Blk w b cs 37) (hm : Mv (At b) w w') : SchOwn base w' s := by
  have hsep : ∀ {m n e base : Nat} {v : Value} {xs : List Value}, w.ownsRow base e m v n xs → 37 ≠ e → w'.ownsRow base e m v n xs := fun h he => yo h hm (fun k hk hk2 => by unfold At at hk2; subst hk2; exact zK hb h he hk)
  exact ⟨hsep h.tsl (by decide), fun t ht => hsep (h.tab t ht) (by decide), hsep h.isl (by decide), fun t ht => hsep (h.idx t ht) (by decide)⟩
/-- What begins with no slice lies in no schema's block. -/
theorem SlR.at_ {α : Type} {f : α → List Value} {b : Nat} {A : Option Addr} {l : List α} {s0 : Sch} {w' : World} (hf : ∀ a, ∃ v r, f a = v :: r ∧ ∀ A n c, v ≠ .slice A n c) (h : SlR w A (zI f l)) (hb : Blk w b (zM s0) 37) (hm : Mv (At b) w w') : SlR w' A (zI f l) := by
  cases l with
  | nil => exact .inl rfl
  | cons a l =>
    obtain ⟨v, r, hv, hne⟩ := hf a
    have hc : (zI f (a :: l))[0]? = some v := by rw [Yg, hv]; rfl
    rcases h with h | ⟨b', off, rfl, hrow⟩
    · rw [h] at hc; cases hc
    · refine .inr ⟨b', off, rfl, hrow.mv hm fun hbb => ?_⟩
      unfold At at hbb
      subst hbb
      have h1 := hrow 0 v hc
      unfold Blk at hb
      simp only [World.cell?, hb, Nat.add_zero] at h1
      match off, h1 with
      | 0, h1 => exact hne _ _ _ (by simpa [zM] using h1.symm)
      | 1, h1 => exact hne _ _ _ (by simpa [zM] using h1.symm)
      | _ + 2, h1 => simp [zM] at h1
theorem SchOk.at_ {s s0 : Sch} {w' : World} {b : Nat} (h : SchOk w s) (hb : Blk w b (zM s0) 37) (hm : Mv (At b) w w') : SchOk w' s :=
  ⟨h.tsl.at_ (fun a => ⟨_, _, rfl, fun _ _ _ h => by cases h⟩) hb hm, h.tle, fun t ht => ⟨(h.tab t ht).sl.at_ (fun a => ⟨_, _, rfl, fun _ _ _ h => by cases h⟩) hb hm, (h.tab t ht).le⟩, h.isl.at_ (fun a => ⟨_, _, rfl, fun _ _ _ h => by cases h⟩) hb hm, h.ile, fun t ht => ⟨(h.idx t ht).sl.at_ (fun a => ⟨_, _, rfl, fun _ _ _ h => by cases h⟩) hb hm, (h.idx t ht).le⟩⟩
theorem Frm.zero (s : Sch) (o : OpV) : Frm s o zX := ⟨Nat.zero_le _, Nat.zero_le _, fun _ h => by simp [zX] at h, fun _ h => by simp [zX] at h⟩
def Two (a b : Nat) : Nat → Prop := fun k => k = a ∨ k = b
theorem same_is {a b : Sch} (ha : SchOk w a) (hb : SchOk w b) (hsm : SchSm a) (h1 : a.tabs.map Tab.d = b.tabs.map Tab.d) (h2 : a.idxs.map Idx.d_ = b.idxs.map Idx.d_) : Ret Tryz.prog 14 [.agg (zM a).toArray, .agg (zM b).toArray] w fun v w' => v = .bool true ∧ Mv No w w' :=
  (same_ret ha hb (by have := hsm.lt; omega) (by have := hsm.li; omega) (fun t ht => by have := (hsm.tab t ht).cl; omega) (fun t ht => by have := (hsm.idx t ht).cl; omega)).mono fun v w' ⟨β, hv, he, hm⟩ => ⟨by rw [hv, he h1 h2], hm⟩
theorem do_ret (hv : Vr w) {s x : Sch} {o : OpV} (hs : SchOk w s) (hx : SchOk w x) (ho : OpOk w o) (hd : s.tabs.map Tab.d = x.tabs.map Tab.d) (he : s.idxs.map Idx.d_ = x.idxs.map Idx.d_) (hsm : SchSm s) (hom : OpSm o) (hk1 : s.tabs.length ≤ 900) (hk2 : s.idxs.length ≤ 900) : Ret Tryz.prog 12 [.agg (zM s).toArray, .agg (zM x).toArray, .agg (opC o).toArray] w fun v w' => ∃ s' x', v = .tuple #[.agg (zM s').toArray, .agg (zM x').toArray, .bool true] ∧ SchOk w' s' ∧ SchOk w' x' ∧ s'.tabs.map Tab.d = x'.tabs.map Tab.d ∧ s'.idxs.map Idx.d_ = x'.idxs.map Idx.d_ ∧ Frm s o s' ∧ (s' = s ∨ SchOwn w.heap.size w' s') ∧ Mv No w w' := by
  have hxm := sm_eq hd he hsm
  obtain ⟨r, hr⟩ : ∃ r, (IntKind.u64.wrap o.kind).tmod 4 = r := ⟨_, rfl⟩
  refine zN Tryz.func12 Tryz.ntmps12 rfl rfl ?_
  refine zf (zb ?_)
  refine L (Zl rfl ?_)
  rintro b3 w3 hb3 hm3 hn3
  refine L (Zl rfl ?_)
  rintro b4 w4 hb4 hm4 hn4
  refine L (Zl rfl ?_)
  rintro b5 w5 hb5 hm5 hn5
  refine L (ye (zs := [(.slice none 0 0), (.slice none 0 0)]) z6 rfl ?_)
  rintro b6 w6 hb6 hm6 hn6
  refine L (ye (zs := [(.slice none 0 0), (.slice none 0 0)]) z6 rfl ?_)
  rintro b7 w7 hb7 hm7 hn7
  refine L (S (zd rfl) (zg (zc (zf (zb ?_)))))
  refine L (ye (zs := [(.slice none 0 0), (.slice none 0 0)]) z6 rfl ?_)
  rintro b9 w9 hb9 hm9 hn9
  refine L (ye (zs := [(.slice none 0 0), (.slice none 0 0)]) z6 rfl ?_)
  rintro b10 w10 hb10 hm10 hn10
  refine zg (zc (zf (zb (L (S (zd rfl) (L (S (zd rfl) (zg (zc (zf (zf (zb (L (S (ze fo_32_0 rfl) ?_))))))))))))))
  refine L (zi z_ rfl ((((((hb5.no hm6).no hm7).no hm9).no hm10)).cell (i := 0) rfl) ?_)
  refine L (S (P_conv Tryz.underlying3 Tryz.underlying74 rfl rfl) ?_)
  refine L (S (P_rem rfl rfl (by decide) hr) ?_)
  refine zg (zc ?_)
  have l3 := hb3.lt
  have l4 := hb4.lt
  have l5 := hb5.lt
  have l6 := hb6.lt
  have l7 := hb7.lt
  have l9 := hb9.lt
  have s3 := hm3.size
  have m37 := ((((hm4.no hm5).no hm6).no hm7).no hm9).no hm10
  have hm010 := hm3.no m37
  have hB3 : ∀ {wq}, Mv No w10 wq → Blk wq b3 (zM s) 37 := fun h => (hb3.no m37).no h
  have hB4 : ∀ {wq}, Mv No w10 wq → Blk wq b4 (zM x) 37 := fun h => (((((hb4.no hm5).no hm6).no hm7).no hm9).no hm10).no h
  have hB5 : ∀ {wq}, Mv No w10 wq → Blk wq b5 (opC o) 32 := fun h => ((((hb5.no hm6).no hm7).no hm9).no hm10).no h
  have hB6 : ∀ {wq}, Mv No w10 wq → Blk wq b6 (zM zX) 37 := fun h => (((hb6.no hm7).no hm9).no hm10).no h
  have hB7 : ∀ {wq}, Mv No w10 wq → Blk wq b7 (zM zX) 37 := fun h => ((hb7.no hm9).no hm10).no h
  have hB9 : ∀ {wq}, Mv No w10 wq → Blk wq b9 (zM zX) 37 := fun h => (hb9.no hm10).no h
  have hs10 := hs.no hm010
  have hx10 := hx.no hm010
  have ho10 := ho.no hm010
  refine ZG (γ := Sch × Sch × Nat) (fun q => [(3, .pointer (some ⟨b3, 0, none⟩)), (4, .pointer (some ⟨b4, 0, none⟩)), (6, .pointer (some ⟨b6, 0, none⟩)), (7, .pointer (some ⟨b7, 0, none⟩)), (9, .pointer (some ⟨b9, 0, none⟩)), (10, .pointer (some ⟨b10, 0, none⟩)), (11, .int .i64 (q.2.2 : Int)), (12, .int .i64 (q.2.2 : Int))])
    (fun q wc => Mv (Two b9 b10) w10 wc ∧ Blk wc b9 (zM q.1) 37 ∧ Blk wc b10 (zM q.2.1) 37 ∧ SchOwn w.heap.size wc q.1 ∧ SchOk wc q.2.1 ∧ q.1.tabs.map Tab.d = q.2.1.tabs.map Tab.d ∧ q.1.idxs.map Idx.d_ = q.2.1.idxs.map Idx.d_ ∧ Frm s o q.1) ?_ ?_
  · have hT : ∀ {wq}, Mv No w10 wq → Row wq b5 (0 + 1) (yA o.t) := fun h => ((hB5 h).row.drop 1).take 5
    have hX : ∀ {wq}, Mv No w10 wq → Row wq b5 (0 + 6) (yq o.x) := fun h => ((hB5 h).row.drop 6).take 6
    by_cases hr0 : r = 0
    · refine zx (zf (zb ?_))
      refine L (S (zR rfl rfl (decide_eq_true (by omega))) ?_)
      refine L (S (zd rfl) (zg (zc (zr rfl (zf (zb ?_))))))
      refine L (zB zZ rfl (hB3 (Mv.refl _)).row rfl ?_)
      refine L (S (ze fo_32_1 rfl) ?_)
      refine L (zB Zo rfl (hT (Mv.refl _)) rfl ?_)
      refine L (zq cb_30 rfl ((put_ret (hv.no hm010) hs10 ho10.t hsm hom.t)) ?_)
      rintro _ w12 ⟨o1, rfl, ho1, hz1, hp1, hm12⟩
      refine L (S (za rfl) (L (S (zv rfl rfl) (L (S (zv rfl rfl) ?_)))))
      refine L (zw z6 rfl rfl (zJ o1) rfl (hB9 hm12) (by exact Nat.le_refl 2) ?_)
      rintro w13 hb13 hm13
      refine L (S (zd rfl) (zg (zc ?_)))
      have hne59 : ¬ At b9 b5 := fun h => by unfold At at h; omega
      have hm013 : Mv No w w13 := (hm010.no hm12).new hm13 (by omega)
      have hR := refput_ret (hv.no hm013) (hx.no hm013) (ho.no hm013).t hxm hom.t
      rw [← hd, ← he] at hR
      refine zb ?_
      refine L (zB zZ rfl ((hB4 hm12).ne hm13 (by omega)).row rfl ?_)
      refine L (S (ze fo_32_1 rfl) ?_)
      refine L (zB Zo rfl ((hT hm12).mv hm13 hne59) rfl ?_)
      refine L (zq cb_33 rfl (hR) ?_)
      rintro _ w14 ⟨o2, rfl, ho2, hz2, hp2, hm14⟩
      refine L (S (za rfl) (L (S (zv rfl rfl) (L (S (zv rfl rfl) ?_)))))
      refine L (zw z6 rfl rfl (zJ o2) rfl (((hb10.no hm12).ne hm13 (by omega)).no hm14) (by exact Nat.le_refl 2) ?_)
      rintro w15 hb15 hm15
      refine L (S (zd rfl) (zg (yj (zc ?_))))
      have hb10' : Blk w14 b10 (zM zX) 37 := ((hb10.no hm12).ne hm13 (by omega)).no hm14
      have ho1' := ((ho1.at_ (hB9 hm12) hm13).no hm14).at_ hb10' hm15
      have hb13' : Blk w13 b9 (zM o1) 37 := hb13
      have hb15' : Blk w15 b10 (zM o2) 37 := hb15
      refine ⟨rfl, (o1, o2, tE (s.tabs.map Tab.d) o.t.d), (.cons rfl (.cons rfl (.cons rfl (.cons rfl (.cons rfl (.cons rfl (.cons rfl (.cons rfl (.nil _))))))))), (((hm12.ofNo.trans hm13 fun _ _ h => .inl h).no hm14).trans hm15 fun _ _ h => .inr h), (hb13'.no hm14).ne hm15 (by omega), hb15', ho1'.down hm010.size, ho2.at_ hb10' hm15, ?_, ?_, ?_⟩
      · by_cases h : tE (s.tabs.map Tab.d) o.t.d = 0
        · exact (hp1 h).1.trans (hp2 h).1.symm
        · dsimp only; rw [hz1 h, hz2 h]
      · by_cases h : tE (s.tabs.map Tab.d) o.t.d = 0
        · exact (hp1 h).2.trans (hp2 h).2.symm
        · dsimp only; rw [hz1 h, hz2 h]
      · by_cases h : tE (s.tabs.map Tab.d) o.t.d = 0
        · exact frm_of (hp1 h).1 (hp1 h).2 (by have := tPut_len (s.tabs.map Tab.d) o.t.d; rw [List.length_map] at this; exact this) (by rw [List.length_map]; omega) (fun t ht => mem_tPut ht) (fun t ht => .inl ht)
        · dsimp only; rw [hz1 h]; exact Frm.zero s o
    by_cases hr1 : r = 1
    · refine zx (zf (zb ?_))
      refine L (S (zR rfl rfl (decide_eq_false (by omega))) ?_)
      refine L (S (zd rfl) (zg (zc (zk rfl (zf (zb ?_))))))
      refine L (S (zR rfl rfl (decide_eq_true (by omega))) ?_)
      refine L (S (zd rfl) (zg (zc (zr rfl (zf (zb ?_))))))
      refine L (zB zZ rfl (hB3 (Mv.refl _)).row rfl ?_)
      refine L (S (ze fo_32_2 rfl) ?_)
      refine L (zB Zu rfl (hX (Mv.refl _)) rfl ?_)
      refine L (zq cb_34 rfl ((puti_ret (hv.no hm010) hs10 ho10.x hsm hom.x)) ?_)
      rintro _ w12 ⟨o1, rfl, ho1, hz1, hp1, hm12⟩
      refine L (S (za rfl) (L (S (zv rfl rfl) (L (S (zv rfl rfl) ?_)))))
      refine L (zw z6 rfl rfl (zJ o1) rfl (hB9 hm12) (by exact Nat.le_refl 2) ?_)
      rintro w13 hb13 hm13
      refine L (S (zd rfl) (zg (zc ?_)))
      have hne59 : ¬ At b9 b5 := fun h => by unfold At at h; omega
      have hm013 : Mv No w w13 := (hm010.no hm12).new hm13 (by omega)
      have hR := refputi_ret (hv.no hm013) (hx.no hm013) (ho.no hm013).x hxm hom.x
      rw [← hd, ← he] at hR
      refine zb ?_
      refine L (zB zZ rfl ((hB4 hm12).ne hm13 (by omega)).row rfl ?_)
      refine L (S (ze fo_32_2 rfl) ?_)
      refine L (zB Zu rfl ((hX hm12).mv hm13 hne59) rfl ?_)
      refine L (zq cb_35 rfl (hR) ?_)
      rintro _ w14 ⟨o2, rfl, ho2, hz2, hp2, hm14⟩
      refine L (S (za rfl) (L (S (zv rfl rfl) (L (S (zv rfl rfl) ?_)))))
      refine L (zw z6 rfl rfl (zJ o2) rfl (((hb10.no hm12).ne hm13 (by omega)).no hm14) (by exact Nat.le_refl 2) ?_)
      rintro w15 hb15 hm15
      refine L (S (zd rfl) (zg (yj (zc ?_))))
      have hb10' : Blk w14 b10 (zM zX) 37 := ((hb10.no hm12).ne hm13 (by omega)).no hm14
      have ho1' := ((ho1.at_ (hB9 hm12) hm13).no hm14).at_ hb10' hm15
      have hb13' : Blk w13 b9 (zM o1) 37 := hb13
      have hb15' : Blk w15 b10 (zM o2) 37 := hb15
      refine ⟨rfl, (o1, o2, iE (s.tabs.map Tab.d) (s.idxs.map Idx.d_) o.x.d_), (.cons rfl (.cons rfl (.cons rfl (.cons rfl (.cons rfl (.cons rfl (.cons rfl (.cons rfl (.nil _))))))))), (((hm12.ofNo.trans hm13 fun _ _ h => .inl h).no hm14).trans hm15 fun _ _ h => .inr h), (hb13'.no hm14).ne hm15 (by omega), hb15', ho1'.down hm010.size, ho2.at_ hb10' hm15, ?_, ?_, ?_⟩
      · by_cases h : iE (s.tabs.map Tab.d) (s.idxs.map Idx.d_) o.x.d_ = 0
        · exact (hp1 h).1.trans (hp2 h).1.symm
        · dsimp only; rw [hz1 h, hz2 h]
      · by_cases h : iE (s.tabs.map Tab.d) (s.idxs.map Idx.d_) o.x.d_ = 0
        · exact (hp1 h).2.trans (hp2 h).2.symm
        · dsimp only; rw [hz1 h, hz2 h]
      · by_cases h : iE (s.tabs.map Tab.d) (s.idxs.map Idx.d_) o.x.d_ = 0
        · exact frm_of (hp1 h).1 (hp1 h).2 (by rw [List.length_map]; omega) (by have := iPut_len (s.idxs.map Idx.d_) o.x.d_; rw [List.length_map] at this; exact this) (fun t ht => .inl ht) (fun t ht => mem_iPut ht)
        · dsimp only; rw [hz1 h]; exact Frm.zero s o
    by_cases hr2 : r = 2
    · refine zx (zf (zb ?_))
      refine L (S (zR rfl rfl (decide_eq_false (by omega))) ?_)
      refine L (S (zd rfl) (zg (zc (zk rfl (zf (zb ?_))))))
      refine L (S (zR rfl rfl (decide_eq_false (by omega))) ?_)
      refine L (S (zd rfl) (zg (zc (zk rfl (zf (zb ?_))))))
      refine L (S (zR rfl rfl (decide_eq_true (by omega))) ?_)
      refine L (S (zd rfl) (zg (zc (zr rfl (zf (zb ?_))))))
      refine L (zB zZ rfl (hB3 (Mv.refl _)).row rfl ?_)
      refine L (S (ze ZW rfl) ?_)
      refine L (zi yc rfl ((hB5 (Mv.refl _)).cell (i := 12) rfl) ?_)
      refine L (zq cb_36 rfl ((drop_ret hs10 hsm o.name)) ?_)
      rintro _ w12 ⟨o1, rfl, ho1, hz1, hp1, hm12⟩
      refine L (S (za rfl) (L (S (zv rfl rfl) (L (S (zv rfl rfl) ?_)))))
      refine L (zw z6 rfl rfl (zJ o1) rfl (hB9 hm12) (by exact Nat.le_refl 2) ?_)
      rintro w13 hb13 hm13
      refine L (S (zd rfl) (zg (zc ?_)))
      have hne59 : ¬ At b9 b5 := fun h => by unfold At at h; omega
      have hm013 : Mv No w w13 := (hm010.no hm12).new hm13 (by omega)
      have hR := refdrop_ret (hx.no hm013) hxm o.name
      rw [← hd, ← he] at hR
      refine zb ?_
      refine L (zB zZ rfl ((hB4 hm12).ne hm13 (by omega)).row rfl ?_)
      refine L (S (ze ZW rfl) ?_)
      refine L (zi yc rfl (((hB5 hm12).mv hm13 hne59).cell (i := 12) rfl) ?_)
      refine L (zq cb_37 rfl (hR) ?_)
      rintro _ w14 ⟨o2, rfl, ho2, hz2, hp2, hm14⟩
      refine L (S (za rfl) (L (S (zv rfl rfl) (L (S (zv rfl rfl) ?_)))))
      refine L (zw z6 rfl rfl (zJ o2) rfl (((hb10.no hm12).ne hm13 (by omega)).no hm14) (by exact Nat.le_refl 2) ?_)
      rintro w15 hb15 hm15
      refine L (S (zd rfl) (zg (yj (zc ?_))))
      have hb10' : Blk w14 b10 (zM zX) 37 := ((hb10.no hm12).ne hm13 (by omega)).no hm14
      have ho1' := ((ho1.at_ (hB9 hm12) hm13).no hm14).at_ hb10' hm15
      have hb13' : Blk w13 b9 (zM o1) 37 := hb13
      have hb15' : Blk w15 b10 (zM o2) 37 := hb15
      refine ⟨rfl, (o1, o2, tDropE (s.tabs.map Tab.d) o.name), (.cons rfl (.cons rfl (.cons rfl (.cons rfl (.cons rfl (.cons rfl (.cons rfl (.cons rfl (.nil _))))))))), (((hm12.ofNo.trans hm13 fun _ _ h => .inl h).no hm14).trans hm15 fun _ _ h => .inr h), (hb13'.no hm14).ne hm15 (by omega), hb15', ho1'.down hm010.size, ho2.at_ hb10' hm15, ?_, ?_, ?_⟩
      · by_cases h : tDropE (s.tabs.map Tab.d) o.name = 0
        · exact (hp1 h).1.trans (hp2 h).1.symm
        · dsimp only; rw [hz1 h, hz2 h]
      · by_cases h : tDropE (s.tabs.map Tab.d) o.name = 0
        · exact (hp1 h).2.trans (hp2 h).2.symm
        · dsimp only; rw [hz1 h, hz2 h]
      · by_cases h : tDropE (s.tabs.map Tab.d) o.name = 0
        · exact frm_of (hp1 h).1 (hp1 h).2 (Nat.le_trans (List.length_eraseIdx_le ..) (by rw [List.length_map]; omega)) (Nat.le_trans (List.length_filter_le ..) (by rw [List.length_map]; omega)) (fun t ht => .inl (List.mem_of_mem_eraseIdx ht)) (fun t ht => .inl (List.mem_filter.1 ht).1)
        · dsimp only; rw [hz1 h]; exact Frm.zero s o
    refine zx (zf (zb ?_))
    refine L (S (zR rfl rfl (decide_eq_false (by omega))) ?_)
    refine L (S (zd rfl) (zg (zc (zk rfl (zf (zb ?_))))))
    refine L (S (zR rfl rfl (decide_eq_false (by omega))) ?_)
    refine L (S (zd rfl) (zg (zc (zk rfl (zf (zb ?_))))))
    refine L (S (zR rfl rfl (decide_eq_false (by omega))) ?_)
    refine L (S (zd rfl) (zg (zc (zk rfl (zf (zb ?_))))))
    refine L (zB zZ rfl (hB3 (Mv.refl _)).row rfl ?_)
    refine L (S (ze ZW rfl) ?_)
    refine L (zi yc rfl ((hB5 (Mv.refl _)).cell (i := 12) rfl) ?_)
    refine L (zq cb_38 rfl ((dropi_ret hs10 hsm o.name)) ?_)
    rintro _ w12 ⟨o1, rfl, ho1, hz1, hp1, hm12⟩
    refine L (S (za rfl) (L (S (zv rfl rfl) (L (S (zv rfl rfl) ?_)))))
    refine L (zw z6 rfl rfl (zJ o1) rfl (hB9 hm12) (by exact Nat.le_refl 2) ?_)
    rintro w13 hb13 hm13
    refine L (S (zd rfl) (zg (zc ?_)))
    have hne59 : ¬ At b9 b5 := fun h => by unfold At at h; omega
    have hm013 : Mv No w w13 := (hm010.no hm12).new hm13 (by omega)
    have hR := refdropi_ret (hx.no hm013) hxm o.name
    rw [← hd, ← he] at hR
    refine zb ?_
    refine L (zB zZ rfl ((hB4 hm12).ne hm13 (by omega)).row rfl ?_)
    refine L (S (ze ZW rfl) ?_)
    refine L (zi yc rfl (((hB5 hm12).mv hm13 hne59).cell (i := 12) rfl) ?_)
    refine L (zq cb_39 rfl (hR) ?_)
    rintro _ w14 ⟨o2, rfl, ho2, hz2, hp2, hm14⟩
    refine L (S (za rfl) (L (S (zv rfl rfl) (L (S (zv rfl rfl) ?_)))))
    refine L (zw z6 rfl rfl (zJ o2) rfl (((hb10.no hm12).ne hm13 (by omega)).no hm14) (by exact Nat.le_refl 2) ?_)
    rintro w15 hb15 hm15
    refine L (S (zd rfl) (zg (yj (zc ?_))))
    have hb10' : Blk w14 b10 (zM zX) 37 := ((hb10.no hm12).ne hm13 (by omega)).no hm14
    have ho1' := ((ho1.at_ (hB9 hm12) hm13).no hm14).at_ hb10' hm15
    have hb13' : Blk w13 b9 (zM o1) 37 := hb13
    have hb15' : Blk w15 b10 (zM o2) 37 := hb15
    refine ⟨rfl, (o1, o2, iDropE (s.idxs.map Idx.d_) o.name), (.cons rfl (.cons rfl (.cons rfl (.cons rfl (.cons rfl (.cons rfl (.cons rfl (.cons rfl (.nil _))))))))), (((hm12.ofNo.trans hm13 fun _ _ h => .inl h).no hm14).trans hm15 fun _ _ h => .inr h), (hb13'.no hm14).ne hm15 (by omega), hb15', ho1'.down hm010.size, ho2.at_ hb10' hm15, ?_, ?_, ?_⟩
    · by_cases h : iDropE (s.idxs.map Idx.d_) o.name = 0
      · exact (hp1 h).1.trans (hp2 h).1.symm
      · dsimp only; rw [hz1 h, hz2 h]
    · by_cases h : iDropE (s.idxs.map Idx.d_) o.name = 0
      · exact (hp1 h).2.trans (hp2 h).2.symm
      · dsimp only; rw [hz1 h, hz2 h]
    · by_cases h : iDropE (s.idxs.map Idx.d_) o.name = 0
      · exact frm_of (hp1 h).1 (hp1 h).2 (by rw [List.length_map]; omega) (Nat.le_trans (List.length_eraseIdx_le ..) (by rw [List.length_map]; omega)) (fun t ht => .inl ht) (fun t ht => .inl (List.mem_of_mem_eraseIdx ht))
      · dsimp only; rw [hz1 h]; exact Frm.zero s o
  rintro ⟨p, q, e⟩ w11 ⟨hm11, h9, h10, hpo, hqo, hpd, hpe, hfr⟩ f' hf'
  dsimp only at h9 h10 hpo hqo hpd hpe hfr hf'
  refine Zb hf' ?_
  clear hf' f'
  have hm011 : Mv No w w11 := hm010.trans hm11 fun k hk h => by
    rcases h with h | h <;> omega
  have n39 : ∀ {k}, k < b9 → ¬ Two b9 b10 k := fun hk h => by rcases h with h | h <;> omega
  have hb3' := (hB3 (Mv.refl _)).mv hm11 (n39 (by omega))
  have hb4' := (hB4 (Mv.refl _)).mv hm11 (n39 (by omega))
  have hb6' := (hB6 (Mv.refl _)).mv hm11 (n39 (by omega))
  have hb7' := (hB7 (Mv.refl _)).mv hm11 (n39 (by omega))
  have hpm := hfr.sm hsm hom hk1 hk2
  have n67 : b7 ≠ b6 := by omega
  have n64 : b4 ≠ b6 := by omega
  have n610 : b10 ≠ b6 := by omega
  refine zf (zb (L (S (za rfl) (L (S (za rfl) ?_)))))
  refine L (S (zR rfl rfl (decide_eq_true (by omega))) ?_)
  refine L (S (za rfl) ?_)
  refine zh (j := 3) (dj := 83) (b := true) (zB zZ rfl h9.row rfl ?_) rfl
  refine zh (j := 3) (dj := 83) (b := true) (zB zZ rfl h10.row rfl ?_) rfl
  refine zh (j := 3) (dj := 83) (b := true) (zq cb_14 rfl ((same_is hpo.ok hqo hpm hpd hpe)) ?_) rfl
  rintro _ w12 ⟨rfl, hm12⟩
  refine L (S (zt rfl rfl) (L (S (za rfl) ?_)))
  refine zh (j := 8) (dj := 88) (b := true) (zB zZ rfl (hb3'.no hm12).row rfl ?_) rfl
  refine zh (j := 8) (dj := 88) (b := true) (zB zZ rfl (hb4'.no hm12).row rfl ?_) rfl
  refine zh (j := 8) (dj := 88) (b := true) (zq cb_14 rfl ((same_is ((hs.no hm011).no hm12) ((hx.no hm011).no hm12) hsm hd he)) ?_) rfl
  rintro _ w13 ⟨rfl, hm13⟩
  refine L (S (zt rfl rfl) (L (S (zd rfl) (zg (zc (zf (zf ?_)))))))
  have hm1113 := hm12.no hm13
  have hm013 := hm011.no hm1113
  by_cases h0 : e = 0
  · refine zb (L (S (za rfl) ?_))
    refine L (S (Za rfl rfl (decide_eq_false (by omega))) ?_)
    refine zg (zc (zk rfl (zo (zc (zf ?_)))))
    refine ZT 6 mixed rfl ?_
    refine zF (i := 2) rfl (za rfl) ?_ (by decide +kernel) (by decide +kernel) (by decide +kernel) (fun _ _ _ _ h => h) rfl rfl rfl
    refine ZL (i := 0) (i2 := 1) (zS rfl (zB zZ rfl (by first | exact ((h9.no hm1113).no (Mv.refl _).drew).row) rfl ?_)) (zS rfl (zB zZ rfl (by first | exact ((h10.no hm1113).no (Mv.refl _).drew).row | exact (((h10.no hm1113).no (Mv.refl _).drew).ne hm20 n610).row) rfl ?_)) (by decide +kernel)
    · refine ZL (i := 1) (i2 := 3) (zS rfl (zB zZ rfl (by first | exact ((h10.no hm1113).no (Mv.refl _).drew).row | exact (((h10.no hm1113).no (Mv.refl _).drew).ne hm20 n610).row) rfl ?_)) (zS rfl (zw z6 rfl rfl (zJ p) rfl ((hb6'.no hm1113).no (Mv.refl _).drew) (by exact Nat.le_refl 2) ?_)) (by decide +kernel)
      · refine zO (i := 3) (zS rfl (zw z6 rfl rfl (zJ p) rfl ((hb6'.no hm1113).no (Mv.refl _).drew) (by exact Nat.le_refl 2) ?_)) (by decide +kernel)
        rintro w20 hb20 hm20
        refine zO (i := 4) (zS rfl (zw z6 rfl rfl (zJ q) rfl (((hb7'.no hm1113).no (Mv.refl _).drew).ne hm20 n67) (by exact Nat.le_refl 2) ?_)) (by decide +kernel)
        rintro w21 hb21 hm21
        refine zF (i := 5) rfl (zd rfl) ?_ (by decide +kernel) (by decide +kernel) (by decide +kernel) (fun _ _ _ _ h => h) rfl rfl rfl
        refine yH (by decide +kernel) ?_
        refine zc (zy ?_)
        have hb20' : Blk w20 b6 (zM p) 37 := hb20
        have hb21' : Blk w21 b7 (zM q) 37 := hb21
        refine yk (rs := [.cell 6 37, .cell 7 37, .tmp 8]) [.agg (zM p).toArray, .agg (zM q).toArray, .bool true] Tryz.results12 ?_ ?_
        · exact ⟨⟨_, rfl, zu zZ (hb20'.ne hm21 n67.symm).row rfl⟩, ⟨_, rfl, zu zZ hb21'.row rfl⟩, rfl, trivial⟩
        have hdr := (Mv.refl w13 (S := No)).drew
        have hB6z := (hb6'.no hm1113).no hdr
        have hB7z := ((hb7'.no hm1113).no hdr).ne hm20 n67
        have hp21 := (((hpo.no hm1113).no hdr).at_ hB6z hm20).at_ hB7z hm21
        exact ⟨p, q, rfl, hp21.ok, (((hqo.no hm1113).no hdr).at_ hB6z hm20).at_ hB7z hm21, hpd, hpe, hfr, .inr hp21, ((hm013.no hdr).new hm20 (by omega)).new hm21 (by omega)⟩
      · rintro w20 hb20 hm20
        refine zO (i := 1) (zS rfl (zB zZ rfl (by first | exact ((h10.no hm1113).no (Mv.refl _).drew).row | exact (((h10.no hm1113).no (Mv.refl _).drew).ne hm20 n610).row) rfl ?_)) (by decide +kernel)
        refine zO (i := 4) (zS rfl (zw z6 rfl rfl (zJ q) rfl (((hb7'.no hm1113).no (Mv.refl _).drew).ne hm20 n67) (by exact Nat.le_refl 2) ?_)) (by decide +kernel)
        rintro w21 hb21 hm21
        refine zF (i := 5) rfl (zd rfl) ?_ (by decide +kernel) (by decide +kernel) (by decide +kernel) (fun _ _ _ _ h => h) rfl rfl rfl
        refine yH (by decide +kernel) ?_
        refine zc (zy ?_)
        have hb20' : Blk w20 b6 (zM p) 37 := hb20
        have hb21' : Blk w21 b7 (zM q) 37 := hb21
        refine yk (rs := [.cell 6 37, .cell 7 37, .tmp 8]) [.agg (zM p).toArray, .agg (zM q).toArray, .bool true] Tryz.results12 ?_ ?_
        · exact ⟨⟨_, rfl, zu zZ (hb20'.ne hm21 n67.symm).row rfl⟩, ⟨_, rfl, zu zZ hb21'.row rfl⟩, rfl, trivial⟩
        have hdr := (Mv.refl w13 (S := No)).drew
        have hB6z := (hb6'.no hm1113).no hdr
        have hB7z := ((hb7'.no hm1113).no hdr).ne hm20 n67
        have hp21 := (((hpo.no hm1113).no hdr).at_ hB6z hm20).at_ hB7z hm21
        exact ⟨p, q, rfl, hp21.ok, (((hqo.no hm1113).no hdr).at_ hB6z hm20).at_ hB7z hm21, hpd, hpe, hfr, .inr hp21, ((hm013.no hdr).new hm20 (by omega)).new hm21 (by omega)⟩
    · refine zO (i := 0) (zS rfl (zB zZ rfl (by first | exact ((h9.no hm1113).no (Mv.refl _).drew).row) rfl ?_)) (by decide +kernel)
      refine zO (i := 3) (zS rfl (zw z6 rfl rfl (zJ p) rfl ((hb6'.no hm1113).no (Mv.refl _).drew) (by exact Nat.le_refl 2) ?_)) (by decide +kernel)
      rintro w20 hb20 hm20
      refine zO (i := 4) (zS rfl (zw z6 rfl rfl (zJ q) rfl (((hb7'.no hm1113).no (Mv.refl _).drew).ne hm20 n67) (by exact Nat.le_refl 2) ?_)) (by decide +kernel)
      rintro w21 hb21 hm21
      refine zF (i := 5) rfl (zd rfl) ?_ (by decide +kernel) (by decide +kernel) (by decide +kernel) (fun _ _ _ _ h => h) rfl rfl rfl
      refine yH (by decide +kernel) ?_
      refine zc (zy ?_)
      have hb20' : Blk w20 b6 (zM p) 37 := hb20
      have hb21' : Blk w21 b7 (zM q) 37 := hb21
      refine yk (rs := [.cell 6 37, .cell 7 37, .tmp 8]) [.agg (zM p).toArray, .agg (zM q).toArray, .bool true] Tryz.results12 ?_ ?_
      · exact ⟨⟨_, rfl, zu zZ (hb20'.ne hm21 n67.symm).row rfl⟩, ⟨_, rfl, zu zZ hb21'.row rfl⟩, rfl, trivial⟩
      have hdr := (Mv.refl w13 (S := No)).drew
      have hB6z := (hb6'.no hm1113).no hdr
      have hB7z := ((hb7'.no hm1113).no hdr).ne hm20 n67
      have hp21 := (((hpo.no hm1113).no hdr).at_ hB6z hm20).at_ hB7z hm21
      exact ⟨p, q, rfl, hp21.ok, (((hqo.no hm1113).no hdr).at_ hB6z hm20).at_ hB7z hm21, hpd, hpe, hfr, .inr hp21, ((hm013.no hdr).new hm20 (by omega)).new hm21 (by omega)⟩
  · refine zb (L (S (za rfl) ?_))
    refine L (S (Za rfl rfl (decide_eq_true (by omega))) ?_)
    refine zg (zc (zr rfl (zf ?_)))
    refine ZT 6 mixed rfl ?_
    refine zF (i := 2) rfl (za rfl) ?_ (by decide +kernel) (by decide +kernel) (by decide +kernel) (fun _ _ _ _ h => h) rfl rfl rfl
    refine ZL (i := 0) (i2 := 1) (zS rfl (zB zZ rfl ((hb3'.no hm1113).no (Mv.refl _).drew).row rfl ?_)) (zS rfl (zB zZ rfl (by first | exact ((hb4'.no hm1113).no (Mv.refl _).drew).row | exact (((hb4'.no hm1113).no (Mv.refl _).drew).ne hm20 n64).row) rfl ?_)) (by decide +kernel)
    · refine ZL (i := 1) (i2 := 3) (zS rfl (zB zZ rfl (by first | exact ((hb4'.no hm1113).no (Mv.refl _).drew).row | exact (((hb4'.no hm1113).no (Mv.refl _).drew).ne hm20 n64).row) rfl ?_)) (zS rfl (zw z6 rfl rfl (zJ s) rfl ((hb6'.no hm1113).no (Mv.refl _).drew) (by exact Nat.le_refl 2) ?_)) (by decide +kernel)
      · refine zO (i := 3) (zS rfl (zw z6 rfl rfl (zJ s) rfl ((hb6'.no hm1113).no (Mv.refl _).drew) (by exact Nat.le_refl 2) ?_)) (by decide +kernel)
        rintro w20 hb20 hm20
        refine zO (i := 4) (zS rfl (zw z6 rfl rfl (zJ x) rfl (((hb7'.no hm1113).no (Mv.refl _).drew).ne hm20 n67) (by exact Nat.le_refl 2) ?_)) (by decide +kernel)
        rintro w21 hb21 hm21
        refine zF (i := 5) rfl (zd rfl) ?_ (by decide +kernel) (by decide +kernel) (by decide +kernel) (fun _ _ _ _ h => h) rfl rfl rfl
        refine yH (by decide +kernel) ?_
        refine zc (zy (zm ?_))
        have hb20' : Blk w20 b6 (zM s) 37 := hb20
        have hb21' : Blk w21 b7 (zM x) 37 := hb21
        refine yk (rs := [.cell 6 37, .cell 7 37, .tmp 8]) [.agg (zM s).toArray, .agg (zM x).toArray, .bool true] Tryz.results12 ?_ ?_
        · exact ⟨⟨_, rfl, zu zZ (hb20'.ne hm21 n67.symm).row rfl⟩, ⟨_, rfl, zu zZ hb21'.row rfl⟩, rfl, trivial⟩
        have hdr := (Mv.refl w13 (S := No)).drew
        have hm021 : Mv No w w21 := ((hm013.no hdr).new hm20 (by omega)).new hm21 (by omega)
        exact ⟨s, x, rfl, hs.no hm021, hx.no hm021, hd, he, Frm.refl s o, .inl rfl, hm021⟩
      · rintro w20 hb20 hm20
        refine zO (i := 1) (zS rfl (zB zZ rfl (by first | exact ((hb4'.no hm1113).no (Mv.refl _).drew).row | exact (((hb4'.no hm1113).no (Mv.refl _).drew).ne hm20 n64).row) rfl ?_)) (by decide +kernel)
        refine zO (i := 4) (zS rfl (zw z6 rfl rfl (zJ x) rfl (((hb7'.no hm1113).no (Mv.refl _).drew).ne hm20 n67) (by exact Nat.le_refl 2) ?_)) (by decide +kernel)
        rintro w21 hb21 hm21
        refine zF (i := 5) rfl (zd rfl) ?_ (by decide +kernel) (by decide +kernel) (by decide +kernel) (fun _ _ _ _ h => h) rfl rfl rfl
        refine yH (by decide +kernel) ?_
        refine zc (zy (zm ?_))
        have hb20' : Blk w20 b6 (zM s) 37 := hb20
        have hb21' : Blk w21 b7 (zM x) 37 := hb21
        refine yk (rs := [.cell 6 37, .cell 7 37, .tmp 8]) [.agg (zM s).toArray, .agg (zM x).toArray, .bool true] Tryz.results12 ?_ ?_
        · exact ⟨⟨_, rfl, zu zZ (hb20'.ne hm21 n67.symm).row rfl⟩, ⟨_, rfl, zu zZ hb21'.row rfl⟩, rfl, trivial⟩
        have hdr := (Mv.refl w13 (S := No)).drew
        have hm021 : Mv No w w21 := ((hm013.no hdr).new hm20 (by omega)).new hm21 (by omega)
        exact ⟨s, x, rfl, hs.no hm021, hx.no hm021, hd, he, Frm.refl s o, .inl rfl, hm021⟩
    · refine zO (i := 0) (zS rfl (zB zZ rfl ((hb3'.no hm1113).no (Mv.refl _).drew).row rfl ?_)) (by decide +kernel)
      refine zO (i := 3) (zS rfl (zw z6 rfl rfl (zJ s) rfl ((hb6'.no hm1113).no (Mv.refl _).drew) (by exact Nat.le_refl 2) ?_)) (by decide +kernel)
      rintro w20 hb20 hm20
      refine zO (i := 4) (zS rfl (zw z6 rfl rfl (zJ x) rfl (((hb7'.no hm1113).no (Mv.refl _).drew).ne hm20 n67) (by exact Nat.le_refl 2) ?_)) (by decide +kernel)
      rintro w21 hb21 hm21
      refine zF (i := 5) rfl (zd rfl) ?_ (by decide +kernel) (by decide +kernel) (by decide +kernel) (fun _ _ _ _ h => h) rfl rfl rfl
      refine yH (by decide +kernel) ?_
      refine zc (zy (zm ?_))
      have hb20' : Blk w20 b6 (zM s) 37 := hb20
      have hb21' : Blk w21 b7 (zM x) 37 := hb21
      refine yk (rs := [.cell 6 37, .cell 7 37, .tmp 8]) [.agg (zM s).toArray, .agg (zM x).toArray, .bool true] Tryz.results12 ?_ ?_
      · exact ⟨⟨_, rfl, zu zZ (hb20'.ne hm21 n67.symm).row rfl⟩, ⟨_, rfl, zu zZ hb21'.row rfl⟩, rfl, trivial⟩
      have hdr := (Mv.refl w13 (S := No)).drew
      have hm021 : Mv No w w21 := ((hm013.no hdr).new hm20 (by omega)).new hm21 (by omega)
      exact ⟨s, x, rfl, hs.no hm021, hx.no hm021, hd, he, Frm.refl s o, .inl rfl, hm021⟩
end
end Go.Proofs.YtnoioimphcmeiaaGreatDoor
namespace Go.Proofs.YtnoioimphcmeiaaGreatDoor
open Go.RowKit
set_option maxRecDepth 20000
set_option maxHeartbeats 2000000

def NmOk (l : List Col) : Prop := l.length ≤ 20 ∧ ∀ x ∈ l, x.name.length ≤ 50
structure TabFit (t : Tab) : Prop where
  nm : t.name.length ≤ 50
  cols : NmOk t.cols
structure IdxFit (x : Idx) : Prop where
  nm : x.name.length ≤ 50
  tb : x.table.length ≤ 50
  cl : x.cols.length ≤ 20
structure SchFit (s : Sch) : Prop where
  lt : s.tabs.length ≤ 20
  li : s.idxs.length ≤ 20
  tab : ∀ t ∈ s.tabs, TabFit t
  idx : ∀ t ∈ s.idxs, IdxFit t
structure OpFit (o : OpV) : Prop where
  t : TabFit o.t
  x : IdxFit o.x
  nm : o.name.length ≤ 50
theorem TabFit.sm {t : Tab} (h : TabFit t) : TabSm t := ⟨Nat.le_trans h.nm (by decide), Nat.le_trans h.cols.1 (by decide), fun c hc => Nat.le_trans (h.cols.2 c hc) (by decide)⟩
theorem IdxFit.sm {t : Idx} (h : IdxFit t) : IdxSm t := ⟨Nat.le_trans h.nm (by decide), Nat.le_trans h.cl (by decide)⟩
theorem SchFit.sm {s : Sch} (h : SchFit s) : SchSm s := ⟨Nat.le_trans h.lt (by decide), Nat.le_trans h.li (by decide), fun t ht => (h.tab t ht).sm, fun t ht => (h.idx t ht).sm⟩
theorem OpFit.sm {o : OpV} (h : OpFit o) : OpSm o := ⟨h.t.sm, h.x.sm⟩
section
variable {w : World}
theorem names_ret {l : List Col} {A : Option Addr} {c : Nat} (hA : SlR w A (zI Zt l)) (hl : l.length ≤ 9223372036854775807) : Ret Tryz.prog 46 [.slice A l.length c] w fun v w' => ∃ β, v = .bool β ∧ (β = true → NmOk l) ∧ Mv No w w' := by
  refine zN Tryz.func46 Tryz.ntmps46 rfl rfl ?_
  refine zf (zb (L (S (zd rfl) (zg (zc (zf (zf (zb (L (S (za rfl) ?_))))))))))
  refine L (S (zH Tryz.underlying25 rfl) ?_)
  refine L (S (za rfl) (zg (zc (zx ?_))))
  refine yF (γ := Nat) (fun i => [(0, .slice A l.length c), (5, .slice A l.length c), (6, .int .i64 (l.length : Int)), (7, .int .i64 (i : Int))]) (fun i wr => Mv No w wr ∧ i ≤ l.length ∧ ∀ x ∈ l.take i, x.name.length ≤ 50) (fun i => l.length - i) 0 (.cons rfl (.cons rfl (.cons rfl (.cons rfl (.nil _))))) ⟨Mv.refl w, Nat.zero_le _, by simp⟩ ?_
  rintro i wr ⟨hmr, hi, hb⟩
  by_cases hlt : i < l.length
  · have ha := List.getElem?_eq_getElem hlt
    generalize l[i] = x at ha
    have hsz := yR x.name
    obtain ⟨b, o, hAe, -, hrow⟩ := yr Yi (by decide) (hA.no hmr) ha
    rw [hAe]
    refine zf (zb ?_)
    refine L (S (zG rfl rfl (decide_eq_true (by omega))) ?_)
    refine zg (zc (zf (zr rfl (zo (zc (zf (zx (zf (zb ?_)))))))))
    refine L (S (zn Tryz.underlying25 (zD ZM) rfl rfl (j := i) rfl (by omega) (p := o + i * 3) (by omega)) ?_)
    refine L (zB st_43 rfl hrow rfl ?_)
    refine L (ye (zs := [(.string (ByteArray.mk #[])), (.int .i64 0), (.bool false)]) ZM rfl ?_)
    rintro b4 w4 hb4 hm4 hn4
    refine L (zw ZM rfl rfl (colC_one x) rfl hb4 (by exact Nat.le_refl 3) ?_)
    rintro w5 hb5 hm5
    refine zg (zc (zf ?_))
    have hb5' : Blk w5 b4 (Zt x) 43 := hb5
    have hm45 : Mv No wr w5 := hm4.new hm5 hn4
    by_cases q : 50 < x.name.length
    · refine zb (L (S (ze ZO rfl) ?_))
      refine L (zi yc rfl (hb5'.cell (i := 0) rfl) ?_)
      refine L (S (yi Tryz.underlying9 rfl) ?_)
      refine L (S (yp rfl rfl (decide_eq_true (by omega))) ?_)
      refine zg (zc (zr rfl (zf (zb (L (S (zd rfl) (zg (zc (zy (zP (zm (zm (zP (zm ?_))))))))))))))
      refine zC Tryz.results46 rfl ?_
      exact ⟨false, rfl, (fun h => by cases h), hmr.no hm45⟩
    · refine zb (L (S (ze ZO rfl) ?_))
      refine L (zi yc rfl (hb5'.cell (i := 0) rfl) ?_)
      refine L (S (yi Tryz.underlying9 rfl) ?_)
      refine L (S (yp rfl rfl (decide_eq_false (by omega))) ?_)
      refine zg (zc (zk rfl (zo (yj (zc (zb ?_))))))
      refine L (S (zT rfl rfl (z1 (c := ((i + 1 : Nat) : Int)) (by omega))) ?_)
      refine L (S (za rfl) (zg (zc ?_)))
      refine ⟨rfl, i + 1, by rw [← hAe]; exact (.cons rfl (.cons rfl (.cons rfl (.cons rfl (.nil _))))), ⟨hmr.no hm45, by omega, fun y hy => ?_⟩, by omega⟩
      rw [yY ha, List.mem_append] at hy
      rcases hy with hy | hy
      · exact hb y hy
      · have : y = x := by simpa using hy
        rw [this]; omega
  · have e : l.take i = l := List.take_of_length_le (by omega)
    rw [e] at hb
    by_cases h20 : l.length ≤ 20
    · refine zf (zb ?_)
      refine L (S (zG rfl rfl (decide_eq_false (by omega))) ?_)
      refine zg (zc (zf (zk rfl (yn (zL (zL (yK (zc (zf (zb (L (S (za rfl) ?_))))))))))))
      refine L (S (zH Tryz.underlying25 rfl) ?_)
      refine L (S (Yd rfl rfl (decide_eq_true (by omega))) ?_)
      refine L (S (zd rfl) (zg (zc (zy ?_))))
      refine zC Tryz.results46 rfl ?_
      exact ⟨true, rfl, fun _ => ⟨h20, hb⟩, hmr⟩
    · refine zf (zb ?_)
      refine L (S (zG rfl rfl (decide_eq_false (by omega))) ?_)
      refine zg (zc (zf (zk rfl (yn (zL (zL (yK (zc (zf (zb (L (S (za rfl) ?_))))))))))))
      refine L (S (zH Tryz.underlying25 rfl) ?_)
      refine L (S (Yd rfl rfl (decide_eq_false (by omega))) ?_)
      refine L (S (zd rfl) (zg (zc (zy ?_))))
      refine zC Tryz.results46 rfl ?_
      exact ⟨false, rfl, (fun h => by cases h), hmr⟩
theorem small_ret {s : Sch} (hs : SchOk w s) (hL1 : ∀ t ∈ s.tabs, t.cols.length ≤ 9223372036854775807) : Ret Tryz.prog 20 [.agg (zM s).toArray] w fun v w' => ∃ β, v = .bool β ∧ (β = true → SchFit s) ∧ Mv No w w' := by
  refine zN Tryz.func20 Tryz.ntmps20 rfl rfl ?_
  refine zf (zb ?_)
  refine L (Zl rfl ?_)
  rintro b1 w1 hb1 hm1 hn1
  refine L (S (zd rfl) (zg (zc (zf (zf ?_)))))
  have hs1 := hs.no hm1
  by_cases h1 : 20 < s.tabs.length
  · refine zb (L (S (ze yg rfl) ?_))
    refine L (zi yX rfl (hb1.cell (i := 0) rfl) ?_)
    refine L (S (zH Tryz.underlying34 rfl) ?_)
    refine L (S (yp rfl rfl (decide_eq_true (by omega))) ?_)
    refine L (S (za rfl) (zl (j := 4) (dj := 11) (b := false) (b' := true) (d := 12) rfl (zl (j := 4) (dj := 11) (b := false) (b' := true) (d := 13) rfl (zl (j := 4) (dj := 11) (b := false) (b' := true) (d := 14) rfl (zl (j := 4) (dj := 11) (b := false) (b' := true) (d := 15) rfl (L (S (zt rfl rfl) (zg (zc (zr rfl (zf (zb (L (S (zd rfl) (zg (zc (zy (zm ?_))))))))))))))))))
    refine zC Tryz.results20 rfl ?_
    exact ⟨false, rfl, (fun h => by cases h), hm1⟩
  by_cases h2 : 20 < s.idxs.length
  · refine zb (L (S (ze yg rfl) ?_))
    refine L (zi yX rfl (hb1.cell (i := 0) rfl) ?_)
    refine L (S (zH Tryz.underlying34 rfl) ?_)
    refine L (S (yp rfl rfl (decide_eq_false (by omega))) ?_)
    refine L (S (za rfl) (zh (j := 4) (dj := 11) (b := false) (S (ze yf rfl) ?_) rfl))
    refine zh (j := 4) (dj := 11) (b := false) (zi yS rfl (hb1.cell (i := 1) rfl) ?_) rfl
    refine zh (j := 4) (dj := 11) (b := false) (S (zH Tryz.underlying35 rfl) ?_) rfl
    refine zh (j := 4) (dj := 11) (b := false) (S (yp rfl rfl (decide_eq_true (by omega))) ?_) rfl
    refine L (S (zj rfl rfl) (zg (zc (zr rfl (zf (zb (L (S (zd rfl) (zg (zc (zy (zm ?_))))))))))))
    refine zC Tryz.results20 rfl ?_
    exact ⟨false, rfl, (fun h => by cases h), hm1⟩
  refine zb (L (S (ze yg rfl) ?_))
  refine L (zi yX rfl (hb1.cell (i := 0) rfl) ?_)
  refine L (S (zH Tryz.underlying34 rfl) ?_)
  refine L (S (yp rfl rfl (decide_eq_false (by omega))) ?_)
  refine L (S (za rfl) (zh (j := 4) (dj := 11) (b := false) (S (ze yf rfl) ?_) rfl))
  refine zh (j := 4) (dj := 11) (b := false) (zi yS rfl (hb1.cell (i := 1) rfl) ?_) rfl
  refine zh (j := 4) (dj := 11) (b := false) (S (zH Tryz.underlying35 rfl) ?_) rfl
  refine zh (j := 4) (dj := 11) (b := false) (S (yp rfl rfl (decide_eq_false (by omega))) ?_) rfl
  refine L (S (zj rfl rfl) (zg (zc (zk rfl (zo (zc (zf (zf (zb (L (S (ze yg rfl) ?_)))))))))))
  refine L (zi yX rfl (hb1.cell (i := 0) rfl) ?_)
  refine L (S (zH Tryz.underlying34 rfl) ?_)
  refine L (S (za rfl) (zg (zc (zx ?_))))
  refine yF (γ := Nat) (fun i => [(1, .pointer (some ⟨b1, 0, none⟩)), (18, .slice s.A s.tabs.length s.c), (19, .int .i64 (s.tabs.length : Int)), (20, .int .i64 (i : Int))]) (fun i wr => Mv No w1 wr ∧ i ≤ s.tabs.length ∧ ∀ x ∈ s.tabs.take i, TabFit x) (fun i => s.tabs.length - i) 0 (.cons rfl (.cons rfl (.cons rfl (.cons rfl (.nil _))))) ⟨Mv.refl w1, Nat.zero_le _, by simp⟩ ?_
  rintro i wr ⟨hmr, hi, hb⟩
  by_cases hlt : i < s.tabs.length
  · have ha := List.getElem?_eq_getElem hlt
    generalize s.tabs[i] = x at ha
    have hsz := yR x.name
    have hxok := (hs1.tab x (List.mem_of_getElem? ha)).no hmr
    have hxl := hL1 x (List.mem_of_getElem? ha)
    obtain ⟨ba, oa, hAe, -, hrow⟩ := yr yI (by decide) (hs1.tsl.no hmr) ha
    rw [hAe]
    refine zf (zb ?_)
    refine L (S (zG rfl rfl (decide_eq_true (by omega))) ?_)
    refine zg (zc (zf (zr rfl (zo (zc (zf (zx (zf (zb ?_)))))))))
    refine L (S (zn Tryz.underlying34 (zD yl) rfl rfl (j := i) rfl (by omega) (p := oa + i * 5) (by omega)) ?_)
    refine L (zB Zo rfl hrow rfl ?_)
    refine L (ye (zs := [(.string (ByteArray.mk #[])), (.slice none 0 0), (.int .i64 0), (.int .i64 0), (.int .i64 0)]) yl rfl ?_)
    rintro b4 w4 hb4 hm4 hn4
    refine L (zw yl rfl rfl (yN x) rfl hb4 (by exact Nat.le_refl 5) ?_)
    rintro w5 hb5 hm5
    refine zg (zc (zf ?_))
    have hb5' : Blk w5 b4 (yA x) 27 := hb5
    have hm45 : Mv No wr w5 := hm4.new hm5 hn4
    have hN := names_ret (hxok.sl.no hm45) hxl (c := x.cap)
    by_cases q1 : 20 < x.cols.length
    · refine zb (L (S (ze yV rfl) ?_))
      refine L (zi ZC rfl (hb5'.cell (i := 1) rfl) ?_)
      refine L (S (zH Tryz.underlying25 rfl) ?_)
      refine L (S (yp rfl rfl (decide_eq_true (by omega))) ?_)
      refine L (S (za rfl) (zl (j := 4) (dj := 28) (b := false) (b' := true) (d := 29) rfl (zl (j := 4) (dj := 28) (b := false) (b' := true) (d := 30) rfl (zl (j := 4) (dj := 28) (b := false) (b' := true) (d := 31) rfl (zl (j := 4) (dj := 28) (b := false) (b' := true) (d := 32) rfl (L (S (zt rfl rfl) (L (S (za rfl) (zl (j := 10) (dj := 34) (b := false) (b' := true) (d := 35) rfl (zl (j := 10) (dj := 34) (b := false) (b' := true) (d := 36) rfl (zl (j := 10) (dj := 34) (b := false) (b' := true) (d := 37) rfl (zl (j := 10) (dj := 34) (b := false) (b' := true) (d := 38) rfl (L (S (zt rfl rfl) (zg (zc (zr rfl (zf (zb (L (S (zd rfl) (zg (zc (zy (zP (zm (zm ?_))))))))))))))))))))))))))))
      refine zP (zm ?_)
      refine zC Tryz.results20 rfl ?_
      exact ⟨false, rfl, (fun h => by cases h), (hm1.no hmr).no hm45⟩
    by_cases q2 : 50 < x.name.length
    · refine zb (L (S (ze yV rfl) ?_))
      refine L (zi ZC rfl (hb5'.cell (i := 1) rfl) ?_)
      refine L (S (zH Tryz.underlying25 rfl) ?_)
      refine L (S (yp rfl rfl (decide_eq_false (by omega))) ?_)
      refine L (S (za rfl) (zh (j := 4) (dj := 28) (b := false) (S (ze yG rfl) ?_) rfl))
      refine zh (j := 4) (dj := 28) (b := false) (zi yc rfl (hb5'.cell (i := 0) rfl) ?_) rfl
      refine zh (j := 4) (dj := 28) (b := false) (S (yi Tryz.underlying9 rfl) ?_) rfl
      refine zh (j := 4) (dj := 28) (b := false) (S (yp rfl rfl (decide_eq_true (by omega))) ?_) rfl
      refine L (S (zj rfl rfl) (L (S (za rfl) (zl (j := 10) (dj := 34) (b := false) (b' := true) (d := 35) rfl (zl (j := 10) (dj := 34) (b := false) (b' := true) (d := 36) rfl (zl (j := 10) (dj := 34) (b := false) (b' := true) (d := 37) rfl (zl (j := 10) (dj := 34) (b := false) (b' := true) (d := 38) rfl (L (S (zt rfl rfl) (zg (zc (zr rfl (zf (zb (L (S (zd rfl) (zg (zc (zy (zP (zm (zm (zP (zm ?_))))))))))))))))))))))))
      refine zC Tryz.results20 rfl ?_
      exact ⟨false, rfl, (fun h => by cases h), (hm1.no hmr).no hm45⟩
    refine zb (L (S (ze yV rfl) ?_))
    refine L (zi ZC rfl (hb5'.cell (i := 1) rfl) ?_)
    refine L (S (zH Tryz.underlying25 rfl) ?_)
    refine L (S (yp rfl rfl (decide_eq_false (by omega))) ?_)
    refine L (S (za rfl) (zh (j := 4) (dj := 28) (b := false) (S (ze yG rfl) ?_) rfl))
    refine zh (j := 4) (dj := 28) (b := false) (zi yc rfl (hb5'.cell (i := 0) rfl) ?_) rfl
    refine zh (j := 4) (dj := 28) (b := false) (S (yi Tryz.underlying9 rfl) ?_) rfl
    refine zh (j := 4) (dj := 28) (b := false) (S (yp rfl rfl (decide_eq_false (by omega))) ?_) rfl
    refine L (S (zj rfl rfl) (L (S (za rfl) (zh (j := 10) (dj := 34) (b := false) (S (ze yV rfl) ?_) rfl))))
    refine zh (j := 10) (dj := 34) (b := false) (zi ZC rfl (hb5'.cell (i := 1) rfl) ?_) rfl
    refine zh (j := 10) (dj := 34) (b := false) (zq cb_46 rfl (hN) ?_) rfl
    rintro _ w6 ⟨β, rfl, hβ, hm6⟩
    cases β with
    | false =>
      refine zh (j := 10) (dj := 34) (b := false) (S (yu rfl rfl) (L (S (zj rfl rfl) (zg (zc (zr rfl (zf (zb (L (S (zd rfl) (zg (zc (zy (zP (zm (zm (zP (zm ?_)))))))))))))))))) rfl
      refine zC Tryz.results20 rfl ?_
      exact ⟨false, rfl, (fun h => by cases h), ((hm1.no hmr).no hm45).no hm6⟩
    | true =>
      refine zh (j := 10) (dj := 34) (b := false) (S (yu rfl rfl) (L (S (zj rfl rfl) (zg (zc (zk rfl (zo (yj (zc (zb ?_)))))))))) rfl
      refine L (S (zT rfl rfl (z1 (c := ((i + 1 : Nat) : Int)) (by omega))) ?_)
      refine L (S (za rfl) (zg (zc ?_)))
      refine ⟨rfl, i + 1, by rw [← hAe]; exact (.cons rfl (.cons rfl (.cons rfl (.cons rfl (.nil _))))), ⟨(hmr.no hm45).no hm6, by omega, fun y hy => ?_⟩, by omega⟩
      rw [yY ha, List.mem_append] at hy
      rcases hy with hy | hy
      · exact hb y hy
      · have : y = x := by simpa using hy
        rw [this]; exact ⟨by omega, hβ rfl⟩
  have e : s.tabs.take i = s.tabs := List.take_of_length_le (by omega)
  rw [e] at hb
  refine zf (zb ?_)
  refine L (S (zG rfl rfl (decide_eq_false (by omega))) ?_)
  refine zg (zc (zf (zk rfl (yn (zL (zL (yK (zc (zf (zf (zb (L (S (ze yf rfl) ?_)))))))))))))
  refine L (zi yS rfl ((hb1.no hmr).cell (i := 1) rfl) ?_)
  refine L (S (zH Tryz.underlying35 rfl) ?_)
  refine L (S (za rfl) (zg (zc (zx ?_))))
  have hs2 := hs1.no hmr
  refine yF (γ := Nat) (fun i => [(42, .slice s.B s.idxs.length s.d), (43, .int .i64 (s.idxs.length : Int)), (44, .int .i64 (i : Int))]) (fun i wq => Mv No wr wq ∧ i ≤ s.idxs.length ∧ ∀ x ∈ s.idxs.take i, IdxFit x) (fun i => s.idxs.length - i) 0 (.cons rfl (.cons rfl (.cons rfl (.nil _)))) ⟨Mv.refl wr, Nat.zero_le _, by simp⟩ ?_
  rintro j wq ⟨hmq, hj, hbi⟩
  by_cases hjl : j < s.idxs.length
  · have ha := List.getElem?_eq_getElem hjl
    generalize s.idxs[j] = x at ha
    have hsz := yR x.name
    have hsz2 := yR x.table
    obtain ⟨ba, oa, hAe, -, hrow⟩ := yr yw (by decide) (hs2.isl.no hmq) ha
    rw [hAe]
    refine zf (zb ?_)
    refine L (S (zG rfl rfl (decide_eq_true (by omega))) ?_)
    refine zg (zc (zf (zr rfl (zo (zc (zf (zx (zf (zb ?_)))))))))
    refine L (S (zn Tryz.underlying35 (zD yb) rfl rfl (j := j) rfl (by omega) (p := oa + j * 6) (by omega)) ?_)
    refine L (zB Zu rfl hrow rfl ?_)
    refine L (ye (zs := [(.string (ByteArray.mk #[])), (.string (ByteArray.mk #[])), (.slice none 0 0), (.int .i64 0), (.int .i64 0), (.int .i64 0)]) yb rfl ?_)
    rintro b4 w4 hb4 hm4 hn4
    refine L (zw yb rfl rfl (yz x) rfl hb4 (by exact Nat.le_refl 6) ?_)
    rintro w5 hb5 hm5
    refine zg (zc (zf ?_))
    have hb5' : Blk w5 b4 (yq x) 30 := hb5
    have hm45 : Mv No wq w5 := hm4.new hm5 hn4
    have hmz := ((hm1.no hmr).no hmq).no hm45
    by_cases q1 : 20 < x.cols.length
    · refine zb (L (S (ze Zj rfl) ?_))
      refine L (zi Z6 rfl (hb5'.cell (i := 2) rfl) ?_)
      refine L (S (zH Tryz.underlying28 rfl) ?_)
      refine L (S (yp rfl rfl (decide_eq_true (by omega))) ?_)
      refine L (S (za rfl) (zl (j := 4) (dj := 52) (b := false) (b' := true) (d := 53) rfl (zl (j := 4) (dj := 52) (b := false) (b' := true) (d := 54) rfl (zl (j := 4) (dj := 52) (b := false) (b' := true) (d := 55) rfl (zl (j := 4) (dj := 52) (b := false) (b' := true) (d := 56) rfl (L (S (zt rfl rfl) (L (S (za rfl) (zl (j := 10) (dj := 58) (b := false) (b' := true) (d := 59) rfl (zl (j := 10) (dj := 58) (b := false) (b' := true) (d := 60) rfl (zl (j := 10) (dj := 58) (b := false) (b' := true) (d := 61) rfl (zl (j := 10) (dj := 58) (b := false) (b' := true) (d := 62) rfl (L (S (zt rfl rfl) (zg (zc (zr rfl (zf (zb (L (S (zd rfl) (zg (zc (zy (zP (zm (zm ?_))))))))))))))))))))))))))))
      refine zP (zm ?_)
      refine zC Tryz.results20 rfl ?_
      exact ⟨false, rfl, (fun h => by cases h), hmz⟩
    by_cases q2 : 50 < x.name.length
    · refine zb (L (S (ze Zj rfl) ?_))
      refine L (zi Z6 rfl (hb5'.cell (i := 2) rfl) ?_)
      refine L (S (zH Tryz.underlying28 rfl) ?_)
      refine L (S (yp rfl rfl (decide_eq_false (by omega))) ?_)
      refine L (S (za rfl) (zh (j := 4) (dj := 52) (b := false) (S (ze yx rfl) ?_) rfl))
      refine zh (j := 4) (dj := 52) (b := false) (zi yc rfl (hb5'.cell (i := 0) rfl) ?_) rfl
      refine zh (j := 4) (dj := 52) (b := false) (S (yi Tryz.underlying9 rfl) ?_) rfl
      refine zh (j := 4) (dj := 52) (b := false) (S (yp rfl rfl (decide_eq_true (by omega))) ?_) rfl
      refine L (S (zj rfl rfl) (L (S (za rfl) (zl (j := 10) (dj := 58) (b := false) (b' := true) (d := 59) rfl (zl (j := 10) (dj := 58) (b := false) (b' := true) (d := 60) rfl (zl (j := 10) (dj := 58) (b := false) (b' := true) (d := 61) rfl (zl (j := 10) (dj := 58) (b := false) (b' := true) (d := 62) rfl (L (S (zt rfl rfl) (zg (zc (zr rfl (zf (zb (L (S (zd rfl) (zg (zc (zy (zP (zm (zm (zP (zm ?_))))))))))))))))))))))))
      refine zC Tryz.results20 rfl ?_
      exact ⟨false, rfl, (fun h => by cases h), hmz⟩
    by_cases q3 : 50 < x.table.length
    · refine zb (L (S (ze Zj rfl) ?_))
      refine L (zi Z6 rfl (hb5'.cell (i := 2) rfl) ?_)
      refine L (S (zH Tryz.underlying28 rfl) ?_)
      refine L (S (yp rfl rfl (decide_eq_false (by omega))) ?_)
      refine L (S (za rfl) (zh (j := 4) (dj := 52) (b := false) (S (ze yx rfl) ?_) rfl))
      refine zh (j := 4) (dj := 52) (b := false) (zi yc rfl (hb5'.cell (i := 0) rfl) ?_) rfl
      refine zh (j := 4) (dj := 52) (b := false) (S (yi Tryz.underlying9 rfl) ?_) rfl
      refine zh (j := 4) (dj := 52) (b := false) (S (yp rfl rfl (decide_eq_false (by omega))) ?_) rfl
      refine L (S (zj rfl rfl) (L (S (za rfl) (zh (j := 10) (dj := 58) (b := false) (S (ze Zp rfl) ?_) rfl))))
      refine zh (j := 10) (dj := 58) (b := false) (zi yc rfl (hb5'.cell (i := 1) rfl) ?_) rfl
      refine zh (j := 10) (dj := 58) (b := false) (S (yi Tryz.underlying9 rfl) ?_) rfl
      refine zh (j := 10) (dj := 58) (b := false) (S (yp rfl rfl (decide_eq_true (by omega))) ?_) rfl
      refine L (S (zj rfl rfl) (zg (zc (zr rfl (zf (zb (L (S (zd rfl) (zg (zc (zy (zP (zm (zm (zP (zm ?_))))))))))))))))
      refine zC Tryz.results20 rfl ?_
      exact ⟨false, rfl, (fun h => by cases h), hmz⟩
    · refine zb (L (S (ze Zj rfl) ?_))
      refine L (zi Z6 rfl (hb5'.cell (i := 2) rfl) ?_)
      refine L (S (zH Tryz.underlying28 rfl) ?_)
      refine L (S (yp rfl rfl (decide_eq_false (by omega))) ?_)
      refine L (S (za rfl) (zh (j := 4) (dj := 52) (b := false) (S (ze yx rfl) ?_) rfl))
      refine zh (j := 4) (dj := 52) (b := false) (zi yc rfl (hb5'.cell (i := 0) rfl) ?_) rfl
      refine zh (j := 4) (dj := 52) (b := false) (S (yi Tryz.underlying9 rfl) ?_) rfl
      refine zh (j := 4) (dj := 52) (b := false) (S (yp rfl rfl (decide_eq_false (by omega))) ?_) rfl
      refine L (S (zj rfl rfl) (L (S (za rfl) (zh (j := 10) (dj := 58) (b := false) (S (ze Zp rfl) ?_) rfl))))
      refine zh (j := 10) (dj := 58) (b := false) (zi yc rfl (hb5'.cell (i := 1) rfl) ?_) rfl
      refine zh (j := 10) (dj := 58) (b := false) (S (yi Tryz.underlying9 rfl) ?_) rfl
      refine zh (j := 10) (dj := 58) (b := false) (S (yp rfl rfl (decide_eq_false (by omega))) ?_) rfl
      refine L (S (zj rfl rfl) (zg (zc (zk rfl (zo (yj (zc (zb ?_))))))))
      refine L (S (zT rfl rfl (z1 (c := ((j + 1 : Nat) : Int)) (by omega))) ?_)
      refine L (S (za rfl) (zg (zc ?_)))
      refine ⟨rfl, j + 1, by rw [← hAe]; exact (.cons rfl (.cons rfl (.cons rfl (.nil _)))), ⟨hmq.no hm45, by omega, fun y hy => ?_⟩, by omega⟩
      rw [yY ha, List.mem_append] at hy
      rcases hy with hy | hy
      · exact hbi y hy
      · have : y = x := by simpa using hy
        rw [this]; exact ⟨by omega, by omega, by omega⟩
  · have e2 : s.idxs.take j = s.idxs := List.take_of_length_le (by omega)
    rw [e2] at hbi
    refine zf (zb ?_)
    refine L (S (zG rfl rfl (decide_eq_false (by omega))) ?_)
    refine zg (zc (zf (zk rfl (yn (zL (zL (yK (zc (zf (zb (L (S (zd rfl) (zg (zc (zy ?_)))))))))))))))
    refine zC Tryz.results20 rfl ?_
    exact ⟨true, rfl, fun _ => ⟨by omega, by omega, hb, hbi⟩, (hm1.no hmr).no hmq⟩
theorem fits_ret {l : List OpV} {A : Option Addr} {c : Nat} (hA : SlR w A (zI opC l)) (hok : ∀ o ∈ l, OpOk w o) (hL : ∀ o ∈ l, o.t.cols.length ≤ 9223372036854775807) : Ret Tryz.prog 11 [.slice A l.length c] w fun v w' => ∃ β, v = .bool β ∧ (β = true → l.length ≤ 60 ∧ ∀ o ∈ l, OpFit o) ∧ Mv No w w' := by
  refine zN Tryz.func11 Tryz.ntmps11 rfl rfl ?_
  by_cases h1 : 60 < l.length
  · refine zf (zb (L (S (zd rfl) (zg (zc (zf (zf (zb (L (S (za rfl) ?_))))))))))
    refine L (S (zH Tryz.underlying24 rfl) ?_)
    refine L (S (yp rfl rfl (decide_eq_true (by omega))) ?_)
    refine zg (zc (zr rfl (zf (zb (L (S (zd rfl) (zg (zc (zy (zm ?_))))))))))
    refine zC Tryz.results11 rfl ?_
    exact ⟨false, rfl, (fun h => by cases h), Mv.refl w⟩
  refine zf (zb (L (S (zd rfl) (zg (zc (zf (zf (zb (L (S (za rfl) ?_))))))))))
  refine L (S (zH Tryz.underlying24 rfl) ?_)
  refine L (S (yp rfl rfl (decide_eq_false (by omega))) ?_)
  refine zg (zc (zk rfl (zo (zc (zf (zf (zb (L (S (za rfl) ?_)))))))))
  refine L (S (zH Tryz.underlying24 rfl) ?_)
  refine L (S (za rfl) (zg (zc (zx ?_))))
  refine yF (γ := Nat) (fun i => [(8, .slice A l.length c), (9, .int .i64 (l.length : Int)), (10, .int .i64 (i : Int))]) (fun i wr => Mv No w wr ∧ i ≤ l.length ∧ ∀ x ∈ l.take i, OpFit x) (fun i => l.length - i) 0 (.cons rfl (.cons rfl (.cons rfl (.nil _)))) ⟨Mv.refl w, Nat.zero_le _, by simp⟩ ?_
  rintro i wr ⟨hmr, hi, hb⟩
  by_cases hlt : i < l.length
  · have ha := List.getElem?_eq_getElem hlt
    generalize l[i] = x at ha
    have hsz := yR x.name
    have hxok := (hok x (List.mem_of_getElem? ha)).no hmr
    have hxl := hL x (List.mem_of_getElem? ha)
    obtain ⟨ba, oa, hAe, -, hrow⟩ := yr opC_len (by decide) (hA.no hmr) ha
    rw [hAe]
    refine zf (zb ?_)
    refine L (S (zG rfl rfl (decide_eq_true (by omega))) ?_)
    refine zg (zc (zf (zr rfl (zo (zc (zf (zx (zf (zb ?_)))))))))
    refine L (S (zn Tryz.underlying24 (zD ti_32) rfl rfl (j := i) rfl (by omega) (p := oa + i * 13) (by omega)) ?_)
    refine L (zB st_32 rfl hrow rfl ?_)
    refine L (ye (zs := [(.int .i64 0), (.string (ByteArray.mk #[])), (.slice none 0 0), (.int .i64 0), (.int .i64 0), (.int .i64 0), (.string (ByteArray.mk #[])), (.string (ByteArray.mk #[])), (.slice none 0 0), (.int .i64 0), (.int .i64 0), (.int .i64 0), (.string (ByteArray.mk #[]))]) ti_32 rfl ?_)
    rintro b4 w4 hb4 hm4 hn4
    refine L (zw ti_32 rfl rfl (opC_one x) rfl hb4 (by exact Nat.le_refl 13) ?_)
    rintro w5 hb5 hm5
    refine zg (zc (zf (zb (L (S (ze fo_32_1 rfl) ?_)))))
    refine L (zB Zo rfl ((show Row w5 b4 (0 + 1) (yA x.t) from (Blk.row (show Blk w5 b4 (opC x) 32 from hb5) |>.drop 1).take 5)) rfl ?_)
    refine L (zU (l := [.tmp 15]) (vss := [yA x.t]) Tryz.underlying34 yl (by decide) rfl (by simp [yA, yq, Zt]) rfl (by decide) (by decide) ?_)
    rintro b6 w6 hb6 hm6 hn6
    refine L (S (ze fo_32_2 rfl) ?_)
    refine L (zB Zu rfl ((show Row w6 b4 (0 + 6) (yq x.x) from ((Blk.row (show Blk w5 b4 (opC x) 32 from hb5) |>.drop 6).take 6).no hm6)) rfl ?_)
    refine L (zU (l := [.tmp 18]) (vss := [yq x.x]) Tryz.underlying35 yb (by decide) rfl (by simp [yA, yq, Zt]) rfl (by decide) (by decide) ?_)
    rintro b7 w7 hb7 hm7 hn7
    refine L (S (zW (ix := [0, 1]) (l := [.tmp 16, .tmp 19]) bi_37_0_1 rfl (by simp [Value.oneCell']) rfl) ?_)
    have hb5' : Blk w5 b4 (opC x) 32 := hb5
    have hm45 : Mv No wr w5 := hm4.new hm5 hn4
    have hm57 := hm6.no hm7
    have hxt : ∀ t ∈ [x.t], TabOk w7 t := fun t ht => by
      rw [List.mem_singleton.1 ht]; exact (hxok.t.no hm45).no hm57
    have hxx : ∀ t ∈ [x.x], IdxOk w7 t := fun t ht => by
      rw [List.mem_singleton.1 ht]; exact (hxok.x.no hm45).no hm57
    have hxn : ∀ t ∈ [x.t], t.cols.length ≤ 9223372036854775807 := fun t ht => by
      rw [List.mem_singleton.1 ht]; exact hxl
    have hS := small_ret (w := w7) (s := ⟨[x.t], some ⟨b6, 0, none⟩, 1, [x.x], some ⟨b7, 0, none⟩, 1⟩) ⟨.inr ⟨b6, 0, rfl, (hb6.no hm7).row⟩, Nat.le_refl 1, hxt, .inr ⟨b7, 0, rfl, hb7.row⟩, Nat.le_refl 1, hxx⟩ hxn
    refine L (zq cb_20 rfl (hS) ?_)
    rintro _ w8 ⟨β, rfl, hβ, hm8⟩
    have hm58 := hm57.no hm8
    cases β with
    | false =>
      refine L (S (yu rfl rfl) (L (S (za rfl) (zl (j := 9) (dj := 23) (b := false) (b' := true) (d := 24) rfl (zl (j := 9) (dj := 23) (b := false) (b' := true) (d := 25) rfl (zl (j := 9) (dj := 23) (b := false) (b' := true) (d := 26) rfl (zl (j := 9) (dj := 23) (b := false) (b' := true) (d := 27) rfl (L (S (zt rfl rfl) (zg (zc (zr rfl (zf (zb (L (S (zd rfl) (zg (zc (zy (zP (zm (zm (zP (zm ?_))))))))))))))))))))))))
      refine zC Tryz.results11 rfl ?_
      exact ⟨false, rfl, (fun h => by cases h), (hmr.no hm45).no hm58⟩
    | true =>
      have hf := hβ rfl
      by_cases q : 50 < x.name.length
      · refine L (S (yu rfl rfl) (L (S (za rfl) (zh (j := 9) (dj := 23) (b := false) (S (ze ZW rfl) ?_) rfl))))
        refine zh (j := 9) (dj := 23) (b := false) (zi yc rfl ((hb5'.no hm58).cell (i := 12) rfl) ?_) rfl
        refine zh (j := 9) (dj := 23) (b := false) (S (yi Tryz.underlying9 rfl) ?_) rfl
        refine zh (j := 9) (dj := 23) (b := false) (S (yp rfl rfl (decide_eq_true (by omega))) ?_) rfl
        refine L (S (zj rfl rfl) (zg (zc (zr rfl (zf (zb (L (S (zd rfl) (zg (zc (zy (zP (zm (zm (zP (zm ?_))))))))))))))))
        refine zC Tryz.results11 rfl ?_
        exact ⟨false, rfl, (fun h => by cases h), (hmr.no hm45).no hm58⟩
      · refine L (S (yu rfl rfl) (L (S (za rfl) (zh (j := 9) (dj := 23) (b := false) (S (ze ZW rfl) ?_) rfl))))
        refine zh (j := 9) (dj := 23) (b := false) (zi yc rfl ((hb5'.no hm58).cell (i := 12) rfl) ?_) rfl
        refine zh (j := 9) (dj := 23) (b := false) (S (yi Tryz.underlying9 rfl) ?_) rfl
        refine zh (j := 9) (dj := 23) (b := false) (S (yp rfl rfl (decide_eq_false (by omega))) ?_) rfl
        refine L (S (zj rfl rfl) (zg (zc (zk rfl (zo (yj (zc (zb ?_))))))))
        refine L (S (zT rfl rfl (z1 (c := ((i + 1 : Nat) : Int)) (by omega))) ?_)
        refine L (S (za rfl) (zg (zc ?_)))
        refine ⟨rfl, i + 1, by rw [← hAe]; exact (.cons rfl (.cons rfl (.cons rfl (.nil _)))), ⟨(hmr.no hm45).no hm58, by omega, fun y hy => ?_⟩, by omega⟩
        rw [yY ha, List.mem_append] at hy
        rcases hy with hy | hy
        · exact hb y hy
        · have : y = x := by simpa using hy
          rw [this]; exact ⟨hf.tab x.t (List.mem_singleton.2 rfl), hf.idx x.x (List.mem_singleton.2 rfl), by omega⟩
  · have e : l.take i = l := List.take_of_length_le (by omega)
    rw [e] at hb
    refine zf (zb ?_)
    refine L (S (zG rfl rfl (decide_eq_false (by omega))) ?_)
    refine zg (zc (zf (zk rfl (yn (zL (zL (yK (zc (zf (zb (L (S (zd rfl) (zg (zc (zy ?_)))))))))))))))
    refine zC Tryz.results11 rfl ?_
    exact ⟨true, rfl, fun _ => ⟨by omega, hb⟩, hmr⟩
end
end Go.Proofs.YtnoioimphcmeiaaGreatDoor
namespace Go.Proofs.YtnoioimphcmeiaaGreatDoor
open Go.RowKit
set_option maxRecDepth 20000
set_option maxHeartbeats 2000000

/-- Is the index at a place the table's? -/
def ofP (l : List Idx) (nm : List UInt8) (i : Nat) : Bool := match l[i]? with
  | some x => decide (x.table = nm)
  | none => false
def ofL (l : List Idx) (nm : List UInt8) (n : Nat) : List Nat := (List.range n).filter (ofP l nm)
theorem ofL_yes {l : List Idx} {nm : List UInt8} {i : Nat} {x : Idx} (h : l[i]? = some x) (hq : x.table = nm) : ofL l nm (i + 1) = ofL l nm i ++ [i] := by
  unfold ofL
  rw [List.range_succ, List.filter_append]
  simp [ofP, h, hq]
theorem ofL_no {l : List Idx} {nm : List UInt8} {i : Nat} {x : Idx} (h : l[i]? = some x) (hq : x.table ≠ nm) : ofL l nm (i + 1) = ofL l nm i := by
  unfold ofL
  rw [List.range_succ, List.filter_append]
  simp [ofP, h, hq]
theorem ofL_len (l : List Idx) (nm : List UInt8) (n : Nat) : (ofL l nm n).length ≤ n := Nat.le_trans (List.length_filter_le ..) (by rw [List.length_range]; exact Nat.le_refl _)
theorem ofL_get {l : List Idx} {nm : List UInt8} {n j k : Nat} (h : (ofL l nm n)[j]? = some k) : k < n ∧ ∃ x, l[k]? = some x ∧ x.table = nm := by
  have hm := List.mem_of_getElem? h
  obtain ⟨h1, h2⟩ := List.mem_filter.1 hm
  refine ⟨List.mem_range.1 h1, ?_⟩
  unfold ofP at h2
  split at h2
  · rename_i x hx; exact ⟨x, hx, of_decide_eq_true h2⟩
  · cases h2
theorem ofL_lt {l : List Idx} {nm : List UInt8} {n j k m : Nat} (h : (ofL l nm n)[j]? = some k) (h2 : (ofL l nm n)[j + 1]? = some m) : k < m := by
  have hp : (ofL l nm n).Pairwise (· < ·) := List.Pairwise.filter _ List.pairwise_lt_range
  obtain ⟨h3, rfl⟩ := List.getElem?_eq_some_iff.1 h
  obtain ⟨h4, rfl⟩ := List.getElem?_eq_some_iff.1 h2
  exact List.pairwise_iff_getElem.1 hp j (j + 1) h3 h4 (Nat.lt_succ_self j)
def natC (n : Nat) : List Value := [.int .i64 (n : Int)]
theorem natC_len (n : Nat) : (natC n).length = 1 := rfl
theorem natC_one (n : Nat) : ∀ v ∈ natC n, v.oneCell' = true := by simp [natC, Value.oneCell']
section
variable {w : World}
theorem of_ret {s : Sch} (hs : SlR w s.B (zI yq s.idxs)) (hl : s.idxs.length ≤ 1000) (nm : List UInt8) : Ret Tryz.prog 19 [.agg (zM s).toArray, .string (str nm)] w fun v w' => ∃ A c, v = .slice A (ofL s.idxs nm s.idxs.length).length c ∧ SlR w' A (zI natC (ofL s.idxs nm s.idxs.length)) ∧ Mv No w w' := by
  refine zN Tryz.func19 Tryz.ntmps19 rfl rfl ?_
  refine zf (zb ?_)
  refine L (Zl rfl ?_)
  rintro b2 w2 hb2 hm2 hn2
  refine L (S (zd rfl) (zg (zc (zf (zb (L (S (zd rfl) (zg (zc (zf (zf (zb (L (S (ze yf rfl) ?_))))))))))))))
  refine L (zi yS rfl (hb2.cell (i := 1) rfl) ?_)
  refine L (S (zH Tryz.underlying35 rfl) ?_)
  refine L (S (za rfl) (zg (zc (zx ?_))))
  refine yF (γ := Nat × Option Addr × Nat) (fun q => [(1, .string (str nm)), (5, .slice q.2.1 (ofL s.idxs nm q.1).length q.2.2), (9, .slice s.B s.idxs.length s.d), (10, .int .i64 (s.idxs.length : Int)), (11, .int .i64 (q.1 : Int))]) (fun q wr => Mv No w2 wr ∧ q.1 ≤ s.idxs.length ∧ wr.ownsRow w2.heap.size 3 1 (.slice q.2.1 (ofL s.idxs nm q.1).length q.2.2) (ofL s.idxs nm q.1).length (zI natC (ofL s.idxs nm q.1))) (fun q => s.idxs.length - q.1) (0, none, 0) (.cons rfl (.cons rfl (.cons rfl (.cons rfl (.cons rfl (.nil _)))))) ⟨Mv.refl w2, Nat.zero_le _, Yl⟩ ?_
  rintro ⟨i, B, d⟩ wr ⟨hmr, hi, hown⟩
  dsimp only at hi hown
  dsimp only
  have hs2 := hs.no hm2
  have hle := ofL_len s.idxs nm i
  by_cases hlt : i < s.idxs.length
  · have ha := List.getElem?_eq_getElem hlt
    generalize hgx : s.idxs[i] = x at ha
    obtain ⟨ba, oa, hAe, -, hrow⟩ := yr yw (by decide) (hs2.no hmr) ha
    rw [hAe]
    refine zf (zb ?_)
    refine L (S (zG rfl rfl (decide_eq_true (by omega))) ?_)
    refine zg (zc (zf (zr rfl (zo (zc (zf (zx (zf (zb (L (S (za rfl) ?_)))))))))))
    refine L (S (zn Tryz.underlying35 (zD yb) rfl rfl (j := i) rfl (by omega) (p := oa + i * 6) (by omega)) ?_)
    refine L (zB Zu rfl hrow rfl ?_)
    refine L (ye (zs := [(.string (ByteArray.mk #[])), (.string (ByteArray.mk #[])), (.slice none 0 0), (.int .i64 0), (.int .i64 0), (.int .i64 0)]) yb rfl ?_)
    rintro b5 w4 hb4 hm4 hn4
    refine L (S (zd rfl) ?_)
    refine L (zw yb rfl rfl (yz x) rfl hb4 (by exact Nat.le_refl 6) ?_)
    rintro w5 hb5 hm5
    refine zg (zc (zf ?_))
    have hb5' : Blk w5 b5 (yq x) 30 := hb5
    have hm45 : Mv No wr w5 := hm4.new hm5 hn4
    by_cases hq : x.table = nm
    · have e := ofL_yes ha hq
      refine zb (L (S (ze Zp rfl) ?_))
      refine L (zi yc rfl (hb5'.cell (i := 1) rfl) ?_)
      refine L (S (za rfl) ?_)
      refine L (S (ZR rfl rfl (decide_eq_true (congrArg str hq))) ?_)
      refine zg (zc (zr rfl (zb (L (S (za rfl) (L (S (za rfl) ?_)))))))
      refine L (Yq Tryz.underlying28 Yf rfl rfl rfl ?_)
      rintro b6 w6 hb6 hm6 hn6
      refine L (Zk Tryz.underlying28 Yf rfl (by decide) rfl (zE hown (hm45.no hm6)) rfl (.inr ⟨b6, 0, rfl, hb6.row⟩) rfl (natC_one i) (by have := hmr.size; have := hm45.size; have := hm6.size; omega) (by unfold maxLen; omega) (by omega) (q := (ofL s.idxs nm (i + 1)).length) (by rw [e]; simp) (ys := zI natC (ofL s.idxs nm (i + 1))) (by rw [e, yT, Zi]; rfl) ?_)
      rintro A8 c8 w8 ho8 hm8
      refine L (S (zd rfl) (zg (yj (zc (zb ?_)))))
      refine L (S (zT rfl rfl (z1 (c := ((i + 1 : Nat) : Int)) (by omega))) ?_)
      refine L (S (za rfl) (zg (zc ?_)))
      exact ⟨rfl, (i + 1, A8, c8), by rw [← hAe]; exact (.cons rfl (.cons rfl (.cons rfl (.cons rfl (.cons rfl (.nil _)))))), ⟨(hmr.no (hm45.no hm6)).own hm8 (zE hown (hm45.no hm6)) (Nat.le_refl _), hlt, ho8⟩, by dsimp only; omega⟩
    · have e := ofL_no ha hq
      refine zb (L (S (ze Zp rfl) ?_))
      refine L (zi yc rfl (hb5'.cell (i := 1) rfl) ?_)
      refine L (S (za rfl) ?_)
      refine L (S (ZR rfl rfl (decide_eq_false (fun h => hq (ZH h)))) ?_)
      refine zg (zc (zk rfl (zo (yj (zc (zb ?_))))))
      refine L (S (zT rfl rfl (z1 (c := ((i + 1 : Nat) : Int)) (by omega))) ?_)
      refine L (S (za rfl) (zg (zc ?_)))
      exact ⟨rfl, (i + 1, B, d), by dsimp only; rw [← hAe, e]; exact (.cons rfl (.cons rfl (.cons rfl (.cons rfl (.cons rfl (.nil _)))))), ⟨hmr.no hm45, hlt, by dsimp only; rw [e]; exact zE hown hm45⟩, by dsimp only; omega⟩
  · have e : i = s.idxs.length := by omega
    subst e
    refine zf (zb ?_)
    refine L (S (zG rfl rfl (decide_eq_false (by omega))) ?_)
    refine zg (zc (zf (zk rfl (yn (zL (zL (yK (zc (zf (zb (L (S (za rfl) (L (S (zd rfl) (zg (zc (zy ?_)))))))))))))))))
    refine zC Tryz.results19 rfl ?_
    exact ⟨B, d, rfl, (yW hown).1, hm2.no hmr⟩
theorem schemaPlays_ret (hv : Vr w) {l : List OpV} {A : Option Addr} {c : Nat} (hA : SlR w A (zI opC l)) (hok : ∀ o ∈ l, OpOk w o) (hL : ∀ o ∈ l, o.t.cols.length ≤ 9223372036854775807) : Ret Tryz.prog 5 [.slice A l.length c] w fun v w' => v = .bool true ∧ Mv No w w' := by
  have hli := fun w' (h : Mv No w w') => lives_ret (hv.no h)
  have hF := fun w' (h : Mv No w w') => fits_ret (hA.no h) (fun o ho => (hok o ho).no h) hL (c := c)
  refine zN Tryz.func5 Tryz.ntmps5 rfl rfl ?_
  refine zf (zb (L (S (zd rfl) (zg (zc (zf (zf (zb ?_))))))))
  refine L (zq cb_8 rfl ((hli _ (Mv.refl w))) ?_)
  rintro _ w1 ⟨rfl, hm1⟩
  refine L (S (yu rfl rfl) (L (S (za rfl) (zh (j := 2) (dj := 15) (b := false) (S (za rfl) ?_) rfl))))
  refine zh (j := 2) (dj := 15) (b := false) (zq cb_11 rfl ((hF _ hm1)) ?_) rfl
  rintro _ w2 ⟨β, rfl, hβ, hm2⟩
  have hm02 := hm1.no hm2
  cases β with
  | false =>
    refine zh (j := 2) (dj := 15) (b := false) (S (yu rfl rfl) (L (S (zj rfl rfl) (zg (zc (zr rfl (zf (zb ?_)))))))) rfl
    refine L (zq cb_8 rfl ((hli _ hm02)) ?_)
    rintro _ w3 ⟨rfl, hm3⟩
    refine L (S (zd rfl) (zg (zc (zy (zm ?_)))))
    refine zC Tryz.results5 rfl ?_
    exact ⟨rfl, hm02.no hm3⟩
  | true =>
  obtain ⟨hl60, hfit⟩ := hβ rfl
  refine zh (j := 2) (dj := 15) (b := false) (S (yu rfl rfl) (L (S (zj rfl rfl) (zg (zc (zk rfl (zo (zc (zf (zb ?_)))))))))) rfl
  refine L (ye (zs := [(.slice none 0 0), (.slice none 0 0)]) z6 rfl ?_)
  rintro b3 w3 hb3 hm3 hn3
  refine L (ye (zs := [(.slice none 0 0), (.slice none 0 0)]) z6 rfl ?_)
  rintro b4 w4 hb4 hm4 hn4
  refine zg (zc (zf (zf (zb (L (S (za rfl) ?_))))))
  refine L (S (zH Tryz.underlying24 rfl) ?_)
  refine L (S (za rfl) (zg (zc (zx ?_))))
  have l3 := hb3.lt
  have l4 := hb4.lt
  have z2 := hm02.size
  have z3 := hm3.size
  have hm04 := (hm02.no hm3).no hm4
  refine yF (γ := Nat × Sch × Sch) (fun q => [(3, .pointer (some ⟨b3, 0, none⟩)), (4, .pointer (some ⟨b4, 0, none⟩)), (21, .slice A l.length c), (22, .int .i64 (l.length : Int)), (23, .int .i64 (q.1 : Int))]) (fun q wr => q.1 ≤ l.length ∧ Mv No w wr ∧ Blk wr b3 (zM q.2.1) 37 ∧ Blk wr b4 (zM q.2.2) 37 ∧ SchOk wr q.2.1 ∧ SchOk wr q.2.2 ∧ q.2.1.tabs.map Tab.d = q.2.2.tabs.map Tab.d ∧ q.2.1.idxs.map Idx.d_ = q.2.2.idxs.map Idx.d_ ∧ SchSm q.2.1 ∧ q.2.1.tabs.length ≤ q.1 ∧ q.2.1.idxs.length ≤ q.1) (fun q => l.length - q.1) (0, zX, zX) (.cons rfl (.cons rfl (.cons rfl (.cons rfl (.cons rfl (.nil _)))))) ⟨Nat.zero_le _, hm04, hb3.no hm4, hb4, (Z1 (base := 0)).ok, (Z1 (base := 0)).ok, rfl, rfl, ⟨by decide, by decide, fun _ h => by simp [zX] at h, fun _ h => by simp [zX] at h⟩, Nat.zero_le _, Nat.zero_le _⟩ ?_
  rintro ⟨i, s, x⟩ wr ⟨hi, hmr, hr3, hr4, hs, hx, hd, he, hsm, ht1, ht2⟩
  dsimp only at hi hr3 hr4 hs hx hd he hsm ht1 ht2
  dsimp only
  by_cases hlt : i < l.length
  rotate_left
  · refine zf (zb ?_)
    refine L (S (zG rfl rfl (decide_eq_false (by omega))) ?_)
    refine zg (zc (zf (zk rfl (yn (zL (zL (yK (zc (zf (zb (L (S (zd rfl) (zg (zc (zy ?_)))))))))))))))
    refine zC Tryz.results5 rfl ?_
    exact ⟨rfl, hmr⟩
  have ha := List.getElem?_eq_getElem hlt
  generalize l[i] = o at ha
  have hof := hfit o (List.mem_of_getElem? ha)
  have hor := (hok o (List.mem_of_getElem? ha)).no hmr
  obtain ⟨ba, oa, hAe, -, hrow⟩ := yr opC_len (by decide) (hA.no hmr) ha
  rw [hAe]
  refine zf (zb ?_)
  refine L (S (zG rfl rfl (decide_eq_true (by omega))) ?_)
  refine zg (zc (zf (zr rfl (zo (zc (zf (zx (zf (zb ?_)))))))))
  refine L (S (zn Tryz.underlying24 (zD ti_32) rfl rfl (j := i) rfl (by omega) (p := oa + i * 13) (by omega)) ?_)
  refine L (zB st_32 rfl hrow rfl ?_)
  refine L (ye (zs := [(.int .i64 0), (.string (ByteArray.mk #[])), (.slice none 0 0), (.int .i64 0), (.int .i64 0), (.int .i64 0), (.string (ByteArray.mk #[])), (.string (ByteArray.mk #[])), (.slice none 0 0), (.int .i64 0), (.int .i64 0), (.int .i64 0), (.string (ByteArray.mk #[]))]) ti_32 rfl ?_)
  rintro b6 w5 hb5 hm5 hn5
  refine L (zw ti_32 rfl rfl (opC_one o) rfl hb5 (by exact Nat.le_refl 13) ?_)
  rintro w6 hb6 hm6
  refine zg (zc (zf ?_))
  have hb6' : Blk w6 b6 (opC o) 32 := hb6
  have hm56 : Mv No wr w6 := hm5.new hm6 hn5
  have lr4 := hr4.lt
  have lr3 := hr3.lt
  have hDo := do_ret (hv.no (hmr.no hm56)) (hs.no hm56) (hx.no hm56) (hor.no hm56) hd he hsm hof.sm (by omega) (by omega)
  refine zb ?_
  refine L (zB zZ rfl (hr3.no hm56).row rfl ?_)
  refine L (zB zZ rfl (hr4.no hm56).row rfl ?_)
  refine L (zB st_32 rfl hb6'.row rfl ?_)
  refine L (zq cb_12 rfl (hDo) ?_)
  rintro _ w7 ⟨s', x', rfl, hs7, hx7, hd7, he7, hfr, -, hm7⟩
  refine L (S (za rfl) (L (S (zv rfl rfl) (L (S (zv rfl rfl) (L (S (zv rfl rfl) ?_)))))))
  refine L (ye (zs := [(.slice none 0 0), (.slice none 0 0)]) z6 rfl ?_)
  rintro b7 w8 hb8 hm8 hn8
  refine L (ye (zs := [(.slice none 0 0), (.slice none 0 0)]) z6 rfl ?_)
  rintro b8 w9 hb9 hm9 hn9
  refine L (zw z6 rfl rfl (zJ s') rfl (hb8.no hm9) (by exact Nat.le_refl 2) ?_)
  rintro w10 hb10 hm10
  refine L (zw z6 rfl rfl (zJ x') rfl (hb9.ne hm10 (by have := hb8.lt; omega)) (by exact Nat.le_refl 2) ?_)
  rintro w11 hb11 hm11
  refine L (S (zd rfl) (zg (zc (zf (zf ?_)))))
  have lb8 := hb8.lt
  have hb11' : Blk w11 b8 (zM x') 37 := hb11
  have hb10' : Blk w11 b7 (zM s') 37 := (show Blk w10 b7 (zM s') _ from hb10).ne hm11 (by omega)
  have z8 := hm8.size
  have hm711 : Mv No w7 w11 := ((hm8.no hm9).new hm10 hn8).new hm11 (by omega)
  have z56 := hm56.size
  have z7 := hm7.size
  have hm611 : Mv No w6 w11 := hm7.no hm711
  have hmr11 : Mv No wr w11 := hm56.no hm611
  have n34 : b4 ≠ b3 := by omega
  have n38 : b8 ≠ b3 := by omega
  refine ZG (γ := Unit) (fun _ => [(3, .pointer (some ⟨b3, 0, none⟩)), (4, .pointer (some ⟨b4, 0, none⟩)), (6, .pointer (some ⟨b6, 0, none⟩)), (9, .bool true), (21, .slice (some ⟨ba, oa, none⟩) l.length c), (22, .int .i64 (l.length : Int)), (23, .int .i64 (i : Int))]) (fun _ wc => Mv No w wc ∧ Blk wc b3 (zM s') 37 ∧ Blk wc b4 (zM x') 37 ∧ Blk wc b6 (opC o) 32 ∧ SchOk wc s' ∧ SchOk wc x') ?_ ?_
  · refine ZT 4 mixed rfl ?_
    refine ZL (i := 0) (i2 := 1) (zS rfl (zB zZ rfl (hb10'.no (Mv.refl _).drew).row rfl ?_)) (zS rfl (zB zZ rfl (by first | exact (hb11'.no (Mv.refl _).drew).row | exact ((hb11'.no (Mv.refl _).drew).ne hm12 n38).row) rfl ?_)) (by decide +kernel)
    · refine ZL (i := 1) (i2 := 2) (zS rfl (zB zZ rfl (by first | exact (hb11'.no (Mv.refl _).drew).row | exact ((hb11'.no (Mv.refl _).drew).ne hm12 n38).row) rfl ?_)) (zS rfl (zw z6 rfl rfl (zJ s') rfl ((hr3.no hmr11).no (Mv.refl _).drew) (by exact Nat.le_refl 2) ?_)) (by decide +kernel)
      · refine zO (i := 2) (zS rfl (zw z6 rfl rfl (zJ s') rfl ((hr3.no hmr11).no (Mv.refl _).drew) (by exact Nat.le_refl 2) ?_)) (by decide +kernel)
        rintro w12 hb12 hm12
        refine zO (i := 3) (zS rfl (zw z6 rfl rfl (zJ x') rfl (((hr4.no hmr11).no (Mv.refl _).drew).ne hm12 n34) (by exact Nat.le_refl 2) ?_)) (by decide +kernel)
        rintro w13 hb13 hm13
        refine yH (by decide +kernel) ?_
        refine zc ?_
        have hdr := (Mv.refl w11 (S := No)).drew
        have hb12' : Blk w12 b3 (zM s') 37 := hb12
        have hB3 := (hr3.no hmr11).no hdr
        have hB4 := ((hr4.no hmr11).no hdr).ne hm12 n34
        refine ⟨rfl, (), (.cons rfl (.cons rfl (.cons rfl (.cons rfl (.cons rfl (.cons rfl (.cons rfl (.nil _)))))))), (((hmr.no hmr11).no hdr).new hm12 (by omega)).new hm13 (by omega), hb12'.ne hm13 n34.symm, hb13, ((((hb6'.no hm611).no hdr).ne hm12 (by omega)).ne hm13 (by omega)), ((((hs7.no hm711).no hdr).at_ hB3 hm12).at_ hB4 hm13), ((((hx7.no hm711).no hdr).at_ hB3 hm12).at_ hB4 hm13)⟩
      · rintro w12 hb12 hm12
        refine zO (i := 1) (zS rfl (zB zZ rfl (by first | exact (hb11'.no (Mv.refl _).drew).row | exact ((hb11'.no (Mv.refl _).drew).ne hm12 n38).row) rfl ?_)) (by decide +kernel)
        refine zO (i := 3) (zS rfl (zw z6 rfl rfl (zJ x') rfl (((hr4.no hmr11).no (Mv.refl _).drew).ne hm12 n34) (by exact Nat.le_refl 2) ?_)) (by decide +kernel)
        rintro w13 hb13 hm13
        refine yH (by decide +kernel) ?_
        refine zc ?_
        have hdr := (Mv.refl w11 (S := No)).drew
        have hb12' : Blk w12 b3 (zM s') 37 := hb12
        have hB3 := (hr3.no hmr11).no hdr
        have hB4 := ((hr4.no hmr11).no hdr).ne hm12 n34
        refine ⟨rfl, (), (.cons rfl (.cons rfl (.cons rfl (.cons rfl (.cons rfl (.cons rfl (.cons rfl (.nil _)))))))), (((hmr.no hmr11).no hdr).new hm12 (by omega)).new hm13 (by omega), hb12'.ne hm13 n34.symm, hb13, ((((hb6'.no hm611).no hdr).ne hm12 (by omega)).ne hm13 (by omega)), ((((hs7.no hm711).no hdr).at_ hB3 hm12).at_ hB4 hm13), ((((hx7.no hm711).no hdr).at_ hB3 hm12).at_ hB4 hm13)⟩
    · refine zO (i := 0) (zS rfl (zB zZ rfl (hb10'.no (Mv.refl _).drew).row rfl ?_)) (by decide +kernel)
      refine zO (i := 2) (zS rfl (zw z6 rfl rfl (zJ s') rfl ((hr3.no hmr11).no (Mv.refl _).drew) (by exact Nat.le_refl 2) ?_)) (by decide +kernel)
      rintro w12 hb12 hm12
      refine zO (i := 3) (zS rfl (zw z6 rfl rfl (zJ x') rfl (((hr4.no hmr11).no (Mv.refl _).drew).ne hm12 n34) (by exact Nat.le_refl 2) ?_)) (by decide +kernel)
      rintro w13 hb13 hm13
      refine yH (by decide +kernel) ?_
      refine zc ?_
      have hdr := (Mv.refl w11 (S := No)).drew
      have hb12' : Blk w12 b3 (zM s') 37 := hb12
      have hB3 := (hr3.no hmr11).no hdr
      have hB4 := ((hr4.no hmr11).no hdr).ne hm12 n34
      refine ⟨rfl, (), (.cons rfl (.cons rfl (.cons rfl (.cons rfl (.cons rfl (.cons rfl (.cons rfl (.nil _)))))))), (((hmr.no hmr11).no hdr).new hm12 (by omega)).new hm13 (by omega), hb12'.ne hm13 n34.symm, hb13, ((((hb6'.no hm611).no hdr).ne hm12 (by omega)).ne hm13 (by omega)), ((((hs7.no hm711).no hdr).at_ hB3 hm12).at_ hB4 hm13), ((((hx7.no hm711).no hdr).at_ hB3 hm12).at_ hB4 hm13)⟩
  rintro _ w12 ⟨hm12, h3, h4, h6, hs12, hx12⟩ f' hf'
  refine Zb hf' ?_
  clear hf' f'
  have hsm' := hfr.sm hsm hof.sm (by omega) (by omega)
  have a1 := hsm'.lt
  have a2 := hsm'.li
  have b1 := hfr.lt
  have b2 := hfr.li
  have lx1 : x'.tabs.length = s'.tabs.length := by simpa using (congrArg List.length hd7).symm
  have lx2 : x'.idxs.length = s'.idxs.length := by simpa using (congrArg List.length he7).symm
  have hnm : ∀ {wq}, Mv No w12 wq → wq.cell? ⟨b6, 12, none⟩ = some (.string (str o.name)) := fun h => (h6.no h).cell (i := 12) rfl
  refine zf (zb (L (S (za rfl) (L (S (yu rfl rfl) (zg (zc (zk rfl (zo (zc (zf (zf ?_))))))))))))
  refine yP 20 mixed rfl (fun hH => ?_)
  refine zp (i := 0) rfl (yE zZ rfl (fun _ h => (h3.no h).row) rfl) ?_ (by assumption) (by decide +kernel) (by decide +kernel) (by decide +kernel) (fun _ _ _ _ h => h) rfl rfl rfl
  refine zp (i := 1) rfl (PureV.toS (ze ZW rfl)) ?_ (by assumption) (by decide +kernel) (by decide +kernel) (by decide +kernel) (fun _ _ _ _ h => h) rfl rfl rfl
  refine zp (i := 2) rfl (ya yc rfl (fun _ h => hnm h)) ?_ (by assumption) (by decide +kernel) (by decide +kernel) (by decide +kernel) (fun _ _ _ _ h => h) rfl rfl rfl
  refine zp (i := 4) rfl (yE zZ rfl (fun _ h => (h4.no h).row) rfl) ?_ (by assumption) (by decide +kernel) (by decide +kernel) (by decide +kernel) (fun _ _ _ _ h => h) rfl rfl rfl
  refine zp (i := 5) rfl (PureV.toS (ze ZW rfl)) ?_ (by assumption) (by decide +kernel) (by decide +kernel) (by decide +kernel) (fun _ _ _ _ h => h) rfl rfl rfl
  refine zp (i := 6) rfl (ya yc rfl (fun _ h => hnm h)) ?_ (by assumption) (by decide +kernel) (by decide +kernel) (by decide +kernel) (fun _ _ _ _ h => h) rfl rfl rfl
  refine Ze (i := 3) (Z8 rfl (zq cb_15 rfl ((table_ret (s := s') (hs12.tsl.no hH) (by omega) o.name)) ?_)) (by decide +kernel)
  rintro _ w13 ⟨rfl, hm13⟩
  refine yh (by first | assumption | exact Mv.no (by assumption) (by assumption)) (fun hH => ?_)
  refine Ze (i := 7) (Z8 rfl (zq cb_16 rfl ((reftable_ret (s := x') (hx12.tsl.no hH) (by omega) o.name)) ?_)) (by decide +kernel)
  rintro _ w14 ⟨rfl, hm14⟩
  refine yh (by first | assumption | exact Mv.no (by assumption) (by assumption)) (fun hH => ?_)
  refine zp (i := 8) rfl (PureV.toS (Za rfl rfl (decide_eq_false (by rw [tAt_map, tAt_map, hd7]; exact fun h => h rfl)))) ?_ (by assumption) (by decide +kernel) (by decide +kernel) (by decide +kernel) (fun _ _ _ _ h => h) rfl rfl rfl
  refine zp (i := 9) rfl (PureV.toS (za rfl)) ?_ (by assumption) (by decide +kernel) (by decide +kernel) (by decide +kernel) (fun _ _ _ _ h => h) rfl rfl rfl
  refine zz (i := 10) (j := 9) (dj := 48) (b := false) rfl (yE zZ rfl (fun _ h => (h3.no h).row) rfl) rfl ?_ (by assumption) (by decide +kernel) (by decide +kernel) (by decide +kernel) (fun _ _ _ _ h => h) rfl rfl rfl rfl
  refine zz (i := 11) (j := 9) (dj := 48) (b := false) rfl (PureV.toS (ze ZW rfl)) rfl ?_ (by assumption) (by decide +kernel) (by decide +kernel) (by decide +kernel) (fun _ _ _ _ h => h) rfl rfl rfl rfl
  refine zz (i := 12) (j := 9) (dj := 48) (b := false) rfl (ya yc rfl (fun _ h => hnm h)) rfl ?_ (by assumption) (by decide +kernel) (by decide +kernel) (by decide +kernel) (fun _ _ _ _ h => h) rfl rfl rfl rfl
  refine zz (i := 14) (j := 9) (dj := 48) (b := false) rfl (yE zZ rfl (fun _ h => (h4.no h).row) rfl) rfl ?_ (by assumption) (by decide +kernel) (by decide +kernel) (by decide +kernel) (fun _ _ _ _ h => h) rfl rfl rfl rfl
  refine zz (i := 15) (j := 9) (dj := 48) (b := false) rfl (PureV.toS (ze ZW rfl)) rfl ?_ (by assumption) (by decide +kernel) (by decide +kernel) (by decide +kernel) (fun _ _ _ _ h => h) rfl rfl rfl rfl
  refine zz (i := 16) (j := 9) (dj := 48) (b := false) rfl (ya yc rfl (fun _ h => hnm h)) rfl ?_ (by assumption) (by decide +kernel) (by decide +kernel) (by decide +kernel) (fun _ _ _ _ h => h) rfl rfl rfl rfl
  refine Ze (i := 13) (H_yes (j := 9) (dj := 48) (b := false) rfl rfl (zq cb_17 rfl ((index_ret (s := s') (hs12.isl.no hH) (by omega) o.name)) ?_)) (by decide +kernel)
  rintro _ w15 ⟨rfl, hm15⟩
  refine yh (by first | assumption | exact Mv.no (by assumption) (by assumption)) (fun hH => ?_)
  refine Ze (i := 17) (H_yes (j := 9) (dj := 48) (b := false) rfl rfl (zq cb_18 rfl ((refindex_ret (s := x') (hx12.isl.no hH) (by omega) o.name)) ?_)) (by decide +kernel)
  rintro _ w16 ⟨rfl, hm16⟩
  refine yh (by first | assumption | exact Mv.no (by assumption) (by assumption)) (fun hH => ?_)
  refine zz (i := 18) (j := 9) (dj := 48) (b := false) rfl (PureV.toS (Za rfl rfl (decide_eq_false (by rw [iAt_map, iAt_map, he7]; exact fun h => h rfl)))) rfl ?_ (by assumption) (by decide +kernel) (by decide +kernel) (by decide +kernel) (fun _ _ _ _ h => h) rfl rfl rfl rfl
  refine zp (i := 19) rfl (PureV.toS (zj rfl rfl)) ?_ (by assumption) (by decide +kernel) (by decide +kernel) (by decide +kernel) (fun _ _ _ _ h => h) rfl rfl rfl
  refine yZ (by decide +kernel) ?_
  refine zc (zk rfl (zo (zc (zf (zb (L (S (zd rfl) (zg (zc (zf ?_))))))))))
  have hm1216 := hH
  have hO := of_ret (s := s') (hs12.isl.no hm1216) a2 o.name
  refine zb ?_
  refine L (zB zZ rfl (h3.no hm1216).row rfl ?_)
  refine L (S (ze ZW rfl) ?_)
  refine L (zi yc rfl (hnm hm1216) ?_)
  refine L (zq cb_19 rfl (hO) ?_)
  rintro _ w17 ⟨O, oc, rfl, hO17, hm17⟩
  refine L (S (zH Tryz.underlying28 rfl) ?_)
  refine L (S (za rfl) (zg (zc (zx ?_))))
  have hm1217 := hm1216.no hm17
  have hol := ofL_len s'.idxs o.name s'.idxs.length
  generalize hol9 : ofL s'.idxs o.name s'.idxs.length = Ls at *
  refine yF (γ := Nat × Int) (fun q => [(3, .pointer (some ⟨b3, 0, none⟩)), (4, .pointer (some ⟨b4, 0, none⟩)), (6, .pointer (some ⟨b6, 0, none⟩)), (10, .int .i64 q.2), (21, .slice (some ⟨ba, oa, none⟩) l.length c), (22, .int .i64 (l.length : Int)), (23, .int .i64 (i : Int)), (62, .slice O Ls.length oc), (63, .int .i64 (Ls.length : Int)), (64, .int .i64 (q.1 : Int))]) (fun q wq => Mv No w17 wq ∧ q.1 ≤ Ls.length ∧ (∀ k m, q.1 = k + 1 → Ls[k]? = some m → q.2 = (m : Int) + 1)) (fun q => Ls.length - q.1) (0, 0) (.cons rfl (.cons rfl (.cons rfl (.cons rfl (.cons rfl (.cons rfl (.cons rfl (.cons rfl (.cons rfl (.cons rfl (.nil _))))))))))) ⟨Mv.refl w17, Nat.zero_le _, fun k m h => by cases h⟩ ?_
  rintro ⟨j, wt⟩ wq ⟨hmq, hj, hw⟩
  dsimp only at hj hw
  dsimp only
  have hm12q := hm1217.no hmq
  by_cases hjl : j < Ls.length
  rotate_left
  · refine zf (zb ?_)
    refine L (S (zG rfl rfl (decide_eq_false (by omega))) ?_)
    refine zg (zc (zf (zk rfl (yn (zL (zL (yK (yj (zc (zb ?_))))))))))
    refine L (S (zT rfl rfl (z1 (c := ((i + 1 : Nat) : Int)) (by omega))) ?_)
    refine L (S (za rfl) (zg (zc ?_)))
    exact ⟨rfl, (i + 1, s', x'), by rw [← hAe]; exact (.cons rfl (.cons rfl (.cons rfl (.cons rfl (.cons rfl (.nil _)))))), ⟨hlt, hm12.no hm12q, h3.no hm12q, h4.no hm12q, hs12.no hm12q, hx12.no hm12q, hd7, he7, hsm', by dsimp only; omega, by dsimp only; omega⟩, by dsimp only; omega⟩
  have hk := List.getElem?_eq_getElem hjl
  generalize Ls[j] = k at hk
  obtain ⟨bo, oo, hOe, -, hro⟩ := yr natC_len (by decide) (hO17.no hmq) hk
  obtain ⟨hkn, y, hy, hyt⟩ := ofL_get (l := s'.idxs) (nm := o.name) (n := s'.idxs.length) (by rw [hol9]; exact hk)
  have hxk := List.getElem?_eq_getElem (show k < x'.idxs.length by omega)
  generalize x'.idxs[k] = z at hxk
  have hzt : z.table = o.name := by
    have h9 := congrArg (·[k]?) he7
    simp only [List.getElem?_map, hy, hxk, Option.map_some, Option.some.injEq] at h9
    have h8 : y.table = z.table := congrArg (fun q : ID => q.2.1) h9
    rw [← h8]; exact hyt
  obtain ⟨bz, oz, hZe, -, hrz⟩ := yr yw (by decide) (hx12.isl.no hm12q) hxk
  have h4c : ∀ {wz}, Mv No wq wz → wz.cell? ⟨b4, 1, none⟩ = some (.slice (some ⟨bz, oz, none⟩) x'.idxs.length x'.d) := fun h => by rw [← hZe]; exact ((h4.no hm12q).no h).cell (i := 1) rfl
  rw [hOe]
  have hnx : ∀ k' m, j + 1 = k' + 1 → Ls[k']? = some m → (k : Int) + 1 = (m : Int) + 1 := fun k' m h1 h2 => by
    obtain rfl : k' = j := by omega
    rw [hk] at h2; cases h2; rfl
  rcases Nat.eq_zero_or_pos j with rfl | hj0
  · refine zf (zb ?_)
    refine L (S (zG rfl rfl (decide_eq_true (by omega))) ?_)
    refine zg (zc (zf (zr rfl (zo (zc (zf (zx (zf (zb (L (S (za rfl) ?_)))))))))))
    refine L (S (zn Tryz.underlying28 (zD Yf) rfl rfl (j := 0) rfl (by omega) (p := oo + 0 * 1) (by omega)) ?_)
    refine L (zi z_ rfl (hro 0 _ rfl) ?_)
    refine L (S (zd rfl) (L (S (zd rfl) (zg (zc (zf (zf ?_)))))))
    refine yP 19 mixed rfl (fun hH => ?_)
    refine zp (i := 0) rfl (PureV.toS (za rfl)) ?_ (by assumption) (by decide +kernel) (by decide +kernel) (by decide +kernel) (fun _ _ _ _ h => h) rfl rfl rfl
    refine zp (i := 1) rfl (PureV.toS (yp rfl rfl (decide_eq_false (by omega)))) ?_ (by assumption) (by decide +kernel) (by decide +kernel) (by decide +kernel) (fun _ _ _ _ h => h) rfl rfl rfl
    refine zp (i := 2) rfl (PureV.toS (za rfl)) ?_ (by assumption) (by decide +kernel) (by decide +kernel) (by decide +kernel) (fun _ _ _ _ h => h) rfl rfl rfl
    refine ym (i := 3) (j := 2) (dj := 71) (b := true) (b' := false) rfl rfl ?_ (by assumption) (by decide +kernel) (by decide +kernel) (by decide +kernel) (fun _ _ _ _ h => h) rfl rfl rfl rfl rfl
    refine ym (i := 4) (j := 2) (dj := 71) (b := true) (b' := false) rfl rfl ?_ (by assumption) (by decide +kernel) (by decide +kernel) (by decide +kernel) (fun _ _ _ _ h => h) rfl rfl rfl rfl rfl
    refine ym (i := 5) (j := 2) (dj := 71) (b := true) (b' := false) rfl rfl ?_ (by assumption) (by decide +kernel) (by decide +kernel) (by decide +kernel) (fun _ _ _ _ h => h) rfl rfl rfl rfl rfl
    refine ym (i := 6) (j := 2) (dj := 71) (b := true) (b' := false) rfl rfl ?_ (by assumption) (by decide +kernel) (by decide +kernel) (by decide +kernel) (fun _ _ _ _ h => h) rfl rfl rfl rfl rfl
    refine zp (i := 7) rfl (PureV.toS (zj rfl rfl)) ?_ (by assumption) (by decide +kernel) (by decide +kernel) (by decide +kernel) (fun _ _ _ _ h => h) rfl rfl rfl
    refine zp (i := 8) rfl (PureV.toS (za rfl)) ?_ (by assumption) (by decide +kernel) (by decide +kernel) (by decide +kernel) (fun _ _ _ _ h => h) rfl rfl rfl
    refine zz (i := 9) (j := 8) (dj := 77) (b := false) rfl (PureV.toS (ze yf rfl)) rfl ?_ (by assumption) (by decide +kernel) (by decide +kernel) (by decide +kernel) (fun _ _ _ _ h => h) rfl rfl rfl rfl
    refine zz (i := 10) (j := 8) (dj := 77) (b := false) rfl (ya yS rfl (fun _ h => h4c h)) rfl ?_ (by assumption) (by decide +kernel) (by decide +kernel) (by decide +kernel) (fun _ _ _ _ h => h) rfl rfl rfl rfl
    refine zz (i := 11) (j := 8) (dj := 77) (b := false) rfl (PureV.toS (za rfl)) rfl ?_ (by assumption) (by decide +kernel) (by decide +kernel) (by decide +kernel) (fun _ _ _ _ h => h) rfl rfl rfl rfl
    refine zz (i := 12) (j := 8) (dj := 77) (b := false) rfl (PureV.toS (zn Tryz.underlying35 (zD yb) rfl rfl (j := k) rfl (by omega) (p := oz + k * 6) (by omega))) rfl ?_ (by assumption) (by decide +kernel) (by decide +kernel) (by decide +kernel) (fun _ _ _ _ h => h) rfl rfl rfl rfl
    refine zz (i := 13) (j := 8) (dj := 77) (b := false) rfl (PureV.toS (ze Zp rfl)) rfl ?_ (by assumption) (by decide +kernel) (by decide +kernel) (by decide +kernel) (fun _ _ _ _ h => h) rfl rfl rfl rfl
    refine zz (i := 14) (j := 8) (dj := 77) (b := false) rfl (ya yc rfl (fun _ h => (hrz.no h) 1 _ rfl)) rfl ?_ (by assumption) (by decide +kernel) (by decide +kernel) (by decide +kernel) (fun _ _ _ _ h => h) rfl rfl rfl rfl
    refine zz (i := 15) (j := 8) (dj := 77) (b := false) rfl (PureV.toS (ze ZW rfl)) rfl ?_ (by assumption) (by decide +kernel) (by decide +kernel) (by decide +kernel) (fun _ _ _ _ h => h) rfl rfl rfl rfl
    refine zz (i := 16) (j := 8) (dj := 77) (b := false) rfl (ya yc rfl (fun _ h => hnm (hm12q.no h))) rfl ?_ (by assumption) (by decide +kernel) (by decide +kernel) (by decide +kernel) (fun _ _ _ _ h => h) rfl rfl rfl rfl
    refine zz (i := 17) (j := 8) (dj := 77) (b := false) rfl (PureV.toS (Z4 rfl rfl (decide_eq_false (fun h => h (congrArg str hzt))))) rfl ?_ (by assumption) (by decide +kernel) (by decide +kernel) (by decide +kernel) (fun _ _ _ _ h => h) rfl rfl rfl rfl
    refine zp (i := 18) rfl (PureV.toS (zj rfl rfl)) ?_ (by assumption) (by decide +kernel) (by decide +kernel) (by decide +kernel) (fun _ _ _ _ h => h) rfl rfl rfl
    refine yZ (by decide +kernel) ?_
    refine zc (zk rfl (zo (zc (zb (L (S (za rfl) ?_))))))
    refine L (S (zT rfl rfl (z1 (c := (k : Int) + 1) (by omega))) ?_)
    refine L (S (zd rfl) (zg (yj (zc (zb ?_)))))
    refine L (S (zT rfl rfl (z1 (c := ((0 + 1 : Nat) : Int)) (by omega))) ?_)
    refine L (S (za rfl) (zg (zc ?_)))
    exact ⟨rfl, (0 + 1, (k : Int) + 1), by rw [← hOe]; exact (.cons rfl (.cons rfl (.cons rfl (.cons rfl (.cons rfl (.cons rfl (.cons rfl (.cons rfl (.cons rfl (.cons rfl (.nil _))))))))))), ⟨hmq.no hH, hjl, hnx⟩, by dsimp only; omega⟩
  · obtain ⟨j, rfl⟩ : ∃ q, j = q + 1 := ⟨j - 1, by omega⟩
    have hp := List.getElem?_eq_getElem (show j < Ls.length by omega)
    generalize Ls[j] = m at hp
    have hlt9 : m < k := ofL_lt (l := s'.idxs) (nm := o.name) (n := s'.idxs.length) (by rw [hol9]; exact hp) (by rw [hol9]; exact hk)
    have hwt := hw j m rfl hp
    refine zf (zb ?_)
    refine L (S (zG rfl rfl (decide_eq_true (by omega))) ?_)
    refine zg (zc (zf (zr rfl (zo (zc (zf (zx (zf (zb (L (S (za rfl) ?_)))))))))))
    refine L (S (zn Tryz.underlying28 (zD Yf) rfl rfl (j := j + 1) rfl (by omega) (p := oo + (j + 1) * 1) (by omega)) ?_)
    refine L (zi z_ rfl (hro 0 _ rfl) ?_)
    refine L (S (zd rfl) (L (S (zd rfl) (zg (zc (zf (zf ?_)))))))
    refine yP 19 mixed rfl (fun hH => ?_)
    refine zp (i := 0) rfl (PureV.toS (za rfl)) ?_ (by assumption) (by decide +kernel) (by decide +kernel) (by decide +kernel) (fun _ _ _ _ h => h) rfl rfl rfl
    refine zp (i := 1) rfl (PureV.toS (yp rfl rfl (decide_eq_true (by omega)))) ?_ (by assumption) (by decide +kernel) (by decide +kernel) (by decide +kernel) (fun _ _ _ _ h => h) rfl rfl rfl
    refine zp (i := 2) rfl (PureV.toS (za rfl)) ?_ (by assumption) (by decide +kernel) (by decide +kernel) (by decide +kernel) (fun _ _ _ _ h => h) rfl rfl rfl
    refine zz (i := 3) (j := 2) (dj := 71) (b := true) rfl (PureV.toS (za rfl)) rfl ?_ (by assumption) (by decide +kernel) (by decide +kernel) (by decide +kernel) (fun _ _ _ _ h => h) rfl rfl rfl rfl
    refine zz (i := 4) (j := 2) (dj := 71) (b := true) rfl (PureV.toS (za rfl)) rfl ?_ (by assumption) (by decide +kernel) (by decide +kernel) (by decide +kernel) (fun _ _ _ _ h => h) rfl rfl rfl rfl
    refine zz (i := 5) (j := 2) (dj := 71) (b := true) rfl (PureV.toS (Zd rfl rfl (z1 (c := (m : Int)) (by omega)))) rfl ?_ (by assumption) (by decide +kernel) (by decide +kernel) (by decide +kernel) (fun _ _ _ _ h => h) rfl rfl rfl rfl
    refine zz (i := 6) (j := 2) (dj := 71) (b := true) rfl (PureV.toS (Yd rfl rfl (decide_eq_false (by omega)))) rfl ?_ (by assumption) (by decide +kernel) (by decide +kernel) (by decide +kernel) (fun _ _ _ _ h => h) rfl rfl rfl rfl
    refine zp (i := 7) rfl (PureV.toS (zt rfl rfl)) ?_ (by assumption) (by decide +kernel) (by decide +kernel) (by decide +kernel) (fun _ _ _ _ h => h) rfl rfl rfl
    refine zp (i := 8) rfl (PureV.toS (za rfl)) ?_ (by assumption) (by decide +kernel) (by decide +kernel) (by decide +kernel) (fun _ _ _ _ h => h) rfl rfl rfl
    refine zz (i := 9) (j := 8) (dj := 77) (b := false) rfl (PureV.toS (ze yf rfl)) rfl ?_ (by assumption) (by decide +kernel) (by decide +kernel) (by decide +kernel) (fun _ _ _ _ h => h) rfl rfl rfl rfl
    refine zz (i := 10) (j := 8) (dj := 77) (b := false) rfl (ya yS rfl (fun _ h => h4c h)) rfl ?_ (by assumption) (by decide +kernel) (by decide +kernel) (by decide +kernel) (fun _ _ _ _ h => h) rfl rfl rfl rfl
    refine zz (i := 11) (j := 8) (dj := 77) (b := false) rfl (PureV.toS (za rfl)) rfl ?_ (by assumption) (by decide +kernel) (by decide +kernel) (by decide +kernel) (fun _ _ _ _ h => h) rfl rfl rfl rfl
    refine zz (i := 12) (j := 8) (dj := 77) (b := false) rfl (PureV.toS (zn Tryz.underlying35 (zD yb) rfl rfl (j := k) rfl (by omega) (p := oz + k * 6) (by omega))) rfl ?_ (by assumption) (by decide +kernel) (by decide +kernel) (by decide +kernel) (fun _ _ _ _ h => h) rfl rfl rfl rfl
    refine zz (i := 13) (j := 8) (dj := 77) (b := false) rfl (PureV.toS (ze Zp rfl)) rfl ?_ (by assumption) (by decide +kernel) (by decide +kernel) (by decide +kernel) (fun _ _ _ _ h => h) rfl rfl rfl rfl
    refine zz (i := 14) (j := 8) (dj := 77) (b := false) rfl (ya yc rfl (fun _ h => (hrz.no h) 1 _ rfl)) rfl ?_ (by assumption) (by decide +kernel) (by decide +kernel) (by decide +kernel) (fun _ _ _ _ h => h) rfl rfl rfl rfl
    refine zz (i := 15) (j := 8) (dj := 77) (b := false) rfl (PureV.toS (ze ZW rfl)) rfl ?_ (by assumption) (by decide +kernel) (by decide +kernel) (by decide +kernel) (fun _ _ _ _ h => h) rfl rfl rfl rfl
    refine zz (i := 16) (j := 8) (dj := 77) (b := false) rfl (ya yc rfl (fun _ h => hnm (hm12q.no h))) rfl ?_ (by assumption) (by decide +kernel) (by decide +kernel) (by decide +kernel) (fun _ _ _ _ h => h) rfl rfl rfl rfl
    refine zz (i := 17) (j := 8) (dj := 77) (b := false) rfl (PureV.toS (Z4 rfl rfl (decide_eq_false (fun h => h (congrArg str hzt))))) rfl ?_ (by assumption) (by decide +kernel) (by decide +kernel) (by decide +kernel) (fun _ _ _ _ h => h) rfl rfl rfl rfl
    refine zp (i := 18) rfl (PureV.toS (zj rfl rfl)) ?_ (by assumption) (by decide +kernel) (by decide +kernel) (by decide +kernel) (fun _ _ _ _ h => h) rfl rfl rfl
    refine yZ (by decide +kernel) ?_
    refine zc (zk rfl (zo (zc (zb (L (S (za rfl) ?_))))))
    refine L (S (zT rfl rfl (z1 (c := (k : Int) + 1) (by omega))) ?_)
    refine L (S (zd rfl) (zg (yj (zc (zb ?_)))))
    refine L (S (zT rfl rfl (z1 (c := ((j + 1 + 1 : Nat) : Int)) (by omega))) ?_)
    refine L (S (za rfl) (zg (zc ?_)))
    exact ⟨rfl, (j + 1 + 1, (k : Int) + 1), by rw [← hOe]; exact (.cons rfl (.cons rfl (.cons rfl (.cons rfl (.cons rfl (.cons rfl (.cons rfl (.cons rfl (.cons rfl (.cons rfl (.nil _))))))))))), ⟨hmq.no hH, hjl, hnx⟩, by dsimp only; omega⟩
end
end Go.Proofs.YtnoioimphcmeiaaGreatDoor
namespace Go.Proofs.YtnoioimphcmeiaaGreatDoor
open Go.RowKit
set_option maxRecDepth 20000
set_option maxHeartbeats 2000000

section
variable {w : World}
theorem schemaAny_ret (hv : Vr w) {s : Sch} {o : OpV} (hs : SchOk w s) (hsL : ∀ t ∈ s.tabs, t.cols.length ≤ 9223372036854775807) (ho : OpOk w o) (hoL : o.t.cols.length ≤ 9223372036854775807) : Ret Tryz.prog 6 [.agg (zM s).toArray, .agg (opC o).toArray] w fun v w' => v = .bool true ∧ Mv No w w' := by
  have hli := fun w' (h : Mv No w w') => lives_ret (hv.no h)
  refine zN Tryz.func6 Tryz.ntmps6 rfl rfl ?_
  refine zf (zb ?_)
  refine L (Zl rfl ?_)
  rintro b2 w2 hb2 hm2 hn2
  refine L (Zl rfl ?_)
  rintro b3 w3 hb3 hm3 hn3
  refine L (S (zd rfl) (zg (zc (zf (zf ?_)))))
  have hm03 := hm2.no hm3
  have l2 := hb2.lt
  have l3 := hb3.lt
  have z3 := hm3.size
  have hb2' : Blk w3 b2 (zM s) 37 := hb2.no hm3
  have hb3' : Blk w3 b3 (opC o) 32 := hb3
  have hS := fun {wq} (h : Mv No w wq) => small_ret (hs.no h) hsL
  refine zb ?_
  refine L (zq cb_8 rfl ((hli _ hm03)) ?_)
  rintro _ w4 ⟨rfl, hm4⟩
  refine L (S (yu rfl rfl) (L (S (za rfl) ?_)))
  refine zh (j := 2) (dj := 15) (b := false) (zB zZ rfl (hb2'.no hm4).row rfl ?_) rfl
  refine zh (j := 2) (dj := 15) (b := false) (zq cb_20 rfl ((hS (hm03.no hm4))) ?_) rfl
  rintro _ w5 ⟨β, rfl, hβ, hm5⟩
  have hm35 := hm4.no hm5
  have hm05 := hm03.no hm35
  cases β with
  | false =>
    refine zh (j := 2) (dj := 15) (b := false) (S (yu rfl rfl) (L (S (zj rfl rfl) (L (S (za rfl) (zl (j := 7) (dj := 20) (b := false) (b' := true) (d := 21) rfl (zl (j := 7) (dj := 20) (b := false) (b' := true) (d := 22) rfl (zl (j := 7) (dj := 20) (b := false) (b' := true) (d := 23) rfl (zl (j := 7) (dj := 20) (b := false) (b' := true) (d := 24) rfl (L (S (zt rfl rfl) (zg (zc (zr rfl (zf (zb ?_)))))))))))))))) rfl
    refine L (zq cb_8 rfl ((hli _ hm05)) ?_)
    rintro _ w6 ⟨rfl, hm6⟩
    refine L (S (zd rfl) (zg (zc (zy (zm ?_)))))
    refine zC Tryz.results6 rfl ?_
    exact ⟨rfl, hm05.no hm6⟩
  | true =>
  have hsf := hβ rfl
  refine zh (j := 2) (dj := 15) (b := false) (S (yu rfl rfl) (L (S (zj rfl rfl) (L (S (za rfl) ?_))))) rfl
  refine zh (j := 7) (dj := 20) (b := false) (zB st_32 rfl (hb3'.no hm35).row rfl ?_) rfl
  refine zh (j := 7) (dj := 20) (b := false) (zU (l := [.tmp 21]) (vss := [opC o]) Tryz.underlying24 ti_32 (by decide) rfl (fun vs hvs => by rw [List.mem_singleton.1 hvs]; rfl) rfl (by decide) (by decide) ?_) rfl
  rintro b6 w6 hb6 hm6 hn6
  have hm06 := hm05.no hm6
  have hoo : ∀ q ∈ [o], OpOk w6 q := fun q hq => by
    rw [List.mem_singleton.1 hq]; exact ho.no hm06
  have hol : ∀ q ∈ [o], q.t.cols.length ≤ 9223372036854775807 := fun q hq => by
    rw [List.mem_singleton.1 hq]; exact hoL
  have hF := fits_ret (l := [o]) (A := some ⟨b6, 0, none⟩) (c := 1) (.inr ⟨b6, 0, rfl, hb6.row⟩) hoo hol
  refine zh (j := 7) (dj := 20) (b := false) (zq cb_11 rfl (hF) ?_) rfl
  rintro _ w7 ⟨β, rfl, hβ2, hm7⟩
  have hm67 := hm6.no hm7
  have hm37 := hm35.no hm67
  have hm07 := hm03.no hm37
  cases β with
  | false =>
    refine zh (j := 7) (dj := 20) (b := false) (S (yu rfl rfl) (L (S (zj rfl rfl) (zg (zc (zr rfl (zf (zb ?_)))))))) rfl
    refine L (zq cb_8 rfl ((hli _ hm07)) ?_)
    rintro _ w8 ⟨rfl, hm8⟩
    refine L (S (zd rfl) (zg (zc (zy (zm ?_)))))
    refine zC Tryz.results6 rfl ?_
    exact ⟨rfl, hm07.no hm8⟩
  | true =>
  have hof := (hβ2 rfl).2 o (List.mem_singleton.2 rfl)
  have hsm := hsf.sm
  have k1 := hsf.lt
  have k2 := hsf.li
  refine zh (j := 7) (dj := 20) (b := false) (S (yu rfl rfl) (L (S (zj rfl rfl) (zg (zc (zk rfl (zo (zc (zf (zf (zb (L (S (za rfl) (zg (zc ?_))))))))))))))) rfl
  refine ZG (γ := Int) (fun _ => [(2, .pointer (some ⟨b2, 0, none⟩)), (3, .pointer (some ⟨b3, 0, none⟩))]) (fun kd wc => Mv No w wc ∧ Blk wc b2 (zM s) 37 ∧ Blk wc b3 (opC { o with kind := kd }) 32) ?_ ?_
  · refine zx ?_
    refine yF (γ := Nat × Int) (fun q => [(2, .pointer (some ⟨b2, 0, none⟩)), (3, .pointer (some ⟨b3, 0, none⟩)), (27, .int .i64 (q.1 : Int))]) (fun q wr => q.1 ≤ 4 ∧ Mv No w wr ∧ Blk wr b2 (zM s) 37 ∧ Blk wr b3 (opC { o with kind := q.2 }) 32) (fun q => 4 - q.1) (0, o.kind) (.cons rfl (.cons rfl (.cons rfl (.nil _)))) ⟨Nat.zero_le _, hm07, hb2'.no hm37, hb3'.no hm37⟩ ?_
    rintro ⟨k, kd⟩ wr ⟨hk, hmr, h2, h3⟩
    dsimp only at hk h2 h3
    dsimp only
    by_cases hlt : k < 4
    rotate_left
    · refine zf (zb ?_)
      refine L (S (zG rfl rfl (decide_eq_false (by omega))) ?_)
      refine zg (zc (zf (zk rfl (yn (zL (zL (yK (zc ?_))))))))
      exact ⟨rfl, kd, (.cons rfl (.cons rfl (.nil _))), hmr, h2, h3⟩
    refine zf (zb ?_)
    refine L (S (zG rfl rfl (decide_eq_true (by omega))) ?_)
    refine zg (zc (zf (zr rfl (zo (zc (zf (zx (zf (zb (L (S (za rfl) (L (S (zd rfl) (zg (zc (zf (zb (L (S (za rfl) (L (S (ze fo_32_0 rfl) ?_)))))))))))))))))))))
    refine L (yv Yf rfl rfl rfl h3 (by show 0 < 13; decide) ?_)
    rintro w8 hb8 hm8
    refine zg (zc (zf ?_))
    have h3' : Blk w8 b3 (opC { o with kind := (k : Int) }) 32 := hb8
    have h2' := h2.ne hm8 (by omega)
    have hm08 : Mv No w w8 := hmr.new hm8 (by have := hm2.size; omega)
    have hDo := do_ret (hv.no hm08) (s := s) (x := s) (o := { o with kind := (k : Int) }) (hs.no hm08) (hs.no hm08) ⟨(ho.no hm08).t, (ho.no hm08).x⟩ rfl rfl hsm ⟨hof.t.sm, hof.x.sm⟩ (by omega) (by omega)
    refine zb ?_
    refine L (zB zZ rfl h2'.row rfl ?_)
    refine L (zB zZ rfl h2'.row rfl ?_)
    refine L (zB st_32 rfl h3'.row rfl ?_)
    refine L (zq cb_12 rfl (hDo) ?_)
    rintro _ w9 ⟨s', x', rfl, -, -, -, -, -, -, hm9⟩
    refine L (S (za rfl) (L (S (zv rfl rfl) (L (S (zv rfl rfl) (L (S (zv rfl rfl) ?_)))))))
    refine L (ye (zs := [(.slice none 0 0), (.slice none 0 0)]) z6 rfl ?_)
    rintro b10 w10 hb10 hm10 hn10
    refine L (ye (zs := [(.slice none 0 0), (.slice none 0 0)]) z6 rfl ?_)
    rintro b11 w11 hb11 hm11 hn11
    refine L (zw z6 rfl rfl (zJ s') rfl (hb10.no hm11) (by exact Nat.le_refl 2) ?_)
    rintro w12 hb12 hm12
    refine L (zw z6 rfl rfl (zJ x') rfl (hb11.ne hm12 (by have := hb10.lt; omega)) (by exact Nat.le_refl 2) ?_)
    rintro w13 hb13 hm13
    refine L (S (zd rfl) (zg (zc (zf (zb (L (S (za rfl) (L (S (yu rfl rfl) (zg (zc (zk rfl (zo (yj (zc (zb ?_))))))))))))))))
    refine L (S (zT rfl rfl (z1 (c := ((k + 1 : Nat) : Int)) (by omega))) ?_)
    refine L (S (za rfl) (zg (zc ?_)))
    have hm813 : Mv No w8 w13 := hm9.no (((hm10.no hm11).new hm12 hn10).new hm13 (by have := hm10.size; omega))
    exact ⟨rfl, (k + 1, (k : Int)), (.cons rfl (.cons rfl (.cons rfl (.nil _)))), ⟨hlt, hm08.no hm813, h2'.no hm813, h3'.no hm813⟩, by dsimp only; omega⟩
  rintro kd w8 ⟨hm08, h2, h3⟩ f' hf'
  refine Zb hf' ?_
  clear hf' f'
  have hs8 := hs.no hm08
  have ho8 := ho.no hm08
  have hv8 := hv.no hm08
  refine zf (zb (L (S (zd rfl) (zg (zc (zf (zf (zb (L (S (ze yf rfl) ?_))))))))))
  refine L (zi yS rfl (h2.cell (i := 1) rfl) ?_)
  refine L (S (zH Tryz.underlying35 rfl) ?_)
  refine L (S (za rfl) (zg (zc ?_)))
  refine ZG (γ := Unit) (fun _ => [(2, .pointer (some ⟨b2, 0, none⟩)), (3, .pointer (some ⟨b3, 0, none⟩)), (9, .int .i64 ((ofL s.idxs o.name s.idxs.length).length : Int))]) (fun _ wc => Mv No w8 wc) ?_ ?_
  · refine zx ?_
    refine yF (γ := Nat) (fun i => [(2, .pointer (some ⟨b2, 0, none⟩)), (3, .pointer (some ⟨b3, 0, none⟩)), (9, .int .i64 ((ofL s.idxs o.name i).length : Int)), (44, .slice s.B s.idxs.length s.d), (45, .int .i64 (s.idxs.length : Int)), (46, .int .i64 (i : Int))]) (fun i wr => i ≤ s.idxs.length ∧ Mv No w8 wr) (fun i => s.idxs.length - i) 0 (.cons rfl (.cons rfl (.cons rfl (.cons rfl (.cons rfl (.cons rfl (.nil _))))))) ⟨Nat.zero_le _, Mv.refl w8⟩ ?_
    rintro i wr ⟨hi, hmr⟩
    have hle := ofL_len s.idxs o.name i
    by_cases hlt : i < s.idxs.length
    rotate_left
    · have e : i = s.idxs.length := by omega
      subst e
      refine zf (zb ?_)
      refine L (S (zG rfl rfl (decide_eq_false (by omega))) ?_)
      refine zg (zc (zf (zk rfl (yn (zL (zL (yK (zc ?_))))))))
      exact ⟨rfl, (), (.cons rfl (.cons rfl (.cons rfl (.nil _)))), hmr⟩
    have ha := List.getElem?_eq_getElem hlt
    generalize s.idxs[i] = x at ha
    obtain ⟨ba, oa, hAe, -, hrow⟩ := yr yw (by decide) (hs8.isl.no hmr) ha
    rw [hAe]
    refine zf (zb ?_)
    refine L (S (zG rfl rfl (decide_eq_true (by omega))) ?_)
    refine zg (zc (zf (zr rfl (zo (zc (zf (zx (zf (zb ?_)))))))))
    refine L (S (zn Tryz.underlying35 (zD yb) rfl rfl (j := i) rfl (by omega) (p := oa + i * 6) (by omega)) ?_)
    refine L (zB Zu rfl hrow rfl ?_)
    refine L (ye (zs := [(.string (ByteArray.mk #[])), (.string (ByteArray.mk #[])), (.slice none 0 0), (.int .i64 0), (.int .i64 0), (.int .i64 0)]) yb rfl ?_)
    rintro b5 w9 hb9 hm9 hn9
    refine L (zw yb rfl rfl (yz x) rfl hb9 (by exact Nat.le_refl 6) ?_)
    rintro w10 hb10 hm10
    refine zg (zc (zf ?_))
    have hb10' : Blk w10 b5 (yq x) 30 := hb10
    have hm910 : Mv No wr w10 := hm9.new hm10 hn9
    by_cases hq : x.table = o.name
    · have e := ofL_yes ha hq
      refine zb (L (S (ze Zp rfl) ?_))
      refine L (zi yc rfl (hb10'.cell (i := 1) rfl) ?_)
      refine L (S (ze ZW rfl) ?_)
      refine L (zi yc rfl ((h3.no (hmr.no hm910)).cell (i := 12) rfl) ?_)
      refine L (S (ZR rfl rfl (decide_eq_true (congrArg str hq))) ?_)
      refine zg (zc (zr rfl (zb (L (S (za rfl) ?_)))))
      refine L (S (zT rfl rfl (z1 (c := ((ofL s.idxs o.name (i + 1)).length : Int)) (by rw [e, List.length_append, List.length_singleton]; omega))) ?_)
      refine L (S (zd rfl) (zg (yj (zc (zb ?_)))))
      refine L (S (zT rfl rfl (z1 (c := ((i + 1 : Nat) : Int)) (by omega))) ?_)
      refine L (S (za rfl) (zg (zc ?_)))
      exact ⟨rfl, i + 1, by rw [← hAe]; exact (.cons rfl (.cons rfl (.cons rfl (.cons rfl (.cons rfl (.cons rfl (.nil _))))))), ⟨hlt, hmr.no hm910⟩, by omega⟩
    · have e := ofL_no ha hq
      refine zb (L (S (ze Zp rfl) ?_))
      refine L (zi yc rfl (hb10'.cell (i := 1) rfl) ?_)
      refine L (S (ze ZW rfl) ?_)
      refine L (zi yc rfl ((h3.no (hmr.no hm910)).cell (i := 12) rfl) ?_)
      refine L (S (ZR rfl rfl (decide_eq_false (fun h => hq (ZH h)))) ?_)
      refine zg (zc (zk rfl (zo (yj (zc (zb ?_))))))
      refine L (S (zT rfl rfl (z1 (c := ((i + 1 : Nat) : Int)) (by omega))) ?_)
      refine L (S (za rfl) (zg (zc ?_)))
      exact ⟨rfl, i + 1, by rw [← hAe, e]; exact (.cons rfl (.cons rfl (.cons rfl (.cons rfl (.cons rfl (.cons rfl (.nil _))))))), ⟨hlt, hmr.no hm910⟩, by omega⟩
  rintro _ w9 hm9 f' hf'
  refine Zb hf' ?_
  clear hf' f'
  have hs9 := hs8.no hm9
  have hCl := Clone_ret hs9 (by omega) (by omega) (fun t ht => by have := (hsm.tab t ht).cl; omega) (fun t ht => by have := (hsm.idx t ht).cl; omega)
  refine zf (zb ?_)
  refine L (zB zZ rfl (h2.no hm9).row rfl ?_)
  refine L (zq cb_13 rfl (hCl) ?_)
  rintro _ w10 ⟨p, rfl, hpo, hpd, hpe, hm10⟩
  refine L (ye (zs := [(.slice none 0 0), (.slice none 0 0)]) z6 rfl ?_)
  rintro b12 w11 hb11 hm11 hn11
  refine L (zw z6 rfl rfl (zJ p) rfl hb11 (by exact Nat.le_refl 2) ?_)
  rintro w12 hb12 hm12
  refine zg (zc (zf ?_))
  have hb12' : Blk w12 b12 (zM p) 37 := hb12
  have hm1012 : Mv No w10 w12 := hm11.new hm12 hn11
  have hm812 : Mv No w8 w12 := (hm9.no hm10).no hm1012
  have hp12 := (hpo.no hm1012).ok
  have hpm := sm_eq hpd.symm hpe.symm hsm
  have hs12 := hs8.no hm812
  have ho12 := ho8.no hm812
  have hv12 := hv8.no hm812
  have h2z : ∀ {wq}, Mv No w12 wq → Blk wq b2 (zM s) 37 := fun h => (h2.no hm812).no h
  have h3z : ∀ {wq}, Mv No w12 wq → Blk wq b3 (opC { o with kind := kd }) 32 := fun h => (h3.no hm812).no h
  have hT : ∀ {wq}, Mv No w12 wq → Row wq b3 (0 + 1) (yA o.t) := fun h => ((h3z h).row.drop 1).take 5
  have c1 := hof.t.sm.cl
  have c2 := hof.x.sm.cl
  have hcn : ∀ c ∈ o.t.cols, c.name.length ≤ 100000 := fun c hc => by have := hof.t.sm.cn c hc; omega
  refine yP 52 mixed rfl (fun hH => ?_)
  refine zp (i := 0) rfl (yE zZ rfl (fun _ h => (hb12'.no h).row) rfl) ?_ (by assumption) (by decide +kernel) (by decide +kernel) (by decide +kernel) (fun _ _ _ _ h => h) rfl rfl rfl
  refine zp (i := 1) rfl (yE zZ rfl (fun _ h => (h2z h).row) rfl) ?_ (by assumption) (by decide +kernel) (by decide +kernel) (by decide +kernel) (fun _ _ _ _ h => h) rfl rfl rfl
  refine Ze (i := 2) (Z8 rfl (zq cb_14 rfl ((same_is (hp12.no hH) (hs12.no hH) hpm hpd hpe)) ?_)) (by decide +kernel)
  rintro _ w13 ⟨rfl, hm13⟩
  refine yh (by first | assumption | exact Mv.no (by assumption) (by assumption)) (fun hH => ?_)
  refine zp (i := 3) rfl (PureV.toS (za rfl)) ?_ (by assumption) (by decide +kernel) (by decide +kernel) (by decide +kernel) (fun _ _ _ _ h => h) rfl rfl rfl
  refine zz (i := 4) (j := 3) (dj := 63) (b := true) rfl (yE zZ rfl (fun _ h => (h2z h).row) rfl) rfl ?_ (by assumption) (by decide +kernel) (by decide +kernel) (by decide +kernel) (fun _ _ _ _ h => h) rfl rfl rfl rfl
  refine zz (i := 5) (j := 3) (dj := 63) (b := true) rfl (PureV.toS (ze ZW rfl)) rfl ?_ (by assumption) (by decide +kernel) (by decide +kernel) (by decide +kernel) (fun _ _ _ _ h => h) rfl rfl rfl rfl
  refine zz (i := 6) (j := 3) (dj := 63) (b := true) rfl (ya yc rfl (fun _ h => (h3z h).cell (i := 12) rfl)) rfl ?_ (by assumption) (by decide +kernel) (by decide +kernel) (by decide +kernel) (fun _ _ _ _ h => h) rfl rfl rfl rfl
  refine zz (i := 9) (j := 3) (dj := 63) (b := true) rfl (PureV.toS (za rfl)) rfl ?_ (by assumption) (by decide +kernel) (by decide +kernel) (by decide +kernel) (fun _ _ _ _ h => h) rfl rfl rfl rfl
  refine Ze (i := 7) (H_yes (j := 3) (dj := 63) (b := true) rfl rfl (zq cb_19 rfl ((of_ret (s := s) (hs12.isl.no hH) (by omega) o.name)) ?_)) (by decide +kernel)
  rintro _ w14 ⟨O, oc, rfl, -, hm14⟩
  refine yh (by first | assumption | exact Mv.no (by assumption) (by assumption)) (fun hH => ?_)
  refine zz (i := 8) (j := 3) (dj := 63) (b := true) rfl (PureV.toS (zH Tryz.underlying28 rfl)) rfl ?_ (by assumption) (by decide +kernel) (by decide +kernel) (by decide +kernel) (fun _ _ _ _ h => h) rfl rfl rfl rfl
  refine zz (i := 10) (j := 3) (dj := 63) (b := true) rfl (PureV.toS (zR rfl rfl (decide_eq_true rfl))) rfl ?_ (by assumption) (by decide +kernel) (by decide +kernel) (by decide +kernel) (fun _ _ _ _ h => h) rfl rfl rfl rfl
  refine zp (i := 11) rfl (PureV.toS (zt rfl rfl)) ?_ (by assumption) (by decide +kernel) (by decide +kernel) (by decide +kernel) (fun _ _ _ _ h => h) rfl rfl rfl
  refine zp (i := 12) rfl (PureV.toS (za rfl)) ?_ (by assumption) (by decide +kernel) (by decide +kernel) (by decide +kernel) (fun _ _ _ _ h => h) rfl rfl rfl
  refine zz (i := 13) (j := 12) (dj := 72) (b := true) rfl (PureV.toS (ze fo_32_1 rfl)) rfl ?_ (by assumption) (by decide +kernel) (by decide +kernel) (by decide +kernel) (fun _ _ _ _ h => h) rfl rfl rfl rfl
  refine zz (i := 14) (j := 12) (dj := 72) (b := true) rfl (yE Zo rfl (fun _ h => hT h) rfl) rfl ?_ (by assumption) (by decide +kernel) (by decide +kernel) (by decide +kernel) (fun _ _ _ _ h => h) rfl rfl rfl rfl
  refine zz (i := 15) (j := 12) (dj := 72) (b := true) rfl (PureV.toS (ze ZW rfl)) rfl ?_ (by assumption) (by decide +kernel) (by decide +kernel) (by decide +kernel) (fun _ _ _ _ h => h) rfl rfl rfl rfl
  refine zz (i := 16) (j := 12) (dj := 72) (b := true) rfl (ya yc rfl (fun _ h => (h3z h).cell (i := 12) rfl)) rfl ?_ (by assumption) (by decide +kernel) (by decide +kernel) (by decide +kernel) (fun _ _ _ _ h => h) rfl rfl rfl rfl
  refine zz (i := 18) (j := 12) (dj := 72) (b := true) rfl (PureV.toS (ze fo_32_1 rfl)) rfl ?_ (by assumption) (by decide +kernel) (by decide +kernel) (by decide +kernel) (fun _ _ _ _ h => h) rfl rfl rfl rfl
  refine zz (i := 19) (j := 12) (dj := 72) (b := true) rfl (yE Zo rfl (fun _ h => hT h) rfl) rfl ?_ (by assumption) (by decide +kernel) (by decide +kernel) (by decide +kernel) (fun _ _ _ _ h => h) rfl rfl rfl rfl
  refine zz (i := 20) (j := 12) (dj := 72) (b := true) rfl (PureV.toS (ze ZW rfl)) rfl ?_ (by assumption) (by decide +kernel) (by decide +kernel) (by decide +kernel) (fun _ _ _ _ h => h) rfl rfl rfl rfl
  refine zz (i := 21) (j := 12) (dj := 72) (b := true) rfl (ya yc rfl (fun _ h => (h3z h).cell (i := 12) rfl)) rfl ?_ (by assumption) (by decide +kernel) (by decide +kernel) (by decide +kernel) (fun _ _ _ _ h => h) rfl rfl rfl rfl
  refine Ze (i := 17) (H_yes (j := 12) (dj := 72) (b := true) rfl rfl (zq cb_21 rfl ((column_ret (s := o.t) (ho12.t.sl.no hH) (by omega) o.name)) ?_)) (by decide +kernel)
  rintro _ w15 ⟨rfl, hm15⟩
  refine yh (by first | assumption | exact Mv.no (by assumption) (by assumption)) (fun hH => ?_)
  refine Ze (i := 22) (H_yes (j := 12) (dj := 72) (b := true) rfl rfl (zq cb_22 rfl ((refcolumn_ret (s := o.t) (ho12.t.sl.no hH) (by omega) o.name)) ?_)) (by decide +kernel)
  rintro _ w16 ⟨rfl, hm16⟩
  refine yh (by first | assumption | exact Mv.no (by assumption) (by assumption)) (fun hH => ?_)
  refine zz (i := 23) (j := 12) (dj := 72) (b := true) rfl (PureV.toS (zR rfl rfl (decide_eq_true rfl))) rfl ?_ (by assumption) (by decide +kernel) (by decide +kernel) (by decide +kernel) (fun _ _ _ _ h => h) rfl rfl rfl rfl
  refine zp (i := 24) rfl (PureV.toS (zt rfl rfl)) ?_ (by assumption) (by decide +kernel) (by decide +kernel) (by decide +kernel) (fun _ _ _ _ h => h) rfl rfl rfl
  refine zp (i := 25) rfl (PureV.toS (za rfl)) ?_ (by assumption) (by decide +kernel) (by decide +kernel) (by decide +kernel) (fun _ _ _ _ h => h) rfl rfl rfl
  refine zz (i := 26) (j := 25) (dj := 85) (b := true) rfl (PureV.toS (ze fo_32_1 rfl)) rfl ?_ (by assumption) (by decide +kernel) (by decide +kernel) (by decide +kernel) (fun _ _ _ _ h => h) rfl rfl rfl rfl
  refine zz (i := 27) (j := 25) (dj := 85) (b := true) rfl (PureV.toS (ze yV rfl)) rfl ?_ (by assumption) (by decide +kernel) (by decide +kernel) (by decide +kernel) (fun _ _ _ _ h => h) rfl rfl rfl rfl
  refine zz (i := 28) (j := 25) (dj := 85) (b := true) rfl (ya ZC rfl (fun _ h => (h3z h).cell (i := 2) rfl)) rfl ?_ (by assumption) (by decide +kernel) (by decide +kernel) (by decide +kernel) (fun _ _ _ _ h => h) rfl rfl rfl rfl
  refine zz (i := 30) (j := 25) (dj := 85) (b := true) rfl (PureV.toS (ze fo_32_1 rfl)) rfl ?_ (by assumption) (by decide +kernel) (by decide +kernel) (by decide +kernel) (fun _ _ _ _ h => h) rfl rfl rfl rfl
  refine zz (i := 31) (j := 25) (dj := 85) (b := true) rfl (PureV.toS (ze yV rfl)) rfl ?_ (by assumption) (by decide +kernel) (by decide +kernel) (by decide +kernel) (fun _ _ _ _ h => h) rfl rfl rfl rfl
  refine zz (i := 32) (j := 25) (dj := 85) (b := true) rfl (ya ZC rfl (fun _ h => (h3z h).cell (i := 2) rfl)) rfl ?_ (by assumption) (by decide +kernel) (by decide +kernel) (by decide +kernel) (fun _ _ _ _ h => h) rfl rfl rfl rfl
  refine Ze (i := 29) (H_yes (j := 25) (dj := 85) (b := true) rfl rfl (zq cb_23 rfl ((columns_ret (hv12.no hH) (l := o.t.cols) (A := o.t.A) (c := o.t.cap) (ho12.t.sl.no hH) ho12.t.le (by omega) hcn)) ?_)) (by decide +kernel)
  rintro _ w17 ⟨rfl, hm17⟩
  refine yh (by first | assumption | exact Mv.no (by assumption) (by assumption)) (fun hH => ?_)
  refine Ze (i := 33) (H_yes (j := 25) (dj := 85) (b := true) rfl rfl (zq cb_24 rfl ((refcolumns_ret (hv12.no hH) (l := o.t.cols) (A := o.t.A) (c := o.t.cap) (ho12.t.sl.no hH) (by omega) hcn)) ?_)) (by decide +kernel)
  rintro _ w18 ⟨rfl, hm18⟩
  refine yh (by first | assumption | exact Mv.no (by assumption) (by assumption)) (fun hH => ?_)
  refine zz (i := 34) (j := 25) (dj := 85) (b := true) rfl (PureV.toS (zR rfl rfl (decide_eq_true rfl))) rfl ?_ (by assumption) (by decide +kernel) (by decide +kernel) (by decide +kernel) (fun _ _ _ _ h => h) rfl rfl rfl rfl
  refine zp (i := 35) rfl (PureV.toS (zt rfl rfl)) ?_ (by assumption) (by decide +kernel) (by decide +kernel) (by decide +kernel) (fun _ _ _ _ h => h) rfl rfl rfl
  refine zp (i := 36) rfl (PureV.toS (za rfl)) ?_ (by assumption) (by decide +kernel) (by decide +kernel) (by decide +kernel) (fun _ _ _ _ h => h) rfl rfl rfl
  refine zz (i := 37) (j := 36) (dj := 96) (b := true) rfl (PureV.toS (ze fo_32_1 rfl)) rfl ?_ (by assumption) (by decide +kernel) (by decide +kernel) (by decide +kernel) (fun _ _ _ _ h => h) rfl rfl rfl rfl
  refine zz (i := 38) (j := 36) (dj := 96) (b := true) rfl (yE Zo rfl (fun _ h => hT h) rfl) rfl ?_ (by assumption) (by decide +kernel) (by decide +kernel) (by decide +kernel) (fun _ _ _ _ h => h) rfl rfl rfl rfl
  refine zz (i := 39) (j := 36) (dj := 96) (b := true) rfl (PureV.toS (ze fo_32_2 rfl)) rfl ?_ (by assumption) (by decide +kernel) (by decide +kernel) (by decide +kernel) (fun _ _ _ _ h => h) rfl rfl rfl rfl
  refine zz (i := 40) (j := 36) (dj := 96) (b := true) rfl (PureV.toS (ze Zj rfl)) rfl ?_ (by assumption) (by decide +kernel) (by decide +kernel) (by decide +kernel) (fun _ _ _ _ h => h) rfl rfl rfl rfl
  refine zz (i := 41) (j := 36) (dj := 96) (b := true) rfl (ya Z6 rfl (fun _ h => (h3z h).cell (i := 8) rfl)) rfl ?_ (by assumption) (by decide +kernel) (by decide +kernel) (by decide +kernel) (fun _ _ _ _ h => h) rfl rfl rfl rfl
  refine zz (i := 43) (j := 36) (dj := 96) (b := true) rfl (PureV.toS (ze fo_32_1 rfl)) rfl ?_ (by assumption) (by decide +kernel) (by decide +kernel) (by decide +kernel) (fun _ _ _ _ h => h) rfl rfl rfl rfl
  refine zz (i := 44) (j := 36) (dj := 96) (b := true) rfl (yE Zo rfl (fun _ h => hT h) rfl) rfl ?_ (by assumption) (by decide +kernel) (by decide +kernel) (by decide +kernel) (fun _ _ _ _ h => h) rfl rfl rfl rfl
  refine zz (i := 45) (j := 36) (dj := 96) (b := true) rfl (PureV.toS (ze fo_32_2 rfl)) rfl ?_ (by assumption) (by decide +kernel) (by decide +kernel) (by decide +kernel) (fun _ _ _ _ h => h) rfl rfl rfl rfl
  refine zz (i := 46) (j := 36) (dj := 96) (b := true) rfl (PureV.toS (ze Zj rfl)) rfl ?_ (by assumption) (by decide +kernel) (by decide +kernel) (by decide +kernel) (fun _ _ _ _ h => h) rfl rfl rfl rfl
  refine zz (i := 47) (j := 36) (dj := 96) (b := true) rfl (ya Z6 rfl (fun _ h => (h3z h).cell (i := 8) rfl)) rfl ?_ (by assumption) (by decide +kernel) (by decide +kernel) (by decide +kernel) (fun _ _ _ _ h => h) rfl rfl rfl rfl
  refine Ze (i := 42) (H_yes (j := 36) (dj := 96) (b := true) rfl rfl (zq cb_25 rfl ((places_ret (t := o.t) (l := o.x.cols) (A := o.x.A) (c := o.x.cap) (ho12.x.sl.no hH) ho12.x.le (by omega) (by omega))) ?_)) (by decide +kernel)
  rintro _ w19 ⟨rfl, hm19⟩
  refine yh (by first | assumption | exact Mv.no (by assumption) (by assumption)) (fun hH => ?_)
  refine Ze (i := 48) (H_yes (j := 36) (dj := 96) (b := true) rfl rfl (zq cb_26 rfl ((refplaces_ret (t := o.t) (l := o.x.cols) (A := o.x.A) (c := o.x.cap) (ho12.x.sl.no hH) (by omega) (by omega))) ?_)) (by decide +kernel)
  rintro _ w20 ⟨rfl, hm20⟩
  refine yh (by first | assumption | exact Mv.no (by assumption) (by assumption)) (fun hH => ?_)
  refine zz (i := 49) (j := 36) (dj := 96) (b := true) rfl (PureV.toS (zR rfl rfl (decide_eq_true rfl))) rfl ?_ (by assumption) (by decide +kernel) (by decide +kernel) (by decide +kernel) (fun _ _ _ _ h => h) rfl rfl rfl rfl
  refine zp (i := 50) rfl (PureV.toS (zt rfl rfl)) ?_ (by assumption) (by decide +kernel) (by decide +kernel) (by decide +kernel) (fun _ _ _ _ h => h) rfl rfl rfl
  refine zp (i := 51) rfl (PureV.toS (zd rfl)) ?_ (by assumption) (by decide +kernel) (by decide +kernel) (by decide +kernel) (fun _ _ _ _ h => h) rfl rfl rfl
  refine yZ (by decide +kernel) ?_
  refine zc (zy ?_)
  refine zC Tryz.results6 rfl ?_
  exact ⟨rfl, (hm08.no hm812).no hH⟩
end
end Go.Proofs.YtnoioimphcmeiaaGreatDoor
namespace Go.Proofs.YtnoioimphcmeiaaGreatDoor
open Go.ChangeShapes Go.WideShapes Go.ChangeAt Go.RowKit
set_option maxRecDepth 100000

section
variable {H : Type} {enc : TypeId × Value → H} {P : Program} {W : World} {base : Nat} {spare : Nat → Bool} {held : Bool}
/-- What a type's cells are, where they can be read as data. -/
def Opens (enc : TypeId × Value → H) (P : Program) (W : World) (base : Nat) (spare : Nat → Bool) (held : Bool) (t : TypeId) {α : Type} (cells : α → List Value) (ok : α → Prop) : Prop :=
  ∀ fuel cs x, DataW.trod enc P W base spare held fuel t cs = some x → ∃ a, cs = cells a ∧ ok a
/-- A slice of what can be opened. -/
theorem opens_slice {t e : TypeId} {α : Type} {cells : α → List Value} {ok : α → Prop} {m : Nat} (hu : P.underlying t = some (.slice e)) (hc : P.cellsOf e = m) (hm : 0 < m) (hlen : ∀ a, (cells a).length = m) (he : Opens enc P W base spare held e cells ok) {fuel : Nat} {cs : List Value} {x : DataW H × List MemPlace}
    (h : DataW.trod enc P W base spare held fuel t cs = some x) : ∃ A cap, ∃ l : List α, cs = [.slice A l.length cap] ∧ SlR W A (zI cells l) ∧ (∀ a ∈ l, ok a) ∧ l.length ≤ cap ∧ l.length ≤ 9223372036854775807 := by
  rcases DataW.trod_slice hu h with ⟨rfl, _⟩ | ⟨a, len, cap, elems, rest, n, _, rfl, _, _, hl, hcm, hlen2, hel, _, _⟩
  · exact ⟨none, 0, [], rfl, .inl rfl, by simp, Nat.le_refl _, Nat.zero_le _⟩
  have key : ∀ i, i < len → ∃ y : α, ok y ∧ ∀ j, j < m → W.cell? ((a.add (i * m)).add j) = (cells y)[j]? := by
    intro i hi
    have h2 : ∃ y, elems[i]? = some y := ⟨elems[i]'(by omega), List.getElem?_eq_getElem (by omega)⟩
    obtain ⟨y, hy⟩ := h2
    have h3 := hel i hi
    rw [hy, Option.bind_eq_some_iff, hc] at h3
    obtain ⟨cs', hcs, hy'⟩ := h3
    obtain ⟨z, rfl, hz⟩ := he _ _ _ hy'
    obtain ⟨_, _, hcell⟩ := World.cells?_some hcs
    exact ⟨z, hz, hcell⟩
  have all : ∀ k, k ≤ len → ∃ l : List α, l.length = k ∧ (∀ y ∈ l, ok y) ∧ ∀ i y, l[i]? = some y → ∀ j, j < m → W.cell? ((a.add (i * m)).add j) = (cells y)[j]? := by
    intro k
    induction k with
    | zero => exact fun _ => ⟨[], rfl, by simp, fun i y hy => by simp at hy⟩
    | succ k ih =>
      intro hk
      obtain ⟨l, h1, h2, h3⟩ := ih (by omega)
      obtain ⟨y, hy1, hy2⟩ := key k (by omega)
      refine ⟨l ++ [y], by simp [h1], fun z hz => ?_, fun i z hz => ?_⟩
      · rcases List.mem_append.1 hz with hz | hz
        · exact h2 z hz
        · have : z = y := by simpa using hz
          rw [this]; exact hy1
      · by_cases hi : i < l.length
        · rw [List.getElem?_append_left hi] at hz
          exact h3 i z hz
        · have hi2 : i = l.length := by
            have := (List.getElem?_eq_some_iff.1 hz).1
            simp at this; omega
          subst hi2
          simp at hz
          subst hz
          rw [h1]; exact hy2
  obtain ⟨l, h1, h2, h3⟩ := all len (Nat.le_refl _)
  have hcm' : l.length ≤ 9223372036854775807 := by have h9 : maxLen = 9223372036854775807 := by decide
                                                   omega
  refine ⟨some a, cap, l, by rw [h1], ?_, h2, by omega, hcm'⟩
  rcases Nat.eq_zero_or_pos len with h0 | h0
  · left
    have : l = [] := List.eq_nil_of_length_eq_zero (by omega)
    subst this; rfl
  obtain ⟨b, off, spot⟩ := a
  have hspot : spot = none := by
    have hy := List.getElem?_eq_getElem (show 0 < l.length by omega)
    have h4 := h3 0 _ hy 0 hm
    rw [List.getElem?_eq_getElem (show 0 < (cells l[0]).length by rw [hlen]; exact hm)] at h4
    simpa [Addr.add] using World.cell?_spot h4
  subst hspot
  refine .inr ⟨b, off, rfl, fun i v hv => ?_⟩
  have hil : i < l.length * m := by
    have := (List.getElem?_eq_some_iff.1 hv).1
    rwa [yB hlen] at this
  have hq : i / m < l.length := Nat.div_lt_of_lt_mul (by rw [Nat.mul_comm]; exact hil)
  have hy := List.getElem?_eq_getElem hq
  have h4 := h3 (i / m) _ hy (i % m) (Nat.mod_lt _ hm)
  have h5 : (zI cells l)[i]? = (cells l[i / m])[i % m]? := by
    have e : i = i / m * m + i % m := by rw [Nat.mul_comm]; exact (Nat.div_add_mod i m).symm
    have h6 : ((zI cells l).drop (i / m * m))[i % m]? = (cells l[i / m])[i % m]? := by
      rw [Yh hlen, drop_at hy, Yg, List.getElem?_append_left (by rw [hlen]; exact Nat.mod_lt _ hm)]
    rw [List.getElem?_drop, ← e] at h6
    exact h6
  rw [h5] at hv
  rw [Addr.add_lit, Addr.add_lit, hv] at h4
  have e : i = i / m * m + i % m := by rw [Nat.mul_comm]; exact (Nat.div_add_mod i m).symm
  rw [show off + i = off + i / m * m + i % m by rw [Nat.add_assoc, ← e]]
  exact h4
theorem opens_str {t : TypeId} (hu : P.underlying t = some .string) {fuel : Nat} {cs : List Value} {x : DataW H × List MemPlace} (h : DataW.trod enc P W base spare held fuel t cs = some x) : ∃ l : List UInt8, cs = [.string (str l)] := by
  obtain ⟨s, rfl, _, _⟩ := DataW.trod_string hu h
  exact ⟨s.data.toList, by rw [str_eta]⟩
end
section
variable {H : Type} {enc : TypeId × Value → H} {W : World} {base : Nat} {spare : Nat → Bool} {held : Bool}
theorem opens_int1 : Opens enc Tryz.prog W base spare held 3 intC (fun _ => True) := fun fuel cs x h => by
  obtain ⟨n, rfl, _, _⟩ := DataW.trod_int Tryz.underlying3 h
  exact ⟨n, rfl, trivial⟩
theorem opens_col : Opens enc Tryz.prog W base spare held 43 Zt (fun a => True) := fun fuel cs x h => by
  obtain ⟨xs, n, _, _, hl, hlen, hf⟩ := DataW.trod_struct Tryz.underlying43 h
  rw [show Tryz.prog.cellsOf 43 = 3 by kernel_rfl] at hl
  obtain ⟨v0, v1, v2, rfl⟩ : ∃ v0 v1 v2, cs = [v0, v1, v2] := by
    match cs, hl with
    | [u0, u1, u2], _ => exact ⟨u0, u1, u2, rfl⟩
  have hx : ∀ i, i < 3 → ∃ y, xs[i]? = some y := fun i hi => ⟨xs[i]'(by rw [hlen]; exact hi), List.getElem?_eq_getElem _⟩
  obtain ⟨y0, d0⟩ := hx 0 (by omega)
  have g0 : DataW.trod enc Tryz.prog W base spare held n 9 (([v0, v1, v2].drop 0).take (Tryz.prog.cellsOf 9)) = xs[0]? := hf 0 _ rfl
  rw [d0, show Tryz.prog.cellsOf 9 = 1 by kernel_rfl] at g0
  obtain ⟨l0, h0⟩ := opens_str Tryz.underlying9 g0
  obtain ⟨y1, d1⟩ := hx 1 (by omega)
  have g1 : DataW.trod enc Tryz.prog W base spare held n 3 (([v0, v1, v2].drop 1).take (Tryz.prog.cellsOf 3)) = xs[1]? := hf 1 _ rfl
  rw [d1, show Tryz.prog.cellsOf 3 = 1 by kernel_rfl] at g1
  obtain ⟨n1, h1, _, _⟩ := DataW.trod_int Tryz.underlying3 g1
  obtain ⟨y2, d2⟩ := hx 2 (by omega)
  have g2 : DataW.trod enc Tryz.prog W base spare held n 4 (([v0, v1, v2].drop 2).take (Tryz.prog.cellsOf 4)) = xs[2]? := hf 2 _ rfl
  rw [d2, show Tryz.prog.cellsOf 4 = 1 by kernel_rfl] at g2
  obtain ⟨b2, h2, _⟩ := DataW.trod_bool Tryz.underlying4 g2
  simp at h0
  simp at h1
  simp at h2
  subst h0
  subst h1
  subst h2
  exact ⟨⟨l0, n1, b2⟩, rfl, trivial⟩
theorem opens_tab : Opens enc Tryz.prog W base spare held 27 yA (fun a => TabOk W a ∧ a.cols.length ≤ 9223372036854775807) := fun fuel cs x h => by
  obtain ⟨xs, n, _, _, hl, hlen, hf⟩ := DataW.trod_struct Tryz.underlying27 h
  rw [show Tryz.prog.cellsOf 27 = 5 by kernel_rfl] at hl
  obtain ⟨v0, v1, v2, v3, v4, rfl⟩ : ∃ v0 v1 v2 v3 v4, cs = [v0, v1, v2, v3, v4] := by
    match cs, hl with
    | [u0, u1, u2, u3, u4], _ => exact ⟨u0, u1, u2, u3, u4, rfl⟩
  have hx : ∀ i, i < 5 → ∃ y, xs[i]? = some y := fun i hi => ⟨xs[i]'(by rw [hlen]; exact hi), List.getElem?_eq_getElem _⟩
  obtain ⟨y0, d0⟩ := hx 0 (by omega)
  have g0 : DataW.trod enc Tryz.prog W base spare held n 9 (([v0, v1, v2, v3, v4].drop 0).take (Tryz.prog.cellsOf 9)) = xs[0]? := hf 0 _ rfl
  rw [d0, show Tryz.prog.cellsOf 9 = 1 by kernel_rfl] at g0
  obtain ⟨l0, h0⟩ := opens_str Tryz.underlying9 g0
  obtain ⟨y1, d1⟩ := hx 1 (by omega)
  have g1 : DataW.trod enc Tryz.prog W base spare held n 25 (([v0, v1, v2, v3, v4].drop 1).take (Tryz.prog.cellsOf 25)) = xs[1]? := hf 1 _ rfl
  rw [d1, show Tryz.prog.cellsOf 25 = 1 by kernel_rfl] at g1
  obtain ⟨A1, c1, l1, h1, s1, k1, e1, m1⟩ := opens_slice Tryz.underlying25 (by kernel_rfl) (by decide) Yi opens_col g1
  obtain ⟨y2, d2⟩ := hx 2 (by omega)
  have g2 : DataW.trod enc Tryz.prog W base spare held n 3 (([v0, v1, v2, v3, v4].drop 2).take (Tryz.prog.cellsOf 3)) = xs[2]? := hf 2 _ rfl
  rw [d2, show Tryz.prog.cellsOf 3 = 1 by kernel_rfl] at g2
  obtain ⟨n2, h2, _, _⟩ := DataW.trod_int Tryz.underlying3 g2
  obtain ⟨y3, d3⟩ := hx 3 (by omega)
  have g3 : DataW.trod enc Tryz.prog W base spare held n 2 (([v0, v1, v2, v3, v4].drop 3).take (Tryz.prog.cellsOf 2)) = xs[3]? := hf 3 _ rfl
  rw [d3, show Tryz.prog.cellsOf 2 = 1 by kernel_rfl] at g3
  obtain ⟨n3, h3, _, _⟩ := DataW.trod_int Tryz.underlying2 g3
  obtain ⟨y4, d4⟩ := hx 4 (by omega)
  have g4 : DataW.trod enc Tryz.prog W base spare held n 2 (([v0, v1, v2, v3, v4].drop 4).take (Tryz.prog.cellsOf 2)) = xs[4]? := hf 4 _ rfl
  rw [d4, show Tryz.prog.cellsOf 2 = 1 by kernel_rfl] at g4
  obtain ⟨n4, h4, _, _⟩ := DataW.trod_int Tryz.underlying2 g4
  simp at h0
  simp at h1
  simp at h2
  simp at h3
  simp at h4
  subst h0
  subst h1
  subst h2
  subst h3
  subst h4
  exact ⟨⟨l0, l1, A1, c1, n2, n3, n4⟩, rfl, ⟨⟨s1, e1⟩, m1⟩⟩
theorem opens_idx : Opens enc Tryz.prog W base spare held 30 yq (fun a => IdxOk W a) := fun fuel cs x h => by
  obtain ⟨xs, n, _, _, hl, hlen, hf⟩ := DataW.trod_struct Tryz.underlying30 h
  rw [show Tryz.prog.cellsOf 30 = 6 by kernel_rfl] at hl
  obtain ⟨v0, v1, v2, v3, v4, v5, rfl⟩ : ∃ v0 v1 v2 v3 v4 v5, cs = [v0, v1, v2, v3, v4, v5] := by
    match cs, hl with
    | [u0, u1, u2, u3, u4, u5], _ => exact ⟨u0, u1, u2, u3, u4, u5, rfl⟩
  have hx : ∀ i, i < 6 → ∃ y, xs[i]? = some y := fun i hi => ⟨xs[i]'(by rw [hlen]; exact hi), List.getElem?_eq_getElem _⟩
  obtain ⟨y0, d0⟩ := hx 0 (by omega)
  have g0 : DataW.trod enc Tryz.prog W base spare held n 9 (([v0, v1, v2, v3, v4, v5].drop 0).take (Tryz.prog.cellsOf 9)) = xs[0]? := hf 0 _ rfl
  rw [d0, show Tryz.prog.cellsOf 9 = 1 by kernel_rfl] at g0
  obtain ⟨l0, h0⟩ := opens_str Tryz.underlying9 g0
  obtain ⟨y1, d1⟩ := hx 1 (by omega)
  have g1 : DataW.trod enc Tryz.prog W base spare held n 9 (([v0, v1, v2, v3, v4, v5].drop 1).take (Tryz.prog.cellsOf 9)) = xs[1]? := hf 1 _ rfl
  rw [d1, show Tryz.prog.cellsOf 9 = 1 by kernel_rfl] at g1
  obtain ⟨l1, h1⟩ := opens_str Tryz.underlying9 g1
  obtain ⟨y2, d2⟩ := hx 2 (by omega)
  have g2 : DataW.trod enc Tryz.prog W base spare held n 28 (([v0, v1, v2, v3, v4, v5].drop 2).take (Tryz.prog.cellsOf 28)) = xs[2]? := hf 2 _ rfl
  rw [d2, show Tryz.prog.cellsOf 28 = 1 by kernel_rfl] at g2
  obtain ⟨A2, c2, l2, h2, s2, k2, e2, m2⟩ := opens_slice Tryz.underlying28 (by kernel_rfl) (by decide) Ys opens_int1 g2
  obtain ⟨y3, d3⟩ := hx 3 (by omega)
  have g3 : DataW.trod enc Tryz.prog W base spare held n 3 (([v0, v1, v2, v3, v4, v5].drop 3).take (Tryz.prog.cellsOf 3)) = xs[3]? := hf 3 _ rfl
  rw [d3, show Tryz.prog.cellsOf 3 = 1 by kernel_rfl] at g3
  obtain ⟨n3, h3, _, _⟩ := DataW.trod_int Tryz.underlying3 g3
  obtain ⟨y4, d4⟩ := hx 4 (by omega)
  have g4 : DataW.trod enc Tryz.prog W base spare held n 3 (([v0, v1, v2, v3, v4, v5].drop 4).take (Tryz.prog.cellsOf 3)) = xs[4]? := hf 4 _ rfl
  rw [d4, show Tryz.prog.cellsOf 3 = 1 by kernel_rfl] at g4
  obtain ⟨n4, h4, _, _⟩ := DataW.trod_int Tryz.underlying3 g4
  obtain ⟨y5, d5⟩ := hx 5 (by omega)
  have g5 : DataW.trod enc Tryz.prog W base spare held n 2 (([v0, v1, v2, v3, v4, v5].drop 5).take (Tryz.prog.cellsOf 2)) = xs[5]? := hf 5 _ rfl
  rw [d5, show Tryz.prog.cellsOf 2 = 1 by kernel_rfl] at g5
  obtain ⟨n5, h5, _, _⟩ := DataW.trod_int Tryz.underlying2 g5
  simp at h0
  simp at h1
  simp at h2
  simp at h3
  simp at h4
  simp at h5
  subst h0
  subst h1
  subst h2
  subst h3
  subst h4
  subst h5
  exact ⟨⟨l0, l1, l2, A2, c2, n3, n4, n5⟩, rfl, ⟨s2, e2⟩⟩
theorem opens_sch : Opens enc Tryz.prog W base spare held 37 zM (fun a => SchOk W a ∧ ∀ t ∈ a.tabs, t.cols.length ≤ 9223372036854775807) := fun fuel cs x h => by
  obtain ⟨xs, n, _, _, hl, hlen, hf⟩ := DataW.trod_struct Tryz.underlying37 h
  rw [show Tryz.prog.cellsOf 37 = 2 by kernel_rfl] at hl
  obtain ⟨v0, v1, rfl⟩ : ∃ v0 v1, cs = [v0, v1] := by
    match cs, hl with
    | [u0, u1], _ => exact ⟨u0, u1, rfl⟩
  have hx : ∀ i, i < 2 → ∃ y, xs[i]? = some y := fun i hi => ⟨xs[i]'(by rw [hlen]; exact hi), List.getElem?_eq_getElem _⟩
  obtain ⟨y0, d0⟩ := hx 0 (by omega)
  have g0 : DataW.trod enc Tryz.prog W base spare held n 34 (([v0, v1].drop 0).take (Tryz.prog.cellsOf 34)) = xs[0]? := hf 0 _ rfl
  rw [d0, show Tryz.prog.cellsOf 34 = 1 by kernel_rfl] at g0
  obtain ⟨A0, c0, l0, h0, s0, k0, e0, m0⟩ := opens_slice Tryz.underlying34 (by kernel_rfl) (by decide) yI opens_tab g0
  obtain ⟨y1, d1⟩ := hx 1 (by omega)
  have g1 : DataW.trod enc Tryz.prog W base spare held n 35 (([v0, v1].drop 1).take (Tryz.prog.cellsOf 35)) = xs[1]? := hf 1 _ rfl
  rw [d1, show Tryz.prog.cellsOf 35 = 1 by kernel_rfl] at g1
  obtain ⟨A1, c1, l1, h1, s1, k1, e1, m1⟩ := opens_slice Tryz.underlying35 (by kernel_rfl) (by decide) yw opens_idx g1
  simp at h0
  simp at h1
  subst h0
  subst h1
  exact ⟨⟨l0, A0, c0, l1, A1, c1⟩, rfl, ⟨⟨s0, e0, fun t ht => (k0 t ht).1, s1, e1, k1⟩, fun t ht => (k0 t ht).2⟩⟩
theorem opens_op : Opens enc Tryz.prog W base spare held 32 opC (fun a => OpOk W a ∧ a.t.cols.length ≤ 9223372036854775807) := fun fuel cs x h => by
  obtain ⟨xs, n, _, _, hl, hlen, hf⟩ := DataW.trod_struct Tryz.underlying32 h
  rw [show Tryz.prog.cellsOf 32 = 13 by kernel_rfl] at hl
  obtain ⟨v0, v1, v2, v3, v4, v5, v6, v7, v8, v9, v10, v11, v12, rfl⟩ : ∃ v0 v1 v2 v3 v4 v5 v6 v7 v8 v9 v10 v11 v12, cs = [v0, v1, v2, v3, v4, v5, v6, v7, v8, v9, v10, v11, v12] := by
    match cs, hl with
    | [u0, u1, u2, u3, u4, u5, u6, u7, u8, u9, u10, u11, u12], _ => exact ⟨u0, u1, u2, u3, u4, u5, u6, u7, u8, u9, u10, u11, u12, rfl⟩
  have hx : ∀ i, i < 4 → ∃ y, xs[i]? = some y := fun i hi => ⟨xs[i]'(by rw [hlen]; exact hi), List.getElem?_eq_getElem _⟩
  obtain ⟨y0, d0⟩ := hx 0 (by omega)
  have g0 : DataW.trod enc Tryz.prog W base spare held n 3 (([v0, v1, v2, v3, v4, v5, v6, v7, v8, v9, v10, v11, v12].drop 0).take (Tryz.prog.cellsOf 3)) = xs[0]? := hf 0 _ rfl
  rw [d0, show Tryz.prog.cellsOf 3 = 1 by kernel_rfl] at g0
  obtain ⟨n0, h0, _, _⟩ := DataW.trod_int Tryz.underlying3 g0
  obtain ⟨y1, d1⟩ := hx 1 (by omega)
  have g1 : DataW.trod enc Tryz.prog W base spare held n 27 (([v0, v1, v2, v3, v4, v5, v6, v7, v8, v9, v10, v11, v12].drop 1).take (Tryz.prog.cellsOf 27)) = xs[1]? := hf 1 _ rfl
  rw [d1, show Tryz.prog.cellsOf 27 = 5 by kernel_rfl] at g1
  obtain ⟨a1, h1, k1⟩ := opens_tab _ _ _ g1
  obtain ⟨y2, d2⟩ := hx 2 (by omega)
  have g2 : DataW.trod enc Tryz.prog W base spare held n 30 (([v0, v1, v2, v3, v4, v5, v6, v7, v8, v9, v10, v11, v12].drop 6).take (Tryz.prog.cellsOf 30)) = xs[2]? := hf 2 _ rfl
  rw [d2, show Tryz.prog.cellsOf 30 = 6 by kernel_rfl] at g2
  obtain ⟨a2, h2, k2⟩ := opens_idx _ _ _ g2
  obtain ⟨y3, d3⟩ := hx 3 (by omega)
  have g3 : DataW.trod enc Tryz.prog W base spare held n 9 (([v0, v1, v2, v3, v4, v5, v6, v7, v8, v9, v10, v11, v12].drop 12).take (Tryz.prog.cellsOf 9)) = xs[3]? := hf 3 _ rfl
  rw [d3, show Tryz.prog.cellsOf 9 = 1 by kernel_rfl] at g3
  obtain ⟨l3, h3⟩ := opens_str Tryz.underlying9 g3
  simp at h0
  simp [yA, yq] at h1
  simp [yA, yq] at h2
  simp at h3
  subst h0
  obtain ⟨rfl, rfl, rfl, rfl, rfl⟩ := h1
  obtain ⟨rfl, rfl, rfl, rfl, rfl, rfl⟩ := h2
  subst h3
  exact ⟨⟨n0, a1, a2, l3⟩, rfl, ⟨⟨k1.1, k2⟩, k1.2⟩⟩
theorem open_ops {v : Value} {d : DataW H} {ps : List MemPlace} {r : Reach} {b0 : Nat} (hval : Value.okWide Tryz.prog W r b0 24 v) (h : DataW.Trod enc Tryz.prog W base spare held 24 v d ps) :
    ∃ A cap, ∃ l : List OpV, v = .slice A l.length cap ∧ SlR W A (zI opC l) ∧ (∀ o ∈ l, OpOk W o) ∧ ∀ o ∈ l, o.t.cols.length ≤ 9223372036854775807 := by
  obtain ⟨a, len, cap, rfl⟩ := okWide_slice Tryz.underlying24 hval
  obtain ⟨fuel, hf⟩ := h
  obtain ⟨A, c, l, h1, h2, h3, _, _⟩ := opens_slice Tryz.underlying24 (by kernel_rfl) (by decide) opC_len opens_op hf
  simp [Value.cells] at h1
  obtain ⟨rfl, rfl, rfl⟩ := h1
  exact ⟨_, _, l, rfl, h2, fun o ho => (h3 o ho).1, fun o ho => (h3 o ho).2⟩
theorem open_op {v : Value} {d : DataW H} {ps : List MemPlace} {r : Reach} {b0 : Nat} (hval : Value.okWide Tryz.prog W r b0 32 v) (h : DataW.Trod enc Tryz.prog W base spare held 32 v d ps) :
    ∃ o : OpV, v = .agg (opC o).toArray ∧ OpOk W o ∧ o.t.cols.length ≤ 9223372036854775807 := by
  obtain ⟨cs, rfl, hsz⟩ := okWide_struct Tryz.underlying32 hval
  obtain ⟨fuel, hf⟩ := h
  obtain ⟨o, h1, h2⟩ := opens_op _ _ _ hf
  obtain ⟨cs⟩ := cs
  have h3 : cs = opC o := h1
  subst h3
  exact ⟨o, rfl, h2⟩
theorem open_sch {v : Value} {d : DataW H} {ps : List MemPlace} {r : Reach} {b0 : Nat} (hval : Value.okWide Tryz.prog W r b0 37 v) (h : DataW.Trod enc Tryz.prog W base spare held 37 v d ps) :
    ∃ s : Sch, v = .agg (zM s).toArray ∧ SchOk W s ∧ ∀ t ∈ s.tabs, t.cols.length ≤ 9223372036854775807 := by
  obtain ⟨cs, rfl, hsz⟩ := okWide_struct Tryz.underlying37 hval
  obtain ⟨fuel, hf⟩ := h
  obtain ⟨o, h1, h2⟩ := opens_sch _ _ _ hf
  obtain ⟨cs⟩ := cs
  have h3 : cs = zM o := h1
  subst h3
  exact ⟨o, rfl, h2⟩
end
end Go.Proofs.YtnoioimphcmeiaaGreatDoor
