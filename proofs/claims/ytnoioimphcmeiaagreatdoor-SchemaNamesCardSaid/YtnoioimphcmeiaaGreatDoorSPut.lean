import Derived.Test.YtnoioimphcmeiaaGreatDoorSSort
namespace Go.Proofs.YtnoioimphcmeiaaGreatDoor
open Go.RowKit
set_option maxRecDepth 20000
set_option maxHeartbeats 2000000

/-- What a table says: name, columns, root, next, rows. -/
abbrev TD := List UInt8 × List Col × Int × Int × Int
/-- What an index says: name, table, places, state, root, cursor. -/
abbrev ID := List UInt8 × List UInt8 × List Int × Int × Int × Int
def tAt (ts : List TD) (nm : List UInt8) : Int := findN (fun x : TD => decide (x.1 = nm)) ts
def iAt (ts : List ID) (nm : List UInt8) : Int := findN (fun x : ID => decide (x.1 = nm)) ts
/-- Why a table may not be put. -/
def tE (ts : List TD) (t : TD) : Nat :=
  if nameB t.1 = false ∨ t.2.2.1 < 1 ∨ t.2.2.1 > 1600 ∨ t.2.2.2.1 < 1 ∨ t.2.2.2.2 < 0 then 7
  else if tAt ts t.1 < 0 ∧ 8 ≤ ts.length then 11 else colsE t.2.1
def tPut (ts : List TD) (t : TD) : List TD := if tAt ts t.1 < 0 then sortI (fun a b => ltN a.1 b.1) (ts ++ [t]) else ts.set (tAt ts t.1).toNat t
/-- Why an index may not be put. -/
def iE (ts : List TD) (is : List ID) (x : ID) : Nat :=
  if nameB x.1 = false ∨ x.2.2.2.1 < 1 ∨ x.2.2.2.1 > 3 ∨ x.2.2.2.2.1 < 1 ∨ x.2.2.2.2.1 > 1600 ∨ x.2.2.2.2.2 < 0 then 7
  else if tAt ts x.2.1 < 0 then 130
  else if iAt is x.1 < 0 ∧ 12 ≤ is.length then 11 else placesE ((ts[(tAt ts x.2.1).toNat]?.map fun t => t.2.1.length).getD 0) x.2.2.1
def iPut (is : List ID) (x : ID) : List ID := if iAt is x.1 < 0 then sortI (fun a b => ltN a.1 b.1) (is ++ [x]) else is.set (iAt is x.1).toNat x
theorem findN_map {α β : Type} {p : β → Bool} {g : α → β} {l : List α} : findN (fun x => p (g x)) l = findN p (l.map g) := by
  unfold findN
  rw [List.findIdx?_map]
  rfl
theorem tAt_map {l : List Tab} {nm : List UInt8} : findN (fun x : Tab => decide (x.name = nm)) l = tAt (l.map Tab.d) nm := findN_map (p := fun x : TD => decide (x.1 = nm)) (g := Tab.d)
theorem iAt_map {l : List Idx} {nm : List UInt8} : findN (fun x : Idx => decide (x.name = nm)) l = iAt (l.map Idx.d_) nm := findN_map (p := fun x : ID => decide (x.1 = nm)) (g := Idx.d_)
structure TabSm (t : Tab) : Prop where
  nm : t.name.length ≤ 1000
  cl : t.cols.length ≤ 1000
  cn : ∀ c ∈ t.cols, c.name.length ≤ 1000
structure IdxSm (t : Idx) : Prop where
  nm : t.name.length ≤ 1000
  cl : t.cols.length ≤ 1000
structure SchSm (s : Sch) : Prop where
  lt : s.tabs.length ≤ 1000
  li : s.idxs.length ≤ 1000
  tab : ∀ t ∈ s.tabs, TabSm t
  idx : ∀ t ∈ s.idxs, IdxSm t
section
variable {w0 wc w8 w9 : World} {b : Nat} {o : Sch} {ts ts' : List Tab} {is is' : List Idx}
theorem mk_of {b : Nat} {base : Nat} (mv : Mv No w0 wc) (own : SchOwn base wc o) (hb : w0.heap.size ≤ base) (hn : wc.heap.size ≤ b) (mv8 : Mv No wc w8) (hb9 : Blk w9 b (schC o) 37) (hm9 : Mv (At b) w8 w9) (ht : o.tabs.map Tab.d = ts.map Tab.d) (hi : o.idxs.map Idx.d_ = is.map Idx.d_) : Mk w0 w9 b o ts is := by
  have s0 := mv.size
  have hsep : ∀ {m n e base : Nat} {v : Value} {xs : List Value}, wc.ownsRow base e m v n xs → w9.ownsRow base e m v n xs := fun h => own_mv (own_no h mv8) hm9 (fun k hk hk2 => by have := (own_lt h hk).2; unfold At at hk2; omega)
  exact ⟨(mv.no mv8).new hm9 (by omega), hb9, by omega, ⟨own_base (hsep own.tsl) hb, fun t h => own_base (hsep (own.tab t h)) hb, own_base (hsep own.isl) hb, fun t h => own_base (hsep (own.idx t h)) hb⟩, ht, hi⟩
theorem Mk.turnT (h : Mk w0 wc b o ts is) {tabs' : List Tab} (hlen : tabs'.length = o.tabs.length) (hmem : ∀ t ∈ tabs', TabOwn w0.heap.size wc t) (hm : Mv (OwnOf (.slice o.A o.tabs.length o.c)) wc w8) (ho : w8.ownsRow w0.heap.size 27 5 (.slice o.A o.tabs.length o.c) o.tabs.length (cellsL tabC tabs')) (hd : tabs'.map Tab.d = ts'.map Tab.d) : Mk w0 w8 b { o with tabs := tabs' } ts' is := by
  refine ⟨h.mv.own hm h.own.tsl (Nat.le_refl _), ?_, h.new, ⟨?_, fun t ht => own_mv (hmem t ht) hm (own_sep (hmem t ht) h.own.tsl (by decide)), own_mv h.own.isl hm (own_sep h.own.isl h.own.tsl (by decide)), fun t ht => own_mv (h.own.idx t ht) hm (own_sep (h.own.idx t ht) h.own.tsl (by decide))⟩, hd, h.id⟩
  · have := h.blk.mv hm (blk_sep h.blk h.own.tsl (by decide))
    unfold schC at this ⊢
    dsimp only
    rw [hlen]; exact this
  · dsimp only
    rw [hlen]; exact ho
theorem Mk.turnI (h : Mk w0 wc b o ts is) {idxs' : List Idx} (hlen : idxs'.length = o.idxs.length) (hmem : ∀ t ∈ idxs', IdxOwn w0.heap.size wc t) (hm : Mv (OwnOf (.slice o.B o.idxs.length o.d)) wc w8) (ho : w8.ownsRow w0.heap.size 30 6 (.slice o.B o.idxs.length o.d) o.idxs.length (cellsL idxC idxs')) (hd : idxs'.map Idx.d_ = is'.map Idx.d_) : Mk w0 w8 b { o with idxs := idxs' } ts is' := by
  refine ⟨h.mv.own hm h.own.isl (Nat.le_refl _), ?_, h.new, ⟨own_mv h.own.tsl hm (own_sep h.own.tsl h.own.isl (by decide)), fun t ht => own_mv (h.own.tab t ht) hm (own_sep (h.own.tab t ht) h.own.isl (by decide)), ?_, fun t ht => own_mv (hmem t ht) hm (own_sep (hmem t ht) h.own.isl (by decide))⟩, h.td, hd⟩
  · have := h.blk.mv hm (blk_sep h.blk h.own.isl (by decide))
    unfold schC at this ⊢
    dsimp only
    rw [hlen]; exact this
  · dsimp only
    rw [hlen]; exact ho
/-- It is handed back. -/
theorem Mk.fin (h : Mk w0 wc b o ts is) {b4 : Nat} {cs : List Value} (hb4 : Blk wc b4 cs 37) (hn : w0.heap.size ≤ b4) (hm : Mv (At b4) wc w9) : SchOwn w0.heap.size w9 o ∧ Mv No w0 w9 := by
  have hsep : ∀ {m n e base : Nat} {v : Value} {xs : List Value}, wc.ownsRow base e m v n xs → 37 ≠ e → w9.ownsRow base e m v n xs := fun h he => own_mv h hm (fun k hk hk2 => by unfold At at hk2; subst hk2; exact blk_sep hb4 h he hk)
  exact ⟨⟨hsep h.own.tsl (by decide), fun t ht => hsep (h.own.tab t ht) (by decide), hsep h.own.isl (by decide), fun t ht => hsep (h.own.idx t ht) (by decide)⟩, h.mv.new hm hn⟩
theorem mvOwn {b n c : Nat} {w1 w2 : World} (h : Mv (At b) w1 w2) : Mv (OwnOf (.slice (some ⟨b, 0, none⟩) n c)) w1 w2 := h.mono fun x _ hx => by unfold At at hx; subst hx; rfl
theorem findN_at {α : Type} {p : α → Bool} {l : List α} (h : ¬ findN p l < 0) : ∃ (i : Nat) (a : α), findN p l = (i : Int) ∧ l[i]? = some a ∧ i < l.length := by
  rcases findN_cases p l with ⟨h1, _⟩ | ⟨i, a, h1, h2, _⟩
  · omega
  · exact ⟨i, a, h1, h2, (List.getElem?_eq_some_iff.1 h2).1⟩
end
section
variable {w : World}
theorem put_ret (hv : Vr w) {s : Sch} {t : Tab} (hs : SchOk w s) (ht : TabOk w t) (hsm : SchSm s) (htm : TabSm t) : Ret Tryz.prog 30 [.agg (schC s).toArray, .agg (tabC t).toArray] w fun v w' => ∃ o, v = .tuple #[.agg (schC o).toArray, .int .i64 (tE (s.tabs.map Tab.d) t.d : Nat)] ∧ SchOwn w.heap.size w' o ∧ (tE (s.tabs.map Tab.d) t.d ≠ 0 → o = sch0) ∧ (tE (s.tabs.map Tab.d) t.d = 0 → o.tabs.map Tab.d = tPut (s.tabs.map Tab.d) t.d ∧ o.idxs.map Idx.d_ = s.idxs.map Idx.d_) ∧ Mv No w w' := by
  have hl1 := hsm.lt
  have hl2 := hsm.li
  have hc1 := htm.cl
  have hn1 := htm.nm
  have hmap : (s.tabs.map Tab.d).length = s.tabs.length := List.length_map ..
  refine F_enter Tryz.func30 Tryz.ntmps30 rfl rfl ?_
  refine C_seq ?_
  refine C_region ?_
  refine L (S_box rfl ?_)
  rintro b2 w2 hb2 hm2 hn2
  refine L (S_box rfl ?_)
  rintro b3 w3 hb3 hm3 hn3
  refine L (S_alloc (zs := [(.slice none 0 0), (.slice none 0 0)]) ti_37 rfl ?_)
  rintro b4 w4 hb4 hm4 hn4
  refine L (S (P_assign rfl) ?_)
  refine L_nil ?_
  refine then_n ?_
  refine C_seq ?_
  refine C_region ?_
  refine L (S_loadS st_37 rfl ((hb2.no hm3).no hm4).row rfl ?_)
  refine L (S (P_fieldAddr fo_27_0 rfl) ?_)
  refine L (S_load sc_9 rfl ((hb3.no hm4).cell (i := 0) rfl) ?_)
  refine L (S_call cb_15 rfl ((table_ret (s := s) (((hs.tsl.no hm2).no hm3).no hm4) (by omega) t.name)) ?_)
  rintro _ w5 ⟨rfl, hm5⟩
  refine L (S (P_assign rfl) ?_)
  refine L_nil ?_
  refine then_n ?_
  refine C_seq ?_
  refine C_block ?_
  refine C_seq ?_
  have hm05 := ((hm2.no hm3).no hm4).no hm5
  have z2 := hm2.size
  have z3 := hm3.size
  have y4 := hb4.lt
  have y3 := hb3.lt
  have y2 := hb2.lt
  have z4 := hm4.size
  have z5 := hm5.size
  have hB2 : ∀ {wq}, Mv No w5 wq → Blk wq b2 (schC s) 37 := fun h => (((hb2.no hm3).no hm4).no hm5).no h
  have hB3 : ∀ {wq}, Mv No w5 wq → Blk wq b3 (tabC t) 27 := fun h => ((hb3.no hm4).no hm5).no h
  have hB4 : ∀ {wq}, Mv No w5 wq → Blk wq b4 (schC sch0) 37 := fun h => (hb4.no hm5).no h
  have hN : ∀ {β : Bool}, nameB t.name = β → _ := fun {β} h => name_is (β := β) (hv.no hm05) (show t.name.length ≤ 100000 by omega) h
  rw [tAt_map]
  have htE : tE (s.tabs.map Tab.d) t.d = if nameB t.name = false ∨ t.root < 1 ∨ t.root > 1600 ∨ t.next < 1 ∨ t.rows < 0 then 7 else if tAt (s.tabs.map Tab.d) t.name < 0 ∧ 8 ≤ s.tabs.length then 11 else colsE t.cols := by unfold tE; rw [hmap]; rfl
  have htP : tPut (s.tabs.map Tab.d) t.d = if tAt (s.tabs.map Tab.d) t.name < 0 then sortI (fun a b => ltN a.1 b.1) (s.tabs.map Tab.d ++ [t.d]) else (s.tabs.map Tab.d).set (tAt (s.tabs.map Tab.d) t.name).toNat t.d := rfl
  have hat : ¬ tAt (s.tabs.map Tab.d) t.name < 0 → ∃ i : Nat, tAt (s.tabs.map Tab.d) t.name = (i : Int) ∧ i < s.tabs.length := fun h => by
    obtain ⟨i, a, h1, _, h3⟩ := findN_at h
    exact ⟨i, h1, by rw [← hmap]; exact h3⟩
  rw [htE, htP]
  generalize tAt (s.tabs.map Tab.d) t.name = at_ at *
  clear htE htP
  by_cases q1 : nameB t.name = false
  · rw [if_pos (.inl q1)]
    refine C_region ?_
    refine L (S (P_fieldAddr fo_27_0 rfl) ?_)
    refine L (S_load sc_9 rfl ((hB3 (Mv.refl _)).cell (i := 0) rfl) ?_)
    refine L (S_call cb_9 rfl ((hN q1)) ?_)
    rintro _ w6 ⟨rfl, hm6⟩
    refine L (S (P_not rfl rfl) ?_)
    refine L (S (P_move rfl) ?_)
    refine L_no (j := 4) (dj := 18) (b := false) (b' := true) (d := 19) rfl ?_
    refine L_no (j := 4) (dj := 18) (b := false) (b' := true) (d := 20) rfl ?_
    refine L_no (j := 4) (dj := 18) (b := false) (b' := true) (d := 21) rfl ?_
    refine L (S (P_pickT rfl rfl) ?_)
    refine L (S (P_move rfl) ?_)
    refine L_no (j := 9) (dj := 23) (b := false) (b' := true) (d := 24) rfl ?_
    refine L_no (j := 9) (dj := 23) (b := false) (b' := true) (d := 25) rfl ?_
    refine L_no (j := 9) (dj := 23) (b := false) (b' := true) (d := 26) rfl ?_
    refine L (S (P_pickT rfl rfl) ?_)
    refine L (S (P_move rfl) ?_)
    refine L_no (j := 14) (dj := 28) (b := false) (b' := true) (d := 29) rfl ?_
    refine L_no (j := 14) (dj := 28) (b := false) (b' := true) (d := 30) rfl ?_
    refine L_no (j := 14) (dj := 28) (b := false) (b' := true) (d := 31) rfl ?_
    refine L (S (P_pickT rfl rfl) ?_)
    refine L (S (P_move rfl) ?_)
    refine L_no (j := 19) (dj := 33) (b := false) (b' := true) (d := 34) rfl ?_
    refine L_no (j := 19) (dj := 33) (b := false) (b' := true) (d := 35) rfl ?_
    refine L_no (j := 19) (dj := 33) (b := false) (b' := true) (d := 36) rfl ?_
    refine L (S (P_pickT rfl rfl) ?_)
    refine L (S (P_assign rfl) ?_)
    refine L_nil ?_
    refine then_n ?_
    refine C_true rfl ?_
    refine C_seq ?_
    refine C_region ?_
    refine L (S (P_buildC (ix := []) (l := []) bi_37 rfl (by simp [Value.oneCell']) rfl) ?_)
    refine L (S_storeS ti_37 rfl rfl (schC_one sch0) rfl (hB4 hm6) (by exact Nat.le_refl 2) ?_)
    rintro w9 hb9 hm9
    refine L (S (P_assign rfl) ?_)
    refine L_nil ?_
    refine then_n ?_
    refine C_ret ?_
    refine blk_r ?_
    refine then_r ?_
    have hb9' : Blk w9 b4 (schC sch0) 37 := hb9
    refine F_ret (rs := [.cell 4 37, .tmp 5]) [.agg (schC sch0).toArray, .int .i64 (7 : Nat)] Tryz.results30 ?_ ?_
    · exact ⟨⟨_, rfl, run_loadVar_struct st_37 hb9'.row rfl⟩, rfl, trivial⟩
    exact ⟨sch0, rfl, own0, fun _ => rfl, fun h => absurd h (by decide), (hm05.no hm6).new hm9 (by omega)⟩
  replace q1 : nameB t.name = true := by simpa using q1
  by_cases q2 : t.root < 1
  · rw [if_pos (.inr (.inl q2))]
    refine C_region ?_
    refine L (S (P_fieldAddr fo_27_0 rfl) ?_)
    refine L (S_load sc_9 rfl ((hB3 (Mv.refl _)).cell (i := 0) rfl) ?_)
    refine L (S_call cb_9 rfl ((hN q1)) ?_)
    rintro _ w6 ⟨rfl, hm6⟩
    refine L (S (P_not rfl rfl) ?_)
    refine L (S (P_move rfl) ?_)
    refine L_yes (j := 4) (dj := 18) (b := false) (S (P_fieldAddr fo_27_2 rfl) ?_) rfl
    refine L_yes (j := 4) (dj := 18) (b := false) (S_load sc_3 rfl ((hB3 hm6).cell (i := 2) rfl) ?_) rfl
    refine L_yes (j := 4) (dj := 18) (b := false) (S (P_lt rfl rfl (decide_eq_true (by omega))) ?_) rfl
    refine L (S (P_pickF rfl rfl) ?_)
    refine L (S (P_move rfl) ?_)
    refine L_no (j := 9) (dj := 23) (b := false) (b' := true) (d := 24) rfl ?_
    refine L_no (j := 9) (dj := 23) (b := false) (b' := true) (d := 25) rfl ?_
    refine L_no (j := 9) (dj := 23) (b := false) (b' := true) (d := 26) rfl ?_
    refine L (S (P_pickT rfl rfl) ?_)
    refine L (S (P_move rfl) ?_)
    refine L_no (j := 14) (dj := 28) (b := false) (b' := true) (d := 29) rfl ?_
    refine L_no (j := 14) (dj := 28) (b := false) (b' := true) (d := 30) rfl ?_
    refine L_no (j := 14) (dj := 28) (b := false) (b' := true) (d := 31) rfl ?_
    refine L (S (P_pickT rfl rfl) ?_)
    refine L (S (P_move rfl) ?_)
    refine L_no (j := 19) (dj := 33) (b := false) (b' := true) (d := 34) rfl ?_
    refine L_no (j := 19) (dj := 33) (b := false) (b' := true) (d := 35) rfl ?_
    refine L_no (j := 19) (dj := 33) (b := false) (b' := true) (d := 36) rfl ?_
    refine L (S (P_pickT rfl rfl) ?_)
    refine L (S (P_assign rfl) ?_)
    refine L_nil ?_
    refine then_n ?_
    refine C_true rfl ?_
    refine C_seq ?_
    refine C_region ?_
    refine L (S (P_buildC (ix := []) (l := []) bi_37 rfl (by simp [Value.oneCell']) rfl) ?_)
    refine L (S_storeS ti_37 rfl rfl (schC_one sch0) rfl (hB4 hm6) (by exact Nat.le_refl 2) ?_)
    rintro w9 hb9 hm9
    refine L (S (P_assign rfl) ?_)
    refine L_nil ?_
    refine then_n ?_
    refine C_ret ?_
    refine blk_r ?_
    refine then_r ?_
    have hb9' : Blk w9 b4 (schC sch0) 37 := hb9
    refine F_ret (rs := [.cell 4 37, .tmp 5]) [.agg (schC sch0).toArray, .int .i64 (7 : Nat)] Tryz.results30 ?_ ?_
    · exact ⟨⟨_, rfl, run_loadVar_struct st_37 hb9'.row rfl⟩, rfl, trivial⟩
    exact ⟨sch0, rfl, own0, fun _ => rfl, fun h => absurd h (by decide), (hm05.no hm6).new hm9 (by omega)⟩
  by_cases q3 : t.root > 1600
  · rw [if_pos (.inr (.inr (.inl q3)))]
    refine C_region ?_
    refine L (S (P_fieldAddr fo_27_0 rfl) ?_)
    refine L (S_load sc_9 rfl ((hB3 (Mv.refl _)).cell (i := 0) rfl) ?_)
    refine L (S_call cb_9 rfl ((hN q1)) ?_)
    rintro _ w6 ⟨rfl, hm6⟩
    refine L (S (P_not rfl rfl) ?_)
    refine L (S (P_move rfl) ?_)
    refine L_yes (j := 4) (dj := 18) (b := false) (S (P_fieldAddr fo_27_2 rfl) ?_) rfl
    refine L_yes (j := 4) (dj := 18) (b := false) (S_load sc_3 rfl ((hB3 hm6).cell (i := 2) rfl) ?_) rfl
    refine L_yes (j := 4) (dj := 18) (b := false) (S (P_lt rfl rfl (decide_eq_false (by omega))) ?_) rfl
    refine L (S (P_pickF rfl rfl) ?_)
    refine L (S (P_move rfl) ?_)
    refine L_yes (j := 9) (dj := 23) (b := false) (S (P_fieldAddr fo_27_2 rfl) ?_) rfl
    refine L_yes (j := 9) (dj := 23) (b := false) (S_load sc_3 rfl ((hB3 hm6).cell (i := 2) rfl) ?_) rfl
    refine L_yes (j := 9) (dj := 23) (b := false) (S (P_gt rfl rfl (decide_eq_true (by omega))) ?_) rfl
    refine L (S (P_pickF rfl rfl) ?_)
    refine L (S (P_move rfl) ?_)
    refine L_no (j := 14) (dj := 28) (b := false) (b' := true) (d := 29) rfl ?_
    refine L_no (j := 14) (dj := 28) (b := false) (b' := true) (d := 30) rfl ?_
    refine L_no (j := 14) (dj := 28) (b := false) (b' := true) (d := 31) rfl ?_
    refine L (S (P_pickT rfl rfl) ?_)
    refine L (S (P_move rfl) ?_)
    refine L_no (j := 19) (dj := 33) (b := false) (b' := true) (d := 34) rfl ?_
    refine L_no (j := 19) (dj := 33) (b := false) (b' := true) (d := 35) rfl ?_
    refine L_no (j := 19) (dj := 33) (b := false) (b' := true) (d := 36) rfl ?_
    refine L (S (P_pickT rfl rfl) ?_)
    refine L (S (P_assign rfl) ?_)
    refine L_nil ?_
    refine then_n ?_
    refine C_true rfl ?_
    refine C_seq ?_
    refine C_region ?_
    refine L (S (P_buildC (ix := []) (l := []) bi_37 rfl (by simp [Value.oneCell']) rfl) ?_)
    refine L (S_storeS ti_37 rfl rfl (schC_one sch0) rfl (hB4 hm6) (by exact Nat.le_refl 2) ?_)
    rintro w9 hb9 hm9
    refine L (S (P_assign rfl) ?_)
    refine L_nil ?_
    refine then_n ?_
    refine C_ret ?_
    refine blk_r ?_
    refine then_r ?_
    have hb9' : Blk w9 b4 (schC sch0) 37 := hb9
    refine F_ret (rs := [.cell 4 37, .tmp 5]) [.agg (schC sch0).toArray, .int .i64 (7 : Nat)] Tryz.results30 ?_ ?_
    · exact ⟨⟨_, rfl, run_loadVar_struct st_37 hb9'.row rfl⟩, rfl, trivial⟩
    exact ⟨sch0, rfl, own0, fun _ => rfl, fun h => absurd h (by decide), (hm05.no hm6).new hm9 (by omega)⟩
  by_cases q4 : t.next < 1
  · rw [if_pos (.inr (.inr (.inr (.inl q4))))]
    refine C_region ?_
    refine L (S (P_fieldAddr fo_27_0 rfl) ?_)
    refine L (S_load sc_9 rfl ((hB3 (Mv.refl _)).cell (i := 0) rfl) ?_)
    refine L (S_call cb_9 rfl ((hN q1)) ?_)
    rintro _ w6 ⟨rfl, hm6⟩
    refine L (S (P_not rfl rfl) ?_)
    refine L (S (P_move rfl) ?_)
    refine L_yes (j := 4) (dj := 18) (b := false) (S (P_fieldAddr fo_27_2 rfl) ?_) rfl
    refine L_yes (j := 4) (dj := 18) (b := false) (S_load sc_3 rfl ((hB3 hm6).cell (i := 2) rfl) ?_) rfl
    refine L_yes (j := 4) (dj := 18) (b := false) (S (P_lt rfl rfl (decide_eq_false (by omega))) ?_) rfl
    refine L (S (P_pickF rfl rfl) ?_)
    refine L (S (P_move rfl) ?_)
    refine L_yes (j := 9) (dj := 23) (b := false) (S (P_fieldAddr fo_27_2 rfl) ?_) rfl
    refine L_yes (j := 9) (dj := 23) (b := false) (S_load sc_3 rfl ((hB3 hm6).cell (i := 2) rfl) ?_) rfl
    refine L_yes (j := 9) (dj := 23) (b := false) (S (P_gt rfl rfl (decide_eq_false (by omega))) ?_) rfl
    refine L (S (P_pickF rfl rfl) ?_)
    refine L (S (P_move rfl) ?_)
    refine L_yes (j := 14) (dj := 28) (b := false) (S (P_fieldAddr fo_27_3 rfl) ?_) rfl
    refine L_yes (j := 14) (dj := 28) (b := false) (S_load sc_2 rfl ((hB3 hm6).cell (i := 3) rfl) ?_) rfl
    refine L_yes (j := 14) (dj := 28) (b := false) (S (P_lt rfl rfl (decide_eq_true (by omega))) ?_) rfl
    refine L (S (P_pickF rfl rfl) ?_)
    refine L (S (P_move rfl) ?_)
    refine L_no (j := 19) (dj := 33) (b := false) (b' := true) (d := 34) rfl ?_
    refine L_no (j := 19) (dj := 33) (b := false) (b' := true) (d := 35) rfl ?_
    refine L_no (j := 19) (dj := 33) (b := false) (b' := true) (d := 36) rfl ?_
    refine L (S (P_pickT rfl rfl) ?_)
    refine L (S (P_assign rfl) ?_)
    refine L_nil ?_
    refine then_n ?_
    refine C_true rfl ?_
    refine C_seq ?_
    refine C_region ?_
    refine L (S (P_buildC (ix := []) (l := []) bi_37 rfl (by simp [Value.oneCell']) rfl) ?_)
    refine L (S_storeS ti_37 rfl rfl (schC_one sch0) rfl (hB4 hm6) (by exact Nat.le_refl 2) ?_)
    rintro w9 hb9 hm9
    refine L (S (P_assign rfl) ?_)
    refine L_nil ?_
    refine then_n ?_
    refine C_ret ?_
    refine blk_r ?_
    refine then_r ?_
    have hb9' : Blk w9 b4 (schC sch0) 37 := hb9
    refine F_ret (rs := [.cell 4 37, .tmp 5]) [.agg (schC sch0).toArray, .int .i64 (7 : Nat)] Tryz.results30 ?_ ?_
    · exact ⟨⟨_, rfl, run_loadVar_struct st_37 hb9'.row rfl⟩, rfl, trivial⟩
    exact ⟨sch0, rfl, own0, fun _ => rfl, fun h => absurd h (by decide), (hm05.no hm6).new hm9 (by omega)⟩
  by_cases q5 : t.rows < 0
  · rw [if_pos (.inr (.inr (.inr (.inr q5))))]
    refine C_region ?_
    refine L (S (P_fieldAddr fo_27_0 rfl) ?_)
    refine L (S_load sc_9 rfl ((hB3 (Mv.refl _)).cell (i := 0) rfl) ?_)
    refine L (S_call cb_9 rfl ((hN q1)) ?_)
    rintro _ w6 ⟨rfl, hm6⟩
    refine L (S (P_not rfl rfl) ?_)
    refine L (S (P_move rfl) ?_)
    refine L_yes (j := 4) (dj := 18) (b := false) (S (P_fieldAddr fo_27_2 rfl) ?_) rfl
    refine L_yes (j := 4) (dj := 18) (b := false) (S_load sc_3 rfl ((hB3 hm6).cell (i := 2) rfl) ?_) rfl
    refine L_yes (j := 4) (dj := 18) (b := false) (S (P_lt rfl rfl (decide_eq_false (by omega))) ?_) rfl
    refine L (S (P_pickF rfl rfl) ?_)
    refine L (S (P_move rfl) ?_)
    refine L_yes (j := 9) (dj := 23) (b := false) (S (P_fieldAddr fo_27_2 rfl) ?_) rfl
    refine L_yes (j := 9) (dj := 23) (b := false) (S_load sc_3 rfl ((hB3 hm6).cell (i := 2) rfl) ?_) rfl
    refine L_yes (j := 9) (dj := 23) (b := false) (S (P_gt rfl rfl (decide_eq_false (by omega))) ?_) rfl
    refine L (S (P_pickF rfl rfl) ?_)
    refine L (S (P_move rfl) ?_)
    refine L_yes (j := 14) (dj := 28) (b := false) (S (P_fieldAddr fo_27_3 rfl) ?_) rfl
    refine L_yes (j := 14) (dj := 28) (b := false) (S_load sc_2 rfl ((hB3 hm6).cell (i := 3) rfl) ?_) rfl
    refine L_yes (j := 14) (dj := 28) (b := false) (S (P_lt rfl rfl (decide_eq_false (by omega))) ?_) rfl
    refine L (S (P_pickF rfl rfl) ?_)
    refine L (S (P_move rfl) ?_)
    refine L_yes (j := 19) (dj := 33) (b := false) (S (P_fieldAddr fo_27_4 rfl) ?_) rfl
    refine L_yes (j := 19) (dj := 33) (b := false) (S_load sc_2 rfl ((hB3 hm6).cell (i := 4) rfl) ?_) rfl
    refine L_yes (j := 19) (dj := 33) (b := false) (S (P_lt rfl rfl (decide_eq_true (by omega))) ?_) rfl
    refine L (S (P_pickF rfl rfl) ?_)
    refine L (S (P_assign rfl) ?_)
    refine L_nil ?_
    refine then_n ?_
    refine C_true rfl ?_
    refine C_seq ?_
    refine C_region ?_
    refine L (S (P_buildC (ix := []) (l := []) bi_37 rfl (by simp [Value.oneCell']) rfl) ?_)
    refine L (S_storeS ti_37 rfl rfl (schC_one sch0) rfl (hB4 hm6) (by exact Nat.le_refl 2) ?_)
    rintro w9 hb9 hm9
    refine L (S (P_assign rfl) ?_)
    refine L_nil ?_
    refine then_n ?_
    refine C_ret ?_
    refine blk_r ?_
    refine then_r ?_
    have hb9' : Blk w9 b4 (schC sch0) 37 := hb9
    refine F_ret (rs := [.cell 4 37, .tmp 5]) [.agg (schC sch0).toArray, .int .i64 (7 : Nat)] Tryz.results30 ?_ ?_
    · exact ⟨⟨_, rfl, run_loadVar_struct st_37 hb9'.row rfl⟩, rfl, trivial⟩
    exact ⟨sch0, rfl, own0, fun _ => rfl, fun h => absurd h (by decide), (hm05.no hm6).new hm9 (by omega)⟩
  rw [if_neg (by rw [q1]; simp; omega)]
  by_cases q6 : at_ < 0 ∧ 8 ≤ s.tabs.length
  · rw [if_pos q6]
    refine C_region ?_
    refine L (S (P_fieldAddr fo_27_0 rfl) ?_)
    refine L (S_load sc_9 rfl ((hB3 (Mv.refl _)).cell (i := 0) rfl) ?_)
    refine L (S_call cb_9 rfl ((hN q1)) ?_)
    rintro _ w6 ⟨rfl, hm6⟩
    refine L (S (P_not rfl rfl) ?_)
    refine L (S (P_move rfl) ?_)
    refine L_yes (j := 4) (dj := 18) (b := false) (S (P_fieldAddr fo_27_2 rfl) ?_) rfl
    refine L_yes (j := 4) (dj := 18) (b := false) (S_load sc_3 rfl ((hB3 hm6).cell (i := 2) rfl) ?_) rfl
    refine L_yes (j := 4) (dj := 18) (b := false) (S (P_lt rfl rfl (decide_eq_false (by omega))) ?_) rfl
    refine L (S (P_pickF rfl rfl) ?_)
    refine L (S (P_move rfl) ?_)
    refine L_yes (j := 9) (dj := 23) (b := false) (S (P_fieldAddr fo_27_2 rfl) ?_) rfl
    refine L_yes (j := 9) (dj := 23) (b := false) (S_load sc_3 rfl ((hB3 hm6).cell (i := 2) rfl) ?_) rfl
    refine L_yes (j := 9) (dj := 23) (b := false) (S (P_gt rfl rfl (decide_eq_false (by omega))) ?_) rfl
    refine L (S (P_pickF rfl rfl) ?_)
    refine L (S (P_move rfl) ?_)
    refine L_yes (j := 14) (dj := 28) (b := false) (S (P_fieldAddr fo_27_3 rfl) ?_) rfl
    refine L_yes (j := 14) (dj := 28) (b := false) (S_load sc_2 rfl ((hB3 hm6).cell (i := 3) rfl) ?_) rfl
    refine L_yes (j := 14) (dj := 28) (b := false) (S (P_lt rfl rfl (decide_eq_false (by omega))) ?_) rfl
    refine L (S (P_pickF rfl rfl) ?_)
    refine L (S (P_move rfl) ?_)
    refine L_yes (j := 19) (dj := 33) (b := false) (S (P_fieldAddr fo_27_4 rfl) ?_) rfl
    refine L_yes (j := 19) (dj := 33) (b := false) (S_load sc_2 rfl ((hB3 hm6).cell (i := 4) rfl) ?_) rfl
    refine L_yes (j := 19) (dj := 33) (b := false) (S (P_lt rfl rfl (decide_eq_false (by omega))) ?_) rfl
    refine L (S (P_pickF rfl rfl) ?_)
    refine L (S (P_assign rfl) ?_)
    refine L_nil ?_
    refine then_n ?_
    refine C_false rfl ?_
    refine C_seq ?_
    refine C_region ?_
    refine L (S (P_move rfl) ?_)
    refine L (S (P_lt rfl rfl (decide_eq_true (by omega))) ?_)
    refine L (S (P_move rfl) ?_)
    refine L_yes (j := 2) (dj := 42) (b := true) (S (P_fieldAddr fo_37_0 rfl) ?_) rfl
    refine L_yes (j := 2) (dj := 42) (b := true) (S_load sc_34 rfl ((hB2 hm6).cell (i := 0) rfl) ?_) rfl
    refine L_yes (j := 2) (dj := 42) (b := true) (S (P_lenS Tryz.underlying34 rfl) ?_) rfl
    refine L_yes (j := 2) (dj := 42) (b := true) (S (P_ge rfl rfl (decide_eq_true (by omega))) ?_) rfl
    refine L (S (P_pickT rfl rfl) ?_)
    refine L (S (P_assign rfl) ?_)
    refine L_nil ?_
    refine then_n ?_
    refine C_true rfl ?_
    refine C_seq ?_
    refine C_region ?_
    refine L (S (P_buildC (ix := []) (l := []) bi_37 rfl (by simp [Value.oneCell']) rfl) ?_)
    refine L (S_storeS ti_37 rfl rfl (schC_one sch0) rfl (hB4 hm6) (by exact Nat.le_refl 2) ?_)
    rintro w9 hb9 hm9
    refine L (S (P_assign rfl) ?_)
    refine L_nil ?_
    refine then_n ?_
    refine C_ret ?_
    refine blk_r ?_
    refine then_r ?_
    have hb9' : Blk w9 b4 (schC sch0) 37 := hb9
    refine F_ret (rs := [.cell 4 37, .tmp 5]) [.agg (schC sch0).toArray, .int .i64 (11 : Nat)] Tryz.results30 ?_ ?_
    · exact ⟨⟨_, rfl, run_loadVar_struct st_37 hb9'.row rfl⟩, rfl, trivial⟩
    exact ⟨sch0, rfl, own0, fun _ => rfl, fun h => absurd h (by decide), (hm05.no hm6).new hm9 (by omega)⟩
  rw [if_neg q6]
  have hC := fun {wq} (h : Mv No w5 wq) => columns_ret (hv.no (hm05.no h)) (l := t.cols) (A := t.A) (c := t.cap) ((ht.sl.no hm05).no h) ht.le (by omega) (fun x hx => by have := htm.cn x hx; omega)
  by_cases q7 : colsE t.cols ≠ 0
  · by_cases q8 : at_ < 0
    · refine C_region ?_
      refine L (S (P_fieldAddr fo_27_0 rfl) ?_)
      refine L (S_load sc_9 rfl ((hB3 (Mv.refl _)).cell (i := 0) rfl) ?_)
      refine L (S_call cb_9 rfl ((hN q1)) ?_)
      rintro _ w6 ⟨rfl, hm6⟩
      refine L (S (P_not rfl rfl) ?_)
      refine L (S (P_move rfl) ?_)
      refine L_yes (j := 4) (dj := 18) (b := false) (S (P_fieldAddr fo_27_2 rfl) ?_) rfl
      refine L_yes (j := 4) (dj := 18) (b := false) (S_load sc_3 rfl ((hB3 hm6).cell (i := 2) rfl) ?_) rfl
      refine L_yes (j := 4) (dj := 18) (b := false) (S (P_lt rfl rfl (decide_eq_false (by omega))) ?_) rfl
      refine L (S (P_pickF rfl rfl) ?_)
      refine L (S (P_move rfl) ?_)
      refine L_yes (j := 9) (dj := 23) (b := false) (S (P_fieldAddr fo_27_2 rfl) ?_) rfl
      refine L_yes (j := 9) (dj := 23) (b := false) (S_load sc_3 rfl ((hB3 hm6).cell (i := 2) rfl) ?_) rfl
      refine L_yes (j := 9) (dj := 23) (b := false) (S (P_gt rfl rfl (decide_eq_false (by omega))) ?_) rfl
      refine L (S (P_pickF rfl rfl) ?_)
      refine L (S (P_move rfl) ?_)
      refine L_yes (j := 14) (dj := 28) (b := false) (S (P_fieldAddr fo_27_3 rfl) ?_) rfl
      refine L_yes (j := 14) (dj := 28) (b := false) (S_load sc_2 rfl ((hB3 hm6).cell (i := 3) rfl) ?_) rfl
      refine L_yes (j := 14) (dj := 28) (b := false) (S (P_lt rfl rfl (decide_eq_false (by omega))) ?_) rfl
      refine L (S (P_pickF rfl rfl) ?_)
      refine L (S (P_move rfl) ?_)
      refine L_yes (j := 19) (dj := 33) (b := false) (S (P_fieldAddr fo_27_4 rfl) ?_) rfl
      refine L_yes (j := 19) (dj := 33) (b := false) (S_load sc_2 rfl ((hB3 hm6).cell (i := 4) rfl) ?_) rfl
      refine L_yes (j := 19) (dj := 33) (b := false) (S (P_lt rfl rfl (decide_eq_false (by omega))) ?_) rfl
      refine L (S (P_pickF rfl rfl) ?_)
      refine L (S (P_assign rfl) ?_)
      refine L_nil ?_
      refine then_n ?_
      refine C_false rfl ?_
      refine C_seq ?_
      refine C_region ?_
      refine L (S (P_move rfl) ?_)
      refine L (S (P_lt rfl rfl (decide_eq_true (by omega))) ?_)
      refine L (S (P_move rfl) ?_)
      refine L_yes (j := 2) (dj := 42) (b := true) (S (P_fieldAddr fo_37_0 rfl) ?_) rfl
      refine L_yes (j := 2) (dj := 42) (b := true) (S_load sc_34 rfl ((hB2 hm6).cell (i := 0) rfl) ?_) rfl
      refine L_yes (j := 2) (dj := 42) (b := true) (S (P_lenS Tryz.underlying34 rfl) ?_) rfl
      refine L_yes (j := 2) (dj := 42) (b := true) (S (P_ge rfl rfl (decide_eq_false (by omega))) ?_) rfl
      refine L (S (P_pickT rfl rfl) ?_)
      refine L (S (P_assign rfl) ?_)
      refine L_nil ?_
      refine then_n ?_
      refine C_false rfl ?_
      refine C_skip ?_
      refine blk_n ?_
      refine then_n ?_
      refine C_seq ?_
      refine C_seq ?_
      refine C_region ?_
      refine L (S (P_fieldAddr fo_27_1 rfl) ?_)
      refine L (S_load sc_25 rfl ((hB3 hm6).cell (i := 1) rfl) ?_)
      refine L (S_call cb_23 rfl ((hC hm6)) ?_)
      rintro _ w7 ⟨rfl, hm7⟩
      refine L (S (P_assign rfl) ?_)
      refine L_nil ?_
      refine then_n ?_
      refine C_seq ?_
      refine C_region ?_
      refine L (S (P_move rfl) ?_)
      refine L (S (P_ne rfl rfl (decide_eq_true (by omega))) ?_)
      refine L_nil ?_
      refine then_n ?_
      refine C_true rfl ?_
      refine C_seq ?_
      refine C_region ?_
      refine L (S (P_buildC (ix := []) (l := []) bi_37 rfl (by simp [Value.oneCell']) rfl) ?_)
      refine L (S (P_move rfl) ?_)
      refine L (S_storeS ti_37 rfl rfl (schC_one sch0) rfl (hB4 (hm6.no hm7)) (by exact Nat.le_refl 2) ?_)
      rintro w9 hb9 hm9
      refine L (S (P_assign rfl) ?_)
      refine L_nil ?_
      refine then_n ?_
      refine C_ret ?_
      refine then_r ?_
      have hb9' : Blk w9 b4 (schC sch0) 37 := hb9
      refine F_ret (rs := [.cell 4 37, .tmp 5]) [.agg (schC sch0).toArray, .int .i64 (colsE t.cols : Nat)] Tryz.results30 ?_ ?_
      · exact ⟨⟨_, rfl, run_loadVar_struct st_37 hb9'.row rfl⟩, rfl, trivial⟩
      exact ⟨sch0, rfl, own0, fun _ => rfl, fun h => absurd h q7, (hm05.no (hm6.no hm7)).new hm9 (by omega)⟩
    · refine C_region ?_
      refine L (S (P_fieldAddr fo_27_0 rfl) ?_)
      refine L (S_load sc_9 rfl ((hB3 (Mv.refl _)).cell (i := 0) rfl) ?_)
      refine L (S_call cb_9 rfl ((hN q1)) ?_)
      rintro _ w6 ⟨rfl, hm6⟩
      refine L (S (P_not rfl rfl) ?_)
      refine L (S (P_move rfl) ?_)
      refine L_yes (j := 4) (dj := 18) (b := false) (S (P_fieldAddr fo_27_2 rfl) ?_) rfl
      refine L_yes (j := 4) (dj := 18) (b := false) (S_load sc_3 rfl ((hB3 hm6).cell (i := 2) rfl) ?_) rfl
      refine L_yes (j := 4) (dj := 18) (b := false) (S (P_lt rfl rfl (decide_eq_false (by omega))) ?_) rfl
      refine L (S (P_pickF rfl rfl) ?_)
      refine L (S (P_move rfl) ?_)
      refine L_yes (j := 9) (dj := 23) (b := false) (S (P_fieldAddr fo_27_2 rfl) ?_) rfl
      refine L_yes (j := 9) (dj := 23) (b := false) (S_load sc_3 rfl ((hB3 hm6).cell (i := 2) rfl) ?_) rfl
      refine L_yes (j := 9) (dj := 23) (b := false) (S (P_gt rfl rfl (decide_eq_false (by omega))) ?_) rfl
      refine L (S (P_pickF rfl rfl) ?_)
      refine L (S (P_move rfl) ?_)
      refine L_yes (j := 14) (dj := 28) (b := false) (S (P_fieldAddr fo_27_3 rfl) ?_) rfl
      refine L_yes (j := 14) (dj := 28) (b := false) (S_load sc_2 rfl ((hB3 hm6).cell (i := 3) rfl) ?_) rfl
      refine L_yes (j := 14) (dj := 28) (b := false) (S (P_lt rfl rfl (decide_eq_false (by omega))) ?_) rfl
      refine L (S (P_pickF rfl rfl) ?_)
      refine L (S (P_move rfl) ?_)
      refine L_yes (j := 19) (dj := 33) (b := false) (S (P_fieldAddr fo_27_4 rfl) ?_) rfl
      refine L_yes (j := 19) (dj := 33) (b := false) (S_load sc_2 rfl ((hB3 hm6).cell (i := 4) rfl) ?_) rfl
      refine L_yes (j := 19) (dj := 33) (b := false) (S (P_lt rfl rfl (decide_eq_false (by omega))) ?_) rfl
      refine L (S (P_pickF rfl rfl) ?_)
      refine L (S (P_assign rfl) ?_)
      refine L_nil ?_
      refine then_n ?_
      refine C_false rfl ?_
      refine C_seq ?_
      refine C_region ?_
      refine L (S (P_move rfl) ?_)
      refine L (S (P_lt rfl rfl (decide_eq_false (by omega))) ?_)
      refine L (S (P_move rfl) ?_)
      refine L_no (j := 2) (dj := 42) (b := true) (b' := false) (d := 43) rfl ?_
      refine L_no (j := 2) (dj := 42) (b := true) (b' := false) (d := 44) rfl ?_
      refine L_no (j := 2) (dj := 42) (b := true) (b' := false) (d := 45) rfl ?_
      refine L_no (j := 2) (dj := 42) (b := true) (b' := false) (d := 46) rfl ?_
      refine L (S (P_pickF rfl rfl) ?_)
      refine L (S (P_assign rfl) ?_)
      refine L_nil ?_
      refine then_n ?_
      refine C_false rfl ?_
      refine C_skip ?_
      refine blk_n ?_
      refine then_n ?_
      refine C_seq ?_
      refine C_seq ?_
      refine C_region ?_
      refine L (S (P_fieldAddr fo_27_1 rfl) ?_)
      refine L (S_load sc_25 rfl ((hB3 hm6).cell (i := 1) rfl) ?_)
      refine L (S_call cb_23 rfl ((hC hm6)) ?_)
      rintro _ w7 ⟨rfl, hm7⟩
      refine L (S (P_assign rfl) ?_)
      refine L_nil ?_
      refine then_n ?_
      refine C_seq ?_
      refine C_region ?_
      refine L (S (P_move rfl) ?_)
      refine L (S (P_ne rfl rfl (decide_eq_true (by omega))) ?_)
      refine L_nil ?_
      refine then_n ?_
      refine C_true rfl ?_
      refine C_seq ?_
      refine C_region ?_
      refine L (S (P_buildC (ix := []) (l := []) bi_37 rfl (by simp [Value.oneCell']) rfl) ?_)
      refine L (S (P_move rfl) ?_)
      refine L (S_storeS ti_37 rfl rfl (schC_one sch0) rfl (hB4 (hm6.no hm7)) (by exact Nat.le_refl 2) ?_)
      rintro w9 hb9 hm9
      refine L (S (P_assign rfl) ?_)
      refine L_nil ?_
      refine then_n ?_
      refine C_ret ?_
      refine then_r ?_
      have hb9' : Blk w9 b4 (schC sch0) 37 := hb9
      refine F_ret (rs := [.cell 4 37, .tmp 5]) [.agg (schC sch0).toArray, .int .i64 (colsE t.cols : Nat)] Tryz.results30 ?_ ?_
      · exact ⟨⟨_, rfl, run_loadVar_struct st_37 hb9'.row rfl⟩, rfl, trivial⟩
      exact ⟨sch0, rfl, own0, fun _ => rfl, fun h => absurd h q7, (hm05.no (hm6.no hm7)).new hm9 (by omega)⟩
  have q7' : colsE t.cols = 0 := by omega
  rw [q7']
  have hCl := fun {wq} (h : Mv No w5 wq) => Clone_ret (s := s) ((hs.no hm05).no h) (by omega) (by omega) (fun x hx => by have := (hsm.tab x hx).cl; omega) (fun x hx => by have := (hsm.idx x hx).cl; omega)
  by_cases q8 : at_ < 0
  · rw [if_pos q8]
    refine C_region ?_
    refine L (S (P_fieldAddr fo_27_0 rfl) ?_)
    refine L (S_load sc_9 rfl ((hB3 (Mv.refl _)).cell (i := 0) rfl) ?_)
    refine L (S_call cb_9 rfl ((hN q1)) ?_)
    rintro _ w6 ⟨rfl, hm6⟩
    refine L (S (P_not rfl rfl) ?_)
    refine L (S (P_move rfl) ?_)
    refine L_yes (j := 4) (dj := 18) (b := false) (S (P_fieldAddr fo_27_2 rfl) ?_) rfl
    refine L_yes (j := 4) (dj := 18) (b := false) (S_load sc_3 rfl ((hB3 hm6).cell (i := 2) rfl) ?_) rfl
    refine L_yes (j := 4) (dj := 18) (b := false) (S (P_lt rfl rfl (decide_eq_false (by omega))) ?_) rfl
    refine L (S (P_pickF rfl rfl) ?_)
    refine L (S (P_move rfl) ?_)
    refine L_yes (j := 9) (dj := 23) (b := false) (S (P_fieldAddr fo_27_2 rfl) ?_) rfl
    refine L_yes (j := 9) (dj := 23) (b := false) (S_load sc_3 rfl ((hB3 hm6).cell (i := 2) rfl) ?_) rfl
    refine L_yes (j := 9) (dj := 23) (b := false) (S (P_gt rfl rfl (decide_eq_false (by omega))) ?_) rfl
    refine L (S (P_pickF rfl rfl) ?_)
    refine L (S (P_move rfl) ?_)
    refine L_yes (j := 14) (dj := 28) (b := false) (S (P_fieldAddr fo_27_3 rfl) ?_) rfl
    refine L_yes (j := 14) (dj := 28) (b := false) (S_load sc_2 rfl ((hB3 hm6).cell (i := 3) rfl) ?_) rfl
    refine L_yes (j := 14) (dj := 28) (b := false) (S (P_lt rfl rfl (decide_eq_false (by omega))) ?_) rfl
    refine L (S (P_pickF rfl rfl) ?_)
    refine L (S (P_move rfl) ?_)
    refine L_yes (j := 19) (dj := 33) (b := false) (S (P_fieldAddr fo_27_4 rfl) ?_) rfl
    refine L_yes (j := 19) (dj := 33) (b := false) (S_load sc_2 rfl ((hB3 hm6).cell (i := 4) rfl) ?_) rfl
    refine L_yes (j := 19) (dj := 33) (b := false) (S (P_lt rfl rfl (decide_eq_false (by omega))) ?_) rfl
    refine L (S (P_pickF rfl rfl) ?_)
    refine L (S (P_assign rfl) ?_)
    refine L_nil ?_
    refine then_n ?_
    refine C_false rfl ?_
    refine C_seq ?_
    refine C_region ?_
    refine L (S (P_move rfl) ?_)
    refine L (S (P_lt rfl rfl (decide_eq_true (by omega))) ?_)
    refine L (S (P_move rfl) ?_)
    refine L_yes (j := 2) (dj := 42) (b := true) (S (P_fieldAddr fo_37_0 rfl) ?_) rfl
    refine L_yes (j := 2) (dj := 42) (b := true) (S_load sc_34 rfl ((hB2 hm6).cell (i := 0) rfl) ?_) rfl
    refine L_yes (j := 2) (dj := 42) (b := true) (S (P_lenS Tryz.underlying34 rfl) ?_) rfl
    refine L_yes (j := 2) (dj := 42) (b := true) (S (P_ge rfl rfl (decide_eq_false (by omega))) ?_) rfl
    refine L (S (P_pickT rfl rfl) ?_)
    refine L (S (P_assign rfl) ?_)
    refine L_nil ?_
    refine then_n ?_
    refine C_false rfl ?_
    refine C_skip ?_
    refine blk_n ?_
    refine then_n ?_
    refine C_seq ?_
    refine C_seq ?_
    refine C_region ?_
    refine L (S (P_fieldAddr fo_27_1 rfl) ?_)
    refine L (S_load sc_25 rfl ((hB3 hm6).cell (i := 1) rfl) ?_)
    refine L (S_call cb_23 rfl ((hC hm6)) ?_)
    rintro _ w7 ⟨rfl, hm7⟩
    refine L (S (P_assign rfl) ?_)
    refine L_nil ?_
    refine then_n ?_
    refine C_seq ?_
    refine C_region ?_
    refine L (S (P_move rfl) ?_)
    refine L (S (P_ne rfl rfl (decide_eq_false (by omega))) ?_)
    refine L_nil ?_
    refine then_n ?_
    refine C_false rfl ?_
    refine C_skip ?_
    refine then_n ?_
    refine C_seq ?_
    refine C_region ?_
    refine L (S_loadS st_37 rfl (hB2 (hm6.no hm7)).row rfl ?_)
    refine L (S_call cb_13 rfl ((hCl (hm6.no hm7))) ?_)
    rintro _ w8 ⟨o, rfl, ho8, hd8, he8, hm8⟩
    refine L (S_alloc (zs := [(.slice none 0 0), (.slice none 0 0)]) ti_37 rfl ?_)
    rintro b8 w10 hb10 hm10 hn10
    refine L (S_storeS ti_37 rfl rfl (schC_one o) rfl hb10 (by exact Nat.le_refl 2) ?_)
    rintro w11 hb11 hm11
    refine L_nil ?_
    refine then_n ?_
    refine C_seq ?_
    refine C_seq ?_
    refine C_region ?_
    refine L (S (P_move rfl) ?_)
    refine L (S (P_ge rfl rfl (decide_eq_false (by omega))) ?_)
    refine L_nil ?_
    refine then_n ?_
    refine C_false rfl ?_
    refine C_skip ?_
    refine then_n ?_
    refine C_seq ?_
    have hb11' : Blk w11 b8 (schC o) 37 := hb11
    have hm58 : Mv No w5 w8 := (hm6.no hm7).no hm8
    have hm07 := hm05.no (hm6.no hm7)
    have hk := mk_of (hm05.no hm58) ho8 hm07.size hn10 hm10 hb11' hm11 hd8 he8
    have z8 := hm58.size
    have hm511 : Mv No w5 w11 := (hm58.no hm10).new hm11 (by omega)
    have hol : o.tabs.length = s.tabs.length := by simpa using congrArg List.length hd8
    have hcl := fun {wq} (h : Mv No w11 wq) => clone_ret (t := t) (((ht.no hm05).no hm511).no h) (by omega)
    have hszk := hk.mv.size
    have hsl : ∀ wq, Mv No w11 wq → wq.cell? ⟨b8, 0, none⟩ = some (.slice o.A o.tabs.length o.c) := fun wq h => (hk.blk.no h).cell (i := 0) rfl
    refine C_cutg (γ := Tab × Option Addr × Nat) (fun _ => [(4, .pointer (some ⟨b4, 0, none⟩)), (8, .pointer (some ⟨b8, 0, none⟩))]) (fun q wc => Mk w wc b8 { o with tabs := o.tabs ++ [q.1], A := q.2.1, c := q.2.2 } (s.tabs ++ [t]) s.idxs ∧ Blk wc b4 (schC sch0) 37) ?_ ?_
    · refine C_draw 8 mixed rfl ?_
      refine A_pure (i := 0) rfl (P_fieldAddr fo_37_0 rfl) ?_ (by decide +kernel) (by decide +kernel) (by decide +kernel) (fun _ _ _ _ h => h) rfl rfl rfl
      refine A_two (i := 1) (i2 := 2) (A_op rfl (S_load sc_34 rfl (by first | exact hsl _ (Mv.refl _).drew | exact hsl _ ((Mv.refl _).drew.no hm12) | exact hsl _ (((Mv.refl _).drew.no hm12).no hm13)) ?_)) (A_op rfl (S_loadS st_27 rfl ((hB3 hm511).no (Mv.refl _).drew).row rfl ?_)) (by decide +kernel)
      · refine A_one (i := 2) (A_op rfl (S_loadS st_27 rfl ((hB3 hm511).no (Mv.refl _).drew).row rfl ?_)) (by decide +kernel)
        refine A_one (i := 3) (A_op rfl (S_call cb_40 rfl ((hcl (Mv.refl _).drew)) ?_)) (by decide +kernel)
        rintro _ w12 ⟨A6, c6, rfl, ho12, hm12⟩
        refine A_one (i := 4) (A_op rfl (S_buildSliceS (l := [.tmp 70]) (vss := [tabC { t with A := A6, cap := c6 }]) Tryz.underlying34 ti_27 (by decide) rfl (by simp [tabC, idxC, colC]) rfl (by decide) (by decide) ?_)) (by decide +kernel)
        rintro b13 w13 hb13 hm13 hn13
        refine A_one (i := 5) (A_op rfl (S_appendV Tryz.underlying34 ti_27 rfl (by decide) rfl (own_no hk.own.tsl (((Mv.refl _).drew.no hm12).no hm13)) rfl (.inr ⟨b13, 0, rfl, hb13.row⟩) rfl (tabC_one _) (by have := ((Mv.refl w11 (S := No)).drew.no hm12).size; have := hm13.size; omega) (by rw [hol]; unfold maxLen; omega) (by rw [hol]; omega) ?_)) (by decide +kernel)
        rintro A14 c14 w14 ho14 hm14
        refine A_pure (i := 6) rfl (P_fieldAddr fo_37_0 rfl) ?_ (by decide +kernel) (by decide +kernel) (by decide +kernel) (fun _ _ _ _ h => h) rfl rfl rfl
        refine A_one (i := 7) (A_op rfl (S_store ti_34 rfl rfl rfl ((hk.blk.no (((Mv.refl _).drew.no hm12).no hm13)).mv hm14 (blk_sep (hk.blk.no (((Mv.refl _).drew.no hm12).no hm13)) (own_no hk.own.tsl (((Mv.refl _).drew.no hm12).no hm13)) (by decide))) (by show 0 < 2; decide) ?_)) (by decide +kernel)
        rintro w15 hb15 hm15
        refine A_done (by decide +kernel) ?_
        refine then_n ?_
        have hm1113 : Mv No w11 w13 := (((Mv.refl _).drew.no hm12).no hm13)
        have hk13 := hk.keep hm1113
        exact ⟨rfl, ({ t with A := A6, cap := c6 }, A14, c14), (.cons rfl (.cons rfl (.nil _))), hk13.addT (t := t) (own_no ho12 hm13) hszk rfl hm14 ho14 hb15 hm15, hk13.other (hB4 (hm511.no hm1113)) hk13.own.tsl (by decide) hm14 hm15 (by omega)⟩
      · refine A_two (i := 1) (i2 := 3) (A_op rfl (S_load sc_34 rfl (by first | exact hsl _ (Mv.refl _).drew | exact hsl _ ((Mv.refl _).drew.no hm12) | exact hsl _ (((Mv.refl _).drew.no hm12).no hm13)) ?_)) (A_op rfl (S_call cb_40 rfl ((hcl (Mv.refl _).drew)) ?_)) (by decide +kernel)
        · refine A_one (i := 3) (A_op rfl (S_call cb_40 rfl ((hcl (Mv.refl _).drew)) ?_)) (by decide +kernel)
          rintro _ w12 ⟨A6, c6, rfl, ho12, hm12⟩
          refine A_one (i := 4) (A_op rfl (S_buildSliceS (l := [.tmp 70]) (vss := [tabC { t with A := A6, cap := c6 }]) Tryz.underlying34 ti_27 (by decide) rfl (by simp [tabC, idxC, colC]) rfl (by decide) (by decide) ?_)) (by decide +kernel)
          rintro b13 w13 hb13 hm13 hn13
          refine A_one (i := 5) (A_op rfl (S_appendV Tryz.underlying34 ti_27 rfl (by decide) rfl (own_no hk.own.tsl (((Mv.refl _).drew.no hm12).no hm13)) rfl (.inr ⟨b13, 0, rfl, hb13.row⟩) rfl (tabC_one _) (by have := ((Mv.refl w11 (S := No)).drew.no hm12).size; have := hm13.size; omega) (by rw [hol]; unfold maxLen; omega) (by rw [hol]; omega) ?_)) (by decide +kernel)
          rintro A14 c14 w14 ho14 hm14
          refine A_pure (i := 6) rfl (P_fieldAddr fo_37_0 rfl) ?_ (by decide +kernel) (by decide +kernel) (by decide +kernel) (fun _ _ _ _ h => h) rfl rfl rfl
          refine A_one (i := 7) (A_op rfl (S_store ti_34 rfl rfl rfl ((hk.blk.no (((Mv.refl _).drew.no hm12).no hm13)).mv hm14 (blk_sep (hk.blk.no (((Mv.refl _).drew.no hm12).no hm13)) (own_no hk.own.tsl (((Mv.refl _).drew.no hm12).no hm13)) (by decide))) (by show 0 < 2; decide) ?_)) (by decide +kernel)
          rintro w15 hb15 hm15
          refine A_done (by decide +kernel) ?_
          refine then_n ?_
          have hm1113 : Mv No w11 w13 := (((Mv.refl _).drew.no hm12).no hm13)
          have hk13 := hk.keep hm1113
          exact ⟨rfl, ({ t with A := A6, cap := c6 }, A14, c14), (.cons rfl (.cons rfl (.nil _))), hk13.addT (t := t) (own_no ho12 hm13) hszk rfl hm14 ho14 hb15 hm15, hk13.other (hB4 (hm511.no hm1113)) hk13.own.tsl (by decide) hm14 hm15 (by omega)⟩
        · rintro _ w12 ⟨A6, c6, rfl, ho12, hm12⟩
          refine A_two (i := 1) (i2 := 4) (A_op rfl (S_load sc_34 rfl (by first | exact hsl _ (Mv.refl _).drew | exact hsl _ ((Mv.refl _).drew.no hm12) | exact hsl _ (((Mv.refl _).drew.no hm12).no hm13)) ?_)) (A_op rfl (S_buildSliceS (l := [.tmp 70]) (vss := [tabC { t with A := A6, cap := c6 }]) Tryz.underlying34 ti_27 (by decide) rfl (by simp [tabC, idxC, colC]) rfl (by decide) (by decide) ?_)) (by decide +kernel)
          · refine A_one (i := 4) (A_op rfl (S_buildSliceS (l := [.tmp 70]) (vss := [tabC { t with A := A6, cap := c6 }]) Tryz.underlying34 ti_27 (by decide) rfl (by simp [tabC, idxC, colC]) rfl (by decide) (by decide) ?_)) (by decide +kernel)
            rintro b13 w13 hb13 hm13 hn13
            refine A_one (i := 5) (A_op rfl (S_appendV Tryz.underlying34 ti_27 rfl (by decide) rfl (own_no hk.own.tsl (((Mv.refl _).drew.no hm12).no hm13)) rfl (.inr ⟨b13, 0, rfl, hb13.row⟩) rfl (tabC_one _) (by have := ((Mv.refl w11 (S := No)).drew.no hm12).size; have := hm13.size; omega) (by rw [hol]; unfold maxLen; omega) (by rw [hol]; omega) ?_)) (by decide +kernel)
            rintro A14 c14 w14 ho14 hm14
            refine A_pure (i := 6) rfl (P_fieldAddr fo_37_0 rfl) ?_ (by decide +kernel) (by decide +kernel) (by decide +kernel) (fun _ _ _ _ h => h) rfl rfl rfl
            refine A_one (i := 7) (A_op rfl (S_store ti_34 rfl rfl rfl ((hk.blk.no (((Mv.refl _).drew.no hm12).no hm13)).mv hm14 (blk_sep (hk.blk.no (((Mv.refl _).drew.no hm12).no hm13)) (own_no hk.own.tsl (((Mv.refl _).drew.no hm12).no hm13)) (by decide))) (by show 0 < 2; decide) ?_)) (by decide +kernel)
            rintro w15 hb15 hm15
            refine A_done (by decide +kernel) ?_
            refine then_n ?_
            have hm1113 : Mv No w11 w13 := (((Mv.refl _).drew.no hm12).no hm13)
            have hk13 := hk.keep hm1113
            exact ⟨rfl, ({ t with A := A6, cap := c6 }, A14, c14), (.cons rfl (.cons rfl (.nil _))), hk13.addT (t := t) (own_no ho12 hm13) hszk rfl hm14 ho14 hb15 hm15, hk13.other (hB4 (hm511.no hm1113)) hk13.own.tsl (by decide) hm14 hm15 (by omega)⟩
          · rintro b13 w13 hb13 hm13 hn13
            refine A_one (i := 1) (A_op rfl (S_load sc_34 rfl (by first | exact hsl _ (Mv.refl _).drew | exact hsl _ ((Mv.refl _).drew.no hm12) | exact hsl _ (((Mv.refl _).drew.no hm12).no hm13)) ?_)) (by decide +kernel)
            refine A_one (i := 5) (A_op rfl (S_appendV Tryz.underlying34 ti_27 rfl (by decide) rfl (own_no hk.own.tsl (((Mv.refl _).drew.no hm12).no hm13)) rfl (.inr ⟨b13, 0, rfl, hb13.row⟩) rfl (tabC_one _) (by have := ((Mv.refl w11 (S := No)).drew.no hm12).size; have := hm13.size; omega) (by rw [hol]; unfold maxLen; omega) (by rw [hol]; omega) ?_)) (by decide +kernel)
            rintro A14 c14 w14 ho14 hm14
            refine A_pure (i := 6) rfl (P_fieldAddr fo_37_0 rfl) ?_ (by decide +kernel) (by decide +kernel) (by decide +kernel) (fun _ _ _ _ h => h) rfl rfl rfl
            refine A_one (i := 7) (A_op rfl (S_store ti_34 rfl rfl rfl ((hk.blk.no (((Mv.refl _).drew.no hm12).no hm13)).mv hm14 (blk_sep (hk.blk.no (((Mv.refl _).drew.no hm12).no hm13)) (own_no hk.own.tsl (((Mv.refl _).drew.no hm12).no hm13)) (by decide))) (by show 0 < 2; decide) ?_)) (by decide +kernel)
            rintro w15 hb15 hm15
            refine A_done (by decide +kernel) ?_
            refine then_n ?_
            have hm1113 : Mv No w11 w13 := (((Mv.refl _).drew.no hm12).no hm13)
            have hk13 := hk.keep hm1113
            exact ⟨rfl, ({ t with A := A6, cap := c6 }, A14, c14), (.cons rfl (.cons rfl (.nil _))), hk13.addT (t := t) (own_no ho12 hm13) hszk rfl hm14 ho14 hb15 hm15, hk13.other (hB4 (hm511.no hm1113)) hk13.own.tsl (by decide) hm14 hm15 (by omega)⟩
    rintro ⟨t', A14, c14⟩ w15 ⟨hk15, hB4'⟩ f' hf'
    dsimp only at hk15
    refine C_forget hf' ?_
    clear hf' f'
    have htd : (o.tabs ++ [t']).map Tab.d = s.tabs.map Tab.d ++ [t.d] := hk15.td.trans (by rw [List.map_append]; rfl)
    generalize hto : o.tabs ++ [t'] = tn at hk15 htd
    have htl : tn.length = s.tabs.length + 1 := by rw [← hto]; simp [hol]
    obtain ⟨bt, cst, hAt, hbt, -⟩ := own_blk hk15.own.tsl (by show 0 < tn.length; omega)
    dsimp only at hAt
    subst hAt
    have hsort := fun {wq} (h : Mv No w15 wq) => sortTab_ret (xs := tn) (n := tn.length) rfl (by omega) (by omega) (own_no hk15.own.tsl h) tab_cmp
    refine C_seq ?_
    refine C_region ?_
    refine L (S (P_fieldAddr fo_37_0 rfl) ?_)
    refine L (S_load sc_34 rfl (hk15.blk.cell (i := 0) rfl) ?_)
    refine L (S_call cb_59 rfl ((hsort (Mv.refl _))) ?_)
    rintro _ w16 ⟨ho16, hm16⟩
    refine L_nil ?_
    refine then_n ?_
    refine C_seq ?_
    refine C_region ?_
    refine L (S_loadS st_37 rfl (hk15.blk.mv (mvOwn hm16 (n := tn.length) (c := c14)) (blk_sep hk15.blk hk15.own.tsl (by decide))).row rfl ?_)
    refine L (S_storeS ti_37 rfl rfl (schC_one { o with tabs := tn, A := some ⟨bt, 0, none⟩, c := c14 }) rfl (hB4'.mv (mvOwn hm16 (n := tn.length) (c := c14)) (blk_sep hB4' hk15.own.tsl (by decide))) (by exact Nat.le_refl 2) ?_)
    rintro w17 hb17 hm17
    refine L (S (P_assign rfl) ?_)
    refine L_nil ?_
    refine then_n ?_
    refine C_ret ?_
    have hk16 := hk15.turnT (tabs' := sortI (fun x y => ltN x.name y.name) tn) (ts' := sortI (fun x y => ltN x.name y.name) tn) (sortI_len _ _) (fun x hx => hk15.own.tab x (mem_sortI hx)) (mvOwn hm16) ho16 rfl
    have hf := hk16.fin (hB4'.mv (mvOwn hm16 (n := tn.length) (c := c14)) (blk_sep hB4' hk15.own.tsl (by decide))) (by omega) hm17
    have hb17' : Blk w17 b4 (schC { o with tabs := sortI (fun x y => ltN x.name y.name) tn, A := some ⟨bt, 0, none⟩, c := c14 }) 37 := by have h9 := hb17; unfold schC at h9 ⊢; dsimp only at h9 ⊢; rw [sortI_len]; exact h9
    refine F_ret (rs := [.cell 4 37, .tmp 5]) [.agg (schC { o with tabs := sortI (fun x y => ltN x.name y.name) tn, A := some ⟨bt, 0, none⟩, c := c14 }).toArray, .int .i64 ((0 : Nat) : Int)] Tryz.results30 ?_ ?_
    · exact ⟨⟨_, rfl, run_loadVar_struct st_37 hb17'.row rfl⟩, rfl, trivial⟩
    exact ⟨_, rfl, hf.1, fun h => absurd rfl h, fun _ => ⟨(map_sortI (lt' := fun a b : TD => ltN a.1 b.1) (g := Tab.d) (fun _ _ => rfl) tn).trans (by rw [htd]), he8⟩, hf.2⟩
  · rw [if_neg q8]
    obtain ⟨i, hi, hil⟩ := hat q8
    refine C_region ?_
    refine L (S (P_fieldAddr fo_27_0 rfl) ?_)
    refine L (S_load sc_9 rfl ((hB3 (Mv.refl _)).cell (i := 0) rfl) ?_)
    refine L (S_call cb_9 rfl ((hN q1)) ?_)
    rintro _ w6 ⟨rfl, hm6⟩
    refine L (S (P_not rfl rfl) ?_)
    refine L (S (P_move rfl) ?_)
    refine L_yes (j := 4) (dj := 18) (b := false) (S (P_fieldAddr fo_27_2 rfl) ?_) rfl
    refine L_yes (j := 4) (dj := 18) (b := false) (S_load sc_3 rfl ((hB3 hm6).cell (i := 2) rfl) ?_) rfl
    refine L_yes (j := 4) (dj := 18) (b := false) (S (P_lt rfl rfl (decide_eq_false (by omega))) ?_) rfl
    refine L (S (P_pickF rfl rfl) ?_)
    refine L (S (P_move rfl) ?_)
    refine L_yes (j := 9) (dj := 23) (b := false) (S (P_fieldAddr fo_27_2 rfl) ?_) rfl
    refine L_yes (j := 9) (dj := 23) (b := false) (S_load sc_3 rfl ((hB3 hm6).cell (i := 2) rfl) ?_) rfl
    refine L_yes (j := 9) (dj := 23) (b := false) (S (P_gt rfl rfl (decide_eq_false (by omega))) ?_) rfl
    refine L (S (P_pickF rfl rfl) ?_)
    refine L (S (P_move rfl) ?_)
    refine L_yes (j := 14) (dj := 28) (b := false) (S (P_fieldAddr fo_27_3 rfl) ?_) rfl
    refine L_yes (j := 14) (dj := 28) (b := false) (S_load sc_2 rfl ((hB3 hm6).cell (i := 3) rfl) ?_) rfl
    refine L_yes (j := 14) (dj := 28) (b := false) (S (P_lt rfl rfl (decide_eq_false (by omega))) ?_) rfl
    refine L (S (P_pickF rfl rfl) ?_)
    refine L (S (P_move rfl) ?_)
    refine L_yes (j := 19) (dj := 33) (b := false) (S (P_fieldAddr fo_27_4 rfl) ?_) rfl
    refine L_yes (j := 19) (dj := 33) (b := false) (S_load sc_2 rfl ((hB3 hm6).cell (i := 4) rfl) ?_) rfl
    refine L_yes (j := 19) (dj := 33) (b := false) (S (P_lt rfl rfl (decide_eq_false (by omega))) ?_) rfl
    refine L (S (P_pickF rfl rfl) ?_)
    refine L (S (P_assign rfl) ?_)
    refine L_nil ?_
    refine then_n ?_
    refine C_false rfl ?_
    refine C_seq ?_
    refine C_region ?_
    refine L (S (P_move rfl) ?_)
    refine L (S (P_lt rfl rfl (decide_eq_false (by omega))) ?_)
    refine L (S (P_move rfl) ?_)
    refine L_no (j := 2) (dj := 42) (b := true) (b' := false) (d := 43) rfl ?_
    refine L_no (j := 2) (dj := 42) (b := true) (b' := false) (d := 44) rfl ?_
    refine L_no (j := 2) (dj := 42) (b := true) (b' := false) (d := 45) rfl ?_
    refine L_no (j := 2) (dj := 42) (b := true) (b' := false) (d := 46) rfl ?_
    refine L (S (P_pickF rfl rfl) ?_)
    refine L (S (P_assign rfl) ?_)
    refine L_nil ?_
    refine then_n ?_
    refine C_false rfl ?_
    refine C_skip ?_
    refine blk_n ?_
    refine then_n ?_
    refine C_seq ?_
    refine C_seq ?_
    refine C_region ?_
    refine L (S (P_fieldAddr fo_27_1 rfl) ?_)
    refine L (S_load sc_25 rfl ((hB3 hm6).cell (i := 1) rfl) ?_)
    refine L (S_call cb_23 rfl ((hC hm6)) ?_)
    rintro _ w7 ⟨rfl, hm7⟩
    refine L (S (P_assign rfl) ?_)
    refine L_nil ?_
    refine then_n ?_
    refine C_seq ?_
    refine C_region ?_
    refine L (S (P_move rfl) ?_)
    refine L (S (P_ne rfl rfl (decide_eq_false (by omega))) ?_)
    refine L_nil ?_
    refine then_n ?_
    refine C_false rfl ?_
    refine C_skip ?_
    refine then_n ?_
    refine C_seq ?_
    refine C_region ?_
    refine L (S_loadS st_37 rfl (hB2 (hm6.no hm7)).row rfl ?_)
    refine L (S_call cb_13 rfl ((hCl (hm6.no hm7))) ?_)
    rintro _ w8 ⟨o, rfl, ho8, hd8, he8, hm8⟩
    refine L (S_alloc (zs := [(.slice none 0 0), (.slice none 0 0)]) ti_37 rfl ?_)
    rintro b8 w10 hb10 hm10 hn10
    refine L (S_storeS ti_37 rfl rfl (schC_one o) rfl hb10 (by exact Nat.le_refl 2) ?_)
    rintro w11 hb11 hm11
    refine L_nil ?_
    refine then_n ?_
    refine C_seq ?_
    refine C_seq ?_
    refine C_region ?_
    refine L (S (P_move rfl) ?_)
    refine L (S (P_ge rfl rfl (decide_eq_true (by omega))) ?_)
    refine L_nil ?_
    refine then_n ?_
    refine C_true rfl ?_
    refine C_seq ?_
    have hb11' : Blk w11 b8 (schC o) 37 := hb11
    have hm58 : Mv No w5 w8 := (hm6.no hm7).no hm8
    have hm07 := hm05.no (hm6.no hm7)
    have hk := mk_of (hm05.no hm58) ho8 hm07.size hn10 hm10 hb11' hm11 hd8 he8
    have z8 := hm58.size
    have hm511 : Mv No w5 w11 := (hm58.no hm10).new hm11 (by omega)
    have hol : o.tabs.length = s.tabs.length := by simpa using congrArg List.length hd8
    have hcl := fun {wq} (h : Mv No w11 wq) => clone_ret (t := t) (((ht.no hm05).no hm511).no h) (by omega)
    have hszk := hk.mv.size
    obtain ⟨bt, cst, hAt, hbt, -⟩ := own_blk hk.own.tsl (by omega)
    have hot : w11.ownsRow w.heap.size 27 5 (.slice (some ⟨bt, 0, none⟩) o.tabs.length o.c) o.tabs.length (cellsL tabC o.tabs) := by rw [← hAt]; exact hk.own.tsl
    have hsl : ∀ wq, Mv No w11 wq → wq.cell? ⟨b8, 0, none⟩ = some (.slice (some ⟨bt, 0, none⟩) o.tabs.length o.c) := fun wq h => by rw [← hAt]; exact (hk.blk.no h).cell (i := 0) rfl
    refine C_cutg (γ := Tab) (fun _ => [(4, .pointer (some ⟨b4, 0, none⟩)), (8, .pointer (some ⟨b8, 0, none⟩))]) (fun q wc => Mk w wc b8 { o with tabs := o.tabs.set i q } (s.tabs.set i t) s.idxs ∧ Blk wc b4 (schC sch0) 37) ?_ ?_
    · refine C_draw 7 mixed rfl ?_
      refine A_pure (i := 0) rfl (P_fieldAddr fo_37_0 rfl) ?_ (by decide +kernel) (by decide +kernel) (by decide +kernel) (fun _ _ _ _ h => h) rfl rfl rfl
      refine A_pure (i := 2) rfl (P_move rfl) ?_ (by decide +kernel) (by decide +kernel) (by decide +kernel) (fun _ _ _ _ h => h) rfl rfl rfl
      refine A_two (i := 1) (i2 := 3) (A_op rfl (S_load sc_34 rfl (by first | exact hsl _ (Mv.refl _).drew | exact hsl _ ((Mv.refl _).drew.no hm12)) ?_)) (A_op rfl (S_loadS st_27 rfl ((hB3 hm511).no (Mv.refl _).drew).row rfl ?_)) (by decide +kernel)
      · refine A_one (i := 3) (A_op rfl (S_loadS st_27 rfl ((hB3 hm511).no (Mv.refl _).drew).row rfl ?_)) (by decide +kernel)
        refine A_one (i := 4) (A_op rfl (S_call cb_40 rfl ((hcl (Mv.refl _).drew)) ?_)) (by decide +kernel)
        rintro _ w12 ⟨A6, c6, rfl, ho12, hm12⟩
        refine A_pure (i := 5) rfl (P_indexAddr Tryz.underlying34 (csz_of ti_27) rfl rfl (j := i) hi (by omega) (p := 0 + i * 5) rfl) ?_ (by decide +kernel) (by decide +kernel) (by decide +kernel) (fun _ _ _ _ h => h) rfl rfl rfl
        refine A_one (i := 6) (A_op rfl (S_storeOwnS (i := i) tabC_len ti_27 rfl (by omega) rfl (tabC_one _) (own_no hot ((Mv.refl _).drew.no hm12)) rfl (by omega) ?_)) (by decide +kernel)
        rintro w13 ho13 hm13
        refine A_done (by decide +kernel) ?_
        refine then_n ?_
        have hm1112 : Mv No w11 w12 := ((Mv.refl _).drew.no hm12)
        have hk12 := hk.keep hm1112
        have hmo : Mv (OwnOf (.slice o.A o.tabs.length o.c)) w12 w13 := by rw [hAt]; exact mvOwn hm13
        refine ⟨rfl, { t with A := A6, cap := c6 }, (.cons rfl (.cons rfl (.nil _))), hk12.turnT (tabs' := o.tabs.set i { t with A := A6, cap := c6 }) (List.length_set ..) (fun x hx => ?_) hmo (by rw [hAt]; exact ho13) ?_, (hB4 (hm511.no hm1112)).mv hmo (blk_sep (hB4 (hm511.no hm1112)) hk12.own.tsl (by decide))⟩
        · exact (List.mem_or_eq_of_mem_set hx).elim (fun hx => hk12.own.tab x hx) (fun hx => by subst hx; exact own_base ho12 hszk)
        · rw [List.map_set, List.map_set, hd8]; rfl
      · refine A_two (i := 1) (i2 := 4) (A_op rfl (S_load sc_34 rfl (by first | exact hsl _ (Mv.refl _).drew | exact hsl _ ((Mv.refl _).drew.no hm12)) ?_)) (A_op rfl (S_call cb_40 rfl ((hcl (Mv.refl _).drew)) ?_)) (by decide +kernel)
        · refine A_one (i := 4) (A_op rfl (S_call cb_40 rfl ((hcl (Mv.refl _).drew)) ?_)) (by decide +kernel)
          rintro _ w12 ⟨A6, c6, rfl, ho12, hm12⟩
          refine A_pure (i := 5) rfl (P_indexAddr Tryz.underlying34 (csz_of ti_27) rfl rfl (j := i) hi (by omega) (p := 0 + i * 5) rfl) ?_ (by decide +kernel) (by decide +kernel) (by decide +kernel) (fun _ _ _ _ h => h) rfl rfl rfl
          refine A_one (i := 6) (A_op rfl (S_storeOwnS (i := i) tabC_len ti_27 rfl (by omega) rfl (tabC_one _) (own_no hot ((Mv.refl _).drew.no hm12)) rfl (by omega) ?_)) (by decide +kernel)
          rintro w13 ho13 hm13
          refine A_done (by decide +kernel) ?_
          refine then_n ?_
          have hm1112 : Mv No w11 w12 := ((Mv.refl _).drew.no hm12)
          have hk12 := hk.keep hm1112
          have hmo : Mv (OwnOf (.slice o.A o.tabs.length o.c)) w12 w13 := by rw [hAt]; exact mvOwn hm13
          refine ⟨rfl, { t with A := A6, cap := c6 }, (.cons rfl (.cons rfl (.nil _))), hk12.turnT (tabs' := o.tabs.set i { t with A := A6, cap := c6 }) (List.length_set ..) (fun x hx => ?_) hmo (by rw [hAt]; exact ho13) ?_, (hB4 (hm511.no hm1112)).mv hmo (blk_sep (hB4 (hm511.no hm1112)) hk12.own.tsl (by decide))⟩
          · exact (List.mem_or_eq_of_mem_set hx).elim (fun hx => hk12.own.tab x hx) (fun hx => by subst hx; exact own_base ho12 hszk)
          · rw [List.map_set, List.map_set, hd8]; rfl
        · rintro _ w12 ⟨A6, c6, rfl, ho12, hm12⟩
          refine A_one (i := 1) (A_op rfl (S_load sc_34 rfl (by first | exact hsl _ (Mv.refl _).drew | exact hsl _ ((Mv.refl _).drew.no hm12)) ?_)) (by decide +kernel)
          refine A_pure (i := 5) rfl (P_indexAddr Tryz.underlying34 (csz_of ti_27) rfl rfl (j := i) hi (by omega) (p := 0 + i * 5) rfl) ?_ (by decide +kernel) (by decide +kernel) (by decide +kernel) (fun _ _ _ _ h => h) rfl rfl rfl
          refine A_one (i := 6) (A_op rfl (S_storeOwnS (i := i) tabC_len ti_27 rfl (by omega) rfl (tabC_one _) (own_no hot ((Mv.refl _).drew.no hm12)) rfl (by omega) ?_)) (by decide +kernel)
          rintro w13 ho13 hm13
          refine A_done (by decide +kernel) ?_
          refine then_n ?_
          have hm1112 : Mv No w11 w12 := ((Mv.refl _).drew.no hm12)
          have hk12 := hk.keep hm1112
          have hmo : Mv (OwnOf (.slice o.A o.tabs.length o.c)) w12 w13 := by rw [hAt]; exact mvOwn hm13
          refine ⟨rfl, { t with A := A6, cap := c6 }, (.cons rfl (.cons rfl (.nil _))), hk12.turnT (tabs' := o.tabs.set i { t with A := A6, cap := c6 }) (List.length_set ..) (fun x hx => ?_) hmo (by rw [hAt]; exact ho13) ?_, (hB4 (hm511.no hm1112)).mv hmo (blk_sep (hB4 (hm511.no hm1112)) hk12.own.tsl (by decide))⟩
          · exact (List.mem_or_eq_of_mem_set hx).elim (fun hx => hk12.own.tab x hx) (fun hx => by subst hx; exact own_base ho12 hszk)
          · rw [List.map_set, List.map_set, hd8]; rfl
    rintro t' w15 ⟨hk15, hB4'⟩ f' hf'
    refine C_forget hf' ?_
    clear hf' f'
    refine C_seq ?_
    refine C_region ?_
    refine L (S_loadS st_37 rfl hk15.blk.row rfl ?_)
    refine L (S_storeS ti_37 rfl rfl (schC_one { o with tabs := o.tabs.set i t' }) rfl hB4' (by exact Nat.le_refl 2) ?_)
    rintro w17 hb17 hm17
    refine L (S (P_assign rfl) ?_)
    refine L_nil ?_
    refine then_n ?_
    refine C_ret ?_
    refine then_r ?_
    have hb17' : Blk w17 b4 (schC { o with tabs := o.tabs.set i t' }) 37 := hb17
    have hf := hk15.fin hB4' (by omega) hm17
    refine F_ret (rs := [.cell 4 37, .tmp 5]) [.agg (schC { o with tabs := o.tabs.set i t' }).toArray, .int .i64 ((0 : Nat) : Int)] Tryz.results30 ?_ ?_
    · exact ⟨⟨_, rfl, run_loadVar_struct st_37 hb17'.row rfl⟩, rfl, trivial⟩
    exact ⟨_, rfl, hf.1, fun h => absurd rfl h, fun _ => ⟨by rw [hi]; exact hk15.td.trans (List.map_set ..), he8⟩, hf.2⟩
end
end Go.Proofs.YtnoioimphcmeiaaGreatDoor
