import Derived.Test.YtnoioimphcmeiaaGreatDoorLKw
namespace Go.Proofs.YtnoioimphcmeiaaGreatDoor
open Go.RowKit
set_option maxRecDepth 20000

/-- All blocks from a number on. -/
def Ge (B : Nat) : Nat → Prop := fun k => B ≤ k
theorem Mv.ge {S : Nat → Prop} {a b c : World} {B : Nat} (h : Mv S a b) (k : Mv (Ge B) b c) (hB : a.heap.size ≤ B) : Mv S a c :=
  h.trans k fun x hx hge => by unfold Ge at hge; omega
/-- A builder of texts, in a block of its own from B on, that holds these bytes. -/
def Bd (w : World) (B b : Nat) (l : List UInt8) : Prop := ∃ p v, Blk w b [p, v] 173 ∧ (p = .pointer none ∨ p = .pointer (some ⟨b, 0, none⟩)) ∧ w.ownsRow B 5 1 v l.length (l.map bv) ∧ B ≤ b ∧ v.ownBlock ≠ some b
theorem own_one {w : World} {base : Nat} {e : TypeId} {size : Nat} {v : Value} {n : Nat} {xs : List Value} (h : w.ownsRow base e size v n xs) : v.oneCell' = true := by
  obtain ⟨A, cap, rfl, _⟩ := own_reads h
  rfl
theorem Mv.ofBelowB {a b : World} {B : Nat} (h : Below B a b) : Mv (Ge B) a b := ⟨h.os, h.tape, h.output, h.size, fun k _ hn => h.block k (by unfold Ge at hn; omega)⟩
theorem Bd.no {w w' : World} {B b : Nat} {l : List UInt8} (h : Bd w B b l) (hm : Mv No w w') : Bd w' B b l := by
  obtain ⟨p, v, h1, h2, h3, h4, h5⟩ := h
  exact ⟨p, v, h1.no hm, h2, own_no h3 hm, h4, h5⟩
theorem Bd.lt {w : World} {B b : Nat} {l : List UInt8} (h : Bd w B b l) : b < w.heap.size := by
  obtain ⟨p, v, h1, _⟩ := h
  exact h1.lt
theorem byteCells_bv (l : List UInt8) : Lib.byteCells l = l.map bv := rfl
theorem Bd.is {w : World} {B b : Nat} {l : List UInt8} (h : Bd w B b l) : Lib.IsBuilder 173 5 B b (Lib.byteCells l) w := by
  obtain ⟨p, v, h1, h2, h3, h4, h5⟩ := h
  have h3' : w.ownsRow B 5 1 v (Lib.byteCells l).length (Lib.byteCells l) := by rw [byteCells_bv, List.length_map]; exact h3
  rcases h2 with rfl | rfl
  · exact .inl ⟨h4, v, h1, h3', h5⟩
  · exact .inr ⟨h4, v, h1, h3', h5⟩

theorem noEscape_next : Extern.findNext Tryz.f146 = none := by kernel_rfl
theorem noEscape_find : Extern.find Tryz.f146 = some Extern.AbiNoEscape.same := by kernel_rfl
theorem builder_lies : liesAt Tryz.prog Tryz.prog.depth 173 (2 / Tryz.prog.cellsOf 173) 0 173 1 = true := by kernel_rfl
theorem Blk.shape {w : World} {b : Nat} {cs : List Value} {t : TypeId} (h : Blk w b cs t) : w.shape? b = some (t, cs.length) := by
  unfold Blk at h
  simp [World.shape?, h]

section
variable {w : World}
theorem copyCheck_ret {b : Nat} {p v : Value} (h : Blk w b [p, v] 173) (hp : p = .pointer none ∨ p = .pointer (some ⟨b, 0, none⟩)) :
    Ret Tryz.prog 136 [.pointer (some ⟨b, 0, none⟩)] w fun _ w' => Blk w' b [.pointer (some ⟨b, 0, none⟩), v] 173 ∧ Mv (At b) w w' := by
  refine F_enter Tryz.func136 Tryz.ntmps136 rfl rfl ?_
  rcases hp with rfl | rfl
  · refine C_seq ?_
    refine C_region ?_
    refine L (S (P_move rfl) ?_)
    refine L (S (P_nilCheck rfl) ?_)
    refine L (S (P_fieldAddr fo_173_0 rfl) ?_)
    refine L (S_load sc_171 rfl (h.cell (i := 0) rfl) ?_)
    refine L (S (P_eqNil Tryz.underlying171 rfl rfl rfl) ?_)
    refine L_nil ?_
    refine then_n ?_
    refine C_true rfl ?_
    refine C_region ?_
    refine L (S (P_move rfl) ?_)
    refine L (S (P_move rfl) ?_)
    refine L (S_toUnsafe Tryz.underlying171 Tryz.underlying189 ti_173 (by decide) rfl h.shape (by show 0 < 2; omega) ?_)
    refine L (S (P_ext Tryz.func146 (by kernel_rfl) rfl noEscape_next noEscape_find rfl (fun _ => rfl)) ?_)
    refine L (S_fromUnsafe Tryz.underlying189 Tryz.underlying171 ti_173 rfl h.shape builder_lies ?_)
    refine L (S (P_nilCheck rfl) ?_)
    refine L (S (P_fieldAddr fo_173_0 rfl) ?_)
    refine L (S_store ti_171 rfl rfl rfl h (by show 0 < 2; omega) ?_)
    rintro w2 hb2 hm2
    refine L_nil ?_
    refine F_end0 Tryz.results136 ?_
    exact ⟨hb2, hm2⟩
  · refine C_seq ?_
    refine C_region ?_
    refine L (S (P_move rfl) ?_)
    refine L (S (P_nilCheck rfl) ?_)
    refine L (S (P_fieldAddr fo_173_0 rfl) ?_)
    refine L (S_load sc_171 rfl (h.cell (i := 0) rfl) ?_)
    refine L (S (P_eqNil Tryz.underlying171 rfl rfl rfl) ?_)
    refine L_nil ?_
    refine then_n ?_
    refine C_false rfl ?_
    refine C_seq ?_
    refine C_region ?_
    refine L (S (P_move rfl) ?_)
    refine L (S (P_nilCheck rfl) ?_)
    refine L (S (P_fieldAddr fo_173_0 rfl) ?_)
    refine L (S_load sc_171 rfl (h.cell (i := 0) rfl) ?_)
    refine L (S (P_move rfl) ?_)
    refine L (S (P_nePtr Tryz.underlying171 ti_173 rfl rfl) ?_)
    refine L_nil ?_
    refine then_n ?_
    refine C_false rfl ?_
    refine C_skip ?_
    refine F_end0 Tryz.results136 ?_
    exact ⟨h, Mv.refl w⟩

theorem writeByte_ret {B b : Nat} {l : List UInt8} (c : UInt8) (h : Bd w B b l) (hl : l.length < 1000000000) :
    Ret Tryz.prog 123 [.pointer (some ⟨b, 0, none⟩), bv c] w fun v w' => v = .nilIface ∧ Bd w' B b (l ++ [c]) ∧ Mv (Ge B) w w' := by
  obtain ⟨p, v, h1, h2, h3, h4, h5⟩ := h
  refine F_enter Tryz.func123 Tryz.ntmps123 rfl rfl ?_
  refine C_seq ?_
  refine C_region ?_
  refine L (S (P_assign rfl) ?_)
  refine L_nil ?_
  refine then_n ?_
  refine C_seq ?_
  refine C_region ?_
  refine L (S (P_move rfl) ?_)
  refine L (S_call cb_136 rfl (copyCheck_ret h1 h2) ?_)
  rintro _ w1 ⟨hb1, hm1⟩
  refine L_nil ?_
  refine then_n ?_
  refine C_seq ?_
  refine C_region ?_
  refine L (S (P_move rfl) ?_)
  refine L (S (P_move rfl) ?_)
  refine L (S (P_nilCheck rfl) ?_)
  refine L (S (P_fieldAddr fo_173_1 rfl) ?_)
  refine L (S_load sc_56 rfl (hb1.cell (i := 1) rfl) ?_)
  refine L (S (P_move rfl) ?_)
  refine L (S_buildSlice1 Tryz.underlying56 ti_5 rfl rfl rfl ?_)
  rintro b2 w2 hb2 hm2 hn2
  have ho2 : w2.ownsRow B 5 1 v l.length (l.map bv) := own_no (own_mv h3 hm1 (fun k hk he => h5 (by rw [← he]; exact hk))) hm2
  refine L (S_append Tryz.underlying56 ti_5 rfl (by decide) rfl ho2 rfl (.inr ⟨b2, 0, rfl, hb2.row⟩) rfl (fun u hu => by rw [show u = bv c by simpa using hu]; rfl) (by have := h1.lt; have := hm1.size; have := hm2.size; omega) (by unfold maxLen; omega) (by omega) ?_)
  rintro v3 w3 ho3 hm3 hf3
  refine L (S (P_nilCheck rfl) ?_)
  refine L (S (P_fieldAddr fo_173_1 rfl) ?_)
  have hb3 : Blk w3 b [.pointer (some ⟨b, 0, none⟩), v] 173 := (hb1.no hm2).mv hm3 (fun hk => h5 hk)
  refine L (S_store ti_56 rfl rfl (own_one ho3) hb3 (by show 1 < 2; omega) ?_)
  rintro w4 hb4 hm4
  refine L_nil ?_
  refine then_n ?_
  refine C_seq ?_
  refine C_region ?_
  refine L (S (P_assign rfl) ?_)
  refine L_nil ?_
  refine then_n ?_
  refine C_ret ?_
  have hlt1 := h1.lt
  have hs1 := hm1.size
  have hs2 := hm2.size
  have hv3 : v3.ownBlock ≠ some b := fun he => by
    rcases hf3 b he with h6 | h6
    · exact h5 h6
    · omega
  refine F_ret1 Tryz.results123 rfl ?_
  refine ⟨rfl, ⟨_, v3, hb4, .inr rfl, ?_, h4, hv3⟩, ?_⟩
  · have := own_mv ho3 hm4 (fun k hk he => hv3 (by rw [← he]; exact hk))
    simpa [List.length_append] using this
  · have g1 : Mv (Ge B) w w1 := hm1.mono fun x _ he => by have : x = b := he; unfold Ge; omega
    have g3 : Mv (Ge B) w w3 := (g1.no hm2).trans hm3 fun x _ he => by
      have := (own_lt ho2 he).1
      unfold Ge; omega
    exact g3.trans hm4 fun x _ he => by have : x = b := he; unfold Ge; omega

theorem string_ret {B b : Nat} {l : List UInt8} (h : Bd w B b l) (hB : B ≤ w.heap.size) : Ret Tryz.prog 122 [.pointer (some ⟨b, 0, none⟩)] w fun v w' => v = .string (str l) ∧ Mv (Ge B) w w' :=
  (Tryz.Builder_String_any B b l w h.is hB).mono fun e w' ⟨he, hw⟩ => ⟨_, he, rfl, Mv.ofBelowB hw⟩

/-- A token: kind, text, place. -/
def tkC (k : Nat) (s : List UInt8) (a : Nat) : List Value := [.int .i64 (k : Int), .string (str s), .int .i64 (a : Int)]

theorem tk_one (k : Nat) (s : List UInt8) (a : Nat) : ∀ v ∈ tkC k s a, v.oneCell' = true := by simp [tkC, Value.oneCell']
theorem finTk {b k a : Nat} {s : List UInt8} (h : Blk w b (tkC k s a) 71) : (loadVar 71 ⟨b, 0, none⟩).run Tryz.prog w = .ok (.agg (tkC k s a).toArray) w := run_loadVar_struct st_71 h.row rfl

theorem textF_step {c : UInt8} {r : List UInt8} (hc : c ≠ 39) : textF (c :: r) = (textF r).map fun x => (c :: x.1, x.2 + 1) := by
  cases r with
  | nil => simp [textF, hc]
  | cons d r => rw [textF, if_neg hc]
/-- So much of a text is read; what is still to come. -/
def TextGo (l : List UInt8) (i : Nat) (acc : List UInt8) : Prop := textF (l.drop 1) = (textF (l.drop i)).map fun x => (acc ++ x.1, x.2 + (i - 1))

set_option maxHeartbeats 1000000 in
theorem text_ret (l : List UInt8) (hl : l.length < 100000000) (h1 : 1 ≤ l.length) :
    Ret Tryz.prog 105 [.string (str l)] w fun v w' => (match textF (l.drop 1) with
      | some (s, n) => v = .tuple #[.agg (tkC 5 s 0).toArray, .int .i64 ((n + 1 : Nat) : Int), .int .i64 0]
      | none => v = .tuple #[.agg (tkC 0 [] 0).toArray, .int .i64 0, .int .i64 10]) ∧ Mv No w w' := by
  have hsz := str_size l
  refine F_enter Tryz.func105 Tryz.ntmps105 rfl rfl ?_
  refine C_seq ?_
  refine C_region ?_
  refine L (S_alloc (zs := [(.int .i64 0), (.string (ByteArray.mk #[])), (.int .i64 0)]) ti_71 rfl ?_)
  rintro b2 w1 hb2 hm1 hn1
  refine L (S (P_assign rfl) ?_)
  refine L (S (P_assign rfl) ?_)
  refine L_nil ?_
  refine then_n ?_
  refine C_seq ?_
  refine C_region ?_
  refine L (S_alloc (zs := [(.pointer none), (.slice none 0 0)]) ti_173 rfl ?_)
  rintro b5 w2 hb5 hm2 hn2
  refine L_nil ?_
  refine then_n ?_
  refine C_seq ?_
  refine C_seq ?_
  have hlt2 := hb2.lt
  have hb2' : Blk w2 b2 (tkC 0 [] 0) 71 := hb2.no hm2
  have hbd : Bd w2 w1.heap.size b5 [] := ⟨_, _, hb5, .inl rfl, own_nil, hn2, by simp [Value.ownBlock]⟩
  have hm02 : Mv No w w2 := hm1.no hm2
  refine C_region ?_
  refine L (S (P_assign rfl) ?_)
  refine L_nil ?_
  refine then_n ?_
  refine C_block ?_
  refine C_loop (γ := Nat × List UInt8) (fun q => [(0, .string (str l)), (2, .pointer (some ⟨b2, 0, none⟩)), (5, .pointer (some ⟨b5, 0, none⟩)), (6, .int .i64 (q.1 : Int))]) (fun q wr => Bd wr w1.heap.size b5 q.2 ∧ Blk wr b2 (tkC 0 [] 0) 71 ∧ 1 ≤ q.1 ∧ q.1 ≤ l.length ∧ q.2.length < q.1 ∧ TextGo l q.1 q.2 ∧ Mv No w wr) (fun q => l.length - q.1) (1, []) (.cons rfl (.cons rfl (.cons rfl (.cons rfl (.nil _))))) ⟨hbd, hb2', Nat.le_refl _, h1, Nat.zero_lt_one, by simp [TextGo], hm02⟩ ?_
  rintro ⟨i, acc⟩ wr ⟨hbr, hb2r, hi1, hil, hacc, hgo, hmr⟩
  dsimp only at hbr hi1 hil hacc hgo
  unfold TextGo at hgo
  have hB1 : w1.heap.size ≤ wr.heap.size := by
    obtain ⟨_, _, h6, _, _, h7, _⟩ := hbr
    have := h6.lt
    omega
  dsimp only
  refine C_seq ?_
  refine C_seq ?_
  refine C_region ?_
  refine L (S (P_move rfl) ?_)
  refine L (S (P_move rfl) ?_)
  refine L (S (P_lenT Tryz.underlying9 rfl) ?_)
  refine L (S (P_lt rfl rfl rfl) ?_)
  refine L_nil ?_
  refine then_n ?_
  refine C_ifp rfl rfl (fun hlt => ?_) (fun hge => ?_)
  · have hlt' : i < l.length := by omega
    obtain ⟨c, hc⟩ : ∃ c, l[i]? = some c := ⟨l[i], List.getElem?_eq_getElem hlt'⟩
    have hdrop : l.drop i = c :: l.drop (i + 1) := by
      obtain ⟨h2, h3⟩ := List.getElem?_eq_some_iff.1 hc
      rw [List.drop_eq_getElem_cons h2, h3]
    have hcl := c.toNat_lt
    by_cases hq : c = 39
    · subst hq
      rw [hdrop] at hgo
      by_cases hend : i + 1 = l.length
      · have hn : l.drop (i + 1) = [] := List.drop_eq_nil_of_le (by omega)
        rw [hn] at hgo
        have he : textF (l.drop 1) = some (acc, i) := by
          rw [hgo]
          simp only [textF, if_pos, Option.map_some, List.append_nil]
          congr 2
          omega
        rw [he]
        refine C_skip ?_
        refine then_n ?_
        refine C_seq ?_
        refine C_block ?_
        refine C_seq ?_
        refine C_seq ?_
        refine C_region ?_
        refine L (S (P_move rfl) ?_)
        refine L (S (P_move rfl) ?_)
        refine L (S (P_indexT Tryz.underlying9 rfl rfl (j := i) rfl (str_idx hc)) ?_)
        refine L (S (P_eq rfl rfl (decide_eq_true rfl)) ?_)
        refine L_nil ?_
        refine then_n ?_
        refine C_true rfl ?_
        refine C_seq ?_
        refine C_region ?_
        refine L (S (P_move rfl) ?_)
        refine L (S (P_add rfl rfl (wI64 (c := ((i + 1 : Nat) : Int)) (by omega))) ?_)
        refine L (S (P_assign rfl) ?_)
        refine L_nil ?_
        refine then_n ?_
        refine C_seq ?_
        refine C_region ?_
        refine L (S (P_move rfl) ?_)
        refine L (S (P_move rfl) ?_)
        refine L (S (P_lenT Tryz.underlying9 rfl) ?_)
        refine L (S (P_eq rfl rfl (decide_eq_true (by omega))) ?_)
        refine L (S (P_move rfl) ?_)
        refine L_no (j := 4) (dj := 23) (b := false) (b' := true) (d := 24) rfl ?_
        refine L_no (j := 4) (dj := 23) (b := false) (b' := true) (d := 25) rfl ?_
        refine L_no (j := 4) (dj := 23) (b := false) (b' := true) (d := 26) rfl ?_
        refine L_no (j := 4) (dj := 23) (b := false) (b' := true) (d := 27) rfl ?_
        refine L (S (P_pickT rfl rfl) ?_)
        refine L_nil ?_
        refine then_n ?_
        refine C_true rfl ?_
        refine C_seq ?_
        refine C_region ?_
        refine L (S_call cb_122 rfl (string_ret hbr hB1) ?_)
        rintro _ w3 ⟨rfl, hm3⟩
        refine L (S (P_buildC (ix := [0, 1]) (l := [.const (.int .i64 5), .tmp 29]) bi_71_0_1 rfl (by simp [Value.oneCell']) rfl) ?_)
        refine L (S (P_move rfl) ?_)
        refine L (S_storeS ti_71 rfl rfl (tk_one 5 acc 0) rfl (hb2r.mv hm3 (by unfold Ge; omega)) (by exact Nat.le_refl 3) ?_)
        rintro w4 hb4 hm4
        refine L (S (P_assign rfl) ?_)
        refine L (S (P_assign rfl) ?_)
        refine L_nil ?_
        refine then_n ?_
        refine C_ret ?_
        refine then_r ?_
        refine blk_r ?_
        refine then_r ?_
        refine then_r ?_
        refine blk_r ?_
        refine then_r ?_
        have hb4' : Blk w4 b2 (tkC 5 acc 0) 71 := hb4
        refine F_ret (rs := [.cell 2 71, .tmp 3, .tmp 4]) [.agg (tkC 5 acc 0).toArray, .int .i64 ((i + 1 : Nat) : Int), .int .i64 0] Tryz.results105 ?_ ?_
        · exact ⟨⟨_, rfl, finTk hb4'⟩, rfl, rfl, trivial⟩
        · exact ⟨rfl, (hmr.ge hm3 hm1.size).new hm4 hn1⟩
      · obtain ⟨d, hd⟩ : ∃ d, l[i + 1]? = some d := ⟨l[i + 1], List.getElem?_eq_getElem (by omega)⟩
        have hdrop2 : l.drop (i + 1) = d :: l.drop (i + 2) := by
          obtain ⟨h2, h3⟩ := List.getElem?_eq_some_iff.1 hd
          rw [List.drop_eq_getElem_cons h2, h3]
        rw [hdrop2] at hgo
        by_cases hq2 : d = 39
        · subst hq2
          simp only [textF, if_pos] at hgo
          refine C_skip ?_
          refine then_n ?_
          refine C_seq ?_
          refine C_block ?_
          refine C_seq ?_
          refine C_seq ?_
          refine C_region ?_
          refine L (S (P_move rfl) ?_)
          refine L (S (P_move rfl) ?_)
          refine L (S (P_indexT Tryz.underlying9 rfl rfl (j := i) rfl (str_idx hc)) ?_)
          refine L (S (P_eq rfl rfl (decide_eq_true rfl)) ?_)
          refine L_nil ?_
          refine then_n ?_
          refine C_true rfl ?_
          refine C_seq ?_
          refine C_region ?_
          refine L (S (P_move rfl) ?_)
          refine L (S (P_add rfl rfl (wI64 (c := ((i + 1 : Nat) : Int)) (by omega))) ?_)
          refine L (S (P_assign rfl) ?_)
          refine L_nil ?_
          refine then_n ?_
          refine C_seq ?_
          refine C_region ?_
          refine L (S (P_move rfl) ?_)
          refine L (S (P_move rfl) ?_)
          refine L (S (P_lenT Tryz.underlying9 rfl) ?_)
          refine L (S (P_eq rfl rfl (decide_eq_false (by omega))) ?_)
          refine L (S (P_move rfl) ?_)
          refine L_yes (j := 4) (dj := 23) (b := false) (S (P_move rfl) ?_) rfl
          refine L_yes (j := 4) (dj := 23) (b := false) (S (P_move rfl) ?_) rfl
          refine L_yes (j := 4) (dj := 23) (b := false) (S (P_indexT Tryz.underlying9 rfl rfl (j := i + 1) rfl (str_idx hd)) ?_) rfl
          refine L_yes (j := 4) (dj := 23) (b := false) (S (P_ne rfl rfl (decide_eq_false (by decide))) ?_) rfl
          refine L (S (P_pickF rfl rfl) ?_)
          refine L_nil ?_
          refine then_n ?_
          refine C_false rfl ?_
          refine C_skip ?_
          refine then_n ?_
          refine C_region ?_
          refine L (S (P_move rfl) ?_)
          refine L (S (P_move rfl) ?_)
          refine L (S (P_indexT Tryz.underlying9 rfl rfl (j := i + 1) rfl (str_idx hd)) ?_)
          refine L (S_call cb_123 rfl (writeByte_ret 39 hbr (by omega)) ?_)
          rintro _ w3 ⟨rfl, hbd3, hm3⟩
          refine L_nil ?_
          refine blk_n ?_
          refine then_n ?_
          refine C_region ?_
          refine L (S (P_move rfl) ?_)
          refine L (S (P_add rfl rfl (wI64 (c := ((i + 2 : Nat) : Int)) (by omega))) ?_)
          refine L (S (P_assign rfl) ?_)
          refine L_nil ?_
          refine then_n ?_
          exact ⟨rfl, (i + 2, acc ++ [39]), .cons rfl (.cons rfl (.cons rfl (.cons rfl (.nil _)))), ⟨hbd3, hb2r.mv hm3 (by unfold Ge; omega), by dsimp only; omega, by dsimp only; omega, by simp; omega, by
            unfold TextGo
            rw [hgo]
            cases textF (l.drop (i + 2)) with
            | none => rfl
            | some x => simp only [Option.map_some, List.append_assoc, List.cons_append, List.nil_append]; congr 2; omega, hmr.ge hm3 hm1.size⟩, by dsimp only; omega⟩
        · have hdl := d.toNat_lt
          have hd39 : d.toNat ≠ 39 := fun he => hq2 (by rw [← UInt8.toNat_inj, he]; rfl)
          have he : textF (l.drop 1) = some (acc, i) := by
            rw [hgo]
            rw [textF, if_pos rfl, if_neg hq2]
            simp only [Option.map_some, List.append_nil]
            congr 2
            omega
          rw [he]
          refine C_skip ?_
          refine then_n ?_
          refine C_seq ?_
          refine C_block ?_
          refine C_seq ?_
          refine C_seq ?_
          refine C_region ?_
          refine L (S (P_move rfl) ?_)
          refine L (S (P_move rfl) ?_)
          refine L (S (P_indexT Tryz.underlying9 rfl rfl (j := i) rfl (str_idx hc)) ?_)
          refine L (S (P_eq rfl rfl (decide_eq_true rfl)) ?_)
          refine L_nil ?_
          refine then_n ?_
          refine C_true rfl ?_
          refine C_seq ?_
          refine C_region ?_
          refine L (S (P_move rfl) ?_)
          refine L (S (P_add rfl rfl (wI64 (c := ((i + 1 : Nat) : Int)) (by omega))) ?_)
          refine L (S (P_assign rfl) ?_)
          refine L_nil ?_
          refine then_n ?_
          refine C_seq ?_
          refine C_region ?_
          refine L (S (P_move rfl) ?_)
          refine L (S (P_move rfl) ?_)
          refine L (S (P_lenT Tryz.underlying9 rfl) ?_)
          refine L (S (P_eq rfl rfl (decide_eq_false (by omega))) ?_)
          refine L (S (P_move rfl) ?_)
          refine L_yes (j := 4) (dj := 23) (b := false) (S (P_move rfl) ?_) rfl
          refine L_yes (j := 4) (dj := 23) (b := false) (S (P_move rfl) ?_) rfl
          refine L_yes (j := 4) (dj := 23) (b := false) (S (P_indexT Tryz.underlying9 rfl rfl (j := i + 1) rfl (str_idx hd)) ?_) rfl
          refine L_yes (j := 4) (dj := 23) (b := false) (S (P_ne rfl rfl (decide_eq_true (by omega))) ?_) rfl
          refine L (S (P_pickF rfl rfl) ?_)
          refine L_nil ?_
          refine then_n ?_
          refine C_true rfl ?_
          refine C_seq ?_
          refine C_region ?_
          refine L (S_call cb_122 rfl (string_ret hbr hB1) ?_)
          rintro _ w3 ⟨rfl, hm3⟩
          refine L (S (P_buildC (ix := [0, 1]) (l := [.const (.int .i64 5), .tmp 29]) bi_71_0_1 rfl (by simp [Value.oneCell']) rfl) ?_)
          refine L (S (P_move rfl) ?_)
          refine L (S_storeS ti_71 rfl rfl (tk_one 5 acc 0) rfl (hb2r.mv hm3 (by unfold Ge; omega)) (by exact Nat.le_refl 3) ?_)
          rintro w4 hb4 hm4
          refine L (S (P_assign rfl) ?_)
          refine L (S (P_assign rfl) ?_)
          refine L_nil ?_
          refine then_n ?_
          refine C_ret ?_
          refine then_r ?_
          refine blk_r ?_
          refine then_r ?_
          refine then_r ?_
          refine blk_r ?_
          refine then_r ?_
          have hb4' : Blk w4 b2 (tkC 5 acc 0) 71 := hb4
          refine F_ret (rs := [.cell 2 71, .tmp 3, .tmp 4]) [.agg (tkC 5 acc 0).toArray, .int .i64 ((i + 1 : Nat) : Int), .int .i64 0] Tryz.results105 ?_ ?_
          · exact ⟨⟨_, rfl, finTk hb4'⟩, rfl, rfl, trivial⟩
          · exact ⟨rfl, (hmr.ge hm3 hm1.size).new hm4 hn1⟩
    · have hc39 : c.toNat ≠ 39 := fun he => hq (by rw [← UInt8.toNat_inj, he]; rfl)
      rw [hdrop, textF_step hq] at hgo
      refine C_skip ?_
      refine then_n ?_
      refine C_seq ?_
      refine C_block ?_
      refine C_seq ?_
      refine C_seq ?_
      refine C_region ?_
      refine L (S (P_move rfl) ?_)
      refine L (S (P_move rfl) ?_)
      refine L (S (P_indexT Tryz.underlying9 rfl rfl (j := i) rfl (str_idx hc)) ?_)
      refine L (S (P_eq rfl rfl (decide_eq_false (by omega))) ?_)
      refine L_nil ?_
      refine then_n ?_
      refine C_false rfl ?_
      refine C_skip ?_
      refine then_n ?_
      refine C_region ?_
      refine L (S (P_move rfl) ?_)
      refine L (S (P_move rfl) ?_)
      refine L (S (P_indexT Tryz.underlying9 rfl rfl (j := i) rfl (str_idx hc)) ?_)
      refine L (S_call cb_123 rfl (writeByte_ret c hbr (by omega)) ?_)
      rintro _ w3 ⟨rfl, hbd3, hm3⟩
      refine L_nil ?_
      refine blk_n ?_
      refine then_n ?_
      refine C_region ?_
      refine L (S (P_move rfl) ?_)
      refine L (S (P_add rfl rfl (wI64 (c := ((i + 1 : Nat) : Int)) (by omega))) ?_)
      refine L (S (P_assign rfl) ?_)
      refine L_nil ?_
      refine then_n ?_
      exact ⟨rfl, (i + 1, acc ++ [c]), .cons rfl (.cons rfl (.cons rfl (.cons rfl (.nil _)))), ⟨hbd3, hb2r.mv hm3 (by unfold Ge; omega), by dsimp only; omega, by dsimp only; omega, by simp; omega, by
        unfold TextGo
        rw [hgo]
        cases textF (l.drop (i + 1)) with
        | none => rfl
        | some x => simp only [Option.map_some, List.append_assoc, List.cons_append, List.nil_append]; congr 2; omega, hmr.ge hm3 hm1.size⟩, by dsimp only; omega⟩
  · have hn : l.drop i = [] := List.drop_eq_nil_of_le (by omega)
    rw [hn] at hgo
    have he : textF (l.drop 1) = none := by rw [hgo]; simp [textF]
    rw [he]
    refine C_exit ?_
    refine then_x ?_
    refine then_x ?_
    refine blk_x ?_
    refine then_n ?_
    refine C_seq ?_
    refine C_region ?_
    refine L (S (P_buildC (ix := []) (l := []) bi_71 rfl (by simp [Value.oneCell']) rfl) ?_)
    refine L (S_storeS ti_71 rfl rfl (tk_one 0 [] 0) rfl hb2r (by exact Nat.le_refl 3) ?_)
    rintro w4 hb4 hm4
    refine L (S (P_assign rfl) ?_)
    refine L (S (P_assign rfl) ?_)
    refine L_nil ?_
    refine then_n ?_
    refine C_ret ?_
    have hb4' : Blk w4 b2 (tkC 0 [] 0) 71 := hb4
    refine F_ret (rs := [.cell 2 71, .tmp 3, .tmp 4]) [.agg (tkC 0 [] 0).toArray, .int .i64 0, .int .i64 10] Tryz.results105 ?_ ?_
    · exact ⟨⟨_, rfl, finTk hb4'⟩, rfl, rfl, trivial⟩
    · exact ⟨rfl, hmr.new hm4 hn1⟩
end
end Go.Proofs.YtnoioimphcmeiaaGreatDoor
