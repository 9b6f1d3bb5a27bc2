import Derived.Test.YtnoioimphcmeiaaGreatDoorLKw
namespace Go.Proofs.YtnoioimphcmeiaaGreatDoor
open Go.RowKit
set_option maxRecDepth 20000

theorem Blk.own {w : World} {b : Nat} {cs : List Value} {e : TypeId} {n m base : Nat} (h : Blk w b cs e) (hl : cs.length = n * m) (hm : 0 < m) (hb : base ≤ b) (hn : n ≤ maxLen) : w.ownsRow base e m (.slice (some ⟨b, 0, none⟩) n n) n cs :=
  ⟨hl, .inr ⟨b, n, cs.toArray, rfl, hb, h, Nat.le_refl _, hn, by simpa using hl, by rw [← hl]; simp⟩⟩
def wordsV : List Value := wordsL.map fun x => .string (str x)
theorem wordsV_one : ∀ v ∈ wordsV, v.oneCell' = true := fun v hv => by
  obtain ⟨x, _, rfl⟩ := List.mem_map.1 hv
  rfl
def wordsO : List Operand := wordsL.map fun x => .const (.string (str x))
theorem words_evs (f : Fr) : evs f wordsO = some wordsV := by
  have key : ∀ W : List (List UInt8), evs f (W.map fun x => .const (.string (str x))) = some (W.map fun x => .string (str x)) := by
    intro W
    induction W with
    | nil => rfl
    | cons x r ih => simp only [List.map_cons, evs, ih, ev]
  exact key wordsL
theorem words_parts : (partsF 0 wordsO).toArray = #[(0, .const (.string ⟨#[83, 69, 76, 69, 67, 84]⟩)), (1, .const (.string ⟨#[70, 82, 79, 77]⟩)), (2, .const (.string ⟨#[87, 72, 69, 82, 69]⟩)), (3, .const (.string ⟨#[71, 82, 79, 85, 80]⟩)), (4, .const (.string ⟨#[66, 89]⟩)), (5, .const (.string ⟨#[79, 82, 68, 69, 82]⟩)), (6, .const (.string ⟨#[65, 83, 67]⟩)), (7, .const (.string ⟨#[68, 69, 83, 67]⟩)), (8, .const (.string ⟨#[76, 73, 77, 73, 84]⟩)), (9, .const (.string ⟨#[65, 83]⟩)), (10, .const (.string ⟨#[74, 79, 73, 78]⟩)), (11, .const (.string ⟨#[79, 78]⟩)), (12, .const (.string ⟨#[65, 78, 68]⟩)), (13, .const (.string ⟨#[79, 82]⟩)), (14, .const (.string ⟨#[78, 79, 84]⟩)), (15, .const (.string ⟨#[73, 83]⟩)), (16, .const (.string ⟨#[78, 85, 76, 76]⟩)), (17, .const (.string ⟨#[84, 82, 85, 69]⟩)), (18, .const (.string ⟨#[70, 65, 76, 83, 69]⟩)), (19, .const (.string ⟨#[67, 79, 85, 78, 84]⟩)), (20, .const (.string ⟨#[83, 85, 77]⟩)), (21, .const (.string ⟨#[77, 73, 78]⟩)), (22, .const (.string ⟨#[77, 65, 88]⟩)), (23, .const (.string ⟨#[73, 78, 83, 69, 82, 84]⟩)), (24, .const (.string ⟨#[73, 78, 84, 79]⟩)), (25, .const (.string ⟨#[86, 65, 76, 85, 69, 83]⟩)), (26, .const (.string ⟨#[85, 80, 68, 65, 84, 69]⟩)), (27, .const (.string ⟨#[83, 69, 84]⟩)), (28, .const (.string ⟨#[68, 69, 76, 69, 84, 69]⟩)), (29, .const (.string ⟨#[67, 82, 69, 65, 84, 69]⟩)), (30, .const (.string ⟨#[84, 65, 66, 76, 69]⟩)), (31, .const (.string ⟨#[68, 82, 79, 80]⟩)), (32, .const (.string ⟨#[73, 78, 84]⟩)), (33, .const (.string ⟨#[82, 69, 65, 76]⟩)), (34, .const (.string ⟨#[84, 69, 88, 84]⟩))] := rfl
section
variable {w : World}
theorem S_words {n d : Nat} {N : Nxt} {Q : Post} {f : Fr} {ds : List Deferred} {ty : TypeId} {pos : String} {af : Array Edge} {g : Option (Nat × Bool)} (h : ∀ b w', Blk w' b wordsV 9 → Mv No w w' → w.heap.size ≤ b → N ((d, .slice (some ⟨b, 0, none⟩) 35 35) :: f) ds w') (hn : Nat.blt d n = true := by rfl) :
    opF Tryz.prog n ⟨some d, .buildSlice 151 35 #[(0, .const (.string ⟨#[83, 69, 76, 69, 67, 84]⟩)), (1, .const (.string ⟨#[70, 82, 79, 77]⟩)), (2, .const (.string ⟨#[87, 72, 69, 82, 69]⟩)), (3, .const (.string ⟨#[71, 82, 79, 85, 80]⟩)), (4, .const (.string ⟨#[66, 89]⟩)), (5, .const (.string ⟨#[79, 82, 68, 69, 82]⟩)), (6, .const (.string ⟨#[65, 83, 67]⟩)), (7, .const (.string ⟨#[68, 69, 83, 67]⟩)), (8, .const (.string ⟨#[76, 73, 77, 73, 84]⟩)), (9, .const (.string ⟨#[65, 83]⟩)), (10, .const (.string ⟨#[74, 79, 73, 78]⟩)), (11, .const (.string ⟨#[79, 78]⟩)), (12, .const (.string ⟨#[65, 78, 68]⟩)), (13, .const (.string ⟨#[79, 82]⟩)), (14, .const (.string ⟨#[78, 79, 84]⟩)), (15, .const (.string ⟨#[73, 83]⟩)), (16, .const (.string ⟨#[78, 85, 76, 76]⟩)), (17, .const (.string ⟨#[84, 82, 85, 69]⟩)), (18, .const (.string ⟨#[70, 65, 76, 83, 69]⟩)), (19, .const (.string ⟨#[67, 79, 85, 78, 84]⟩)), (20, .const (.string ⟨#[83, 85, 77]⟩)), (21, .const (.string ⟨#[77, 73, 78]⟩)), (22, .const (.string ⟨#[77, 65, 88]⟩)), (23, .const (.string ⟨#[73, 78, 83, 69, 82, 84]⟩)), (24, .const (.string ⟨#[73, 78, 84, 79]⟩)), (25, .const (.string ⟨#[86, 65, 76, 85, 69, 83]⟩)), (26, .const (.string ⟨#[85, 80, 68, 65, 84, 69]⟩)), (27, .const (.string ⟨#[83, 69, 84]⟩)), (28, .const (.string ⟨#[68, 69, 76, 69, 84, 69]⟩)), (29, .const (.string ⟨#[67, 82, 69, 65, 84, 69]⟩)), (30, .const (.string ⟨#[84, 65, 66, 76, 69]⟩)), (31, .const (.string ⟨#[68, 82, 79, 80]⟩)), (32, .const (.string ⟨#[73, 78, 84]⟩)), (33, .const (.string ⟨#[82, 69, 65, 76]⟩)), (34, .const (.string ⟨#[84, 69, 88, 84]⟩))], ty, pos, af, g⟩ N Q f ds w := by
  rw [← words_parts]
  exact S_buildSliceN (l := wordsO) (vs := wordsV) Tryz.underlying151 ti_9 (words_evs f) wordsV_one rfl (by decide) (by decide) h hn

set_option maxHeartbeats 1000000 in
theorem words_ret : Ret Tryz.prog 126 [] w fun v w' => ∃ b, v = .slice (some ⟨b, 0, none⟩) 35 35 ∧ Blk w' b wordsV 9 ∧ w.heap.size ≤ b ∧ Mv No w w' := by
  refine F_enter Tryz.func126 Tryz.ntmps126 rfl rfl ?_
  refine C_seq ?_
  refine C_region ?_
  refine L (S (P_assign rfl) ?_)
  refine L_nil ?_
  refine then_n ?_
  refine C_seq ?_
  refine C_region ?_
  refine L (S_words ?_)
  rintro b1 w1 hb1 hm1 hn1
  refine L (S (P_assign rfl) ?_)
  refine L_nil ?_
  refine then_n ?_
  refine C_ret ?_
  refine F_ret1 Tryz.results126 rfl ?_
  exact ⟨b1, rfl, hb1, hn1, hm1⟩

set_option maxHeartbeats 1000000 in
theorem refkw_ret (l : List UInt8) (hl : l.length < 4611686018427387904) :
    Ret Tryz.prog 108 [.string (str l)] w fun v w' => v = .string (str ((kwF l).getD [])) ∧ Mv No w w' := by
  have hsz := str_size l
  refine F_enter Tryz.func108 Tryz.ntmps108 rfl rfl ?_
  refine C_seq ?_
  refine C_region ?_
  refine L (S (P_assign rfl) ?_)
  refine L_nil ?_
  refine then_n ?_
  refine C_seq ?_
  refine C_region ?_
  refine L (S (P_assign rfl) ?_)
  refine L_nil ?_
  refine then_n ?_
  refine C_seq ?_
  refine C_seq ?_
  refine C_region ?_
  refine L (S (P_assign rfl) ?_)
  refine L_nil ?_
  refine then_n ?_
  refine C_block ?_
  refine C_loop (γ := Nat) (fun i => [(0, .string (str l)), (3, .string (str ((l.take i).map upC))), (4, .int .i64 (i : Int))]) (fun i wr => i ≤ l.length ∧ Mv No w wr) (fun i => l.length - i) 0 (.cons rfl (.cons rfl (.cons rfl (.nil _)))) ⟨Nat.zero_le _, Mv.refl w⟩ ?_
  rintro i wr ⟨hi, hmr⟩
  refine C_seq ?_
  refine C_seq ?_
  refine C_region ?_
  refine L (S (P_move rfl) ?_)
  refine L (S (P_move rfl) ?_)
  refine L (S (P_lenT Tryz.underlying9 rfl) ?_)
  refine L (S (P_lt rfl rfl rfl) ?_)
  refine L_nil ?_
  refine then_n ?_
  refine C_ifp rfl rfl (fun hlt => ?_) (fun hge => ?_)
  · have hil : i < l.length := by omega
    obtain ⟨c, hc⟩ : ∃ c, l[i]? = some c := ⟨l[i], List.getElem?_eq_getElem hil⟩
    have hcl := c.toNat_lt
    have htake : (l.take (i + 1)).map upC = (l.take i).map upC ++ [upC c] := by
      obtain ⟨h1, h2⟩ := List.getElem?_eq_some_iff.1 hc
      rw [List.take_succ_eq_append_getElem h1, h2, List.map_append]
      rfl
    have hsz2 : (str ((l.take i).map upC)).size = i := by rw [str_size, List.length_map, List.length_take]; omega
    have happ : str ((l.take i).map upC) ++ str [upC c] = str ((l.take (i + 1)).map upC) := by rw [str_append, htake]
    by_cases hlow : 97 ≤ c.toNat ∧ c.toNat ≤ 122
    · have hup : (.int .u8 ((c.toNat - 32 : Nat) : Int) : Value) = bv (upC c) := by
        unfold bv
        rw [upC_toNat, if_pos hlow]
      refine C_skip ?_
      refine then_n ?_
      refine C_seq ?_
      refine C_block ?_
      refine C_seq ?_
      refine C_region ?_
      refine L (S (P_move rfl) ?_)
      refine L (S (P_move rfl) ?_)
      refine L (S (P_indexT Tryz.underlying9 rfl rfl (j := i) rfl (str_idx hc)) ?_)
      refine L (S (P_assign rfl) ?_)
      refine L_nil ?_
      refine then_n ?_
      refine C_seq ?_
      refine C_seq ?_
      refine C_region ?_
      refine L (S (P_move rfl) ?_)
      refine L (S (P_ge rfl rfl (decide_eq_true (by omega))) ?_)
      refine L (S (P_move rfl) ?_)
      refine L_yes (j := 2) (dj := 19) (b := true) (S (P_move rfl) ?_) rfl
      refine L_yes (j := 2) (dj := 19) (b := true) (S (P_le rfl rfl (decide_eq_true (by omega))) ?_) rfl
      refine L (S (P_pickT rfl rfl) ?_)
      refine L_nil ?_
      refine then_n ?_
      refine C_true rfl ?_
      refine C_region ?_
      refine L (S (P_move rfl) ?_)
      refine L (S (P_sub rfl rfl (wU8 (c := ((c.toNat - 97 : Nat) : Int)) (by omega))) ?_)
      refine L (S (P_add rfl rfl (wU8 (c := ((c.toNat - 32 : Nat) : Int)) (by omega))) ?_)
      refine L (S (P_assign rfl) ?_)
      refine L_nil ?_
      refine then_n ?_
      refine C_region ?_
      refine L (S (P_move rfl) ?_)
      refine L (S (P_move rfl) ?_)
      refine L (S_buildSlice1 Tryz.underlying56 ti_5 rfl rfl rfl ?_)
      rintro b2 w2 hb2 hm2 hn2
      refine L (S_bytesStr Tryz.underlying56 Tryz.underlying5 Tryz.underlying9 rfl (l := [upC c]) (.inr ⟨b2, 0, rfl, by have := hb2.row; rw [hup] at this; exact this⟩) rfl ?_)
      refine L (S (P_addT rfl rfl (by rw [hsz2, str_size]; show i + 1 ≤ _; omega)) ?_)
      refine L (S (P_assign rfl) ?_)
      refine L_nil ?_
      refine blk_n ?_
      refine then_n ?_
      refine C_region ?_
      refine L (S (P_move rfl) ?_)
      refine L (S (P_add rfl rfl (wI64 (c := ((i + 1 : Nat) : Int)) (by omega))) ?_)
      refine L (S (P_assign rfl) ?_)
      refine L_nil ?_
      refine then_n ?_
      exact ⟨rfl, i + 1, .cons rfl (.cons (by show some (Value.string (str ((l.take i).map upC) ++ str [upC c])) = _; rw [happ]) (.cons rfl (.nil _))), ⟨hil, hmr.no hm2⟩, by omega⟩
    · have hup : (.int .u8 (c.toNat : Int) : Value) = bv (upC c) := by rw [upC_same hlow]; rfl
      by_cases h1 : 97 ≤ c.toNat
      · refine C_skip ?_
        refine then_n ?_
        refine C_seq ?_
        refine C_block ?_
        refine C_seq ?_
        refine C_region ?_
        refine L (S (P_move rfl) ?_)
        refine L (S (P_move rfl) ?_)
        refine L (S (P_indexT Tryz.underlying9 rfl rfl (j := i) rfl (str_idx hc)) ?_)
        refine L (S (P_assign rfl) ?_)
        refine L_nil ?_
        refine then_n ?_
        refine C_seq ?_
        refine C_seq ?_
        refine C_region ?_
        refine L (S (P_move rfl) ?_)
        refine L (S (P_ge rfl rfl (decide_eq_true (by omega))) ?_)
        refine L (S (P_move rfl) ?_)
        refine L_yes (j := 2) (dj := 19) (b := true) (S (P_move rfl) ?_) rfl
        refine L_yes (j := 2) (dj := 19) (b := true) (S (P_le rfl rfl (decide_eq_false (by omega))) ?_) rfl
        refine L (S (P_pickT rfl rfl) ?_)
        refine L_nil ?_
        refine then_n ?_
        refine C_false rfl ?_
        refine C_skip ?_
        refine then_n ?_
        refine C_region ?_
        refine L (S (P_move rfl) ?_)
        refine L (S (P_move rfl) ?_)
        refine L (S_buildSlice1 Tryz.underlying56 ti_5 rfl rfl rfl ?_)
        rintro b2 w2 hb2 hm2 hn2
        refine L (S_bytesStr Tryz.underlying56 Tryz.underlying5 Tryz.underlying9 rfl (l := [upC c]) (.inr ⟨b2, 0, rfl, by have := hb2.row; rw [hup] at this; exact this⟩) rfl ?_)
        refine L (S (P_addT rfl rfl (by rw [hsz2, str_size]; show i + 1 ≤ _; omega)) ?_)
        refine L (S (P_assign rfl) ?_)
        refine L_nil ?_
        refine blk_n ?_
        refine then_n ?_
        refine C_region ?_
        refine L (S (P_move rfl) ?_)
        refine L (S (P_add rfl rfl (wI64 (c := ((i + 1 : Nat) : Int)) (by omega))) ?_)
        refine L (S (P_assign rfl) ?_)
        refine L_nil ?_
        refine then_n ?_
        exact ⟨rfl, i + 1, .cons rfl (.cons (by show some (Value.string (str ((l.take i).map upC) ++ str [upC c])) = _; rw [happ]) (.cons rfl (.nil _))), ⟨hil, hmr.no hm2⟩, by omega⟩
      · refine C_skip ?_
        refine then_n ?_
        refine C_seq ?_
        refine C_block ?_
        refine C_seq ?_
        refine C_region ?_
        refine L (S (P_move rfl) ?_)
        refine L (S (P_move rfl) ?_)
        refine L (S (P_indexT Tryz.underlying9 rfl rfl (j := i) rfl (str_idx hc)) ?_)
        refine L (S (P_assign rfl) ?_)
        refine L_nil ?_
        refine then_n ?_
        refine C_seq ?_
        refine C_seq ?_
        refine C_region ?_
        refine L (S (P_move rfl) ?_)
        refine L (S (P_ge rfl rfl (decide_eq_false (by omega))) ?_)
        refine L (S (P_move rfl) ?_)
        refine L_no (j := 2) (dj := 19) (b := true) (b' := false) (d := 20) rfl ?_
        refine L_no (j := 2) (dj := 19) (b := true) (b' := false) (d := 21) rfl ?_
        refine L (S (P_pickF rfl rfl) ?_)
        refine L_nil ?_
        refine then_n ?_
        refine C_false rfl ?_
        refine C_skip ?_
        refine then_n ?_
        refine C_region ?_
        refine L (S (P_move rfl) ?_)
        refine L (S (P_move rfl) ?_)
        refine L (S_buildSlice1 Tryz.underlying56 ti_5 rfl rfl rfl ?_)
        rintro b2 w2 hb2 hm2 hn2
        refine L (S_bytesStr Tryz.underlying56 Tryz.underlying5 Tryz.underlying9 rfl (l := [upC c]) (.inr ⟨b2, 0, rfl, by have := hb2.row; rw [hup] at this; exact this⟩) rfl ?_)
        refine L (S (P_addT rfl rfl (by rw [hsz2, str_size]; show i + 1 ≤ _; omega)) ?_)
        refine L (S (P_assign rfl) ?_)
        refine L_nil ?_
        refine blk_n ?_
        refine then_n ?_
        refine C_region ?_
        refine L (S (P_move rfl) ?_)
        refine L (S (P_add rfl rfl (wI64 (c := ((i + 1 : Nat) : Int)) (by omega))) ?_)
        refine L (S (P_assign rfl) ?_)
        refine L_nil ?_
        refine then_n ?_
        exact ⟨rfl, i + 1, .cons rfl (.cons (by show some (Value.string (str ((l.take i).map upC) ++ str [upC c])) = _; rw [happ]) (.cons rfl (.nil _))), ⟨hil, hmr.no hm2⟩, by omega⟩
  · have hil : i = l.length := by omega
    rw [hil, List.take_of_length_le (Nat.le_refl _)]
    refine C_exit ?_
    refine then_x ?_
    refine then_x ?_
    refine blk_x ?_
    refine then_n ?_
    refine C_seq ?_
    refine C_region ?_
    refine L (S_call cb_126 rfl (words_ret) ?_)
    rintro _ w2 ⟨b2, rfl, hb2, hn2, hm2⟩
    refine L (S (P_assign rfl) ?_)
    refine L_nil ?_
    refine then_n ?_
    refine C_seq ?_
    refine C_seq ?_
    refine C_region ?_
    refine L (S (P_assign rfl) ?_)
    refine L_nil ?_
    refine then_n ?_
    refine C_block ?_
    refine C_loop (γ := Nat) (fun i => [(3, .string (str (l.map upC))), (6, .slice (some ⟨b2, 0, none⟩) 35 35), (7, .int .i64 (i : Int))]) (fun i wr => wr = w2 ∧ i ≤ 35 ∧ ∀ j, j < i → wordsL[j]? ≠ some (l.map upC)) (fun i => 35 - i) 0 (.cons rfl (.cons rfl (.cons rfl (.nil _)))) ⟨rfl, by omega, fun j hj => by omega⟩ ?_
    rintro k wq ⟨rfl, hk, hno⟩
    refine C_seq ?_
    refine C_seq ?_
    refine C_region ?_
    refine L (S (P_move rfl) ?_)
    refine L (S (P_move rfl) ?_)
    refine L (S (P_lenS Tryz.underlying151 rfl) ?_)
    refine L (S (P_lt rfl rfl rfl) ?_)
    refine L_nil ?_
    refine then_n ?_
    refine C_ifp rfl rfl (fun hlt2 => ?_) (fun hge2 => ?_)
    · have hk35 : k < 35 := by omega
      obtain ⟨x, hx⟩ : ∃ x, wordsL[k]? = some x := ⟨_, List.getElem?_eq_getElem (by show k < 35; exact hk35)⟩
      have hcell : wq.cell? ⟨b2, k, none⟩ = some (.string (str x)) := hb2.cell (by rw [wordsV, List.getElem?_map, hx]; rfl)
      by_cases hxe : x = l.map upC
      · have hkw : kwF l = some (l.map upC) := by unfold kwF; rw [if_pos (by rw [← hxe]; exact List.mem_of_getElem? hx)]
        rw [hkw]
        refine C_skip ?_
        refine then_n ?_
        refine C_seq ?_
        refine C_block ?_
        refine C_seq ?_
        refine C_region ?_
        refine L (S (P_move rfl) ?_)
        refine L (S (P_move rfl) ?_)
        refine L (S (P_indexAddr Tryz.underlying151 (csz_of ti_9) rfl rfl (j := k) rfl hk35 (p := k) (by omega)) ?_)
        refine L (S_load sc_9 rfl hcell ?_)
        refine L (S (P_move rfl) ?_)
        refine L (S (P_eqT rfl rfl (decide_eq_true (by rw [hxe]))) ?_)
        refine L_nil ?_
        refine then_n ?_
        refine C_true rfl ?_
        refine C_seq ?_
        refine C_region ?_
        refine L (S (P_move rfl) ?_)
        refine L (S (P_assign rfl) ?_)
        refine L_nil ?_
        refine then_n ?_
        refine C_ret ?_
        refine blk_r ?_
        refine then_r ?_
        refine then_r ?_
        refine blk_r ?_
        refine then_r ?_
        refine F_ret1 Tryz.results108 rfl ?_
        exact ⟨rfl, hmr.no hm2⟩
      · refine C_skip ?_
        refine then_n ?_
        refine C_seq ?_
        refine C_block ?_
        refine C_seq ?_
        refine C_region ?_
        refine L (S (P_move rfl) ?_)
        refine L (S (P_move rfl) ?_)
        refine L (S (P_indexAddr Tryz.underlying151 (csz_of ti_9) rfl rfl (j := k) rfl hk35 (p := k) (by omega)) ?_)
        refine L (S_load sc_9 rfl hcell ?_)
        refine L (S (P_move rfl) ?_)
        refine L (S (P_eqT rfl rfl (decide_eq_false (fun h => hxe (str_inj h)))) ?_)
        refine L_nil ?_
        refine then_n ?_
        refine C_false rfl ?_
        refine C_skip ?_
        refine blk_n ?_
        refine then_n ?_
        refine C_region ?_
        refine L (S (P_move rfl) ?_)
        refine L (S (P_add rfl rfl (wI64 (c := ((k + 1 : Nat) : Int)) (by omega))) ?_)
        refine L (S (P_assign rfl) ?_)
        refine L_nil ?_
        refine then_n ?_
        exact ⟨rfl, k + 1, .cons rfl (.cons rfl (.cons rfl (.nil _))), ⟨rfl, hk35, fun j hj he => by
          by_cases hjk : j = k
          · subst hjk; rw [hx] at he; exact hxe (Option.some.inj he)
          · exact hno j (by omega) he⟩, by omega⟩
    · have hk35 : k = 35 := by omega
      subst hk35
      have hkw : kwF l = none := by
        unfold kwF
        rw [if_neg]
        intro h
        obtain ⟨j, hj⟩ := List.getElem?_of_mem h
        exact hno j (List.getElem?_eq_some_iff.1 hj).1 hj
      rw [hkw]
      refine C_exit ?_
      refine then_x ?_
      refine then_x ?_
      refine blk_x ?_
      refine then_n ?_
      refine C_seq ?_
      refine C_region ?_
      refine L (S (P_assign rfl) ?_)
      refine L_nil ?_
      refine then_n ?_
      refine C_ret ?_
      refine F_ret1 Tryz.results108 rfl ?_
      exact ⟨rfl, hmr.no hm2⟩
end
end Go.Proofs.YtnoioimphcmeiaaGreatDoor
