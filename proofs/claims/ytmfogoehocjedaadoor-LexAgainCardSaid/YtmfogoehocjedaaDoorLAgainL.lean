import Derived.Test.YtmfogoehocjedaaDoorLAgainP
import Derived.Test.YtmfogoehocjedaaDoorLPlacesL
namespace Go.Proofs.YtmfogoehocjedaaDoor
open Go.RowKit
set_option maxRecDepth 20000

theorem sameT_at {a b : List Tk} (h : sameT a b) : a.length = b.length ∧ ∀ (i : Nat) (x y : Tk), a[i]? = some x → b[i]? = some y → x.kind = y.kind ∧ x.s = y.s := by
  unfold sameT at h
  refine ⟨by simpa using congrArg List.length h, fun i x y hx hy => ?_⟩
  have := congrArg (·[i]?) h
  simp only [List.getElem?_map, hx, hy, Option.map_some, Option.some.injEq, Prod.mk.injEq] at this
  exact this
/-- The blanks. -/
def blS : List (List UInt8) := [[32], [9], [10], [13], [32, 10, 32]]
theorem blS_facts : ∀ i, i < 5 → ∃ b, blS[i]? = some b ∧ (∀ c ∈ b, blN c.toNat = true) ∧ b ≠ [] ∧ b.length ≤ 3 := by
  intro i hi
  match i, hi with
  | 0, _ => exact ⟨_, rfl, by decide, by decide, by decide⟩
  | 1, _ => exact ⟨_, rfl, by decide, by decide, by decide⟩
  | 2, _ => exact ⟨_, rfl, by decide, by decide, by decide⟩
  | 3, _ => exact ⟨_, rfl, by decide, by decide, by decide⟩
  | 4, _ => exact ⟨_, rfl, by decide, by decide, by decide⟩
theorem outT_cons {b : List UInt8} {t : Tk} {r : List Tk} : outT b (t :: r) = wrF t.kind t.s ++ b ++ outT b r := by unfold outT; rw [List.flatMap_cons]
theorem outT_ge {b : List UInt8} (hb : b ≠ []) : ∀ ts : List Tk, ts.length ≤ (outT b ts).length
  | [] => Nat.le_refl _
  | t :: r => by
    have ih := outT_ge hb r
    have := List.length_pos_iff.2 hb
    rw [outT_cons, List.length_append, List.length_append, List.length_cons]
    omega
theorem outT_app {b : List UInt8} {x y : List Tk} : outT b (x ++ y) = outT b x ++ outT b y := by unfold outT; exact List.flatMap_append
theorem outT_take {b : List UInt8} (ts : List Tk) (i : Nat) : (outT b (ts.take i)).length ≤ (outT b ts).length := by
  have h : (outT b (ts.take i ++ ts.drop i)).length = (outT b ts).length := by rw [List.take_append_drop]
  rw [outT_app, List.length_append] at h
  omega
theorem outT_step {b : List UInt8} {ts : List Tk} {i : Nat} {t : Tk} (h : ts[i]? = some t) : b ++ outT b (ts.take (i + 1)) = b ++ outT b (ts.take i) ++ (wrF t.kind t.s ++ b) := by
  have e : ts.take (i + 1) = ts.take i ++ [t] := by rw [List.take_add_one, h]; rfl
  rw [e, outT_app, outT_cons, List.append_assoc]
  simp [outT]
theorem esc_ge : ∀ s : List UInt8, s.length ≤ (esc s).length
  | [] => Nat.le_refl _
  | c :: r => by
    have h1 := esc_ge r
    have e : esc (c :: r) = (if c = 39 then [39, 39] else [c]) ++ esc r := rfl
    have h2 : 1 ≤ (if c = 39 then [39, 39] else [c] : List UInt8).length := by split <;> simp
    rw [e, List.length_append, List.length_cons]
    omega
theorem wrF_ge (k : Nat) (s : List UInt8) : s.length ≤ (wrF k s).length := by
  have h := esc_ge s
  unfold wrF
  split
  · simp only [List.length_append, List.length_cons]; omega
  · exact Nat.le_refl _
section
variable {w : World}
set_option maxHeartbeats 2000000 in
theorem lexAgain_ret (hv : Vr w) (l : List UInt8) (hl : l.length < 9223372036854775808) (x : Nat) (hx8 : x < 256) : Ret Tryd.prog 4 [.string (str l), .int .u8 (x : Int)] w fun v w' => v = .bool true ∧ Mv No w w' := by
  have hsz := str_size l
  have hli := fun w' (h : Mv No w w') => lives_ret (hv.no h).mx
  refine F_enter Tryd.func4 Tryd.ntmps4 rfl rfl ?_
  by_cases h1000 : 1000 < l.length
  · refine C_seq ?_
    refine C_region ?_
    refine L (S (P_assign rfl) ?_)
    refine L_nil ?_
    refine then_n ?_
    refine C_seq ?_
    refine C_seq ?_
    refine C_region ?_
    refine L (S_call cb_7 rfl ((hli _ (Mv.refl w))) ?_)
    rintro _ w1 ⟨rfl, hm1⟩
    refine L (S (P_not rfl rfl) ?_)
    refine L (S (P_move rfl) ?_)
    refine L_yes (j := 2) (dj := 18) (b := false) (S (P_move rfl) ?_) rfl
    refine L_yes (j := 2) (dj := 18) (b := false) (S (P_lenT Tryd.underlying9 rfl) ?_) rfl
    refine L_yes (j := 2) (dj := 18) (b := false) (S (P_gt rfl rfl (decide_eq_true (by omega))) ?_) rfl
    refine L (S (P_pickF rfl rfl) ?_)
    refine L_nil ?_
    refine then_n ?_
    refine C_true rfl ?_
    refine C_seq ?_
    refine C_region ?_
    refine L (S_call cb_7 rfl ((hli _ hm1)) ?_)
    rintro _ w2 ⟨rfl, hm2⟩
    refine L (S (P_assign rfl) ?_)
    refine L_nil ?_
    refine then_n ?_
    refine C_ret ?_
    refine then_r ?_
    refine F_ret1 Tryd.results4 rfl ?_
    exact ⟨rfl, hm1.no hm2⟩
  have hlen := lexF_len (big := bigF) (l.length + 1) l 0
  cases hx : lexA bigF l with
  | mk toks o =>
  have hlx : lexF bigF (l.length + 1) l 0 = (toks, o) := hx
  rw [hlx] at hlen
  cases o with
  | some q =>
    obtain ⟨y, e⟩ := q
    have hpos := lex_er_pos (big := bigF) (l.length + 1) l 0 y e (by omega) (by rw [hlx])
    have hB := fun w' (h : Mv No w w') => lex_bad pf_all (hv.no h) l (inT_len (by omega)) (by omega) (most := 1000) (by omega) hx
    refine C_seq ?_
    refine C_region ?_
    refine L (S (P_assign rfl) ?_)
    refine L_nil ?_
    refine then_n ?_
    refine C_seq ?_
    refine C_seq ?_
    refine C_region ?_
    refine L (S_call cb_7 rfl ((hli _ (Mv.refl w))) ?_)
    rintro _ w1 ⟨rfl, hm1⟩
    refine L (S (P_not rfl rfl) ?_)
    refine L (S (P_move rfl) ?_)
    refine L_yes (j := 2) (dj := 18) (b := false) (S (P_move rfl) ?_) rfl
    refine L_yes (j := 2) (dj := 18) (b := false) (S (P_lenT Tryd.underlying9 rfl) ?_) rfl
    refine L_yes (j := 2) (dj := 18) (b := false) (S (P_gt rfl rfl (decide_eq_false (by omega))) ?_) rfl
    refine L (S (P_pickF rfl rfl) ?_)
    refine L_nil ?_
    refine then_n ?_
    refine C_false rfl ?_
    refine C_skip ?_
    refine then_n ?_
    refine C_seq ?_
    refine C_region ?_
    refine L (S (P_move rfl) ?_)
    refine L (S_call cb_11 rfl ((hB _ hm1)) ?_)
    rintro _ w2 ⟨rfl, hm2⟩
    refine L (S (P_move rfl) ?_)
    refine L (S (P_extract rfl rfl) ?_)
    refine L (S (P_extract rfl rfl) ?_)
    refine L (S (P_extract rfl rfl) ?_)
    refine L (S (P_assign rfl) ?_)
    refine L (S (P_assign rfl) ?_)
    refine L (S (P_assign rfl) ?_)
    refine L_nil ?_
    refine then_n ?_
    refine C_seq ?_
    refine C_seq ?_
    refine C_region ?_
    refine L (S (P_move rfl) ?_)
    refine L (S (P_ne rfl rfl (decide_eq_true (by omega))) ?_)
    refine L_nil ?_
    refine then_n ?_
    refine C_true rfl ?_
    refine C_seq ?_
    refine C_region ?_
    refine L (S (P_assign rfl) ?_)
    refine L_nil ?_
    refine then_n ?_
    refine C_ret ?_
    refine then_r ?_
    refine F_ret1 Tryd.results4 rfl ?_
    exact ⟨rfl, hm1.no hm2⟩
  | none =>
  dsimp only at hlen
  have hB := fun w' (h : Mv No w w') => lex_ok pf_all (hv.no h) l (inT_len (by omega)) (by omega) (most := 1000) (by omega) hx
  have hgood := lexF_good _ _ _ _ hlx
  obtain ⟨b, hb, hbl, hbn, hb3⟩ := blS_facts (x % 5) (by omega)
  have hol : ∀ ts e f, e ≤ l.length → lexF bigF f (l.drop e) e = (ts, none) → (outT b ts).length + e ≤ l.length + ts.length * b.length := fun ts f e => outT_len ts _ _
  have hout := hol toks 0 (l.length + 1) (Nat.zero_le _) hlx
  have hmul : toks.length * b.length ≤ 1001 * 3 := Nat.mul_le_mul (by omega) hb3
  have hTl : (b ++ outT b toks).length ≤ 6000 := by rw [List.length_append]; omega
  have hnk : ∀ i, (b ++ outT b (toks.take i)).length ≤ 6000 := fun i => by
    have := outT_take (b := b) toks i
    rw [List.length_append] at hTl ⊢
    omega
  have hge := outT_ge hbn toks
  obtain ⟨m, hm, hsame⟩ := lex_again hbl hbn toks hgood ((b ++ outT b toks).length + 1) b 0 hbl (by rw [List.length_append]; omega)
  have hC := fun w' (h : Mv No w w') => lex_ok pf_all (hv.no h) (b ++ outT b toks) (inT_len (by omega)) (by omega) (most := ((b ++ outT b toks).length : Int)) (by omega) hm
  obtain ⟨hml, hmat⟩ := sameT_at hsame
  have hbz := str_size b
  have hTz := str_size (b ++ outT b toks)
  have hflen := flat_len toks
  have hmlen := flat_len m
  refine C_seq ?_
  refine C_region ?_
  refine L (S (P_assign rfl) ?_)
  refine L_nil ?_
  refine then_n ?_
  refine C_seq ?_
  refine C_seq ?_
  refine C_region ?_
  refine L (S_call cb_7 rfl ((hli _ (Mv.refl w))) ?_)
  rintro _ w1 ⟨rfl, hm1⟩
  refine L (S (P_not rfl rfl) ?_)
  refine L (S (P_move rfl) ?_)
  refine L_yes (j := 2) (dj := 18) (b := false) (S (P_move rfl) ?_) rfl
  refine L_yes (j := 2) (dj := 18) (b := false) (S (P_lenT Tryd.underlying9 rfl) ?_) rfl
  refine L_yes (j := 2) (dj := 18) (b := false) (S (P_gt rfl rfl (decide_eq_false (by omega))) ?_) rfl
  refine L (S (P_pickF rfl rfl) ?_)
  refine L_nil ?_
  refine then_n ?_
  refine C_false rfl ?_
  refine C_skip ?_
  refine then_n ?_
  refine C_seq ?_
  refine C_region ?_
  refine L (S (P_move rfl) ?_)
  refine L (S_call cb_11 rfl ((hB _ hm1)) ?_)
  rintro _ w2 ⟨A, c, rfl, hA2, hc2, hm2⟩
  refine L (S (P_move rfl) ?_)
  refine L (S (P_extract rfl rfl) ?_)
  refine L (S (P_extract rfl rfl) ?_)
  refine L (S (P_extract rfl rfl) ?_)
  refine L (S (P_assign rfl) ?_)
  refine L (S (P_assign rfl) ?_)
  refine L (S (P_assign rfl) ?_)
  refine L_nil ?_
  refine then_n ?_
  refine C_seq ?_
  refine C_seq ?_
  refine C_region ?_
  refine L (S (P_move rfl) ?_)
  refine L (S (P_ne rfl rfl (decide_eq_false (by omega))) ?_)
  refine L_nil ?_
  refine then_n ?_
  refine C_false rfl ?_
  refine C_skip ?_
  refine then_n ?_
  refine C_seq ?_
  refine C_region ?_
  refine L (S_buildSliceN (l := [.const (.string (ByteArray.mk #[32])), .const (.string (ByteArray.mk #[9])), .const (.string (ByteArray.mk #[10])), .const (.string (ByteArray.mk #[13])), .const (.string (ByteArray.mk #[32, 10, 32]))]) Tryd.underlying24 ti_9 rfl (by simp [Value.oneCell']) rfl (by decide) (by decide) ?_)
  rintro b3 w3 hb3 hm3 hn3
  refine L (S (P_move rfl) ?_)
  refine L (S (P_rem rfl rfl (by decide) (show ((x : Nat) : Int).tmod 5 = ((x % 5 : Nat) : Int) from rfl)) ?_)
  refine L (S (P_indexAddr Tryd.underlying24 (csz_of ti_9) rfl rfl (j := x % 5) rfl (by omega) (p := x % 5) (by omega)) ?_)
  refine L (S_load sc_9 rfl (show w3.cell? ⟨b3, x % 5, none⟩ = some (.string (str b)) from hb3.cell (show (blS.map fun l => Value.string (str l))[x % 5]? = _ by rw [List.getElem?_map, hb]; rfl)) ?_)
  refine L (S (P_assign rfl) ?_)
  refine L_nil ?_
  refine then_n ?_
  refine C_seq ?_
  refine C_region ?_
  refine L (S (P_move rfl) ?_)
  refine L (S (P_assign rfl) ?_)
  refine L_nil ?_
  refine then_n ?_
  refine C_seq ?_
  refine C_seq ?_
  refine C_region ?_
  refine L (S (P_move rfl) ?_)
  refine L (S (P_lenS Tryd.underlying31 rfl) ?_)
  refine L (S (P_move rfl) ?_)
  refine L_nil ?_
  refine then_n ?_
  refine C_block ?_
  have hm03 := (hm1.no hm2).no hm3
  have hA3 := hA2.no hm3
  have h0 : str (b ++ outT b (toks.take 0)) = str b := by simp [outT]
  refine C_loop (γ := Nat) (fun i => [(5, .slice A toks.length c), (8, .string (str b)), (9, .string (str (b ++ outT b (toks.take i)))), (38, .slice A toks.length c), (39, .int .i64 (toks.length : Int)), (40, .int .i64 (i : Int))]) (fun i wr => Mv No w3 wr ∧ i ≤ toks.length) (fun i => toks.length - i) 0 (by simp only [h0]; exact (.cons rfl (.cons rfl (.cons rfl (.cons rfl (.cons rfl (.cons rfl (.nil _)))))))) ⟨Mv.refl w3, Nat.zero_le _⟩ ?_
  rintro i wr ⟨hmr, hi⟩
  by_cases hlt : i < toks.length
  · have ht := List.getElem?_eq_getElem hlt
    generalize toks[i] = t at ht
    have hfl := flat_at toks i t ht
    have hst := outT_step (b := b) ht
    have hl1 := hnk (i + 1)
    rw [hst, List.length_append] at hl1
    have e9 : (wrF t.kind t.s ++ b).length = _ := List.length_append
    have hwg := wrF_ge t.kind t.s
    have hW := fun w' => write_ret (w := w') t.kind t.s t.at_ (by omega)
    obtain ⟨ba, oa, rfl, hra⟩ := (hA3.no hmr).form (i := 3 * i) (by omega)
    have hra' : Row wr ba (oa + 3 * i) (tkC t.kind t.s t.at_) := by rw [← hfl]; exact (hra.drop (3 * i)).take 3
    have hz1 := str_size (wrF t.kind t.s)
    have hz2 := str_size (b ++ outT b (toks.take i))
    have hz3 : (str (wrF t.kind t.s) ++ str b).size = (wrF t.kind t.s).length + b.length := by rw [str_append, str_size, List.length_append]
    have hst' : str (b ++ outT b (toks.take i)) ++ (str (wrF t.kind t.s) ++ str b) = str (b ++ outT b (toks.take (i + 1))) := by rw [hst, str_append, str_append]
    refine C_seq ?_
    refine C_region ?_
    refine L (S (P_lt rfl rfl (decide_eq_true (by omega))) ?_)
    refine L_nil ?_
    refine then_n ?_
    refine C_seq ?_
    refine C_true rfl ?_
    refine C_skip ?_
    refine then_n ?_
    refine C_seq ?_
    refine C_block ?_
    refine C_seq ?_
    refine C_region ?_
    refine L (S (P_indexAddr Tryd.underlying31 (csz_of ti_36) rfl rfl (j := i) rfl (by omega) (p := oa + 3 * i) (by omega)) ?_)
    refine L (S_loadS st_36 rfl hra' rfl ?_)
    refine L (S_alloc (zs := [(.int .i64 0), (.string (ByteArray.mk #[])), (.int .i64 0)]) ti_36 rfl ?_)
    rintro b11 w4 hb11 hm4 hn4
    refine L (S_storeS ti_36 rfl rfl (tk_one t.kind t.s t.at_) rfl hb11 (by exact Nat.le_refl 3) ?_)
    rintro w5 hb5 hm5
    refine L_nil ?_
    refine then_n ?_
    have hb5' : Blk w5 b11 (tkC t.kind t.s t.at_) 36 := hb5
    have hm45 : Mv No wr w5 := hm4.new hm5 hn4
    refine C_region ?_
    refine L (S (P_move rfl) ?_)
    refine L (S_loadS st_36 rfl hb5'.row rfl ?_)
    refine L (S_call cb_12 rfl ((hW _)) ?_)
    rintro _ w6 ⟨rfl, hm6⟩
    refine L (S (P_move rfl) ?_)
    refine L (S (P_addT rfl rfl (by omega)) ?_)
    refine L (S (P_addT rfl rfl (by rw [hz3, hz2]; show _ ≤ _; omega)) ?_)
    refine L (S (P_assign rfl) ?_)
    refine L_nil ?_
    refine blk_n ?_
    refine then_n ?_
    refine C_region ?_
    refine L (S (P_add rfl rfl (wI64 (c := ((i + 1 : Nat) : Int)) (by omega))) ?_)
    refine L (S (P_move rfl) ?_)
    refine L_nil ?_
    refine then_n ?_
    exact ⟨rfl, i + 1, by rw [← hst']; exact (.cons rfl (.cons rfl (.cons rfl (.cons rfl (.cons rfl (.cons rfl (.nil _))))))), ⟨(hmr.no hm45).no hm6, by omega⟩, by omega⟩
  · have hil : i = toks.length := by omega
    subst hil
    have hCr := hC _ (hm03.no hmr)
    have htl : toks.take toks.length = toks := List.take_length
    rw [htl]
    refine C_seq ?_
    refine C_region ?_
    refine L (S (P_lt rfl rfl (decide_eq_false (by omega))) ?_)
    refine L_nil ?_
    refine then_n ?_
    refine C_seq ?_
    refine C_false rfl ?_
    refine C_exit ?_
    refine then_x ?_
    refine then_x ?_
    refine blk_x ?_
    refine then_n ?_
    refine C_seq ?_
    refine C_region ?_
    refine L (S (P_move rfl) ?_)
    refine L (S (P_move rfl) ?_)
    refine L (S (P_lenT Tryd.underlying9 rfl) ?_)
    refine L (S_call cb_11 rfl ((by rw [hTz]; exact hCr)) ?_)
    rintro _ w4 ⟨B, d, rfl, hB4, hd4, hm4⟩
    refine L (S (P_move rfl) ?_)
    refine L (S (P_extract rfl rfl) ?_)
    refine L (S (P_extract rfl rfl) ?_)
    refine L (S (P_extract rfl rfl) ?_)
    refine L (S (P_assign rfl) ?_)
    refine L (S (P_assign rfl) ?_)
    refine L (S (P_assign rfl) ?_)
    refine L_nil ?_
    refine then_n ?_
    refine C_seq ?_
    refine C_seq ?_
    refine C_region ?_
    refine L (S (P_move rfl) ?_)
    refine L (S (P_ne rfl rfl (decide_eq_false (by omega))) ?_)
    refine L (S (P_move rfl) ?_)
    refine L_yes (j := 2) (dj := 61) (b := false) (S (P_move rfl) ?_) rfl
    refine L_yes (j := 2) (dj := 61) (b := false) (S (P_lenS Tryd.underlying31 rfl) ?_) rfl
    refine L_yes (j := 2) (dj := 61) (b := false) (S (P_move rfl) ?_) rfl
    refine L_yes (j := 2) (dj := 61) (b := false) (S (P_lenS Tryd.underlying31 rfl) ?_) rfl
    refine L_yes (j := 2) (dj := 61) (b := false) (S (P_ne rfl rfl (decide_eq_false (by omega))) ?_) rfl
    refine L (S (P_pickF rfl rfl) ?_)
    refine L_nil ?_
    refine then_n ?_
    refine C_false rfl ?_
    refine C_skip ?_
    refine then_n ?_
    refine C_seq ?_
    refine C_seq ?_
    refine C_region ?_
    refine L (S (P_move rfl) ?_)
    refine L (S (P_lenS Tryd.underlying31 rfl) ?_)
    refine L (S (P_move rfl) ?_)
    refine L_nil ?_
    refine then_n ?_
    refine C_block ?_
    have hA4 := (hA3.no hmr).no hm4
    have hm04 := (hm03.no hmr).no hm4
    refine C_loop (γ := Nat) (fun i => [(5, .slice A toks.length c), (12, .slice B m.length d), (68, .slice A toks.length c), (69, .int .i64 (toks.length : Int)), (70, .int .i64 (i : Int))]) (fun i wr => Mv No w4 wr ∧ i ≤ toks.length) (fun i => toks.length - i) 0 (.cons rfl (.cons rfl (.cons rfl (.cons rfl (.cons rfl (.nil _)))))) ⟨Mv.refl w4, Nat.zero_le _⟩ ?_
    rintro i wr ⟨hmr, hi⟩
    by_cases hlt : i < toks.length
    · have ht := List.getElem?_eq_getElem hlt
      have hy := List.getElem?_eq_getElem (show i < m.length by omega)
      generalize toks[i] = t at ht
      generalize m[i] = y at hy
      obtain ⟨hks, hss⟩ := hmat i y t hy ht
      have hfl := flat_at toks i t ht
      have hfm := flat_at m i y hy
      obtain ⟨ba, oa, rfl, hra⟩ := (hA4.no hmr).form (i := 3 * i) (by omega)
      obtain ⟨bb, ob, rfl, hrb⟩ := (hB4.no hmr).form (i := 3 * i) (by omega)
      have hra' : Row wr ba (oa + 3 * i) (tkC t.kind t.s t.at_) := by rw [← hfl]; exact (hra.drop (3 * i)).take 3
      have hrb' : Row wr bb (ob + 3 * i) (tkC y.kind y.s y.at_) := by rw [← hfm]; exact (hrb.drop (3 * i)).take 3
      rw [hks, hss] at hrb'
      refine C_seq ?_
      refine C_region ?_
      refine L (S (P_lt rfl rfl (decide_eq_true (by omega))) ?_)
      refine L_nil ?_
      refine then_n ?_
      refine C_seq ?_
      refine C_true rfl ?_
      refine C_skip ?_
      refine then_n ?_
      refine C_seq ?_
      refine C_block ?_
      refine C_seq ?_
      refine C_region ?_
      refine L (S (P_move rfl) ?_)
      refine L (S (P_indexAddr Tryd.underlying31 (csz_of ti_36) rfl rfl (j := i) rfl (by omega) (p := oa + 3 * i) (by omega)) ?_)
      refine L (S_loadS st_36 rfl hra' rfl ?_)
      refine L (S_alloc (zs := [(.int .i64 0), (.string (ByteArray.mk #[])), (.int .i64 0)]) ti_36 rfl ?_)
      rintro b15 w5 hb15 hm5 hn5
      refine L (S (P_assign rfl) ?_)
      refine L (S_storeS ti_36 rfl rfl (tk_one t.kind t.s t.at_) rfl hb15 (by exact Nat.le_refl 3) ?_)
      rintro w6 hb6 hm6
      refine L_nil ?_
      refine then_n ?_
      refine C_seq ?_
      have hb6' : Blk w6 b15 (tkC t.kind t.s t.at_) 36 := hb6
      have hm56 : Mv No wr w6 := hm5.new hm6 hn5
      have hrb6 := hrb'.no hm56
      refine C_drawQ 18 mixed rfl (fun hH => ?_)
      refine H_pure (i := 0) rfl (PureV.toS (P_move rfl)) ?_ (by assumption) (by decide +kernel) (by decide +kernel) (by decide +kernel) (fun _ _ _ _ h => h) rfl rfl rfl
      refine H_pure (i := 1) rfl (PureV.toS (P_move rfl)) ?_ (by assumption) (by decide +kernel) (by decide +kernel) (by decide +kernel) (fun _ _ _ _ h => h) rfl rfl rfl
      refine H_pure (i := 2) rfl (PureV.toS (P_indexAddr Tryd.underlying31 (csz_of ti_36) rfl rfl (j := i) rfl (by omega) (p := ob + 3 * i) (by omega))) ?_ (by assumption) (by decide +kernel) (by decide +kernel) (by decide +kernel) (fun _ _ _ _ h => h) rfl rfl rfl
      refine H_pure (i := 3) rfl (PureV.toS (P_fieldAddr fo_36_0 rfl)) ?_ (by assumption) (by decide +kernel) (by decide +kernel) (by decide +kernel) (fun _ _ _ _ h => h) rfl rfl rfl
      refine H_pure (i := 4) rfl (PS_load sc_3 rfl (fun _ h => (hrb6.no h) 0 _ rfl)) ?_ (by assumption) (by decide +kernel) (by decide +kernel) (by decide +kernel) (fun _ _ _ _ h => h) rfl rfl rfl
      refine H_pure (i := 5) rfl (PureV.toS (P_fieldAddr fo_36_0 rfl)) ?_ (by assumption) (by decide +kernel) (by decide +kernel) (by decide +kernel) (fun _ _ _ _ h => h) rfl rfl rfl
      refine H_pure (i := 6) rfl (PS_load sc_3 rfl (fun _ h => (hb6'.no h).cell (i := 0) rfl)) ?_ (by assumption) (by decide +kernel) (by decide +kernel) (by decide +kernel) (fun _ _ _ _ h => h) rfl rfl rfl
      refine H_pure (i := 7) rfl (PureV.toS (P_ne rfl rfl (decide_eq_false (by omega)))) ?_ (by assumption) (by decide +kernel) (by decide +kernel) (by decide +kernel) (fun _ _ _ _ h => h) rfl rfl rfl
      refine H_pure (i := 8) rfl (PureV.toS (P_move rfl)) ?_ (by assumption) (by decide +kernel) (by decide +kernel) (by decide +kernel) (fun _ _ _ _ h => h) rfl rfl rfl
      refine H_pureY (i := 9) (j := 8) (dj := 83) (b := false) rfl (PureV.toS (P_move rfl)) rfl ?_ (by assumption) (by decide +kernel) (by decide +kernel) (by decide +kernel) (fun _ _ _ _ h => h) rfl rfl rfl rfl
      refine H_pureY (i := 10) (j := 8) (dj := 83) (b := false) rfl (PureV.toS (P_move rfl)) rfl ?_ (by assumption) (by decide +kernel) (by decide +kernel) (by decide +kernel) (fun _ _ _ _ h => h) rfl rfl rfl rfl
      refine H_pureY (i := 11) (j := 8) (dj := 83) (b := false) rfl (PureV.toS (P_indexAddr Tryd.underlying31 (csz_of ti_36) rfl rfl (j := i) rfl (by omega) (p := ob + 3 * i) (by omega))) rfl ?_ (by assumption) (by decide +kernel) (by decide +kernel) (by decide +kernel) (fun _ _ _ _ h => h) rfl rfl rfl rfl
      refine H_pureY (i := 12) (j := 8) (dj := 83) (b := false) rfl (PureV.toS (P_fieldAddr fo_36_1 rfl)) rfl ?_ (by assumption) (by decide +kernel) (by decide +kernel) (by decide +kernel) (fun _ _ _ _ h => h) rfl rfl rfl rfl
      refine H_pureY (i := 13) (j := 8) (dj := 83) (b := false) rfl (PS_load sc_9 rfl (fun _ h => (hrb6.no h) 1 _ rfl)) rfl ?_ (by assumption) (by decide +kernel) (by decide +kernel) (by decide +kernel) (fun _ _ _ _ h => h) rfl rfl rfl rfl
      refine H_pureY (i := 14) (j := 8) (dj := 83) (b := false) rfl (PureV.toS (P_fieldAddr fo_36_1 rfl)) rfl ?_ (by assumption) (by decide +kernel) (by decide +kernel) (by decide +kernel) (fun _ _ _ _ h => h) rfl rfl rfl rfl
      refine H_pureY (i := 15) (j := 8) (dj := 83) (b := false) rfl (PS_load sc_9 rfl (fun _ h => (hb6'.no h).cell (i := 1) rfl)) rfl ?_ (by assumption) (by decide +kernel) (by decide +kernel) (by decide +kernel) (fun _ _ _ _ h => h) rfl rfl rfl rfl
      refine H_pureY (i := 16) (j := 8) (dj := 83) (b := false) rfl (PureV.toS (P_neT rfl rfl (decide_eq_false (fun h => h rfl)))) rfl ?_ (by assumption) (by decide +kernel) (by decide +kernel) (by decide +kernel) (fun _ _ _ _ h => h) rfl rfl rfl rfl
      refine H_pure (i := 17) rfl (PureV.toS (P_pickF rfl rfl)) ?_ (by assumption) (by decide +kernel) (by decide +kernel) (by decide +kernel) (fun _ _ _ _ h => h) rfl rfl rfl
      refine H_done (by decide +kernel) ?_
      refine then_n ?_
      refine C_false rfl ?_
      refine C_skip ?_
      refine blk_n ?_
      refine then_n ?_
      refine C_region ?_
      refine L (S (P_add rfl rfl (wI64 (c := ((i + 1 : Nat) : Int)) (by omega))) ?_)
      refine L (S (P_move rfl) ?_)
      refine L_nil ?_
      refine then_n ?_
      exact ⟨rfl, i + 1, (.cons rfl (.cons rfl (.cons rfl (.cons rfl (.cons rfl (.nil _)))))), ⟨(hmr.no hm56).no hH, by omega⟩, by omega⟩
    · refine C_seq ?_
      refine C_region ?_
      refine L (S (P_lt rfl rfl (decide_eq_false (by omega))) ?_)
      refine L_nil ?_
      refine then_n ?_
      refine C_seq ?_
      refine C_false rfl ?_
      refine C_exit ?_
      refine then_x ?_
      refine then_x ?_
      refine blk_x ?_
      refine then_n ?_
      refine C_seq ?_
      refine C_region ?_
      refine L (S (P_assign rfl) ?_)
      refine L_nil ?_
      refine then_n ?_
      refine C_ret ?_
      refine F_ret1 Tryd.results4 rfl ?_
      exact ⟨rfl, hm04.no hmr⟩
theorem lexAgain_int (hv : Vr w) (l : List UInt8) (hl : l.length < 9223372036854775808) (x : Int) (hx : 0 ≤ x ∧ x < 256) : Ret Tryd.prog 4 [.string (str l), .int .u8 x] w fun v w' => v = .bool true ∧ Mv No w w' := by
  obtain ⟨n, rfl⟩ := Int.eq_ofNat_of_zero_le hx.1
  exact lexAgain_ret hv l hl n (by have := hx.2; omega)
end
end Go.Proofs.YtmfogoehocjedaaDoor
