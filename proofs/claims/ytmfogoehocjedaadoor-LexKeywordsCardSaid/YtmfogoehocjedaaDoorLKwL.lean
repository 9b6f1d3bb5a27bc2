import Derived.Test.YtmfogoehocjedaaDoorLRefKw
import Derived.Test.YtmfogoehocjedaaDoorLLives
namespace Go.Proofs.YtmfogoehocjedaaDoor
open Go.RowKit
set_option maxRecDepth 20000

theorem kwF_ne {l k : List UInt8} (h : kwF l = some k) : k ≠ [] := by
  unfold kwF at h
  split at h
  · rename_i hm
    cases h
    exact (words_caps _ hm).1
  · cases h
theorem words_short : ∀ u ∈ wordsL, u.length ≤ 100 := by decide
section
variable {w : World}
set_option maxHeartbeats 2000000 in
theorem lexKeywords_ret (l : List UInt8) (hl : l.length ≤ maxLen) (turn : Int) (hx : Mx w) :
    Ret Tryd.prog 3 [.string (str l), .int .u64 turn] w fun v w' => v = .bool true ∧ Mv No w w' := by
  have hsz := str_size l
  unfold maxLen at hl
  refine F_enter Tryd.func3 Tryd.ntmps3 rfl rfl ?_
  refine C_seq ?_
  refine C_region ?_
  refine L (S (P_assign rfl) ?_)
  refine L_nil ?_
  refine then_n ?_
  refine C_seq ?_
  refine C_seq ?_
  by_cases hbig : 100 < l.length
  · refine C_region ?_
    refine L (S_call cb_7 rfl (lives_ret hx) ?_)
    rintro _ w1 ⟨rfl, hm1⟩
    refine L (S (P_not rfl rfl) ?_)
    refine L (S (P_move rfl) ?_)
    refine L_yes (j := 2) (dj := 15) (b := false) (S (P_move rfl) ?_) rfl
    refine L_yes (j := 2) (dj := 15) (b := false) (S (P_lenT Tryd.underlying9 rfl) ?_) rfl
    refine L_yes (j := 2) (dj := 15) (b := false) (S (P_gt rfl rfl (decide_eq_true (by omega))) ?_) rfl
    refine L (S (P_pickF rfl rfl) ?_)
    refine L_nil ?_
    refine then_n ?_
    refine C_true rfl ?_
    refine C_seq ?_
    refine C_region ?_
    refine L (S_call cb_7 rfl (lives_ret (hx.no hm1)) ?_)
    rintro _ w2 ⟨rfl, hm2⟩
    refine L (S (P_assign rfl) ?_)
    refine L_nil ?_
    refine then_n ?_
    refine C_ret ?_
    refine then_r ?_
    refine F_ret1 Tryd.results3 rfl ?_
    exact ⟨rfl, hm1.no hm2⟩
  refine C_region ?_
  refine L (S_call cb_7 rfl (lives_ret hx) ?_)
  rintro _ w1 ⟨rfl, hm1⟩
  refine L (S (P_not rfl rfl) ?_)
  refine L (S (P_move rfl) ?_)
  refine L_yes (j := 2) (dj := 15) (b := false) (S (P_move rfl) ?_) rfl
  refine L_yes (j := 2) (dj := 15) (b := false) (S (P_lenT Tryd.underlying9 rfl) ?_) rfl
  refine L_yes (j := 2) (dj := 15) (b := false) (S (P_gt rfl rfl (decide_eq_false (by omega))) ?_) rfl
  refine L (S (P_pickF rfl rfl) ?_)
  refine L_nil ?_
  refine then_n ?_
  refine C_false rfl ?_
  refine C_skip ?_
  refine then_n ?_
  refine C_seq ?_
  refine C_region ?_
  refine L (S_call cb_8 rfl (words_ret) ?_)
  rintro _ w2 ⟨b2, rfl, hb2, hn2, hm2⟩
  refine L (S (P_assign rfl) ?_)
  refine L_nil ?_
  refine then_n ?_
  refine C_seq ?_
  refine C_seq ?_
  have hone : ∀ v ∈ [Value.string (str l)], v.oneCell' = true := fun v hv => by rw [show v = .string (str l) by simpa using hv]; rfl
  have hlen : wordsV.length = 35 * 1 := rfl
  refine C_region ?_
  refine L (S (P_move rfl) ?_)
  refine L (S (P_move rfl) ?_)
  refine L (S_buildSlice1 Tryd.underlying24 ti_9 rfl rfl rfl ?_)
  rintro b3 w3 hb3 hm3 hn3
  refine L (S_appendV Tryd.underlying24 ti_9 rfl (by decide) rfl ((hb2.no hm3).own (n := 35) hlen (by decide) (Nat.le_refl b2) (by decide)) rfl (.inr ⟨b3, 0, rfl, hb3.row⟩) rfl hone (Nat.le_of_lt (hb2.no hm3).lt) (by decide) (by decide) ?_)
  rintro A4 c4 w4 ho4 hm4
  refine L (S (P_lenS Tryd.underlying24 rfl) ?_)
  refine L (S (P_move rfl) ?_)
  refine L_nil ?_
  refine then_n ?_
  refine C_block ?_
  have hm24 : Mv No w1 w4 := (hm2.no hm3).trans hm4 (fun y hy he => by have hyb : b2 = y := Option.some.inj he; omega)
  have hm04 : Mv No w w4 := hm1.no hm24
  have hr4 : SlR w4 A4 ((wordsL ++ [l]).map fun x => .string (str x)) := by
    obtain ⟨A, c, he, hr, _⟩ := own_reads ho4
    cases he
    simpa [wordsV] using hr
  clear hb2 hb3 ho4 hone
  have hshort : ∀ x ∈ wordsL ++ [l], x.length ≤ 100 := fun x hx' => by
    rcases List.mem_append.1 hx' with h | h
    · exact words_short x h
    · rw [show x = l by simpa using h]; omega
  refine C_loop (γ := Nat) (fun i => [(1, .int .u64 turn), (25, .slice A4 36 c4), (26, .int .i64 36), (27, .int .i64 (i : Int))]) (fun i wr => i ≤ 36 ∧ Mv No w4 wr) (fun i => 36 - i) 0 (.cons rfl (.cons rfl (.cons rfl (.cons rfl (.nil _))))) ⟨by omega, Mv.refl w4⟩ ?_
  rintro i wr ⟨hi, hmr⟩
  have hmwr : Mv No w wr := hm04.no hmr
  refine C_seq ?_
  refine C_region ?_
  refine L (S (P_lt rfl rfl rfl) ?_)
  refine L_nil ?_
  refine then_n ?_
  refine C_seq ?_
  refine C_ifp rfl rfl (fun hlt => ?_) (fun hge => ?_)
  · have hi36 : i < (wordsL ++ [l]).length := by show i < 36; omega
    obtain ⟨x, hxi⟩ : ∃ x, (wordsL ++ [l])[i]? = some x := ⟨_, List.getElem?_eq_getElem hi36⟩
    have hxl := hshort x (List.mem_of_getElem? hxi)
    obtain ⟨b, o, rfl, hrow⟩ := (hr4.no hmr).form (i := 0) (by show 0 < 36; omega)
    have hcell : wr.cell? ⟨b, o + i, none⟩ = some (.string (str x)) := hrow i _ (by rw [List.getElem?_map, hxi]; rfl)
    clear hxi
    refine C_skip ?_
    refine then_n ?_
    refine C_seq ?_
    refine C_block ?_
    refine C_seq ?_
    refine C_region ?_
    refine L (S (P_indexAddr Tryd.underlying24 (csz_of ti_9) rfl rfl (j := i) rfl (by omega) (p := o + i) (by omega)) ?_)
    refine L (S_load sc_9 rfl hcell ?_)
    refine L (S (P_assign rfl) ?_)
    refine L_nil ?_
    refine then_n ?_
    refine C_seq ?_
    refine C_region ?_
    refine L (S (P_move rfl) ?_)
    refine L (S_strByt Tryd.underlying9 Tryd.underlying26 Tryd.underlying5 rfl ?_)
    rintro b8 w5 c8 hb5 hm5 hn5
    refine L (S (P_assign rfl) ?_)
    refine L_nil ?_
    refine then_n ?_
    refine C_seq ?_
    refine C_seq ?_
    refine C_region ?_
    refine L (S (P_move rfl) ?_)
    refine L (S (P_lenS Tryd.underlying26 rfl) ?_)
    refine L (S (P_move rfl) ?_)
    refine L_nil ?_
    refine then_n ?_
    refine C_block ?_
    refine C_loop (γ := Nat × List UInt8) (fun q => [(1, .int .u64 turn), (8, .slice (some ⟨b8, 0, none⟩) x.length c8), (25, .slice (some ⟨b, o, none⟩) 36 c4), (26, .int .i64 36), (27, .int .i64 (i : Int)), (33, .slice (some ⟨b8, 0, none⟩) x.length c8), (34, .int .i64 (x.length : Int)), (35, .int .i64 (q.1 : Int))]) (fun q wq => q.1 ≤ x.length ∧ q.2.length = x.length ∧ Byt wq b8 5 q.2 ∧ Mv No wr wq) (fun q => x.length - q.1) (0, x) (.cons rfl (.cons rfl (.cons rfl (.cons rfl (.cons rfl (.cons rfl (.cons rfl (.cons rfl (.nil _))))))))) ⟨Nat.zero_le _, rfl, hb5, hm5⟩ ?_
    rintro ⟨j, m⟩ wq ⟨hj, hml, hbm, hmq⟩
    dsimp only at hj hml hbm
    dsimp only
    refine C_seq ?_
    refine C_region ?_
    refine L (S (P_lt rfl rfl rfl) ?_)
    refine L_nil ?_
    refine then_n ?_
    refine C_seq ?_
    refine C_ifp rfl rfl (fun hlt2 => ?_) (fun hge2 => ?_)
    · have hjl : j < x.length := by omega
      obtain ⟨c, hc⟩ : ∃ c, m[j]? = some c := ⟨_, List.getElem?_eq_getElem (by omega)⟩
      have hcell2 := hbm.cell hc
      have hcl := c.toNat_lt
      refine C_skip ?_
      refine then_n ?_
      refine C_seq ?_
      refine C_block ?_
      refine C_seq ?_
      refine C_region ?_
      refine L (S (P_move rfl) ?_)
      refine L (S (P_indexAddr Tryd.underlying26 (csz_of ti_5) rfl rfl (j := j) rfl hjl (p := j) (by omega)) ?_)
      refine L (S_load sc_5 rfl hcell2 ?_)
      refine L (S (P_assign rfl) ?_)
      refine L (S (P_assign rfl) ?_)
      refine L_nil ?_
      refine then_n ?_
      refine C_seq ?_
      refine C_cutg (γ := Bool) (fun β => [(1, .int .u64 turn), (8, .slice (some ⟨b8, 0, none⟩) x.length c8), (9, .int .i64 (j : Int)), (10, bv c), (25, .slice (some ⟨b, o, none⟩) 36 c4), (26, .int .i64 36), (27, .int .i64 (i : Int)), (33, .slice (some ⟨b8, 0, none⟩) x.length c8), (34, .int .i64 (x.length : Int)), (35, .int .i64 (j : Int)), (53, .bool β)]) (fun β wc => wc = wq ∧ (β = true → 65 ≤ c.toNat ∧ c.toNat ≤ 90)) ?_ ?_
      · by_cases hbit : bitsOp .and .u64 (turn.fdiv (2 ^ (min ((j : Int).tmod 64).toNat IntKind.u64.bits))) 1 = 1
        · by_cases h1 : 65 ≤ c.toNat
          · by_cases h2 : c.toNat ≤ 90
            · refine C_region ?_
              refine L (S (P_move rfl) ?_)
              refine L (S (P_move rfl) ?_)
              refine L (S (P_rem rfl rfl (by decide) rfl) ?_)
              refine L (S (P_shr rfl rfl (Int.tmod_nonneg _ (by omega)) rfl) ?_)
              refine L (S (P_and rfl rfl rfl) ?_)
              refine L (S (P_eq rfl rfl (decide_eq_true hbit)) ?_)
              refine L (S (P_move rfl) ?_)
              refine L_yes (j := 6) (dj := 46) (b := true) (S (P_move rfl) ?_) rfl
              refine L_yes (j := 6) (dj := 46) (b := true) (S (P_ge rfl rfl (decide_eq_true (by omega))) ?_) rfl
              refine L (S (P_pickT rfl rfl) ?_)
              refine L (S (P_move rfl) ?_)
              refine L_yes (j := 10) (dj := 50) (b := true) (S (P_move rfl) ?_) rfl
              refine L_yes (j := 10) (dj := 50) (b := true) (S (P_le rfl rfl (decide_eq_true (by omega))) ?_) rfl
              refine L (S (P_pickT rfl rfl) ?_)
              refine L_nil ?_
              refine then_n ?_
              exact ⟨rfl, true, .cons rfl (.cons rfl (.cons rfl (.cons rfl (.cons rfl (.cons rfl (.cons rfl (.cons rfl (.cons rfl (.cons rfl (.cons rfl (.nil _))))))))))), rfl, fun _ => ⟨h1, h2⟩⟩
            · refine C_region ?_
              refine L (S (P_move rfl) ?_)
              refine L (S (P_move rfl) ?_)
              refine L (S (P_rem rfl rfl (by decide) rfl) ?_)
              refine L (S (P_shr rfl rfl (Int.tmod_nonneg _ (by omega)) rfl) ?_)
              refine L (S (P_and rfl rfl rfl) ?_)
              refine L (S (P_eq rfl rfl (decide_eq_true hbit)) ?_)
              refine L (S (P_move rfl) ?_)
              refine L_yes (j := 6) (dj := 46) (b := true) (S (P_move rfl) ?_) rfl
              refine L_yes (j := 6) (dj := 46) (b := true) (S (P_ge rfl rfl (decide_eq_true (by omega))) ?_) rfl
              refine L (S (P_pickT rfl rfl) ?_)
              refine L (S (P_move rfl) ?_)
              refine L_yes (j := 10) (dj := 50) (b := true) (S (P_move rfl) ?_) rfl
              refine L_yes (j := 10) (dj := 50) (b := true) (S (P_le rfl rfl (decide_eq_false (by omega))) ?_) rfl
              refine L (S (P_pickT rfl rfl) ?_)
              refine L_nil ?_
              refine then_n ?_
              exact ⟨rfl, false, .cons rfl (.cons rfl (.cons rfl (.cons rfl (.cons rfl (.cons rfl (.cons rfl (.cons rfl (.cons rfl (.cons rfl (.cons rfl (.nil _))))))))))), rfl, fun h => by cases h⟩
          · refine C_region ?_
            refine L (S (P_move rfl) ?_)
            refine L (S (P_move rfl) ?_)
            refine L (S (P_rem rfl rfl (by decide) rfl) ?_)
            refine L (S (P_shr rfl rfl (Int.tmod_nonneg _ (by omega)) rfl) ?_)
            refine L (S (P_and rfl rfl rfl) ?_)
            refine L (S (P_eq rfl rfl (decide_eq_true hbit)) ?_)
            refine L (S (P_move rfl) ?_)
            refine L_yes (j := 6) (dj := 46) (b := true) (S (P_move rfl) ?_) rfl
            refine L_yes (j := 6) (dj := 46) (b := true) (S (P_ge rfl rfl (decide_eq_false (by omega))) ?_) rfl
            refine L (S (P_pickT rfl rfl) ?_)
            refine L (S (P_move rfl) ?_)
            refine L_no (j := 10) (dj := 50) (b := true) (b' := false) (d := 51) rfl ?_
            refine L_no (j := 10) (dj := 50) (b := true) (b' := false) (d := 52) rfl ?_
            refine L (S (P_pickF rfl rfl) ?_)
            refine L_nil ?_
            refine then_n ?_
            exact ⟨rfl, false, .cons rfl (.cons rfl (.cons rfl (.cons rfl (.cons rfl (.cons rfl (.cons rfl (.cons rfl (.cons rfl (.cons rfl (.cons rfl (.nil _))))))))))), rfl, fun h => by cases h⟩
        · refine C_region ?_
          refine L (S (P_move rfl) ?_)
          refine L (S (P_move rfl) ?_)
          refine L (S (P_rem rfl rfl (by decide) rfl) ?_)
          refine L (S (P_shr rfl rfl (Int.tmod_nonneg _ (by omega)) rfl) ?_)
          refine L (S (P_and rfl rfl rfl) ?_)
          refine L (S (P_eq rfl rfl (decide_eq_false hbit)) ?_)
          refine L (S (P_move rfl) ?_)
          refine L_no (j := 6) (dj := 46) (b := true) (b' := false) (d := 47) rfl ?_
          refine L_no (j := 6) (dj := 46) (b := true) (b' := false) (d := 48) rfl ?_
          refine L (S (P_pickF rfl rfl) ?_)
          refine L (S (P_move rfl) ?_)
          refine L_no (j := 10) (dj := 50) (b := true) (b' := false) (d := 51) rfl ?_
          refine L_no (j := 10) (dj := 50) (b := true) (b' := false) (d := 52) rfl ?_
          refine L (S (P_pickF rfl rfl) ?_)
          refine L_nil ?_
          refine then_n ?_
          exact ⟨rfl, false, .cons rfl (.cons rfl (.cons rfl (.cons rfl (.cons rfl (.cons rfl (.cons rfl (.cons rfl (.cons rfl (.cons rfl (.cons rfl (.nil _))))))))))), rfl, fun h => by cases h⟩
      rintro β wz ⟨rfl, hβ⟩ f' hf'
      refine C_forget hf' ?_
      clear hf' f'
      cases β with
      | true =>
        obtain ⟨h1, h2⟩ := hβ rfl
        refine C_true rfl ?_
        refine C_region ?_
        refine L (S (P_move rfl) ?_)
        refine L (S (P_move rfl) ?_)
        refine L (S (P_move rfl) ?_)
        refine L (S (P_add rfl rfl (wU8 (c := ((c.toNat + 32 : Nat) : Int)) (by omega))) ?_)
        refine L (S (P_indexAddr Tryd.underlying26 (csz_of ti_5) rfl rfl (j := j) rfl hjl (p := j) (by omega)) ?_)
        refine L (S_storeByt ti_5 rfl (by rw [← bv_ofNat (x := c.toNat + 32) (by omega)]; rfl) hbm (by omega) ?_)
        rintro w6 hb6 hm6
        refine L_nil ?_
        refine blk_n ?_
        refine then_n ?_
        refine C_region ?_
        refine L (S (P_add rfl rfl (wI64 (c := ((j + 1 : Nat) : Int)) (by omega))) ?_)
        refine L (S (P_move rfl) ?_)
        refine L_nil ?_
        refine then_n ?_
        exact ⟨rfl, (j + 1, m.set j (UInt8.ofNat (c.toNat + 32))), .cons rfl (.cons rfl (.cons rfl (.cons rfl (.cons rfl (.cons rfl (.cons rfl (.cons rfl (.nil _)))))))), ⟨hjl, by simpa using hml, hb6, hmq.new hm6 hn5⟩, by dsimp only; omega⟩
      | false =>
        refine C_false rfl ?_
        refine C_skip ?_
        refine blk_n ?_
        refine then_n ?_
        refine C_region ?_
        refine L (S (P_add rfl rfl (wI64 (c := ((j + 1 : Nat) : Int)) (by omega))) ?_)
        refine L (S (P_move rfl) ?_)
        refine L_nil ?_
        refine then_n ?_
        exact ⟨rfl, (j + 1, m), .cons rfl (.cons rfl (.cons rfl (.cons rfl (.cons rfl (.cons rfl (.cons rfl (.cons rfl (.nil _)))))))), ⟨hjl, hml, hbm, hmq⟩, by dsimp only; omega⟩
    · have hkw := kw_ret (w := wq) m ((hx.no hmwr).no hmq) (by omega)
      cases hk : kwF m with
      | some k =>
        rw [hk] at hkw
        have hne : ¬ str k = ⟨#[]⟩ := fun h => kwF_ne hk (str_inj (b := []) h)
        refine C_exit ?_
        refine then_x ?_
        refine then_x ?_
        refine blk_x ?_
        refine then_n ?_
        refine C_seq ?_
        refine C_region ?_
        refine L (S (P_move rfl) ?_)
        refine L (S_bytesStr Tryd.underlying26 Tryd.underlying5 Tryd.underlying9 rfl hbm.slr hml ?_)
        refine L (S_call cb_9 rfl (hkw) ?_)
        rintro _ w6 ⟨rfl, hm6⟩
        refine L (S (P_move rfl) ?_)
        refine L (S (P_extract rfl rfl) ?_)
        refine L (S (P_extract rfl rfl) ?_)
        refine L (S (P_assign rfl) ?_)
        refine L (S (P_assign rfl) ?_)
        refine L_nil ?_
        refine then_n ?_
        refine C_seq ?_
        refine C_region ?_
        refine L (S (P_move rfl) ?_)
        refine L (S (P_move rfl) ?_)
        refine L (S_bytesStr Tryd.underlying26 Tryd.underlying5 Tryd.underlying9 rfl (hbm.no hm6).slr hml ?_)
        refine L (S_call cb_10 rfl ((by have := refkw_ret (w := w6) m (by omega); rw [hk] at this; exact this)) ?_)
        rintro _ w7 ⟨rfl, hm7⟩
        refine L (S (P_neT rfl rfl (decide_eq_false (by simp))) ?_)
        refine L (S (P_move rfl) ?_)
        refine L_yes (j := 5) (dj := 71) (b := false) (S (P_move rfl) ?_) rfl
        refine L_yes (j := 5) (dj := 71) (b := false) (S (P_move rfl) ?_) rfl
        refine L_yes (j := 5) (dj := 71) (b := false) (S (P_neT rfl rfl (decide_eq_true hne)) ?_) rfl
        refine L_yes (j := 5) (dj := 71) (b := false) (S (P_neB (β := false) Tryd.underlying4 rfl rfl rfl) ?_) rfl
        refine L (S (P_pickF rfl rfl) ?_)
        refine L_nil ?_
        refine then_n ?_
        refine C_false rfl ?_
        refine C_skip ?_
        refine blk_n ?_
        refine then_n ?_
        refine C_region ?_
        refine L (S (P_add rfl rfl (wI64 (c := ((i + 1 : Nat) : Int)) (by omega))) ?_)
        refine L (S (P_move rfl) ?_)
        refine L_nil ?_
        refine then_n ?_
        exact ⟨rfl, i + 1, .cons rfl (.cons rfl (.cons rfl (.cons rfl (.nil _)))), ⟨by omega, ((hmr.no hmq).no hm6).no hm7⟩, by omega⟩
      | none =>
        rw [hk] at hkw
        refine C_exit ?_
        refine then_x ?_
        refine then_x ?_
        refine blk_x ?_
        refine then_n ?_
        refine C_seq ?_
        refine C_region ?_
        refine L (S (P_move rfl) ?_)
        refine L (S_bytesStr Tryd.underlying26 Tryd.underlying5 Tryd.underlying9 rfl hbm.slr hml ?_)
        refine L (S_call cb_9 rfl (hkw) ?_)
        rintro _ w6 ⟨rfl, hm6⟩
        refine L (S (P_move rfl) ?_)
        refine L (S (P_extract rfl rfl) ?_)
        refine L (S (P_extract rfl rfl) ?_)
        refine L (S (P_assign rfl) ?_)
        refine L (S (P_assign rfl) ?_)
        refine L_nil ?_
        refine then_n ?_
        refine C_seq ?_
        refine C_region ?_
        refine L (S (P_move rfl) ?_)
        refine L (S (P_move rfl) ?_)
        refine L (S_bytesStr Tryd.underlying26 Tryd.underlying5 Tryd.underlying9 rfl (hbm.no hm6).slr hml ?_)
        refine L (S_call cb_10 rfl ((by have := refkw_ret (w := w6) m (by omega); rw [hk] at this; exact this)) ?_)
        rintro _ w7 ⟨rfl, hm7⟩
        refine L (S (P_neT rfl rfl (decide_eq_false (by simp))) ?_)
        refine L (S (P_move rfl) ?_)
        refine L_yes (j := 5) (dj := 71) (b := false) (S (P_move rfl) ?_) rfl
        refine L_yes (j := 5) (dj := 71) (b := false) (S (P_move rfl) ?_) rfl
        refine L_yes (j := 5) (dj := 71) (b := false) (S (P_neT rfl rfl (decide_eq_false (fun h => h rfl))) ?_) rfl
        refine L_yes (j := 5) (dj := 71) (b := false) (S (P_neB (β := false) Tryd.underlying4 rfl rfl rfl) ?_) rfl
        refine L (S (P_pickF rfl rfl) ?_)
        refine L_nil ?_
        refine then_n ?_
        refine C_false rfl ?_
        refine C_skip ?_
        refine blk_n ?_
        refine then_n ?_
        refine C_region ?_
        refine L (S (P_add rfl rfl (wI64 (c := ((i + 1 : Nat) : Int)) (by omega))) ?_)
        refine L (S (P_move rfl) ?_)
        refine L_nil ?_
        refine then_n ?_
        exact ⟨rfl, i + 1, .cons rfl (.cons rfl (.cons rfl (.cons rfl (.nil _)))), ⟨by omega, ((hmr.no hmq).no hm6).no hm7⟩, by omega⟩
  · refine C_exit ?_
    refine then_x ?_
    refine then_x ?_
    refine blk_x ?_
    refine then_n ?_
    refine C_seq ?_
    refine C_region ?_
    refine L (S (P_assign rfl) ?_)
    refine L_nil ?_
    refine then_n ?_
    refine C_ret ?_
    refine F_ret1 Tryd.results3 rfl ?_
    exact ⟨rfl, hmwr⟩
end
end Go.Proofs.YtmfogoehocjedaaDoor
