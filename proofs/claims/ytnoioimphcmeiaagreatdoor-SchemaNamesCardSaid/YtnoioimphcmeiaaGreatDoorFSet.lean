import Derived.Test.YtnoioimphcmeiaaGreatDoorFShift
namespace Go.Proofs.YtnoioimphcmeiaaGreatDoor
open Go.RowKit
set_option maxRecDepth 20000
set_option maxHeartbeats 1000000

def stS (D : Dc) (c : UInt8) : Dc :=
  if c.toNat = 46 then { D with dp := D.nd } else
  if c.toNat = 48 ∧ D.nd = 0 then { D with dp := D.dp - 1 } else
  if D.nd < 800 then { D with ds := D.ds.set D.nd c, nd := D.nd + 1 } else
  if c.toNat = 48 then D else { D with tr := true }
def st0 : Dc := ⟨List.replicate 800 0, 0, 0, false⟩
def stF (l : List UInt8) : Dc := l.foldl stS st0
theorem stF_snoc {l : List UInt8} {i : Nat} {c : UInt8} (h : l[i]? = some c) : stF (l.take (i + 1)) = stS (stF (l.take i)) c := by
  unfold stF
  rw [List.take_add_one, h, List.foldl_append]
  rfl
structure SI (D : Dc) (s : RS) (n : Nat) : Prop where
  nd : D.nd = min s.nd 800
  dig : Dig D D.nd
  hd : 0 < D.nd → 1 ≤ dg D 0
  len : D.ds.length = 800
  lo : -(n : Int) ≤ D.dp
  hi : D.dp ≤ 800
  tr : s.tr = true → 19 < s.nd
  nm : s.nm ≤ s.nd
theorem SI.zero : SI st0 rd0 0 := ⟨rfl, fun j hj => absurd hj (Nat.not_lt_zero j), fun h => absurd h (by decide), by decide +kernel, by decide, by decide, fun h => absurd h (by decide), by decide⟩
theorem SI.step {D : Dc} {s : RS} {n : Nat} {c : UInt8} (h : SI D s n) (hr : RI s n) (hc : c.toNat = 46 ∨ (48 ≤ c.toNat ∧ c.toNat ≤ 57)) : SI (stS D c) (rdS s c) (n + 1) := by
  obtain ⟨h1, h2, h3, h4, h5, h6, h7, h8⟩ := h
  have hnm := hr.nm
  have hnd0 : D.nd = 0 ↔ s.nd = 0 := by omega
  unfold stS rdS
  by_cases c46 : c.toNat = 46
  · rw [if_pos c46, if_pos c46]
    exact ⟨h1, h2, h3, h4, by dsimp only; omega, by dsimp only; omega, h7, h8⟩
  · rw [if_neg c46, if_neg c46]
    by_cases hz : c.toNat = 48 ∧ D.nd = 0
    · rw [if_pos hz, if_pos ⟨hz.1, hnd0.1 hz.2⟩]
      exact ⟨h1, h2, h3, h4, by dsimp only; omega, by dsimp only; omega, h7, h8⟩
    · rw [if_neg hz, if_neg (show ¬(c.toNat = 48 ∧ s.nd = 0) from fun hh => hz ⟨hh.1, hnd0.2 hh.2⟩)]
      have hS : ∀ D' : Dc, (D.nd < 800 → D' = { D with ds := D.ds.set D.nd c, nd := D.nd + 1 }) → (¬ D.nd < 800 → D'.ds = D.ds ∧ D'.nd = D.nd ∧ D'.dp = D.dp) → D'.nd = min (s.nd + 1) 800 ∧ Dig D' D'.nd ∧ (0 < D'.nd → 1 ≤ dg D' 0) ∧ D'.ds.length = 800 ∧ D'.dp = D.dp := by
        intro D' hA hB
        by_cases h800 : D.nd < 800
        · rw [hA h800]
          have hl : D.nd < D.ds.length := by omega
          refine ⟨by dsimp only; omega, fun j hj => ?_, fun _ => ?_, by dsimp only; rw [List.length_set]; exact h4, rfl⟩
          · dsimp only at hj ⊢
            by_cases hjn : j = D.nd
            · subst hjn
              exact ⟨c, List.getElem?_set_self hl, by omega, by omega⟩
            · rw [List.getElem?_set_ne (Ne.symm hjn)]
              exact h2 j (by omega)
          · by_cases h0 : D.nd = 0
            · unfold dg
              dsimp only
              rw [h0, List.getElem?_set_self (by omega), Option.getD_some]
              omega
            · have := h3 (by omega)
              unfold dg at this ⊢
              dsimp only
              rw [List.getElem?_set_ne h0]
              exact this
        · obtain ⟨e1, e2, e3⟩ := hB h800
          refine ⟨by omega, fun j hj => by rw [e1]; exact h2 j (by omega), fun _ => ?_, by rw [e1]; exact h4, e3⟩
          have := h3 (by omega)
          unfold dg at this ⊢
          rw [e1]
          exact this
      obtain ⟨s1, s2, s3, s4, s5⟩ := hS (if D.nd < 800 then { D with ds := D.ds.set D.nd c, nd := D.nd + 1 } else if c.toNat = 48 then D else { D with tr := true }) (fun h => by rw [if_pos h]) (fun h => by rw [if_neg h]; split <;> exact ⟨rfl, rfl, rfl⟩)
      by_cases h19 : s.nm < 19
      · rw [if_pos h19]
        exact ⟨s1, s2, s3, s4, by rw [s5]; omega, by rw [s5]; exact h6, fun h => by have := h7 h; dsimp only; omega, by dsimp only; omega⟩
      · rw [if_neg h19]
        exact ⟨s1, s2, s3, s4, by rw [s5]; omega, by rw [s5]; exact h6, fun _ => by dsimp only; omega, by dsimp only; omega⟩
theorem RT.si {l : List UInt8} {n : Nat} (h : RT l n) : ∀ i, i ≤ l.length → SI (stF (l.take i)) (rdF (l.take i)) i := by
  intro i
  induction i with
  | zero => intro _; exact SI.zero
  | succ i ih =>
    intro hi
    have hc : l[i]? = some l[i] := List.getElem?_eq_getElem hi
    rw [rdF_snoc hc, stF_snoc hc]
    refine (ih (by omega)).step (h.ri i (by omega)) ?_
    by_cases hin : i = n
    · subst hin
      have := h.dot
      rw [hc] at this
      have : l[i] = 46 := by simpa using this
      rw [this]
      exact .inl rfl
    · exact .inr (h.dig i _ hc hin)
theorem RT.wf {l : List UInt8} {n : Nat} (h : RT l n) (ht : (rdF l).tr = true) : Wf (stF l) ∧ -(l.length : Int) ≤ (stF l).dp ∧ (stF l).dp ≤ 800 := by
  have := h.si l.length (Nat.le_refl _)
  rw [List.take_length] at this
  have h19 := this.tr ht
  have hn := this.nd
  exact ⟨⟨by omega, by omega, this.dig, this.hd (by omega), this.len⟩, this.lo, this.hi⟩

section
variable {w : World}
set_option maxHeartbeats 2000000 in
theorem set_ret {l : List UInt8} {n : Nat} (hr : RT l n) (hl : l.length ≤ 100000) {b : Nat} (hD : DB w b st0) : Ret Tryz.prog 164 [.pointer (some ⟨b, 0, none⟩), .string (str l)] w fun v w' => v = .bool true ∧ DB w' b (stF l) ∧ Mv (At b) w w' := by
  have hsz := str_size l
  have hnl := hr.lt
  have hn0 := hr.pos
  obtain ⟨c0, hc0⟩ : ∃ c, l[0]? = some c := ⟨l[0], List.getElem?_eq_getElem (by omega)⟩
  have hd0 := hr.dig 0 c0 hc0 (by omega)
  refine F_enter Tryz.func164 Tryz.ntmps164 rfl rfl ?_
  refine C_seq ?_
  refine C_region ?_
  refine L (S (P_assign rfl) ?_)
  refine L_nil ?_
  refine then_n ?_
  refine C_seq ?_
  refine C_region ?_
  refine L (S (P_assign rfl) ?_)
  refine L_nil ?_
  refine then_n ?_
  refine C_seq ?_
  refine C_region ?_
  refine L (S (P_move rfl) ?_)
  refine L (S (P_nilCheck rfl) ?_)
  refine L (S (P_fieldAddr fo_217_3 rfl) ?_)
  refine L (S_stNg ti_4 rfl rfl hD ?_)
  rintro w1 hD1 hm1
  refine L_nil ?_
  refine then_n ?_
  refine C_seq ?_
  refine C_region ?_
  refine L (S (P_move rfl) ?_)
  refine L (S (P_nilCheck rfl) ?_)
  refine L (S (P_fieldAddr fo_217_4 rfl) ?_)
  refine L (S_stTr ti_4 rfl rfl hD1 ?_)
  rintro w2 hD2 hm2
  refine L_nil ?_
  refine then_n ?_
  refine C_seq ?_
  refine C_seq ?_
  refine C_region ?_
  refine L (S (P_move rfl) ?_)
  refine L (S (P_move rfl) ?_)
  refine L (S (P_lenT Tryz.underlying9 rfl) ?_)
  refine L (S (P_ge rfl rfl (decide_eq_false (by omega))) ?_)
  refine L_nil ?_
  refine then_n ?_
  refine C_false rfl ?_
  refine C_skip ?_
  refine then_n ?_
  refine C_seq ?_
  refine C_seq ?_
  refine C_region ?_
  refine L (S (P_move rfl) ?_)
  refine L (S (P_move rfl) ?_)
  refine L (S (P_indexT Tryz.underlying9 rfl rfl (j := 0) rfl (str_idx hc0)) ?_)
  refine L_nil ?_
  refine then_n ?_
  refine C_block ?_
  refine C_seq ?_
  refine C_region ?_
  refine L (S (P_eq rfl rfl (decide_eq_false (by omega))) ?_)
  refine L (S (P_assign rfl) ?_)
  refine L_nil ?_
  refine then_n ?_
  refine C_false rfl ?_
  refine C_seq ?_
  refine C_region ?_
  refine L (S (P_eq rfl rfl (decide_eq_false (by omega))) ?_)
  refine L (S (P_assign rfl) ?_)
  refine L_nil ?_
  refine then_n ?_
  refine C_false rfl ?_
  refine C_skip ?_
  refine blk_n ?_
  refine then_n ?_
  refine C_seq ?_
  refine C_region ?_
  refine L (S (P_assign rfl) ?_)
  refine L_nil ?_
  refine then_n ?_
  refine C_seq ?_
  refine C_region ?_
  refine L (S (P_assign rfl) ?_)
  refine L_nil ?_
  refine then_n ?_
  refine C_seq ?_
  refine C_block ?_
  have hm02 := hm1.trans hm2 fun _ _ h => h
  refine C_loop (γ := Nat) (fun i => [(0, .pointer (some ⟨b, 0, none⟩)), (1, .string (str l)), (5, .int .i64 (i : Int)), (6, .bool (decide (n < i))), (7, .bool (decide (0 < i)))]) (fun i wr => DB wr b (stF (l.take i)) ∧ Mv (At b) w wr ∧ i ≤ l.length) (fun i => l.length - i) 0 (.cons rfl (.cons rfl (.cons rfl (.cons rfl (.cons rfl (.nil _)))))) ⟨hD2, hm02, Nat.zero_le _⟩ ?_
  rintro i wr ⟨hE, hmr, hi⟩
  have hsi := hr.si i hi
  rcases Nat.lt_or_ge i l.length with hlt | hge
  · obtain ⟨c, hc⟩ : ∃ c, l[i]? = some c := ⟨l[i], List.getElem?_eq_getElem hlt⟩
    have hsn := stF_snoc hc
    obtain ⟨q1, q2, q3, q4, q5, q6, q7, q8⟩ := hsi
    generalize stF (l.take i) = D at *
    have hcn : ∀ w', Mv No wr w' → w'.cell? ⟨b, 800, none⟩ = some (.int .i64 (D.nd : Int)) := fun w' h => (hE.no h).c_nd
    have hcd : ∀ w', Mv No wr w' → w'.cell? ⟨b, 801, none⟩ = some (.int .i64 D.dp) := fun w' h => (hE.no h).c_dp
    have hD8 : D.nd ≤ 800 := by omega
    unfold stS at hsn
    by_cases hin : i = n
    · have hc46 : c.toNat = 46 := by
        have := hr.dot
        rw [← hin, hc] at this
        have : c = 46 := by simpa using this
        rw [this]; rfl
      rw [if_pos hc46] at hsn
      rw [decide_eq_false (show ¬ n < i by omega), decide_eq_true (show 0 < i by omega)]
      have hdn : (decide (n < i + 1)) = true := decide_eq_true (by omega)
      have hsd : (decide (0 < i + 1)) = true := decide_eq_true (by omega)
      refine C_seq ?_
      refine C_seq ?_
      refine C_region ?_
      refine L (S (P_move rfl) ?_)
      refine L (S (P_move rfl) ?_)
      refine L (S (P_lenT Tryz.underlying9 rfl) ?_)
      refine L (S (P_lt rfl rfl (decide_eq_true (by omega))) ?_)
      refine L_nil ?_
      refine then_n ?_
      refine C_true rfl ?_
      refine C_skip ?_
      refine then_n ?_
      refine C_seq ?_
      refine C_block ?_
      refine C_seq ?_
      refine C_block ?_
      refine C_seq ?_
      refine C_region ?_
      refine L (S (P_move rfl) ?_)
      refine L (S (P_move rfl) ?_)
      refine L (S (P_indexT Tryz.underlying9 rfl rfl (j := i) rfl (str_idx hc)) ?_)
      refine L (S (P_eq rfl rfl (decide_eq_false (by omega))) ?_)
      refine L (S (P_assign rfl) ?_)
      refine L_nil ?_
      refine then_n ?_
      refine C_false rfl ?_
      refine C_seq ?_
      refine C_region ?_
      refine L (S (P_move rfl) ?_)
      refine L (S (P_move rfl) ?_)
      refine L (S (P_indexT Tryz.underlying9 rfl rfl (j := i) rfl (str_idx hc)) ?_)
      refine L (S (P_eq rfl rfl (decide_eq_true (by omega))) ?_)
      refine L (S (P_assign rfl) ?_)
      refine L_nil ?_
      refine then_n ?_
      refine C_true rfl ?_
      refine C_seq ?_
      refine C_seq ?_
      refine C_region ?_
      refine L (S (P_move rfl) ?_)
      refine L_nil ?_
      refine then_n ?_
      refine C_false rfl ?_
      refine C_skip ?_
      refine then_n ?_
      refine C_seq ?_
      refine C_region ?_
      refine L (S (P_assign rfl) ?_)
      refine L_nil ?_
      refine then_n ?_
      refine C_seq ?_
      refine C_region ?_
      refine L (S (P_move rfl) ?_)
      refine L (S (P_move rfl) ?_)
      refine L (S (P_nilCheck rfl) ?_)
      refine L (S (P_fieldAddr fo_217_1 rfl) ?_)
      refine L (S_load sc_3 rfl (hcn _ (Mv.refl _)) ?_)
      refine L (S (P_nilCheck rfl) ?_)
      refine L (S (P_fieldAddr fo_217_2 rfl) ?_)
      refine L (S_stDp ti_3 rfl rfl hE ?_)
      rintro w3 hD3 hm3
      refine L_nil ?_
      refine then_n ?_
      refine C_exit ?_
      refine blk_o rfl ?_
      refine then_x ?_
      refine blk_x ?_
      refine then_n ?_
      refine C_region ?_
      refine L (S (P_move rfl) ?_)
      refine L (S (P_add rfl rfl (wI64 (c := ((i + 1 : Nat) : Int)) (by omega))) ?_)
      refine L (S (P_assign rfl) ?_)
      refine L_nil ?_
      refine then_n ?_
      exact ⟨rfl, i + 1, by rw [hdn, hsd]; exact (.cons rfl (.cons rfl (.cons rfl (.cons rfl (.cons rfl (.nil _)))))), ⟨by rw [hsn]; exact hD3, hmr.trans hm3 fun _ _ h => h, by omega⟩, by omega⟩
    · have hcd1 := hr.dig i c hc hin
      have hdn : (decide (n < i + 1)) = decide (n < i) := by
        by_cases hni : n < i
        · rw [decide_eq_true hni, decide_eq_true (by omega)]
        · rw [decide_eq_false hni, decide_eq_false (by omega)]
      have hsd : (decide (0 < i + 1)) = true := decide_eq_true (by omega)
      rw [if_neg (by omega)] at hsn
      by_cases h48 : c.toNat = 48
      · by_cases hn00 : D.nd = 0
        · rw [if_pos ⟨h48, hn00⟩] at hsn
          refine C_seq ?_
          refine C_seq ?_
          refine C_region ?_
          refine L (S (P_move rfl) ?_)
          refine L (S (P_move rfl) ?_)
          refine L (S (P_lenT Tryz.underlying9 rfl) ?_)
          refine L (S (P_lt rfl rfl (decide_eq_true (by omega))) ?_)
          refine L_nil ?_
          refine then_n ?_
          refine C_true rfl ?_
          refine C_skip ?_
          refine then_n ?_
          refine C_seq ?_
          refine C_block ?_
          refine C_seq ?_
          refine C_block ?_
          refine C_seq ?_
          refine C_region ?_
          refine L (S (P_move rfl) ?_)
          refine L (S (P_move rfl) ?_)
          refine L (S (P_indexT Tryz.underlying9 rfl rfl (j := i) rfl (str_idx hc)) ?_)
          refine L (S (P_eq rfl rfl (decide_eq_false (by omega))) ?_)
          refine L (S (P_assign rfl) ?_)
          refine L_nil ?_
          refine then_n ?_
          refine C_false rfl ?_
          refine C_seq ?_
          refine C_region ?_
          refine L (S (P_move rfl) ?_)
          refine L (S (P_move rfl) ?_)
          refine L (S (P_indexT Tryz.underlying9 rfl rfl (j := i) rfl (str_idx hc)) ?_)
          refine L (S (P_eq rfl rfl (decide_eq_false (by omega))) ?_)
          refine L (S (P_assign rfl) ?_)
          refine L_nil ?_
          refine then_n ?_
          refine C_false rfl ?_
          refine C_seq ?_
          refine C_region ?_
          refine L (S (P_move rfl) ?_)
          refine L (S (P_move rfl) ?_)
          refine L (S (P_indexT Tryz.underlying9 rfl rfl (j := i) rfl (str_idx hc)) ?_)
          refine L (S (P_le rfl rfl (decide_eq_true (by omega))) ?_)
          refine L (S (P_move rfl) ?_)
          refine L_yes (j := 4) (dj := 63) (b := true) (S (P_move rfl) ?_) rfl
          refine L_yes (j := 4) (dj := 63) (b := true) (S (P_move rfl) ?_) rfl
          refine L_yes (j := 4) (dj := 63) (b := true) (S (P_indexT Tryz.underlying9 rfl rfl (j := i) rfl (str_idx hc)) ?_) rfl
          refine L_yes (j := 4) (dj := 63) (b := true) (S (P_le rfl rfl (decide_eq_true (by omega))) ?_) rfl
          refine L (S (P_pickT rfl rfl) ?_)
          refine L (S (P_assign rfl) ?_)
          refine L_nil ?_
          refine then_n ?_
          refine C_true rfl ?_
          refine C_seq ?_
          refine C_region ?_
          refine L (S (P_assign rfl) ?_)
          refine L_nil ?_
          refine then_n ?_
          refine C_seq ?_
          refine C_seq ?_
          refine C_region ?_
          refine L (S (P_move rfl) ?_)
          refine L (S (P_move rfl) ?_)
          refine L (S (P_indexT Tryz.underlying9 rfl rfl (j := i) rfl (str_idx hc)) ?_)
          refine L (S (P_eq rfl rfl (decide_eq_true (by omega))) ?_)
          refine L (S (P_move rfl) ?_)
          refine L_yes (j := 4) (dj := 73) (b := true) (S (P_move rfl) ?_) rfl
          refine L_yes (j := 4) (dj := 73) (b := true) (S (P_nilCheck rfl) ?_) rfl
          refine L_yes (j := 4) (dj := 73) (b := true) (S (P_fieldAddr fo_217_1 rfl) ?_) rfl
          refine L_yes (j := 4) (dj := 73) (b := true) (S_load sc_3 rfl (hcn _ (Mv.refl _)) ?_) rfl
          refine L_yes (j := 4) (dj := 73) (b := true) (S (P_eq rfl rfl (decide_eq_true (by omega))) ?_) rfl
          refine L (S (P_pickT rfl rfl) ?_)
          refine L_nil ?_
          refine then_n ?_
          refine C_true rfl ?_
          refine C_seq ?_
          refine C_region ?_
          refine L (S (P_move rfl) ?_)
          refine L (S (P_nilCheck rfl) ?_)
          refine L (S (P_fieldAddr fo_217_2 rfl) ?_)
          refine L (S_load sc_3 rfl (hcd _ (Mv.refl _)) ?_)
          refine L (S (P_sub rfl rfl (wI64 (c := D.dp - 1) (by omega))) ?_)
          refine L (S (P_nilCheck rfl) ?_)
          refine L (S (P_fieldAddr fo_217_2 rfl) ?_)
          refine L (S_stDp ti_3 rfl rfl hE ?_)
          rintro w3 hD3 hm3
          refine L_nil ?_
          refine then_n ?_
          refine C_exit ?_
          refine then_x ?_
          refine blk_o rfl ?_
          refine then_x ?_
          refine blk_x ?_
          refine then_n ?_
          refine C_region ?_
          refine L (S (P_move rfl) ?_)
          refine L (S (P_add rfl rfl (wI64 (c := ((i + 1 : Nat) : Int)) (by omega))) ?_)
          refine L (S (P_assign rfl) ?_)
          refine L_nil ?_
          refine then_n ?_
          exact ⟨rfl, i + 1, by rw [hdn, hsd]; exact (.cons rfl (.cons rfl (.cons rfl (.cons rfl (.cons rfl (.nil _)))))), ⟨by rw [hsn]; exact hD3, hmr.trans hm3 fun _ _ h => h, by omega⟩, by omega⟩
        · rw [if_neg (fun h => hn00 h.2)] at hsn
          by_cases h800 : D.nd < 800
          · rw [if_pos h800] at hsn
            refine C_seq ?_
            refine C_seq ?_
            refine C_region ?_
            refine L (S (P_move rfl) ?_)
            refine L (S (P_move rfl) ?_)
            refine L (S (P_lenT Tryz.underlying9 rfl) ?_)
            refine L (S (P_lt rfl rfl (decide_eq_true (by omega))) ?_)
            refine L_nil ?_
            refine then_n ?_
            refine C_true rfl ?_
            refine C_skip ?_
            refine then_n ?_
            refine C_seq ?_
            refine C_block ?_
            refine C_seq ?_
            refine C_block ?_
            refine C_seq ?_
            refine C_region ?_
            refine L (S (P_move rfl) ?_)
            refine L (S (P_move rfl) ?_)
            refine L (S (P_indexT Tryz.underlying9 rfl rfl (j := i) rfl (str_idx hc)) ?_)
            refine L (S (P_eq rfl rfl (decide_eq_false (by omega))) ?_)
            refine L (S (P_assign rfl) ?_)
            refine L_nil ?_
            refine then_n ?_
            refine C_false rfl ?_
            refine C_seq ?_
            refine C_region ?_
            refine L (S (P_move rfl) ?_)
            refine L (S (P_move rfl) ?_)
            refine L (S (P_indexT Tryz.underlying9 rfl rfl (j := i) rfl (str_idx hc)) ?_)
            refine L (S (P_eq rfl rfl (decide_eq_false (by omega))) ?_)
            refine L (S (P_assign rfl) ?_)
            refine L_nil ?_
            refine then_n ?_
            refine C_false rfl ?_
            refine C_seq ?_
            refine C_region ?_
            refine L (S (P_move rfl) ?_)
            refine L (S (P_move rfl) ?_)
            refine L (S (P_indexT Tryz.underlying9 rfl rfl (j := i) rfl (str_idx hc)) ?_)
            refine L (S (P_le rfl rfl (decide_eq_true (by omega))) ?_)
            refine L (S (P_move rfl) ?_)
            refine L_yes (j := 4) (dj := 63) (b := true) (S (P_move rfl) ?_) rfl
            refine L_yes (j := 4) (dj := 63) (b := true) (S (P_move rfl) ?_) rfl
            refine L_yes (j := 4) (dj := 63) (b := true) (S (P_indexT Tryz.underlying9 rfl rfl (j := i) rfl (str_idx hc)) ?_) rfl
            refine L_yes (j := 4) (dj := 63) (b := true) (S (P_le rfl rfl (decide_eq_true (by omega))) ?_) rfl
            refine L (S (P_pickT rfl rfl) ?_)
            refine L (S (P_assign rfl) ?_)
            refine L_nil ?_
            refine then_n ?_
            refine C_true rfl ?_
            refine C_seq ?_
            refine C_region ?_
            refine L (S (P_assign rfl) ?_)
            refine L_nil ?_
            refine then_n ?_
            refine C_seq ?_
            refine C_seq ?_
            refine C_region ?_
            refine L (S (P_move rfl) ?_)
            refine L (S (P_move rfl) ?_)
            refine L (S (P_indexT Tryz.underlying9 rfl rfl (j := i) rfl (str_idx hc)) ?_)
            refine L (S (P_eq rfl rfl (decide_eq_true (by omega))) ?_)
            refine L (S (P_move rfl) ?_)
            refine L_yes (j := 4) (dj := 73) (b := true) (S (P_move rfl) ?_) rfl
            refine L_yes (j := 4) (dj := 73) (b := true) (S (P_nilCheck rfl) ?_) rfl
            refine L_yes (j := 4) (dj := 73) (b := true) (S (P_fieldAddr fo_217_1 rfl) ?_) rfl
            refine L_yes (j := 4) (dj := 73) (b := true) (S_load sc_3 rfl (hcn _ (Mv.refl _)) ?_) rfl
            refine L_yes (j := 4) (dj := 73) (b := true) (S (P_eq rfl rfl (decide_eq_false (by omega))) ?_) rfl
            refine L (S (P_pickT rfl rfl) ?_)
            refine L_nil ?_
            refine then_n ?_
            refine C_false rfl ?_
            refine C_skip ?_
            refine then_n ?_
            refine C_seq ?_
            refine C_seq ?_
            refine C_region ?_
            refine L (S (P_move rfl) ?_)
            refine L (S (P_nilCheck rfl) ?_)
            refine L (S (P_fieldAddr fo_217_1 rfl) ?_)
            refine L (S_load sc_3 rfl (hcn _ (Mv.refl _)) ?_)
            refine L (S (P_lt rfl rfl (decide_eq_true (by omega))) ?_)
            refine L_nil ?_
            refine then_n ?_
            refine C_true rfl ?_
            refine C_seq ?_
            refine C_draw 12 mixed rfl ?_
            refine A_pure (i := 0) rfl (P_move rfl) ?_ (by decide +kernel) (by decide +kernel) (by decide +kernel) (fun _ _ _ _ h => h) rfl rfl rfl
            refine A_pure (i := 1) rfl (P_move rfl) ?_ (by decide +kernel) (by decide +kernel) (by decide +kernel) (fun _ _ _ _ h => h) rfl rfl rfl
            refine A_pure (i := 2) rfl (P_nilCheck rfl) ?_ (by decide +kernel) (by decide +kernel) (by decide +kernel) (fun _ _ _ _ h => h) rfl rfl rfl
            refine A_pure (i := 3) rfl (P_fieldAddr fo_217_1 rfl) ?_ (by decide +kernel) (by decide +kernel) (by decide +kernel) (fun _ _ _ _ h => h) rfl rfl rfl
            refine A_pure (i := 5) rfl (P_move rfl) ?_ (by decide +kernel) (by decide +kernel) (by decide +kernel) (fun _ _ _ _ h => h) rfl rfl rfl
            refine A_pure (i := 6) rfl (P_move rfl) ?_ (by decide +kernel) (by decide +kernel) (by decide +kernel) (fun _ _ _ _ h => h) rfl rfl rfl
            refine A_pure (i := 7) rfl (P_indexT Tryz.underlying9 rfl rfl (j := i) rfl (str_idx hc)) ?_ (by decide +kernel) (by decide +kernel) (by decide +kernel) (fun _ _ _ _ h => h) rfl rfl rfl
            refine A_pure (i := 8) rfl (P_nilCheck rfl) ?_ (by decide +kernel) (by decide +kernel) (by decide +kernel) (fun _ _ _ _ h => h) rfl rfl rfl
            refine A_pure (i := 9) rfl (P_fieldAddr fo_217_0 rfl) ?_ (by decide +kernel) (by decide +kernel) (by decide +kernel) (fun _ _ _ _ h => h) rfl rfl rfl
            refine A_one (i := 4) (A_op rfl (S_load sc_3 rfl (hcn _ (Mv.refl _).drew) ?_)) (by decide +kernel)
            refine A_pure (i := 10) rfl (P_indexAddrA Tryz.underlying215 (csz_of ti_5) rfl rfl (j := D.nd) rfl (by omega) (q := D.nd) (by omega)) ?_ (by decide +kernel) (by decide +kernel) (by decide +kernel) (fun _ _ _ _ h => h) rfl rfl rfl
            refine A_one (i := 11) (A_op rfl (S_stDg ti_5 rfl rfl rfl (hE.no (Mv.refl _).drew) (by omega) ?_)) (by decide +kernel)
            rintro w3 hD3 hm3
            refine A_done (by decide +kernel) ?_
            refine then_n ?_
            refine C_region ?_
            refine L (S (P_move rfl) ?_)
            refine L (S (P_nilCheck rfl) ?_)
            refine L (S (P_fieldAddr fo_217_1 rfl) ?_)
            refine L (S_load sc_3 rfl hD3.c_nd ?_)
            refine L (S (P_add rfl rfl (wI64 (c := ((D.nd + 1 : Nat) : Int)) (by dsimp only; omega))) ?_)
            refine L (S (P_nilCheck rfl) ?_)
            refine L (S (P_fieldAddr fo_217_1 rfl) ?_)
            refine L (S_stNd ti_3 rfl rfl rfl hD3 ?_)
            rintro w4 hD4 hm4
            refine L_nil ?_
            refine then_n ?_
            refine C_exit ?_
            refine blk_o rfl ?_
            refine then_x ?_
            refine blk_x ?_
            refine then_n ?_
            refine C_region ?_
            refine L (S (P_move rfl) ?_)
            refine L (S (P_add rfl rfl (wI64 (c := ((i + 1 : Nat) : Int)) (by omega))) ?_)
            refine L (S (P_assign rfl) ?_)
            refine L_nil ?_
            refine then_n ?_
            exact ⟨rfl, i + 1, by rw [hdn, hsd]; exact (.cons rfl (.cons rfl (.cons rfl (.cons rfl (.cons rfl (.nil _)))))), ⟨by rw [hsn]; exact hD4, (hmr.drew.trans hm3 fun _ _ h => h).trans hm4 fun _ _ h => h, by omega⟩, by omega⟩
          · rw [if_neg h800, if_pos h48] at hsn
            refine C_seq ?_
            refine C_seq ?_
            refine C_region ?_
            refine L (S (P_move rfl) ?_)
            refine L (S (P_move rfl) ?_)
            refine L (S (P_lenT Tryz.underlying9 rfl) ?_)
            refine L (S (P_lt rfl rfl (decide_eq_true (by omega))) ?_)
            refine L_nil ?_
            refine then_n ?_
            refine C_true rfl ?_
            refine C_skip ?_
            refine then_n ?_
            refine C_seq ?_
            refine C_block ?_
            refine C_seq ?_
            refine C_block ?_
            refine C_seq ?_
            refine C_region ?_
            refine L (S (P_move rfl) ?_)
            refine L (S (P_move rfl) ?_)
            refine L (S (P_indexT Tryz.underlying9 rfl rfl (j := i) rfl (str_idx hc)) ?_)
            refine L (S (P_eq rfl rfl (decide_eq_false (by omega))) ?_)
            refine L (S (P_assign rfl) ?_)
            refine L_nil ?_
            refine then_n ?_
            refine C_false rfl ?_
            refine C_seq ?_
            refine C_region ?_
            refine L (S (P_move rfl) ?_)
            refine L (S (P_move rfl) ?_)
            refine L (S (P_indexT Tryz.underlying9 rfl rfl (j := i) rfl (str_idx hc)) ?_)
            refine L (S (P_eq rfl rfl (decide_eq_false (by omega))) ?_)
            refine L (S (P_assign rfl) ?_)
            refine L_nil ?_
            refine then_n ?_
            refine C_false rfl ?_
            refine C_seq ?_
            refine C_region ?_
            refine L (S (P_move rfl) ?_)
            refine L (S (P_move rfl) ?_)
            refine L (S (P_indexT Tryz.underlying9 rfl rfl (j := i) rfl (str_idx hc)) ?_)
            refine L (S (P_le rfl rfl (decide_eq_true (by omega))) ?_)
            refine L (S (P_move rfl) ?_)
            refine L_yes (j := 4) (dj := 63) (b := true) (S (P_move rfl) ?_) rfl
            refine L_yes (j := 4) (dj := 63) (b := true) (S (P_move rfl) ?_) rfl
            refine L_yes (j := 4) (dj := 63) (b := true) (S (P_indexT Tryz.underlying9 rfl rfl (j := i) rfl (str_idx hc)) ?_) rfl
            refine L_yes (j := 4) (dj := 63) (b := true) (S (P_le rfl rfl (decide_eq_true (by omega))) ?_) rfl
            refine L (S (P_pickT rfl rfl) ?_)
            refine L (S (P_assign rfl) ?_)
            refine L_nil ?_
            refine then_n ?_
            refine C_true rfl ?_
            refine C_seq ?_
            refine C_region ?_
            refine L (S (P_assign rfl) ?_)
            refine L_nil ?_
            refine then_n ?_
            refine C_seq ?_
            refine C_seq ?_
            refine C_region ?_
            refine L (S (P_move rfl) ?_)
            refine L (S (P_move rfl) ?_)
            refine L (S (P_indexT Tryz.underlying9 rfl rfl (j := i) rfl (str_idx hc)) ?_)
            refine L (S (P_eq rfl rfl (decide_eq_true (by omega))) ?_)
            refine L (S (P_move rfl) ?_)
            refine L_yes (j := 4) (dj := 73) (b := true) (S (P_move rfl) ?_) rfl
            refine L_yes (j := 4) (dj := 73) (b := true) (S (P_nilCheck rfl) ?_) rfl
            refine L_yes (j := 4) (dj := 73) (b := true) (S (P_fieldAddr fo_217_1 rfl) ?_) rfl
            refine L_yes (j := 4) (dj := 73) (b := true) (S_load sc_3 rfl (hcn _ (Mv.refl _)) ?_) rfl
            refine L_yes (j := 4) (dj := 73) (b := true) (S (P_eq rfl rfl (decide_eq_false (by omega))) ?_) rfl
            refine L (S (P_pickT rfl rfl) ?_)
            refine L_nil ?_
            refine then_n ?_
            refine C_false rfl ?_
            refine C_skip ?_
            refine then_n ?_
            refine C_seq ?_
            refine C_seq ?_
            refine C_region ?_
            refine L (S (P_move rfl) ?_)
            refine L (S (P_nilCheck rfl) ?_)
            refine L (S (P_fieldAddr fo_217_1 rfl) ?_)
            refine L (S_load sc_3 rfl (hcn _ (Mv.refl _)) ?_)
            refine L (S (P_lt rfl rfl (decide_eq_false (by omega))) ?_)
            refine L_nil ?_
            refine then_n ?_
            refine C_false rfl ?_
            refine C_seq ?_
            refine C_region ?_
            refine L (S (P_move rfl) ?_)
            refine L (S (P_move rfl) ?_)
            refine L (S (P_indexT Tryz.underlying9 rfl rfl (j := i) rfl (str_idx hc)) ?_)
            refine L (S (P_ne rfl rfl (decide_eq_false (by omega))) ?_)
            refine L_nil ?_
            refine then_n ?_
            refine C_false rfl ?_
            refine C_skip ?_
            refine then_n ?_
            refine C_exit ?_
            refine blk_o rfl ?_
            refine then_x ?_
            refine blk_x ?_
            refine then_n ?_
            refine C_region ?_
            refine L (S (P_move rfl) ?_)
            refine L (S (P_add rfl rfl (wI64 (c := ((i + 1 : Nat) : Int)) (by omega))) ?_)
            refine L (S (P_assign rfl) ?_)
            refine L_nil ?_
            refine then_n ?_
            exact ⟨rfl, i + 1, by rw [hdn, hsd]; exact (.cons rfl (.cons rfl (.cons rfl (.cons rfl (.cons rfl (.nil _)))))), ⟨by rw [hsn]; exact hE, hmr, by omega⟩, by omega⟩
      · rw [if_neg (fun h => h48 h.1)] at hsn
        by_cases h800 : D.nd < 800
        · rw [if_pos h800] at hsn
          refine C_seq ?_
          refine C_seq ?_
          refine C_region ?_
          refine L (S (P_move rfl) ?_)
          refine L (S (P_move rfl) ?_)
          refine L (S (P_lenT Tryz.underlying9 rfl) ?_)
          refine L (S (P_lt rfl rfl (decide_eq_true (by omega))) ?_)
          refine L_nil ?_
          refine then_n ?_
          refine C_true rfl ?_
          refine C_skip ?_
          refine then_n ?_
          refine C_seq ?_
          refine C_block ?_
          refine C_seq ?_
          refine C_block ?_
          refine C_seq ?_
          refine C_region ?_
          refine L (S (P_move rfl) ?_)
          refine L (S (P_move rfl) ?_)
          refine L (S (P_indexT Tryz.underlying9 rfl rfl (j := i) rfl (str_idx hc)) ?_)
          refine L (S (P_eq rfl rfl (decide_eq_false (by omega))) ?_)
          refine L (S (P_assign rfl) ?_)
          refine L_nil ?_
          refine then_n ?_
          refine C_false rfl ?_
          refine C_seq ?_
          refine C_region ?_
          refine L (S (P_move rfl) ?_)
          refine L (S (P_move rfl) ?_)
          refine L (S (P_indexT Tryz.underlying9 rfl rfl (j := i) rfl (str_idx hc)) ?_)
          refine L (S (P_eq rfl rfl (decide_eq_false (by omega))) ?_)
          refine L (S (P_assign rfl) ?_)
          refine L_nil ?_
          refine then_n ?_
          refine C_false rfl ?_
          refine C_seq ?_
          refine C_region ?_
          refine L (S (P_move rfl) ?_)
          refine L (S (P_move rfl) ?_)
          refine L (S (P_indexT Tryz.underlying9 rfl rfl (j := i) rfl (str_idx hc)) ?_)
          refine L (S (P_le rfl rfl (decide_eq_true (by omega))) ?_)
          refine L (S (P_move rfl) ?_)
          refine L_yes (j := 4) (dj := 63) (b := true) (S (P_move rfl) ?_) rfl
          refine L_yes (j := 4) (dj := 63) (b := true) (S (P_move rfl) ?_) rfl
          refine L_yes (j := 4) (dj := 63) (b := true) (S (P_indexT Tryz.underlying9 rfl rfl (j := i) rfl (str_idx hc)) ?_) rfl
          refine L_yes (j := 4) (dj := 63) (b := true) (S (P_le rfl rfl (decide_eq_true (by omega))) ?_) rfl
          refine L (S (P_pickT rfl rfl) ?_)
          refine L (S (P_assign rfl) ?_)
          refine L_nil ?_
          refine then_n ?_
          refine C_true rfl ?_
          refine C_seq ?_
          refine C_region ?_
          refine L (S (P_assign rfl) ?_)
          refine L_nil ?_
          refine then_n ?_
          refine C_seq ?_
          refine C_seq ?_
          refine C_region ?_
          refine L (S (P_move rfl) ?_)
          refine L (S (P_move rfl) ?_)
          refine L (S (P_indexT Tryz.underlying9 rfl rfl (j := i) rfl (str_idx hc)) ?_)
          refine L (S (P_eq rfl rfl (decide_eq_false (by omega))) ?_)
          refine L (S (P_move rfl) ?_)
          refine L_no (j := 4) (dj := 73) (b := true) (b' := false) (d := 74) rfl ?_
          refine L_no (j := 4) (dj := 73) (b := true) (b' := false) (d := 75) rfl ?_
          refine L_no (j := 4) (dj := 73) (b := true) (b' := false) (d := 76) rfl ?_
          refine L_no (j := 4) (dj := 73) (b := true) (b' := false) (d := 77) rfl ?_
          refine L_no (j := 4) (dj := 73) (b := true) (b' := false) (d := 78) rfl ?_
          refine L (S (P_pickF rfl rfl) ?_)
          refine L_nil ?_
          refine then_n ?_
          refine C_false rfl ?_
          refine C_skip ?_
          refine then_n ?_
          refine C_seq ?_
          refine C_seq ?_
          refine C_region ?_
          refine L (S (P_move rfl) ?_)
          refine L (S (P_nilCheck rfl) ?_)
          refine L (S (P_fieldAddr fo_217_1 rfl) ?_)
          refine L (S_load sc_3 rfl (hcn _ (Mv.refl _)) ?_)
          refine L (S (P_lt rfl rfl (decide_eq_true (by omega))) ?_)
          refine L_nil ?_
          refine then_n ?_
          refine C_true rfl ?_
          refine C_seq ?_
          refine C_draw 12 mixed rfl ?_
          refine A_pure (i := 0) rfl (P_move rfl) ?_ (by decide +kernel) (by decide +kernel) (by decide +kernel) (fun _ _ _ _ h => h) rfl rfl rfl
          refine A_pure (i := 1) rfl (P_move rfl) ?_ (by decide +kernel) (by decide +kernel) (by decide +kernel) (fun _ _ _ _ h => h) rfl rfl rfl
          refine A_pure (i := 2) rfl (P_nilCheck rfl) ?_ (by decide +kernel) (by decide +kernel) (by decide +kernel) (fun _ _ _ _ h => h) rfl rfl rfl
          refine A_pure (i := 3) rfl (P_fieldAddr fo_217_1 rfl) ?_ (by decide +kernel) (by decide +kernel) (by decide +kernel) (fun _ _ _ _ h => h) rfl rfl rfl
          refine A_pure (i := 5) rfl (P_move rfl) ?_ (by decide +kernel) (by decide +kernel) (by decide +kernel) (fun _ _ _ _ h => h) rfl rfl rfl
          refine A_pure (i := 6) rfl (P_move rfl) ?_ (by decide +kernel) (by decide +kernel) (by decide +kernel) (fun _ _ _ _ h => h) rfl rfl rfl
          refine A_pure (i := 7) rfl (P_indexT Tryz.underlying9 rfl rfl (j := i) rfl (str_idx hc)) ?_ (by decide +kernel) (by decide +kernel) (by decide +kernel) (fun _ _ _ _ h => h) rfl rfl rfl
          refine A_pure (i := 8) rfl (P_nilCheck rfl) ?_ (by decide +kernel) (by decide +kernel) (by decide +kernel) (fun _ _ _ _ h => h) rfl rfl rfl
          refine A_pure (i := 9) rfl (P_fieldAddr fo_217_0 rfl) ?_ (by decide +kernel) (by decide +kernel) (by decide +kernel) (fun _ _ _ _ h => h) rfl rfl rfl
          refine A_one (i := 4) (A_op rfl (S_load sc_3 rfl (hcn _ (Mv.refl _).drew) ?_)) (by decide +kernel)
          refine A_pure (i := 10) rfl (P_indexAddrA Tryz.underlying215 (csz_of ti_5) rfl rfl (j := D.nd) rfl (by omega) (q := D.nd) (by omega)) ?_ (by decide +kernel) (by decide +kernel) (by decide +kernel) (fun _ _ _ _ h => h) rfl rfl rfl
          refine A_one (i := 11) (A_op rfl (S_stDg ti_5 rfl rfl rfl (hE.no (Mv.refl _).drew) (by omega) ?_)) (by decide +kernel)
          rintro w3 hD3 hm3
          refine A_done (by decide +kernel) ?_
          refine then_n ?_
          refine C_region ?_
          refine L (S (P_move rfl) ?_)
          refine L (S (P_nilCheck rfl) ?_)
          refine L (S (P_fieldAddr fo_217_1 rfl) ?_)
          refine L (S_load sc_3 rfl hD3.c_nd ?_)
          refine L (S (P_add rfl rfl (wI64 (c := ((D.nd + 1 : Nat) : Int)) (by dsimp only; omega))) ?_)
          refine L (S (P_nilCheck rfl) ?_)
          refine L (S (P_fieldAddr fo_217_1 rfl) ?_)
          refine L (S_stNd ti_3 rfl rfl rfl hD3 ?_)
          rintro w4 hD4 hm4
          refine L_nil ?_
          refine then_n ?_
          refine C_exit ?_
          refine blk_o rfl ?_
          refine then_x ?_
          refine blk_x ?_
          refine then_n ?_
          refine C_region ?_
          refine L (S (P_move rfl) ?_)
          refine L (S (P_add rfl rfl (wI64 (c := ((i + 1 : Nat) : Int)) (by omega))) ?_)
          refine L (S (P_assign rfl) ?_)
          refine L_nil ?_
          refine then_n ?_
          exact ⟨rfl, i + 1, by rw [hdn, hsd]; exact (.cons rfl (.cons rfl (.cons rfl (.cons rfl (.cons rfl (.nil _)))))), ⟨by rw [hsn]; exact hD4, (hmr.drew.trans hm3 fun _ _ h => h).trans hm4 fun _ _ h => h, by omega⟩, by omega⟩
        · rw [if_neg h800, if_neg h48] at hsn
          refine C_seq ?_
          refine C_seq ?_
          refine C_region ?_
          refine L (S (P_move rfl) ?_)
          refine L (S (P_move rfl) ?_)
          refine L (S (P_lenT Tryz.underlying9 rfl) ?_)
          refine L (S (P_lt rfl rfl (decide_eq_true (by omega))) ?_)
          refine L_nil ?_
          refine then_n ?_
          refine C_true rfl ?_
          refine C_skip ?_
          refine then_n ?_
          refine C_seq ?_
          refine C_block ?_
          refine C_seq ?_
          refine C_block ?_
          refine C_seq ?_
          refine C_region ?_
          refine L (S (P_move rfl) ?_)
          refine L (S (P_move rfl) ?_)
          refine L (S (P_indexT Tryz.underlying9 rfl rfl (j := i) rfl (str_idx hc)) ?_)
          refine L (S (P_eq rfl rfl (decide_eq_false (by omega))) ?_)
          refine L (S (P_assign rfl) ?_)
          refine L_nil ?_
          refine then_n ?_
          refine C_false rfl ?_
          refine C_seq ?_
          refine C_region ?_
          refine L (S (P_move rfl) ?_)
          refine L (S (P_move rfl) ?_)
          refine L (S (P_indexT Tryz.underlying9 rfl rfl (j := i) rfl (str_idx hc)) ?_)
          refine L (S (P_eq rfl rfl (decide_eq_false (by omega))) ?_)
          refine L (S (P_assign rfl) ?_)
          refine L_nil ?_
          refine then_n ?_
          refine C_false rfl ?_
          refine C_seq ?_
          refine C_region ?_
          refine L (S (P_move rfl) ?_)
          refine L (S (P_move rfl) ?_)
          refine L (S (P_indexT Tryz.underlying9 rfl rfl (j := i) rfl (str_idx hc)) ?_)
          refine L (S (P_le rfl rfl (decide_eq_true (by omega))) ?_)
          refine L (S (P_move rfl) ?_)
          refine L_yes (j := 4) (dj := 63) (b := true) (S (P_move rfl) ?_) rfl
          refine L_yes (j := 4) (dj := 63) (b := true) (S (P_move rfl) ?_) rfl
          refine L_yes (j := 4) (dj := 63) (b := true) (S (P_indexT Tryz.underlying9 rfl rfl (j := i) rfl (str_idx hc)) ?_) rfl
          refine L_yes (j := 4) (dj := 63) (b := true) (S (P_le rfl rfl (decide_eq_true (by omega))) ?_) rfl
          refine L (S (P_pickT rfl rfl) ?_)
          refine L (S (P_assign rfl) ?_)
          refine L_nil ?_
          refine then_n ?_
          refine C_true rfl ?_
          refine C_seq ?_
          refine C_region ?_
          refine L (S (P_assign rfl) ?_)
          refine L_nil ?_
          refine then_n ?_
          refine C_seq ?_
          refine C_seq ?_
          refine C_region ?_
          refine L (S (P_move rfl) ?_)
          refine L (S (P_move rfl) ?_)
          refine L (S (P_indexT Tryz.underlying9 rfl rfl (j := i) rfl (str_idx hc)) ?_)
          refine L (S (P_eq rfl rfl (decide_eq_false (by omega))) ?_)
          refine L (S (P_move rfl) ?_)
          refine L_no (j := 4) (dj := 73) (b := true) (b' := false) (d := 74) rfl ?_
          refine L_no (j := 4) (dj := 73) (b := true) (b' := false) (d := 75) rfl ?_
          refine L_no (j := 4) (dj := 73) (b := true) (b' := false) (d := 76) rfl ?_
          refine L_no (j := 4) (dj := 73) (b := true) (b' := false) (d := 77) rfl ?_
          refine L_no (j := 4) (dj := 73) (b := true) (b' := false) (d := 78) rfl ?_
          refine L (S (P_pickF rfl rfl) ?_)
          refine L_nil ?_
          refine then_n ?_
          refine C_false rfl ?_
          refine C_skip ?_
          refine then_n ?_
          refine C_seq ?_
          refine C_seq ?_
          refine C_region ?_
          refine L (S (P_move rfl) ?_)
          refine L (S (P_nilCheck rfl) ?_)
          refine L (S (P_fieldAddr fo_217_1 rfl) ?_)
          refine L (S_load sc_3 rfl (hcn _ (Mv.refl _)) ?_)
          refine L (S (P_lt rfl rfl (decide_eq_false (by omega))) ?_)
          refine L_nil ?_
          refine then_n ?_
          refine C_false rfl ?_
          refine C_seq ?_
          refine C_region ?_
          refine L (S (P_move rfl) ?_)
          refine L (S (P_move rfl) ?_)
          refine L (S (P_indexT Tryz.underlying9 rfl rfl (j := i) rfl (str_idx hc)) ?_)
          refine L (S (P_ne rfl rfl (decide_eq_true (by omega))) ?_)
          refine L_nil ?_
          refine then_n ?_
          refine C_true rfl ?_
          refine C_region ?_
          refine L (S (P_move rfl) ?_)
          refine L (S (P_nilCheck rfl) ?_)
          refine L (S (P_fieldAddr fo_217_4 rfl) ?_)
          refine L (S_stTr ti_4 rfl rfl hE ?_)
          rintro w3 hD3 hm3
          refine L_nil ?_
          refine then_n ?_
          refine C_exit ?_
          refine blk_o rfl ?_
          refine then_x ?_
          refine blk_x ?_
          refine then_n ?_
          refine C_region ?_
          refine L (S (P_move rfl) ?_)
          refine L (S (P_add rfl rfl (wI64 (c := ((i + 1 : Nat) : Int)) (by omega))) ?_)
          refine L (S (P_assign rfl) ?_)
          refine L_nil ?_
          refine then_n ?_
          exact ⟨rfl, i + 1, by rw [hdn, hsd]; exact (.cons rfl (.cons rfl (.cons rfl (.cons rfl (.cons rfl (.nil _)))))), ⟨by rw [hsn]; exact hD3, hmr.trans hm3 fun _ _ h => h, by omega⟩, by omega⟩
  · have hil : i = l.length := by omega
    subst hil
    rw [List.take_length] at *
    rw [decide_eq_true hnl, decide_eq_true (show 0 < l.length by omega)]
    refine C_seq ?_
    refine C_seq ?_
    refine C_region ?_
    refine L (S (P_move rfl) ?_)
    refine L (S (P_move rfl) ?_)
    refine L (S (P_lenT Tryz.underlying9 rfl) ?_)
    refine L (S (P_lt rfl rfl (decide_eq_false (by omega))) ?_)
    refine L_nil ?_
    refine then_n ?_
    refine C_false rfl ?_
    refine C_exit ?_
    refine then_x ?_
    refine then_x ?_
    refine blk_x ?_
    refine then_n ?_
    refine C_seq ?_
    refine C_seq ?_
    refine C_region ?_
    refine L (S (P_move rfl) ?_)
    refine L (S (P_not rfl rfl) ?_)
    refine L_nil ?_
    refine then_n ?_
    refine C_false rfl ?_
    refine C_skip ?_
    refine then_n ?_
    refine C_seq ?_
    refine C_seq ?_
    refine C_region ?_
    refine L (S (P_move rfl) ?_)
    refine L (S (P_not rfl rfl) ?_)
    refine L_nil ?_
    refine then_n ?_
    refine C_false rfl ?_
    refine C_skip ?_
    refine then_n ?_
    refine C_seq ?_
    refine C_seq ?_
    refine C_region ?_
    refine L (S (P_move rfl) ?_)
    refine L (S (P_move rfl) ?_)
    refine L (S (P_lenT Tryz.underlying9 rfl) ?_)
    refine L (S (P_lt rfl rfl (decide_eq_false (by omega))) ?_)
    refine L (S (P_move rfl) ?_)
    refine L_no (j := 4) (dj := 132) (b := true) (b' := false) (d := 133) rfl ?_
    refine L_no (j := 4) (dj := 132) (b := true) (b' := false) (d := 134) rfl ?_
    refine L_no (j := 4) (dj := 132) (b := true) (b' := false) (d := 135) rfl ?_
    refine L_no (j := 4) (dj := 132) (b := true) (b' := false) (d := 136) rfl ?_
    refine L_no (j := 4) (dj := 132) (b := true) (b' := false) (d := 137) rfl ?_
    refine L (S (P_pickF rfl rfl) ?_)
    refine L_nil ?_
    refine then_n ?_
    refine C_false rfl ?_
    refine C_skip ?_
    refine then_n ?_
    refine C_seq ?_
    refine C_seq ?_
    refine C_region ?_
    refine L (S (P_move rfl) ?_)
    refine L (S (P_move rfl) ?_)
    refine L (S (P_lenT Tryz.underlying9 rfl) ?_)
    refine L (S (P_ne rfl rfl (decide_eq_false (by omega))) ?_)
    refine L_nil ?_
    refine then_n ?_
    refine C_false rfl ?_
    refine C_skip ?_
    refine then_n ?_
    refine C_seq ?_
    refine C_region ?_
    refine L (S (P_assign rfl) ?_)
    refine L_nil ?_
    refine then_n ?_
    refine C_ret ?_
    refine F_ret1 Tryz.results164 rfl ?_
    exact ⟨rfl, hE, hmr⟩
end
end Go.Proofs.YtnoioimphcmeiaaGreatDoor
