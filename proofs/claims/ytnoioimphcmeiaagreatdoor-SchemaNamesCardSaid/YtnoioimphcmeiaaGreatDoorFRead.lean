import Derived.Test.YtnoioimphcmeiaaGreatDoorFPar
namespace Go.Proofs.YtnoioimphcmeiaaGreatDoor
open Go.RowKit
set_option maxRecDepth 20000
set_option maxHeartbeats 1000000

/-- What is known of a number while it is read. -/
structure RS where
  m : Nat
  tr : Bool
  dot : Bool
  sd : Bool
  nd : Nat
  nm : Nat
  dp : Int
def rdS (s : RS) (c : UInt8) : RS :=
  if c.toNat = 46 then { s with dot := true, dp := s.nd }
  else if c.toNat = 48 ∧ s.nd = 0 then { s with sd := true, dp := s.dp - 1 }
  else if s.nm < 19 then { s with sd := true, nd := s.nd + 1, m := s.m * 10 + (c.toNat - 48), nm := s.nm + 1 }
  else { s with sd := true, nd := s.nd + 1, tr := if c.toNat = 48 then s.tr else true }
def rd0 : RS := ⟨0, false, false, false, 0, 0, 0⟩
def rdF (l : List UInt8) : RS := l.foldl rdS rd0
structure RI (s : RS) (n : Nat) : Prop where
  lt : s.m < 10 ^ s.nm
  nm : s.nm = min s.nd 19
  ge : 0 < s.nm → 10 ^ (s.nm - 1) ≤ s.m
  hi : s.dp ≤ s.nd
  lo : -(n : Int) ≤ s.dp
  nd : s.nd ≤ n
theorem RI.zero : RI rd0 0 := ⟨by decide, by decide, fun h => absurd h (by decide), by decide, by decide, by decide⟩
theorem RI.step {s : RS} {n : Nat} {c : UInt8} (h : RI s n) (hc : c.toNat = 46 ∨ (48 ≤ c.toNat ∧ c.toNat ≤ 57)) : RI (rdS s c) (n + 1) := by
  obtain ⟨h1, h2, h3, h4, h5, h6⟩ := h
  unfold rdS
  split
  · exact ⟨h1, h2, h3, Int.le_refl _, by dsimp only; omega, by dsimp only; omega⟩
  · split
    · exact ⟨h1, h2, h3, by dsimp only; omega, by dsimp only; omega, by dsimp only; omega⟩
    · split
      · refine ⟨?_, by dsimp only; omega, fun _ => ?_, by dsimp only; omega, by dsimp only; omega, by dsimp only; omega⟩
        · dsimp only
          rw [Nat.pow_succ]
          omega
        · dsimp only
          rw [Nat.add_sub_cancel]
          by_cases h0 : s.nm = 0
          · rw [h0]
            have : s.nd = 0 := by omega
            show 1 ≤ _
            omega
          · have h7 := h3 (by omega)
            obtain ⟨k, hk⟩ : ∃ k, s.nm = k + 1 := ⟨s.nm - 1, by omega⟩
            rw [hk, Nat.add_sub_cancel] at h7
            rw [hk, Nat.pow_succ]
            omega
      · exact ⟨h1, by dsimp only; omega, h3, by dsimp only; omega, by dsimp only; omega, by dsimp only; omega⟩
theorem rdF_snoc {l : List UInt8} {i : Nat} {c : UInt8} (h : l[i]? = some c) : rdF (l.take (i + 1)) = rdS (rdF (l.take i)) c := by
  unfold rdF
  rw [List.take_add_one, h, List.foldl_append]
  rfl
theorem m_lt {s : RS} {n : Nat} (h : RI s n) : s.m < 10000000000000000000 := by
  have h2 := h.nm
  have : 10 ^ s.nm ≤ 10 ^ 19 := Nat.pow_le_pow_right (by omega) (by omega)
  have := h.lt
  omega
theorem m_lt18 {s : RS} {n : Nat} (h : RI s n) (h19 : s.nm < 19) : s.m < 1000000000000000000 := by
  have : 10 ^ s.nm ≤ 10 ^ 18 := Nat.pow_le_pow_right (by omega) (by omega)
  have := h.lt
  omega
/-- The power of ten. -/
def rdE (s : RS) : Int := if s.m ≠ 0 then s.dp - s.nm else 0
theorem rdE_bd {s : RS} {n : Nat} (h : RI s n) : -(n : Int) - 19 ≤ rdE s ∧ rdE s ≤ n := by
  obtain ⟨h1, h2, h3, h4, h5, h6⟩ := h
  unfold rdE
  split <;> omega
theorem rdE_hi {s : RS} {n : Nat} (h : RI s n) : rdE s ≤ 0 ∨ 4503599627370496 ≤ s.m := by
  obtain ⟨h1, h2, h3, h4, h5, h6⟩ := h
  unfold rdE
  split
  · by_cases h19 : s.nd < 19
    · omega
    · have : s.nm = 19 := by omega
      rw [this] at h3
      have := h3 (by omega)
      omega
  · omega
/-- One point, else digits, a digit first. -/
structure RT (l : List UInt8) (n : Nat) : Prop where
  dot : l[n]? = some 46
  dig : ∀ i c, l[i]? = some c → i ≠ n → 48 ≤ c.toNat ∧ c.toNat ≤ 57
  pos : 0 < n
theorem RealT.rt {l : List UInt8} (h : RealT l) : ∃ n, RT l n := by
  obtain ⟨a, b, rfl, ha, hb, hda, hdb⟩ := h
  have hpos : 0 < a.length := List.length_pos_iff.2 ha
  refine ⟨a.length, ⟨by simp, ?_, hpos⟩⟩
  intro i c hc hi
  have key : ∀ c : UInt8, digN c.toNat = true → 48 ≤ c.toNat ∧ c.toNat ≤ 57 := fun c h => by unfold digN at h; simpa using h
  rcases Nat.lt_or_ge i a.length with h | h
  · rw [List.getElem?_append_left h] at hc
    exact key c (hda c (List.mem_of_getElem? hc))
  · rw [List.getElem?_append_right h] at hc
    obtain ⟨k, hk⟩ : ∃ k, i - a.length = k + 1 := ⟨i - a.length - 1, by omega⟩
    rw [hk, List.getElem?_cons_succ] at hc
    exact key c (hdb c (List.mem_of_getElem? hc))
theorem RT.lt {l : List UInt8} {n : Nat} (h : RT l n) : n < l.length := (List.getElem?_eq_some_iff.1 h.dot).1
theorem RT.ri {l : List UInt8} {n : Nat} (h : RT l n) : ∀ i, i ≤ l.length → RI (rdF (l.take i)) i := by
  intro i
  induction i with
  | zero => intro _; exact RI.zero
  | succ i ih =>
    intro hi
    have hc : l[i]? = some l[i] := List.getElem?_eq_getElem hi
    rw [rdF_snoc hc]
    refine (ih (by omega)).step ?_
    by_cases hin : i = n
    · subst hin
      have := h.dot
      rw [hc] at this
      have : l[i] = 46 := by simpa using this
      rw [this]
      exact .inl rfl
    · exact .inr (h.dig i _ hc hin)

section
variable {w : World}
set_option maxHeartbeats 2000000 in
theorem readFloat_ret {l : List UInt8} {n : Nat} (hr : RT l n) (hl : l.length ≤ 100000) : Ret Tryz.prog 158 [.string (str l)] w fun v w' => v = .tuple #[.int .u64 ((rdF l).m : Int), .int .i64 (rdE (rdF l)), .bool false, .bool (rdF l).tr, .bool false, .int .i64 (l.length : Int), .bool true] ∧ w = w' := by
  have hsz := str_size l
  have hnl := hr.lt
  have hn0 := hr.pos
  obtain ⟨c0, hc0⟩ : ∃ c, l[0]? = some c := ⟨l[0], List.getElem?_eq_getElem (by omega)⟩
  have hd0 := hr.dig 0 c0 hc0 (by omega)
  refine F_enter Tryz.func158 Tryz.ntmps158 rfl rfl ?_
  refine C_seq ?_
  refine C_region ?_
  refine L (S (P_assign rfl) ?_)
  refine L (S (P_assign rfl) ?_)
  refine L (S (P_assign rfl) ?_)
  refine L (S (P_assign rfl) ?_)
  refine L (S (P_assign rfl) ?_)
  refine L (S (P_assign rfl) ?_)
  refine L (S (P_assign rfl) ?_)
  refine L_nil ?_
  refine then_n ?_
  refine C_scope ?_
  refine C_seq ?_
  refine C_region ?_
  refine L (S (P_assign rfl) ?_)
  refine L_nil ?_
  refine then_n ?_
  refine C_seq ?_
  refine C_seq ?_
  refine C_region ?_
  refine L (S (P_move rfl) ?_)
  refine L (S (P_move rfl) ?_)
  refine L (S (P_lenT Tryz.underlying9 rfl) ?_)
  refine L (S (P_ge rfl rfl (decide_eq_false (by omega))) ?_)
  refine L_nil ?_
  refine then_n ?_
  refine C_false rfl ?_
  refine C_skip ?_
  refine then_n ?_
  refine C_seq ?_
  refine C_seq ?_
  refine C_region ?_
  refine L (S (P_move rfl) ?_)
  refine L (S (P_move rfl) ?_)
  refine L (S (P_indexT Tryz.underlying9 rfl rfl (j := 0) rfl (str_idx hc0)) ?_)
  refine L_nil ?_
  refine then_n ?_
  refine C_block ?_
  refine C_seq ?_
  refine C_region ?_
  refine L (S (P_eq rfl rfl (decide_eq_false (by omega))) ?_)
  refine L (S (P_assign rfl) ?_)
  refine L_nil ?_
  refine then_n ?_
  refine C_false rfl ?_
  refine C_seq ?_
  refine C_region ?_
  refine L (S (P_eq rfl rfl (decide_eq_false (by omega))) ?_)
  refine L (S (P_assign rfl) ?_)
  refine L_nil ?_
  refine then_n ?_
  refine C_false rfl ?_
  refine C_skip ?_
  refine blk_n ?_
  refine then_n ?_
  refine C_seq ?_
  refine C_region ?_
  refine L (S (P_assign rfl) ?_)
  refine L_nil ?_
  refine then_n ?_
  refine C_seq ?_
  refine C_region ?_
  refine L (S (P_assign rfl) ?_)
  refine L_nil ?_
  refine then_n ?_
  refine C_seq ?_
  refine C_region ?_
  refine L (S (P_assign rfl) ?_)
  refine L_nil ?_
  refine then_n ?_
  refine C_seq ?_
  refine C_seq ?_
  refine C_cutg (γ := Unit) (fun _ => [(0, .string (str l)), (2, .int .u64 0), (3, .int .i64 0), (4, .bool false), (5, .bool false), (6, .bool false), (7, .int .i64 0), (8, .bool false), (9, .bool false), (10, .int .u64 10), (11, .int .i64 19), (12, .int .u8 101), (54, .bool false)]) (fun _ wc => wc = w) ?_ ?_
  · by_cases h2 : 2 < l.length
    · obtain ⟨c1, hc1⟩ : ∃ c, l[1]? = some c := ⟨l[1], List.getElem?_eq_getElem (by omega)⟩
      have hx : ((c1 ||| 32).toNat : Int) ≠ 120 := by
        have hb : c1.toNat = 46 ∨ (48 ≤ c1.toNat ∧ c1.toNat ≤ 57) := by
          by_cases h1 : 1 = n
          · subst h1
            have := hr.dot
            rw [hc1] at this
            have : c1 = 46 := by simpa using this
            rw [this]; exact .inl rfl
          · exact .inr (hr.dig 1 c1 hc1 (by omega))
        have key : ∀ k : Fin 256, (k.val = 46 ∨ (48 ≤ k.val ∧ k.val ≤ 57)) → ((UInt8.ofNat k.val) ||| 32).toNat ≠ 120 := by decide +kernel
        have := key ⟨c1.toNat, c1.toNat_lt⟩ hb
        have e : UInt8.ofNat c1.toNat = c1 := by simp
        dsimp only at this
        rw [e] at this
        omega
      by_cases h48 : c0.toNat = 48
      · refine C_region ?_
        refine L (S (P_move rfl) ?_)
        refine L (S (P_add rfl rfl (wI64 ⟨rfl, by omega, by omega⟩)) ?_)
        refine L (S (P_move rfl) ?_)
        refine L (S (P_lenT Tryz.underlying9 rfl) ?_)
        refine L (S (P_lt rfl rfl (decide_eq_true (by omega))) ?_)
        refine L (S (P_move rfl) ?_)
        refine L_yes (j := 5) (dj := 41) (b := true) (S (P_move rfl) ?_) rfl
        refine L_yes (j := 5) (dj := 41) (b := true) (S (P_move rfl) ?_) rfl
        refine L_yes (j := 5) (dj := 41) (b := true) (S (P_indexT Tryz.underlying9 rfl rfl (j := 0) rfl (str_idx hc0)) ?_) rfl
        refine L_yes (j := 5) (dj := 41) (b := true) (S (P_eq rfl rfl (decide_eq_true (by omega))) ?_) rfl
        refine L (S (P_pickT rfl rfl) ?_)
        refine L (S (P_move rfl) ?_)
        refine L_yes (j := 11) (dj := 47) (b := true) (S (P_move rfl) ?_) rfl
        refine L_yes (j := 11) (dj := 47) (b := true) (S (P_move rfl) ?_) rfl
        refine L_yes (j := 11) (dj := 47) (b := true) (S (P_add rfl rfl (wI64 ⟨rfl, by omega, by omega⟩)) ?_) rfl
        refine L_yes (j := 11) (dj := 47) (b := true) (S (P_indexT Tryz.underlying9 rfl rfl (j := 1) rfl (str_idx hc1)) ?_) rfl
        refine L_yes (j := 11) (dj := 47) (b := true) (S_call cb_174 rfl (lower_ret c1) ?_) rfl
        rintro _ _ ⟨rfl, rfl⟩
        refine L_yes (j := 11) (dj := 47) (b := true) (S (P_eq rfl rfl (decide_eq_false hx)) ?_) rfl
        refine L (S (P_pickT rfl rfl) ?_)
        refine L_nil ?_
        refine then_n ?_
        exact ⟨rfl, (), (.cons rfl (.cons rfl (.cons rfl (.cons rfl (.cons rfl (.cons rfl (.cons rfl (.cons rfl (.cons rfl (.cons rfl (.cons rfl (.cons rfl (.cons rfl (.nil _)))))))))))))), rfl⟩
      · refine C_region ?_
        refine L (S (P_move rfl) ?_)
        refine L (S (P_add rfl rfl (wI64 ⟨rfl, by omega, by omega⟩)) ?_)
        refine L (S (P_move rfl) ?_)
        refine L (S (P_lenT Tryz.underlying9 rfl) ?_)
        refine L (S (P_lt rfl rfl (decide_eq_true (by omega))) ?_)
        refine L (S (P_move rfl) ?_)
        refine L_yes (j := 5) (dj := 41) (b := true) (S (P_move rfl) ?_) rfl
        refine L_yes (j := 5) (dj := 41) (b := true) (S (P_move rfl) ?_) rfl
        refine L_yes (j := 5) (dj := 41) (b := true) (S (P_indexT Tryz.underlying9 rfl rfl (j := 0) rfl (str_idx hc0)) ?_) rfl
        refine L_yes (j := 5) (dj := 41) (b := true) (S (P_eq rfl rfl (decide_eq_false (by omega))) ?_) rfl
        refine L (S (P_pickT rfl rfl) ?_)
        refine L (S (P_move rfl) ?_)
        refine L_no (j := 11) (dj := 47) (b := true) (b' := false) (d := 48) rfl ?_
        refine L_no (j := 11) (dj := 47) (b := true) (b' := false) (d := 49) rfl ?_
        refine L_no (j := 11) (dj := 47) (b := true) (b' := false) (d := 50) rfl ?_
        refine L_no (j := 11) (dj := 47) (b := true) (b' := false) (d := 51) rfl ?_
        refine L_no (j := 11) (dj := 47) (b := true) (b' := false) (d := 52) rfl ?_
        refine L_no (j := 11) (dj := 47) (b := true) (b' := false) (d := 53) rfl ?_
        refine L (S (P_pickF rfl rfl) ?_)
        refine L_nil ?_
        refine then_n ?_
        exact ⟨rfl, (), (.cons rfl (.cons rfl (.cons rfl (.cons rfl (.cons rfl (.cons rfl (.cons rfl (.cons rfl (.cons rfl (.cons rfl (.cons rfl (.cons rfl (.cons rfl (.nil _)))))))))))))), rfl⟩
    · refine C_region ?_
      refine L (S (P_move rfl) ?_)
      refine L (S (P_add rfl rfl (wI64 ⟨rfl, by omega, by omega⟩)) ?_)
      refine L (S (P_move rfl) ?_)
      refine L (S (P_lenT Tryz.underlying9 rfl) ?_)
      refine L (S (P_lt rfl rfl (decide_eq_false (by omega))) ?_)
      refine L (S (P_move rfl) ?_)
      refine L_no (j := 5) (dj := 41) (b := true) (b' := false) (d := 42) rfl ?_
      refine L_no (j := 5) (dj := 41) (b := true) (b' := false) (d := 43) rfl ?_
      refine L_no (j := 5) (dj := 41) (b := true) (b' := false) (d := 44) rfl ?_
      refine L_no (j := 5) (dj := 41) (b := true) (b' := false) (d := 45) rfl ?_
      refine L (S (P_pickF rfl rfl) ?_)
      refine L (S (P_move rfl) ?_)
      refine L_no (j := 11) (dj := 47) (b := true) (b' := false) (d := 48) rfl ?_
      refine L_no (j := 11) (dj := 47) (b := true) (b' := false) (d := 49) rfl ?_
      refine L_no (j := 11) (dj := 47) (b := true) (b' := false) (d := 50) rfl ?_
      refine L_no (j := 11) (dj := 47) (b := true) (b' := false) (d := 51) rfl ?_
      refine L_no (j := 11) (dj := 47) (b := true) (b' := false) (d := 52) rfl ?_
      refine L_no (j := 11) (dj := 47) (b := true) (b' := false) (d := 53) rfl ?_
      refine L (S (P_pickF rfl rfl) ?_)
      refine L_nil ?_
      refine then_n ?_
      exact ⟨rfl, (), (.cons rfl (.cons rfl (.cons rfl (.cons rfl (.cons rfl (.cons rfl (.cons rfl (.cons rfl (.cons rfl (.cons rfl (.cons rfl (.cons rfl (.cons rfl (.nil _)))))))))))))), rfl⟩
  rintro _ wz rfl f' hf'
  refine C_forget hf' ?_
  clear hf' f'
  refine C_false rfl ?_
  refine C_skip ?_
  refine then_n ?_
  refine C_seq ?_
  refine C_region ?_
  refine L (S (P_assign rfl) ?_)
  refine L_nil ?_
  refine then_n ?_
  refine C_seq ?_
  refine C_region ?_
  refine L (S (P_assign rfl) ?_)
  refine L_nil ?_
  refine then_n ?_
  refine C_seq ?_
  refine C_region ?_
  refine L (S (P_assign rfl) ?_)
  refine L_nil ?_
  refine then_n ?_
  refine C_seq ?_
  refine C_region ?_
  refine L (S (P_assign rfl) ?_)
  refine L_nil ?_
  refine then_n ?_
  refine C_seq ?_
  refine C_region ?_
  refine L (S (P_assign rfl) ?_)
  refine L_nil ?_
  refine then_n ?_
  refine C_seq ?_
  refine C_label ?_
  refine then_n ?_
  refine C_seq ?_
  refine C_block ?_
  refine C_loop (γ := Nat) (fun i => [(0, .string (str l)), (2, .int .u64 ((rdF (l.take i)).m : Int)), (3, .int .i64 0), (4, .bool false), (5, .bool (rdF (l.take i)).tr), (6, .bool false), (7, .int .i64 (i : Int)), (8, .bool false), (9, .bool false), (10, .int .u64 10), (11, .int .i64 19), (12, .int .u8 101), (13, .bool (rdF (l.take i)).dot), (14, .bool (rdF (l.take i)).sd), (15, .int .i64 ((rdF (l.take i)).nd : Int)), (16, .int .i64 ((rdF (l.take i)).nm : Int)), (17, .int .i64 (rdF (l.take i)).dp)]) (fun i wr => wr = wz ∧ i ≤ l.length ∧ (rdF (l.take i)).dot = decide (n < i) ∧ (rdF (l.take i)).sd = decide (0 < i)) (fun i => l.length - i) 0 (.cons rfl (.cons rfl (.cons rfl (.cons rfl (.cons rfl (.cons rfl (.cons rfl (.cons rfl (.cons rfl (.cons rfl (.cons rfl (.cons rfl (.cons rfl (.cons rfl (.cons rfl (.cons rfl (.cons rfl (.nil _)))))))))))))))))) ⟨rfl, Nat.zero_le _, rfl, rfl⟩ ?_
  rintro i wr ⟨rfl, hi, hdot, hsd⟩
  have hri := hr.ri i hi
  rcases Nat.lt_or_ge i l.length with hlt | hge
  · obtain ⟨c, hc⟩ : ∃ c, l[i]? = some c := ⟨l[i], List.getElem?_eq_getElem hlt⟩
    have hsn := rdF_snoc hc
    have hml := m_lt hri
    have hml18 := m_lt18 hri
    obtain ⟨r1, r2, r3, r4, r5, r6⟩ := hri
    generalize rdF (l.take i) = s at *
    have hdone : ∀ s', rdF (l.take (i + 1)) = s' → s'.dot = decide (n < i + 1) → s'.sd = true → (wr = wr ∧ i + 1 ≤ l.length ∧ (rdF (l.take (i + 1))).dot = decide (n < i + 1) ∧ (rdF (l.take (i + 1))).sd = decide (0 < i + 1)) := fun s' e h1 h2 => ⟨rfl, hlt, by rw [e]; exact h1, by rw [e, h2]; exact (decide_eq_true (by omega)).symm⟩
    by_cases hin : i = n
    · have hc46 : c.toNat = 46 := by
        have := hr.dot
        rw [← hin, hc] at this
        have : c = 46 := by simpa using this
        rw [this]; rfl
      have hdf : s.dot = false := by rw [hdot]; exact decide_eq_false (by omega)
      have hst : s.sd = true := by rw [hsd]; exact decide_eq_true (by omega)
      unfold rdS at hsn
      rw [if_pos hc46] at hsn
      rw [hdf]
      refine C_seq ?_
      refine C_seq ?_
      refine C_region ?_
      refine L (S (P_move rfl) ?_)
      refine L (S (P_move rfl) ?_)
      refine L (S (P_lenT Tryz.underlying9 rfl) ?_)
      refine L (S (P_lt rfl rfl (decide_eq_true (by omega))) ?_)
      refine L_nil ?_
      refine then_n ?_
      refine C_true rfl ?_
      refine C_skip ?_
      refine then_n ?_
      refine C_seq ?_
      refine C_block ?_
      refine C_seq ?_
      refine C_seq ?_
      refine C_region ?_
      refine L (S (P_move rfl) ?_)
      refine L (S (P_move rfl) ?_)
      refine L (S (P_indexT Tryz.underlying9 rfl rfl (j := i) rfl (str_idx hc)) ?_)
      refine L (S (P_assign rfl) ?_)
      refine L_nil ?_
      refine then_n ?_
      refine C_block ?_
      refine C_seq ?_
      refine C_region ?_
      refine L (S (P_move rfl) ?_)
      refine L (S (P_eq rfl rfl (decide_eq_false (by omega))) ?_)
      refine L (S (P_eqB (β := false) Tryz.underlying4 rfl rfl rfl) ?_)
      refine L (S (P_assign rfl) ?_)
      refine L_nil ?_
      refine then_n ?_
      refine C_false rfl ?_
      refine C_seq ?_
      refine C_region ?_
      refine L (S (P_move rfl) ?_)
      refine L (S (P_eq rfl rfl (decide_eq_true (by omega))) ?_)
      refine L (S (P_eqB (β := true) Tryz.underlying4 rfl rfl rfl) ?_)
      refine L (S (P_assign rfl) ?_)
      refine L_nil ?_
      refine then_n ?_
      refine C_true rfl ?_
      refine C_seq ?_
      refine C_seq ?_
      refine C_region ?_
      refine L (S (P_move rfl) ?_)
      refine L_nil ?_
      refine then_n ?_
      refine C_false rfl ?_
      refine C_skip ?_
      refine then_n ?_
      refine C_seq ?_
      refine C_region ?_
      refine L (S (P_assign rfl) ?_)
      refine L_nil ?_
      refine then_n ?_
      refine C_seq ?_
      refine C_region ?_
      refine L (S (P_move rfl) ?_)
      refine L (S (P_assign rfl) ?_)
      refine L_nil ?_
      refine then_n ?_
      refine C_exit ?_
      refine blk_o rfl ?_
      refine then_x ?_
      refine blk_x ?_
      refine then_n ?_
      refine C_region ?_
      refine L (S (P_move rfl) ?_)
      refine L (S (P_add rfl rfl (wI64 (c := ((i + 1 : Nat) : Int)) (by omega))) ?_)
      refine L (S (P_assign rfl) ?_)
      refine L_nil ?_
      refine then_n ?_
      exact ⟨rfl, i + 1, by rw [hsn]; exact (.cons rfl (.cons rfl (.cons rfl (.cons rfl (.cons rfl (.cons rfl (.cons rfl (.cons rfl (.cons rfl (.cons rfl (.cons rfl (.cons rfl (.cons rfl (.cons rfl (.cons rfl (.cons rfl (.cons rfl (.nil _)))))))))))))))))), hdone _ hsn (decide_eq_true (by omega)).symm hst, by omega⟩
    · have hcd := hr.dig i c hc hin
      have hdd : s.dot = decide (n < i + 1) := by
        rw [hdot]
        by_cases hni : n < i
        · rw [decide_eq_true hni, decide_eq_true (by omega)]
        · rw [decide_eq_false hni, decide_eq_false (by omega)]
      unfold rdS at hsn
      rw [if_neg (by omega)] at hsn
      by_cases hz : c.toNat = 48 ∧ s.nd = 0
      · rw [if_pos hz] at hsn
        refine C_seq ?_
        refine C_seq ?_
        refine C_region ?_
        refine L (S (P_move rfl) ?_)
        refine L (S (P_move rfl) ?_)
        refine L (S (P_lenT Tryz.underlying9 rfl) ?_)
        refine L (S (P_lt rfl rfl (decide_eq_true (by omega))) ?_)
        refine L_nil ?_
        refine then_n ?_
        refine C_true rfl ?_
        refine C_skip ?_
        refine then_n ?_
        refine C_seq ?_
        refine C_block ?_
        refine C_seq ?_
        refine C_seq ?_
        refine C_region ?_
        refine L (S (P_move rfl) ?_)
        refine L (S (P_move rfl) ?_)
        refine L (S (P_indexT Tryz.underlying9 rfl rfl (j := i) rfl (str_idx hc)) ?_)
        refine L (S (P_assign rfl) ?_)
        refine L_nil ?_
        refine then_n ?_
        refine C_block ?_
        refine C_seq ?_
        refine C_region ?_
        refine L (S (P_move rfl) ?_)
        refine L (S (P_eq rfl rfl (decide_eq_false (by omega))) ?_)
        refine L (S (P_eqB (β := false) Tryz.underlying4 rfl rfl rfl) ?_)
        refine L (S (P_assign rfl) ?_)
        refine L_nil ?_
        refine then_n ?_
        refine C_false rfl ?_
        refine C_seq ?_
        refine C_region ?_
        refine L (S (P_move rfl) ?_)
        refine L (S (P_eq rfl rfl (decide_eq_false (by omega))) ?_)
        refine L (S (P_eqB (β := false) Tryz.underlying4 rfl rfl rfl) ?_)
        refine L (S (P_assign rfl) ?_)
        refine L_nil ?_
        refine then_n ?_
        refine C_false rfl ?_
        refine C_seq ?_
        refine C_region ?_
        refine L (S (P_move rfl) ?_)
        refine L (S (P_le rfl rfl (decide_eq_true (by omega))) ?_)
        refine L (S (P_move rfl) ?_)
        refine L_yes (j := 2) (dj := 79) (b := true) (S (P_move rfl) ?_) rfl
        refine L_yes (j := 2) (dj := 79) (b := true) (S (P_le rfl rfl (decide_eq_true (by omega))) ?_) rfl
        refine L (S (P_pickT rfl rfl) ?_)
        refine L (S (P_eqB (β := true) Tryz.underlying4 rfl rfl rfl) ?_)
        refine L (S (P_assign rfl) ?_)
        refine L_nil ?_
        refine then_n ?_
        refine C_true rfl ?_
        refine C_seq ?_
        refine C_region ?_
        refine L (S (P_assign rfl) ?_)
        refine L_nil ?_
        refine then_n ?_
        refine C_seq ?_
        refine C_seq ?_
        refine C_region ?_
        refine L (S (P_move rfl) ?_)
        refine L (S (P_eq rfl rfl (decide_eq_true (by omega))) ?_)
        refine L (S (P_move rfl) ?_)
        refine L_yes (j := 2) (dj := 86) (b := true) (S (P_move rfl) ?_) rfl
        refine L_yes (j := 2) (dj := 86) (b := true) (S (P_eq rfl rfl (decide_eq_true (by omega))) ?_) rfl
        refine L (S (P_pickT rfl rfl) ?_)
        refine L_nil ?_
        refine then_n ?_
        refine C_true rfl ?_
        refine C_seq ?_
        refine C_region ?_
        refine L (S (P_move rfl) ?_)
        refine L (S (P_sub rfl rfl (wI64 (c := s.dp - 1) (by omega))) ?_)
        refine L (S (P_assign rfl) ?_)
        refine L_nil ?_
        refine then_n ?_
        refine C_exit ?_
        refine then_x ?_
        refine blk_o rfl ?_
        refine then_x ?_
        refine blk_x ?_
        refine then_n ?_
        refine C_region ?_
        refine L (S (P_move rfl) ?_)
        refine L (S (P_add rfl rfl (wI64 (c := ((i + 1 : Nat) : Int)) (by omega))) ?_)
        refine L (S (P_assign rfl) ?_)
        refine L_nil ?_
        refine then_n ?_
        exact ⟨rfl, i + 1, by rw [hsn]; exact (.cons rfl (.cons rfl (.cons rfl (.cons rfl (.cons rfl (.cons rfl (.cons rfl (.cons rfl (.cons rfl (.cons rfl (.cons rfl (.cons rfl (.cons rfl (.cons rfl (.cons rfl (.cons rfl (.cons rfl (.nil _)))))))))))))))))), hdone _ hsn hdd rfl, by omega⟩
      · rw [if_neg hz] at hsn
        by_cases h19 : s.nm < 19
        · have := hml18 h19
          rw [if_pos h19] at hsn
          by_cases h48 : c.toNat = 48
          · refine C_seq ?_
            refine C_seq ?_
            refine C_region ?_
            refine L (S (P_move rfl) ?_)
            refine L (S (P_move rfl) ?_)
            refine L (S (P_lenT Tryz.underlying9 rfl) ?_)
            refine L (S (P_lt rfl rfl (decide_eq_true (by omega))) ?_)
            refine L_nil ?_
            refine then_n ?_
            refine C_true rfl ?_
            refine C_skip ?_
            refine then_n ?_
            refine C_seq ?_
            refine C_block ?_
            refine C_seq ?_
            refine C_seq ?_
            refine C_region ?_
            refine L (S (P_move rfl) ?_)
            refine L (S (P_move rfl) ?_)
            refine L (S (P_indexT Tryz.underlying9 rfl rfl (j := i) rfl (str_idx hc)) ?_)
            refine L (S (P_assign rfl) ?_)
            refine L_nil ?_
            refine then_n ?_
            refine C_block ?_
            refine C_seq ?_
            refine C_region ?_
            refine L (S (P_move rfl) ?_)
            refine L (S (P_eq rfl rfl (decide_eq_false (by omega))) ?_)
            refine L (S (P_eqB (β := false) Tryz.underlying4 rfl rfl rfl) ?_)
            refine L (S (P_assign rfl) ?_)
            refine L_nil ?_
            refine then_n ?_
            refine C_false rfl ?_
            refine C_seq ?_
            refine C_region ?_
            refine L (S (P_move rfl) ?_)
            refine L (S (P_eq rfl rfl (decide_eq_false (by omega))) ?_)
            refine L (S (P_eqB (β := false) Tryz.underlying4 rfl rfl rfl) ?_)
            refine L (S (P_assign rfl) ?_)
            refine L_nil ?_
            refine then_n ?_
            refine C_false rfl ?_
            refine C_seq ?_
            refine C_region ?_
            refine L (S (P_move rfl) ?_)
            refine L (S (P_le rfl rfl (decide_eq_true (by omega))) ?_)
            refine L (S (P_move rfl) ?_)
            refine L_yes (j := 2) (dj := 79) (b := true) (S (P_move rfl) ?_) rfl
            refine L_yes (j := 2) (dj := 79) (b := true) (S (P_le rfl rfl (decide_eq_true (by omega))) ?_) rfl
            refine L (S (P_pickT rfl rfl) ?_)
            refine L (S (P_eqB (β := true) Tryz.underlying4 rfl rfl rfl) ?_)
            refine L (S (P_assign rfl) ?_)
            refine L_nil ?_
            refine then_n ?_
            refine C_true rfl ?_
            refine C_seq ?_
            refine C_region ?_
            refine L (S (P_assign rfl) ?_)
            refine L_nil ?_
            refine then_n ?_
            refine C_seq ?_
            refine C_seq ?_
            refine C_region ?_
            refine L (S (P_move rfl) ?_)
            refine L (S (P_eq rfl rfl (decide_eq_true (by omega))) ?_)
            refine L (S (P_move rfl) ?_)
            refine L_yes (j := 2) (dj := 86) (b := true) (S (P_move rfl) ?_) rfl
            refine L_yes (j := 2) (dj := 86) (b := true) (S (P_eq rfl rfl (decide_eq_false (by omega))) ?_) rfl
            refine L (S (P_pickT rfl rfl) ?_)
            refine L_nil ?_
            refine then_n ?_
            refine C_false rfl ?_
            refine C_skip ?_
            refine then_n ?_
            refine C_seq ?_
            refine C_region ?_
            refine L (S (P_move rfl) ?_)
            refine L (S (P_add rfl rfl (wI64 (c := ((s.nd + 1 : Nat) : Int)) (by omega))) ?_)
            refine L (S (P_assign rfl) ?_)
            refine L_nil ?_
            refine then_n ?_
            refine C_seq ?_
            refine C_seq ?_
            refine C_region ?_
            refine L (S (P_move rfl) ?_)
            refine L (S (P_move rfl) ?_)
            refine L (S (P_lt rfl rfl (decide_eq_true (by omega))) ?_)
            refine L_nil ?_
            refine then_n ?_
            refine C_true rfl ?_
            refine C_seq ?_
            refine C_region ?_
            refine L (S (P_move rfl) ?_)
            refine L (S (P_move rfl) ?_)
            refine L (S (P_mul rfl rfl (wU64 (c := ((s.m * 10 : Nat) : Int)) (by omega))) ?_)
            refine L (S (P_assign rfl) ?_)
            refine L_nil ?_
            refine then_n ?_
            refine C_seq ?_
            refine C_region ?_
            refine L (S (P_move rfl) ?_)
            refine L (S (P_move rfl) ?_)
            refine L (S (P_sub rfl rfl (wU8 ⟨rfl, by omega, by omega⟩)) ?_)
            refine L (S (P_conv Tryz.underlying5 Tryz.underlying131 rfl (wU64 ⟨rfl, by omega, by omega⟩)) ?_)
            refine L (S (P_add rfl rfl (wU64 (c := ((s.m * 10 + (c.toNat - 48) : Nat) : Int)) (by omega))) ?_)
            refine L (S (P_assign rfl) ?_)
            refine L_nil ?_
            refine then_n ?_
            refine C_region ?_
            refine L (S (P_move rfl) ?_)
            refine L (S (P_add rfl rfl (wI64 (c := ((s.nm + 1 : Nat) : Int)) (by omega))) ?_)
            refine L (S (P_assign rfl) ?_)
            refine L_nil ?_
            refine then_n ?_
            refine C_exit ?_
            refine blk_o rfl ?_
            refine then_x ?_
            refine blk_x ?_
            refine then_n ?_
            refine C_region ?_
            refine L (S (P_move rfl) ?_)
            refine L (S (P_add rfl rfl (wI64 (c := ((i + 1 : Nat) : Int)) (by omega))) ?_)
            refine L (S (P_assign rfl) ?_)
            refine L_nil ?_
            refine then_n ?_
            exact ⟨rfl, i + 1, by rw [hsn]; exact (.cons rfl (.cons rfl (.cons rfl (.cons rfl (.cons rfl (.cons rfl (.cons rfl (.cons rfl (.cons rfl (.cons rfl (.cons rfl (.cons rfl (.cons rfl (.cons rfl (.cons rfl (.cons rfl (.cons rfl (.nil _)))))))))))))))))), hdone _ hsn hdd rfl, by omega⟩
          · refine C_seq ?_
            refine C_seq ?_
            refine C_region ?_
            refine L (S (P_move rfl) ?_)
            refine L (S (P_move rfl) ?_)
            refine L (S (P_lenT Tryz.underlying9 rfl) ?_)
            refine L (S (P_lt rfl rfl (decide_eq_true (by omega))) ?_)
            refine L_nil ?_
            refine then_n ?_
            refine C_true rfl ?_
            refine C_skip ?_
            refine then_n ?_
            refine C_seq ?_
            refine C_block ?_
            refine C_seq ?_
            refine C_seq ?_
            refine C_region ?_
            refine L (S (P_move rfl) ?_)
            refine L (S (P_move rfl) ?_)
            refine L (S (P_indexT Tryz.underlying9 rfl rfl (j := i) rfl (str_idx hc)) ?_)
            refine L (S (P_assign rfl) ?_)
            refine L_nil ?_
            refine then_n ?_
            refine C_block ?_
            refine C_seq ?_
            refine C_region ?_
            refine L (S (P_move rfl) ?_)
            refine L (S (P_eq rfl rfl (decide_eq_false (by omega))) ?_)
            refine L (S (P_eqB (β := false) Tryz.underlying4 rfl rfl rfl) ?_)
            refine L (S (P_assign rfl) ?_)
            refine L_nil ?_
            refine then_n ?_
            refine C_false rfl ?_
            refine C_seq ?_
            refine C_region ?_
            refine L (S (P_move rfl) ?_)
            refine L (S (P_eq rfl rfl (decide_eq_false (by omega))) ?_)
            refine L (S (P_eqB (β := false) Tryz.underlying4 rfl rfl rfl) ?_)
            refine L (S (P_assign rfl) ?_)
            refine L_nil ?_
            refine then_n ?_
            refine C_false rfl ?_
            refine C_seq ?_
            refine C_region ?_
            refine L (S (P_move rfl) ?_)
            refine L (S (P_le rfl rfl (decide_eq_true (by omega))) ?_)
            refine L (S (P_move rfl) ?_)
            refine L_yes (j := 2) (dj := 79) (b := true) (S (P_move rfl) ?_) rfl
            refine L_yes (j := 2) (dj := 79) (b := true) (S (P_le rfl rfl (decide_eq_true (by omega))) ?_) rfl
            refine L (S (P_pickT rfl rfl) ?_)
            refine L (S (P_eqB (β := true) Tryz.underlying4 rfl rfl rfl) ?_)
            refine L (S (P_assign rfl) ?_)
            refine L_nil ?_
            refine then_n ?_
            refine C_true rfl ?_
            refine C_seq ?_
            refine C_region ?_
            refine L (S (P_assign rfl) ?_)
            refine L_nil ?_
            refine then_n ?_
            refine C_seq ?_
            refine C_seq ?_
            refine C_region ?_
            refine L (S (P_move rfl) ?_)
            refine L (S (P_eq rfl rfl (decide_eq_false (by omega))) ?_)
            refine L (S (P_move rfl) ?_)
            refine L_no (j := 2) (dj := 86) (b := true) (b' := false) (d := 87) rfl ?_
            refine L_no (j := 2) (dj := 86) (b := true) (b' := false) (d := 88) rfl ?_
            refine L (S (P_pickF rfl rfl) ?_)
            refine L_nil ?_
            refine then_n ?_
            refine C_false rfl ?_
            refine C_skip ?_
            refine then_n ?_
            refine C_seq ?_
            refine C_region ?_
            refine L (S (P_move rfl) ?_)
            refine L (S (P_add rfl rfl (wI64 (c := ((s.nd + 1 : Nat) : Int)) (by omega))) ?_)
            refine L (S (P_assign rfl) ?_)
            refine L_nil ?_
            refine then_n ?_
            refine C_seq ?_
            refine C_seq ?_
            refine C_region ?_
            refine L (S (P_move rfl) ?_)
            refine L (S (P_move rfl) ?_)
            refine L (S (P_lt rfl rfl (decide_eq_true (by omega))) ?_)
            refine L_nil ?_
            refine then_n ?_
            refine C_true rfl ?_
            refine C_seq ?_
            refine C_region ?_
            refine L (S (P_move rfl) ?_)
            refine L (S (P_move rfl) ?_)
            refine L (S (P_mul rfl rfl (wU64 (c := ((s.m * 10 : Nat) : Int)) (by omega))) ?_)
            refine L (S (P_assign rfl) ?_)
            refine L_nil ?_
            refine then_n ?_
            refine C_seq ?_
            refine C_region ?_
            refine L (S (P_move rfl) ?_)
            refine L (S (P_move rfl) ?_)
            refine L (S (P_sub rfl rfl (wU8 ⟨rfl, by omega, by omega⟩)) ?_)
            refine L (S (P_conv Tryz.underlying5 Tryz.underlying131 rfl (wU64 ⟨rfl, by omega, by omega⟩)) ?_)
            refine L (S (P_add rfl rfl (wU64 (c := ((s.m * 10 + (c.toNat - 48) : Nat) : Int)) (by omega))) ?_)
            refine L (S (P_assign rfl) ?_)
            refine L_nil ?_
            refine then_n ?_
            refine C_region ?_
            refine L (S (P_move rfl) ?_)
            refine L (S (P_add rfl rfl (wI64 (c := ((s.nm + 1 : Nat) : Int)) (by omega))) ?_)
            refine L (S (P_assign rfl) ?_)
            refine L_nil ?_
            refine then_n ?_
            refine C_exit ?_
            refine blk_o rfl ?_
            refine then_x ?_
            refine blk_x ?_
            refine then_n ?_
            refine C_region ?_
            refine L (S (P_move rfl) ?_)
            refine L (S (P_add rfl rfl (wI64 (c := ((i + 1 : Nat) : Int)) (by omega))) ?_)
            refine L (S (P_assign rfl) ?_)
            refine L_nil ?_
            refine then_n ?_
            exact ⟨rfl, i + 1, by rw [hsn]; exact (.cons rfl (.cons rfl (.cons rfl (.cons rfl (.cons rfl (.cons rfl (.cons rfl (.cons rfl (.cons rfl (.cons rfl (.cons rfl (.cons rfl (.cons rfl (.cons rfl (.cons rfl (.cons rfl (.cons rfl (.nil _)))))))))))))))))), hdone _ hsn hdd rfl, by omega⟩
        · rw [if_neg h19] at hsn
          by_cases h48 : c.toNat = 48
          · rw [if_pos h48] at hsn
            refine C_seq ?_
            refine C_seq ?_
            refine C_region ?_
            refine L (S (P_move rfl) ?_)
            refine L (S (P_move rfl) ?_)
            refine L (S (P_lenT Tryz.underlying9 rfl) ?_)
            refine L (S (P_lt rfl rfl (decide_eq_true (by omega))) ?_)
            refine L_nil ?_
            refine then_n ?_
            refine C_true rfl ?_
            refine C_skip ?_
            refine then_n ?_
            refine C_seq ?_
            refine C_block ?_
            refine C_seq ?_
            refine C_seq ?_
            refine C_region ?_
            refine L (S (P_move rfl) ?_)
            refine L (S (P_move rfl) ?_)
            refine L (S (P_indexT Tryz.underlying9 rfl rfl (j := i) rfl (str_idx hc)) ?_)
            refine L (S (P_assign rfl) ?_)
            refine L_nil ?_
            refine then_n ?_
            refine C_block ?_
            refine C_seq ?_
            refine C_region ?_
            refine L (S (P_move rfl) ?_)
            refine L (S (P_eq rfl rfl (decide_eq_false (by omega))) ?_)
            refine L (S (P_eqB (β := false) Tryz.underlying4 rfl rfl rfl) ?_)
            refine L (S (P_assign rfl) ?_)
            refine L_nil ?_
            refine then_n ?_
            refine C_false rfl ?_
            refine C_seq ?_
            refine C_region ?_
            refine L (S (P_move rfl) ?_)
            refine L (S (P_eq rfl rfl (decide_eq_false (by omega))) ?_)
            refine L (S (P_eqB (β := false) Tryz.underlying4 rfl rfl rfl) ?_)
            refine L (S (P_assign rfl) ?_)
            refine L_nil ?_
            refine then_n ?_
            refine C_false rfl ?_
            refine C_seq ?_
            refine C_region ?_
            refine L (S (P_move rfl) ?_)
            refine L (S (P_le rfl rfl (decide_eq_true (by omega))) ?_)
            refine L (S (P_move rfl) ?_)
            refine L_yes (j := 2) (dj := 79) (b := true) (S (P_move rfl) ?_) rfl
            refine L_yes (j := 2) (dj := 79) (b := true) (S (P_le rfl rfl (decide_eq_true (by omega))) ?_) rfl
            refine L (S (P_pickT rfl rfl) ?_)
            refine L (S (P_eqB (β := true) Tryz.underlying4 rfl rfl rfl) ?_)
            refine L (S (P_assign rfl) ?_)
            refine L_nil ?_
            refine then_n ?_
            refine C_true rfl ?_
            refine C_seq ?_
            refine C_region ?_
            refine L (S (P_assign rfl) ?_)
            refine L_nil ?_
            refine then_n ?_
            refine C_seq ?_
            refine C_seq ?_
            refine C_region ?_
            refine L (S (P_move rfl) ?_)
            refine L (S (P_eq rfl rfl (decide_eq_true (by omega))) ?_)
            refine L (S (P_move rfl) ?_)
            refine L_yes (j := 2) (dj := 86) (b := true) (S (P_move rfl) ?_) rfl
            refine L_yes (j := 2) (dj := 86) (b := true) (S (P_eq rfl rfl (decide_eq_false (by omega))) ?_) rfl
            refine L (S (P_pickT rfl rfl) ?_)
            refine L_nil ?_
            refine then_n ?_
            refine C_false rfl ?_
            refine C_skip ?_
            refine then_n ?_
            refine C_seq ?_
            refine C_region ?_
            refine L (S (P_move rfl) ?_)
            refine L (S (P_add rfl rfl (wI64 (c := ((s.nd + 1 : Nat) : Int)) (by omega))) ?_)
            refine L (S (P_assign rfl) ?_)
            refine L_nil ?_
            refine then_n ?_
            refine C_seq ?_
            refine C_seq ?_
            refine C_region ?_
            refine L (S (P_move rfl) ?_)
            refine L (S (P_move rfl) ?_)
            refine L (S (P_lt rfl rfl (decide_eq_false (by omega))) ?_)
            refine L_nil ?_
            refine then_n ?_
            refine C_false rfl ?_
            refine C_seq ?_
            refine C_region ?_
            refine L (S (P_move rfl) ?_)
            refine L (S (P_ne rfl rfl (decide_eq_false (by omega))) ?_)
            refine L_nil ?_
            refine then_n ?_
            refine C_false rfl ?_
            refine C_skip ?_
            refine then_n ?_
            refine C_exit ?_
            refine blk_o rfl ?_
            refine then_x ?_
            refine blk_x ?_
            refine then_n ?_
            refine C_region ?_
            refine L (S (P_move rfl) ?_)
            refine L (S (P_add rfl rfl (wI64 (c := ((i + 1 : Nat) : Int)) (by omega))) ?_)
            refine L (S (P_assign rfl) ?_)
            refine L_nil ?_
            refine then_n ?_
            exact ⟨rfl, i + 1, by rw [hsn]; exact (.cons rfl (.cons rfl (.cons rfl (.cons rfl (.cons rfl (.cons rfl (.cons rfl (.cons rfl (.cons rfl (.cons rfl (.cons rfl (.cons rfl (.cons rfl (.cons rfl (.cons rfl (.cons rfl (.cons rfl (.nil _)))))))))))))))))), hdone _ hsn hdd rfl, by omega⟩
          · rw [if_neg h48] at hsn
            refine C_seq ?_
            refine C_seq ?_
            refine C_region ?_
            refine L (S (P_move rfl) ?_)
            refine L (S (P_move rfl) ?_)
            refine L (S (P_lenT Tryz.underlying9 rfl) ?_)
            refine L (S (P_lt rfl rfl (decide_eq_true (by omega))) ?_)
            refine L_nil ?_
            refine then_n ?_
            refine C_true rfl ?_
            refine C_skip ?_
            refine then_n ?_
            refine C_seq ?_
            refine C_block ?_
            refine C_seq ?_
            refine C_seq ?_
            refine C_region ?_
            refine L (S (P_move rfl) ?_)
            refine L (S (P_move rfl) ?_)
            refine L (S (P_indexT Tryz.underlying9 rfl rfl (j := i) rfl (str_idx hc)) ?_)
            refine L (S (P_assign rfl) ?_)
            refine L_nil ?_
            refine then_n ?_
            refine C_block ?_
            refine C_seq ?_
            refine C_region ?_
            refine L (S (P_move rfl) ?_)
            refine L (S (P_eq rfl rfl (decide_eq_false (by omega))) ?_)
            refine L (S (P_eqB (β := false) Tryz.underlying4 rfl rfl rfl) ?_)
            refine L (S (P_assign rfl) ?_)
            refine L_nil ?_
            refine then_n ?_
            refine C_false rfl ?_
            refine C_seq ?_
            refine C_region ?_
            refine L (S (P_move rfl) ?_)
            refine L (S (P_eq rfl rfl (decide_eq_false (by omega))) ?_)
            refine L (S (P_eqB (β := false) Tryz.underlying4 rfl rfl rfl) ?_)
            refine L (S (P_assign rfl) ?_)
            refine L_nil ?_
            refine then_n ?_
            refine C_false rfl ?_
            refine C_seq ?_
            refine C_region ?_
            refine L (S (P_move rfl) ?_)
            refine L (S (P_le rfl rfl (decide_eq_true (by omega))) ?_)
            refine L (S (P_move rfl) ?_)
            refine L_yes (j := 2) (dj := 79) (b := true) (S (P_move rfl) ?_) rfl
            refine L_yes (j := 2) (dj := 79) (b := true) (S (P_le rfl rfl (decide_eq_true (by omega))) ?_) rfl
            refine L (S (P_pickT rfl rfl) ?_)
            refine L (S (P_eqB (β := true) Tryz.underlying4 rfl rfl rfl) ?_)
            refine L (S (P_assign rfl) ?_)
            refine L_nil ?_
            refine then_n ?_
            refine C_true rfl ?_
            refine C_seq ?_
            refine C_region ?_
            refine L (S (P_assign rfl) ?_)
            refine L_nil ?_
            refine then_n ?_
            refine C_seq ?_
            refine C_seq ?_
            refine C_region ?_
            refine L (S (P_move rfl) ?_)
            refine L (S (P_eq rfl rfl (decide_eq_false (by omega))) ?_)
            refine L (S (P_move rfl) ?_)
            refine L_no (j := 2) (dj := 86) (b := true) (b' := false) (d := 87) rfl ?_
            refine L_no (j := 2) (dj := 86) (b := true) (b' := false) (d := 88) rfl ?_
            refine L (S (P_pickF rfl rfl) ?_)
            refine L_nil ?_
            refine then_n ?_
            refine C_false rfl ?_
            refine C_skip ?_
            refine then_n ?_
            refine C_seq ?_
            refine C_region ?_
            refine L (S (P_move rfl) ?_)
            refine L (S (P_add rfl rfl (wI64 (c := ((s.nd + 1 : Nat) : Int)) (by omega))) ?_)
            refine L (S (P_assign rfl) ?_)
            refine L_nil ?_
            refine then_n ?_
            refine C_seq ?_
            refine C_seq ?_
            refine C_region ?_
            refine L (S (P_move rfl) ?_)
            refine L (S (P_move rfl) ?_)
            refine L (S (P_lt rfl rfl (decide_eq_false (by omega))) ?_)
            refine L_nil ?_
            refine then_n ?_
            refine C_false rfl ?_
            refine C_seq ?_
            refine C_region ?_
            refine L (S (P_move rfl) ?_)
            refine L (S (P_ne rfl rfl (decide_eq_true (by omega))) ?_)
            refine L_nil ?_
            refine then_n ?_
            refine C_true rfl ?_
            refine C_region ?_
            refine L (S (P_assign rfl) ?_)
            refine L_nil ?_
            refine then_n ?_
            refine C_exit ?_
            refine blk_o rfl ?_
            refine then_x ?_
            refine blk_x ?_
            refine then_n ?_
            refine C_region ?_
            refine L (S (P_move rfl) ?_)
            refine L (S (P_add rfl rfl (wI64 (c := ((i + 1 : Nat) : Int)) (by omega))) ?_)
            refine L (S (P_assign rfl) ?_)
            refine L_nil ?_
            refine then_n ?_
            exact ⟨rfl, i + 1, by rw [hsn]; exact (.cons rfl (.cons rfl (.cons rfl (.cons rfl (.cons rfl (.cons rfl (.cons rfl (.cons rfl (.cons rfl (.cons rfl (.cons rfl (.cons rfl (.cons rfl (.cons rfl (.cons rfl (.cons rfl (.cons rfl (.nil _)))))))))))))))))), hdone _ hsn hdd rfl, by omega⟩
  · have hil : i = l.length := by omega
    subst hil
    rw [List.take_length] at *
    have hdt : (rdF l).dot = true := by rw [hdot]; exact decide_eq_true hnl
    have hst : (rdF l).sd = true := by rw [hsd]; exact decide_eq_true (by omega)
    rw [hdt, hst]
    obtain ⟨r1, r2, r3, r4, r5, r6⟩ := hri
    unfold rdE
    generalize rdF l = s at *
    by_cases hm0 : s.m ≠ 0
    · rw [if_pos hm0]
      refine C_seq ?_
      refine C_seq ?_
      refine C_region ?_
      refine L (S (P_move rfl) ?_)
      refine L (S (P_move rfl) ?_)
      refine L (S (P_lenT Tryz.underlying9 rfl) ?_)
      refine L (S (P_lt rfl rfl (decide_eq_false (by omega))) ?_)
      refine L_nil ?_
      refine then_n ?_
      refine C_false rfl ?_
      refine C_exit ?_
      refine then_x ?_
      refine then_x ?_
      refine blk_x ?_
      refine then_n ?_
      refine C_seq ?_
      refine C_seq ?_
      refine C_region ?_
      refine L (S (P_move rfl) ?_)
      refine L (S (P_not rfl rfl) ?_)
      refine L_nil ?_
      refine then_n ?_
      refine C_false rfl ?_
      refine C_skip ?_
      refine then_n ?_
      refine C_seq ?_
      refine C_seq ?_
      refine C_region ?_
      refine L (S (P_move rfl) ?_)
      refine L (S (P_not rfl rfl) ?_)
      refine L_nil ?_
      refine then_n ?_
      refine C_false rfl ?_
      refine C_skip ?_
      refine then_n ?_
      refine C_seq ?_
      refine C_seq ?_
      refine C_region ?_
      refine L (S (P_move rfl) ?_)
      refine L (S (P_eq rfl rfl (decide_eq_false (by omega))) ?_)
      refine L_nil ?_
      refine then_n ?_
      refine C_false rfl ?_
      refine C_skip ?_
      refine then_n ?_
      refine C_seq ?_
      refine C_seq ?_
      refine C_region ?_
      refine L (S (P_move rfl) ?_)
      refine L (S (P_move rfl) ?_)
      refine L (S (P_lenT Tryz.underlying9 rfl) ?_)
      refine L (S (P_lt rfl rfl (decide_eq_false (by omega))) ?_)
      refine L (S (P_move rfl) ?_)
      refine L_no (j := 4) (dj := 154) (b := true) (b' := false) (d := 155) rfl ?_
      refine L_no (j := 4) (dj := 154) (b := true) (b' := false) (d := 156) rfl ?_
      refine L_no (j := 4) (dj := 154) (b := true) (b' := false) (d := 157) rfl ?_
      refine L_no (j := 4) (dj := 154) (b := true) (b' := false) (d := 158) rfl ?_
      refine L_no (j := 4) (dj := 154) (b := true) (b' := false) (d := 159) rfl ?_
      refine L_no (j := 4) (dj := 154) (b := true) (b' := false) (d := 160) rfl ?_
      refine L (S (P_pickF rfl rfl) ?_)
      refine L_nil ?_
      refine then_n ?_
      refine C_false rfl ?_
      refine C_seq ?_
      refine C_region ?_
      refine L (S (P_move rfl) ?_)
      refine L (S (P_eq rfl rfl (decide_eq_false (by omega))) ?_)
      refine L_nil ?_
      refine then_n ?_
      refine C_false rfl ?_
      refine C_skip ?_
      refine then_n ?_
      refine C_seq ?_
      refine C_seq ?_
      refine C_region ?_
      refine L (S (P_move rfl) ?_)
      refine L (S (P_ne rfl rfl (decide_eq_true (by omega))) ?_)
      refine L_nil ?_
      refine then_n ?_
      refine C_true rfl ?_
      refine C_region ?_
      refine L (S (P_move rfl) ?_)
      refine L (S (P_move rfl) ?_)
      refine L (S (P_sub rfl rfl (wI64 (c := s.dp - s.nm) (by omega))) ?_)
      refine L (S (P_assign rfl) ?_)
      refine L_nil ?_
      refine then_n ?_
      refine C_seq ?_
      refine C_seq ?_
      refine C_region ?_
      refine L (S (P_move rfl) ?_)
      refine L (S (P_move rfl) ?_)
      refine L_no (j := 1) (dj := 246) (b := true) (b' := false) (d := 247) rfl ?_
      refine L_no (j := 1) (dj := 246) (b := true) (b' := false) (d := 248) rfl ?_
      refine L_no (j := 1) (dj := 246) (b := true) (b' := false) (d := 249) rfl ?_
      refine L_no (j := 1) (dj := 246) (b := true) (b' := false) (d := 250) rfl ?_
      refine L_no (j := 1) (dj := 246) (b := true) (b' := false) (d := 251) rfl ?_
      refine L (S (P_pickF rfl rfl) ?_)
      refine L_nil ?_
      refine then_n ?_
      refine C_false rfl ?_
      refine C_skip ?_
      refine then_n ?_
      refine C_seq ?_
      refine C_region ?_
      refine L (S (P_assign rfl) ?_)
      refine L_nil ?_
      refine then_n ?_
      refine C_ret ?_
      refine scope_r ?_
      refine F_ret (rs := [.tmp 2, .tmp 3, .tmp 4, .tmp 5, .tmp 6, .tmp 7, .tmp 8]) [.int .u64 (s.m : Int), .int .i64 (s.dp - s.nm), .bool false, .bool s.tr, .bool false, .int .i64 (l.length : Int), .bool true] Tryz.results158 ?_ ?_
      · exact ⟨rfl, rfl, rfl, rfl, rfl, rfl, rfl, trivial⟩
      · exact ⟨rfl, rfl⟩
    · rw [if_neg hm0]
      refine C_seq ?_
      refine C_seq ?_
      refine C_region ?_
      refine L (S (P_move rfl) ?_)
      refine L (S (P_move rfl) ?_)
      refine L (S (P_lenT Tryz.underlying9 rfl) ?_)
      refine L (S (P_lt rfl rfl (decide_eq_false (by omega))) ?_)
      refine L_nil ?_
      refine then_n ?_
      refine C_false rfl ?_
      refine C_exit ?_
      refine then_x ?_
      refine then_x ?_
      refine blk_x ?_
      refine then_n ?_
      refine C_seq ?_
      refine C_seq ?_
      refine C_region ?_
      refine L (S (P_move rfl) ?_)
      refine L (S (P_not rfl rfl) ?_)
      refine L_nil ?_
      refine then_n ?_
      refine C_false rfl ?_
      refine C_skip ?_
      refine then_n ?_
      refine C_seq ?_
      refine C_seq ?_
      refine C_region ?_
      refine L (S (P_move rfl) ?_)
      refine L (S (P_not rfl rfl) ?_)
      refine L_nil ?_
      refine then_n ?_
      refine C_false rfl ?_
      refine C_skip ?_
      refine then_n ?_
      refine C_seq ?_
      refine C_seq ?_
      refine C_region ?_
      refine L (S (P_move rfl) ?_)
      refine L (S (P_eq rfl rfl (decide_eq_false (by omega))) ?_)
      refine L_nil ?_
      refine then_n ?_
      refine C_false rfl ?_
      refine C_skip ?_
      refine then_n ?_
      refine C_seq ?_
      refine C_seq ?_
      refine C_region ?_
      refine L (S (P_move rfl) ?_)
      refine L (S (P_move rfl) ?_)
      refine L (S (P_lenT Tryz.underlying9 rfl) ?_)
      refine L (S (P_lt rfl rfl (decide_eq_false (by omega))) ?_)
      refine L (S (P_move rfl) ?_)
      refine L_no (j := 4) (dj := 154) (b := true) (b' := false) (d := 155) rfl ?_
      refine L_no (j := 4) (dj := 154) (b := true) (b' := false) (d := 156) rfl ?_
      refine L_no (j := 4) (dj := 154) (b := true) (b' := false) (d := 157) rfl ?_
      refine L_no (j := 4) (dj := 154) (b := true) (b' := false) (d := 158) rfl ?_
      refine L_no (j := 4) (dj := 154) (b := true) (b' := false) (d := 159) rfl ?_
      refine L_no (j := 4) (dj := 154) (b := true) (b' := false) (d := 160) rfl ?_
      refine L (S (P_pickF rfl rfl) ?_)
      refine L_nil ?_
      refine then_n ?_
      refine C_false rfl ?_
      refine C_seq ?_
      refine C_region ?_
      refine L (S (P_move rfl) ?_)
      refine L (S (P_eq rfl rfl (decide_eq_false (by omega))) ?_)
      refine L_nil ?_
      refine then_n ?_
      refine C_false rfl ?_
      refine C_skip ?_
      refine then_n ?_
      refine C_seq ?_
      refine C_seq ?_
      refine C_region ?_
      refine L (S (P_move rfl) ?_)
      refine L (S (P_ne rfl rfl (decide_eq_false (by omega))) ?_)
      refine L_nil ?_
      refine then_n ?_
      refine C_false rfl ?_
      refine C_skip ?_
      refine then_n ?_
      refine C_seq ?_
      refine C_seq ?_
      refine C_region ?_
      refine L (S (P_move rfl) ?_)
      refine L (S (P_move rfl) ?_)
      refine L_no (j := 1) (dj := 246) (b := true) (b' := false) (d := 247) rfl ?_
      refine L_no (j := 1) (dj := 246) (b := true) (b' := false) (d := 248) rfl ?_
      refine L_no (j := 1) (dj := 246) (b := true) (b' := false) (d := 249) rfl ?_
      refine L_no (j := 1) (dj := 246) (b := true) (b' := false) (d := 250) rfl ?_
      refine L_no (j := 1) (dj := 246) (b := true) (b' := false) (d := 251) rfl ?_
      refine L (S (P_pickF rfl rfl) ?_)
      refine L_nil ?_
      refine then_n ?_
      refine C_false rfl ?_
      refine C_skip ?_
      refine then_n ?_
      refine C_seq ?_
      refine C_region ?_
      refine L (S (P_assign rfl) ?_)
      refine L_nil ?_
      refine then_n ?_
      refine C_ret ?_
      refine scope_r ?_
      refine F_ret (rs := [.tmp 2, .tmp 3, .tmp 4, .tmp 5, .tmp 6, .tmp 7, .tmp 8]) [.int .u64 (s.m : Int), .int .i64 0, .bool false, .bool s.tr, .bool false, .int .i64 (l.length : Int), .bool true] Tryz.results158 ?_ ?_
      · exact ⟨rfl, rfl, rfl, rfl, rfl, rfl, rfl, trivial⟩
      · exact ⟨rfl, rfl⟩
end
end Go.Proofs.YtnoioimphcmeiaaGreatDoor
