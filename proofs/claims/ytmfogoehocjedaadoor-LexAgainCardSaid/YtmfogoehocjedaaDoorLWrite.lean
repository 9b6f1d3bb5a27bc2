import Derived.Test.YtmfogoehocjedaaDoorLLives
import Derived.Test.YtmfogoehocjedaaDoorFPF
import Derived.Test.YtmfogoehocjedaaDoorRowVars
namespace Go.Proofs.YtmfogoehocjedaaDoor
open Go.RowKit
set_option maxRecDepth 20000

def esc (s : List UInt8) : List UInt8 := s.flatMap fun c => if c = 39 then [39, 39] else [c]
/-- A word as it may be written. -/
def wrF (k : Nat) (s : List UInt8) : List UInt8 := if k = 5 then 39 :: esc s ++ [39] else s
theorem esc_snoc (s : List UInt8) (c : UInt8) : esc (s ++ [c]) = esc s ++ (if c = 39 then [39, 39] else [c]) := by simp [esc]
theorem esc_len : ∀ s : List UInt8, (esc s).length ≤ 2 * s.length
  | [] => Nat.le_refl _
  | c :: r => by
    have h1 := esc_len r
    have e : esc (c :: r) = (if c = 39 then [39, 39] else [c]) ++ esc r := rfl
    have h2 : (if c = 39 then [39, 39] else [c] : List UInt8).length ≤ 2 := by split <;> simp
    rw [e, List.length_append, List.length_cons]
    omega
theorem bs_self (s : ByteArray) : (s == s) = true := by
  cases s with | mk d => exact beq_self_eq_true d
theorem cut_str {l : List UInt8} {i j : Nat} : (str l).extract i j = str ((l.drop i).take (j - i)) := by
  rw [str_cut, List.drop_take]
theorem drop_cons {l : List UInt8} {i : Nat} {c : UInt8} (hc : l[i]? = some c) : l.drop i = c :: l.drop (i + 1) := by
  obtain ⟨h2, h3⟩ := List.getElem?_eq_some_iff.1 hc
  rw [List.drop_eq_getElem_cons h2, h3]
theorem spanB_drop {p : Nat → Bool} {l : List UInt8} {i : Nat} {c : UInt8} (h : l[i]? = some c) : spanB p (l.drop i) = if p c.toNat = true then spanB p (l.drop (i + 1)) + 1 else 0 := by
  obtain ⟨hlt, he⟩ := List.getElem?_eq_some_iff.1 h
  rw [List.drop_eq_getElem_cons hlt, he]
  rfl
theorem inT_len {l : List UInt8} (h : l.length ≤ 100000) : InT (fun x => x.length ≤ 100000) l := fun x hx _ => Nat.le_trans hx.length_le h
section
variable {w : World}
theorem write_ret (k : Nat) (s : List UInt8) (a : Nat) (hl : s.length ≤ 100000) : Ret Tryd.prog 12 [.agg (tkC k s a).toArray] w fun v w' => v = .string (str (wrF k s)) ∧ Mv No w w' := by
  have hsz := str_size s
  unfold wrF
  refine F_enter Tryd.func12 Tryd.ntmps12 rfl rfl ?_
  refine C_seq ?_
  refine C_region ?_
  refine L (S_box rfl ?_)
  rintro b1 w1 hb1 hm1 hn1
  refine L (S (P_assign rfl) ?_)
  refine L_nil ?_
  refine then_n ?_
  refine C_seq ?_
  refine C_seq ?_
  have hb1' : Blk w1 b1 (tkC k s a) 36 := hb1
  have hc0 : w1.cell? ⟨b1, 0, none⟩ = some (.int .i64 (k : Int)) := hb1'.cell (i := 0) rfl
  have hc1 : w1.cell? ⟨b1, 1, none⟩ = some (.string (str s)) := hb1'.cell (i := 1) rfl
  by_cases hk : k = 5
  · rw [if_pos hk]
    refine C_region ?_
    refine L (S (P_fieldAddr fo_36_0 rfl) ?_)
    refine L (S_load sc_3 rfl hc0 ?_)
    refine L (S (P_ne rfl rfl (decide_eq_false (by omega))) ?_)
    refine L_nil ?_
    refine then_n ?_
    refine C_false rfl ?_
    refine C_skip ?_
    refine then_n ?_
    refine C_seq ?_
    refine C_region ?_
    refine L (S (P_assign rfl) ?_)
    refine L_nil ?_
    refine then_n ?_
    refine C_seq ?_
    refine C_seq ?_
    refine C_region ?_
    refine L (S (P_assign rfl) ?_)
    refine L_nil ?_
    refine then_n ?_
    refine C_block ?_
    refine C_loop (γ := Nat) (fun i => [(1, .pointer (some ⟨b1, 0, none⟩)), (3, .string (str (39 :: esc (s.take i)))), (4, .int .i64 (i : Int))]) (fun i wr => wr = w1 ∧ i ≤ s.length) (fun i => s.length - i) 0 (.cons rfl (.cons rfl (.cons rfl (.nil _)))) ⟨rfl, Nat.zero_le _⟩ ?_
    rintro i wr ⟨rfl, hi⟩
    have hel := esc_len (s.take i)
    rw [List.length_take] at hel
    have hes := str_size (39 :: esc (s.take i))
    rw [List.length_cons] at hes
    by_cases hlt : i < s.length
    · have hc := List.getElem?_eq_getElem hlt
      generalize s[i] = c at hc
      have hcut : (str s).extract i (i + 1) = str [c] := by
        rw [cut_str, Nat.add_sub_cancel_left, drop_cons hc]
        rfl
      have htk : s.take (i + 1) = s.take i ++ [c] := by rw [List.take_add_one, hc]; rfl
      have he1 := esc_snoc (s.take i) c
      rw [← htk] at he1
      by_cases hq : c.toNat = 39
      · have hce : c = 39 := UInt8.toNat_inj.1 hq
        rw [if_pos hce] at he1
        have hf : str (39 :: esc (s.take i)) ++ str [c] ++ str [39] = str (39 :: esc (s.take (i + 1))) := by
          rw [str_append, str_append, he1, hce]
          simp
        refine C_seq ?_
        refine C_seq ?_
        refine C_region ?_
        refine L (S (P_move rfl) ?_)
        refine L (S (P_fieldAddr fo_36_1 rfl) ?_)
        refine L (S_load sc_9 rfl hc1 ?_)
        refine L (S (P_lenT Tryd.underlying9 rfl) ?_)
        refine L (S (P_lt rfl rfl (decide_eq_true (by omega))) ?_)
        refine L_nil ?_
        refine then_n ?_
        refine C_true rfl ?_
        refine C_skip ?_
        refine then_n ?_
        refine C_seq ?_
        refine C_block ?_
        refine C_seq ?_
        refine C_region ?_
        refine L (S (P_move rfl) ?_)
        refine L (S (P_fieldAddr fo_36_1 rfl) ?_)
        refine L (S_load sc_9 rfl hc1 ?_)
        refine L (S (P_move rfl) ?_)
        refine L (S (P_move rfl) ?_)
        refine L (S (P_add rfl rfl (wI64 (c := ((i + 1 : Nat) : Int)) (by omega))) ?_)
        refine L (S (P_sliceT Tryd.underlying9 rfl (bnd_some (j := i) rfl rfl) (bnd_some (j := i + 1) rfl rfl) (by omega) (by omega) hcut) ?_)
        refine L (S (P_addT rfl rfl (by rw [hes]; show _ + 1 ≤ _; omega)) ?_)
        refine L (S (P_assign rfl) ?_)
        refine L_nil ?_
        refine then_n ?_
        refine C_seq ?_
        refine C_region ?_
        refine L (S (P_fieldAddr fo_36_1 rfl) ?_)
        refine L (S_load sc_9 rfl hc1 ?_)
        refine L (S (P_move rfl) ?_)
        refine L (S (P_indexT Tryd.underlying9 rfl rfl (j := i) rfl (str_idx hc)) ?_)
        refine L (S (P_eq rfl rfl (decide_eq_true (by omega))) ?_)
        refine L_nil ?_
        refine then_n ?_
        refine C_true rfl ?_
        refine C_region ?_
        refine L (S (P_move rfl) ?_)
        refine L (S (P_addT rfl rfl (by rw [str_append, str_size]; simp; show _ + 1 ≤ _; omega)) ?_)
        refine L (S (P_assign rfl) ?_)
        refine L_nil ?_
        refine blk_n ?_
        refine then_n ?_
        refine C_region ?_
        refine L (S (P_move rfl) ?_)
        refine L (S (P_add rfl rfl (wI64 (c := ((i + 1 : Nat) : Int)) (by omega))) ?_)
        refine L (S (P_assign rfl) ?_)
        refine L_nil ?_
        refine then_n ?_
        exact ⟨rfl, i + 1, by rw [← hf]; exact (.cons rfl (.cons rfl (.cons rfl (.nil _)))), ⟨rfl, hlt⟩, by omega⟩
      · have hce : c ≠ 39 := fun h => hq (by rw [h]; rfl)
        rw [if_neg hce] at he1
        have hf : str (39 :: esc (s.take i)) ++ str [c] = str (39 :: esc (s.take (i + 1))) := by
          rw [str_append, he1]
          simp
        refine C_seq ?_
        refine C_seq ?_
        refine C_region ?_
        refine L (S (P_move rfl) ?_)
        refine L (S (P_fieldAddr fo_36_1 rfl) ?_)
        refine L (S_load sc_9 rfl hc1 ?_)
        refine L (S (P_lenT Tryd.underlying9 rfl) ?_)
        refine L (S (P_lt rfl rfl (decide_eq_true (by omega))) ?_)
        refine L_nil ?_
        refine then_n ?_
        refine C_true rfl ?_
        refine C_skip ?_
        refine then_n ?_
        refine C_seq ?_
        refine C_block ?_
        refine C_seq ?_
        refine C_region ?_
        refine L (S (P_move rfl) ?_)
        refine L (S (P_fieldAddr fo_36_1 rfl) ?_)
        refine L (S_load sc_9 rfl hc1 ?_)
        refine L (S (P_move rfl) ?_)
        refine L (S (P_move rfl) ?_)
        refine L (S (P_add rfl rfl (wI64 (c := ((i + 1 : Nat) : Int)) (by omega))) ?_)
        refine L (S (P_sliceT Tryd.underlying9 rfl (bnd_some (j := i) rfl rfl) (bnd_some (j := i + 1) rfl rfl) (by omega) (by omega) hcut) ?_)
        refine L (S (P_addT rfl rfl (by rw [hes]; show _ + 1 ≤ _; omega)) ?_)
        refine L (S (P_assign rfl) ?_)
        refine L_nil ?_
        refine then_n ?_
        refine C_seq ?_
        refine C_region ?_
        refine L (S (P_fieldAddr fo_36_1 rfl) ?_)
        refine L (S_load sc_9 rfl hc1 ?_)
        refine L (S (P_move rfl) ?_)
        refine L (S (P_indexT Tryd.underlying9 rfl rfl (j := i) rfl (str_idx hc)) ?_)
        refine L (S (P_eq rfl rfl (decide_eq_false (by omega))) ?_)
        refine L_nil ?_
        refine then_n ?_
        refine C_false rfl ?_
        refine C_skip ?_
        refine blk_n ?_
        refine then_n ?_
        refine C_region ?_
        refine L (S (P_move rfl) ?_)
        refine L (S (P_add rfl rfl (wI64 (c := ((i + 1 : Nat) : Int)) (by omega))) ?_)
        refine L (S (P_assign rfl) ?_)
        refine L_nil ?_
        refine then_n ?_
        exact ⟨rfl, i + 1, by rw [← hf]; exact (.cons rfl (.cons rfl (.cons rfl (.nil _)))), ⟨rfl, hlt⟩, by omega⟩
    · have hil : i = s.length := by omega
      subst hil
      rw [List.take_length] at *
      have hf : str (39 :: esc s) ++ str [39] = str (39 :: esc s ++ [39]) := by rw [str_append]
      rw [← hf]
      refine C_seq ?_
      refine C_seq ?_
      refine C_region ?_
      refine L (S (P_move rfl) ?_)
      refine L (S (P_fieldAddr fo_36_1 rfl) ?_)
      refine L (S_load sc_9 rfl hc1 ?_)
      refine L (S (P_lenT Tryd.underlying9 rfl) ?_)
      refine L (S (P_lt rfl rfl (decide_eq_false (by omega))) ?_)
      refine L_nil ?_
      refine then_n ?_
      refine C_false rfl ?_
      refine C_exit ?_
      refine then_x ?_
      refine then_x ?_
      refine blk_x ?_
      refine then_n ?_
      refine C_seq ?_
      refine C_region ?_
      refine L (S (P_move rfl) ?_)
      refine L (S (P_addT rfl rfl (by rw [hes]; show _ + 1 ≤ _; omega)) ?_)
      refine L (S (P_assign rfl) ?_)
      refine L_nil ?_
      refine then_n ?_
      refine C_ret ?_
      refine F_ret1 Tryd.results12 rfl ?_
      exact ⟨rfl, hm1⟩
  · rw [if_neg hk]
    refine C_region ?_
    refine L (S (P_fieldAddr fo_36_0 rfl) ?_)
    refine L (S_load sc_3 rfl hc0 ?_)
    refine L (S (P_ne rfl rfl (decide_eq_true (by omega))) ?_)
    refine L_nil ?_
    refine then_n ?_
    refine C_true rfl ?_
    refine C_seq ?_
    refine C_region ?_
    refine L (S (P_fieldAddr fo_36_1 rfl) ?_)
    refine L (S_load sc_9 rfl hc1 ?_)
    refine L (S (P_assign rfl) ?_)
    refine L_nil ?_
    refine then_n ?_
    refine C_ret ?_
    refine then_r ?_
    refine F_ret1 Tryd.results12 rfl ?_
    exact ⟨rfl, hm1⟩
end
end Go.Proofs.YtmfogoehocjedaaDoor
