import Derived.Test.YtgicoidmjfhnbaaTy
import Derived.Test.YtgicoidmjfhnbaaLib
namespace Go.Proofs.Ytgicoidmjfhnbaa
open Go.RowKit

theorem num_ret (n : Nat) (hn : n < 18446744073709551616) (w : World) :
    Ret Try.prog 11 [.int .u64 n] w fun v w' => w'.ownsRow w.heap.size 5 1 v (numB n).length ((numB n).map bv) ∧ Mv No w w' := by
  have hlen := numB_len n hn
  refine F_enter Try.func11 Try.ntmps11 rfl rfl ?_
  refine C_seq ?_
  refine C_region ?_
  refine L (S (P_assign rfl) ?_)
  refine L_nil ?_
  refine then_n ?_
  refine C_seq ?_
  refine C_region ?_
  refine L (S (P_assign rfl) ?_)
  refine L_nil ?_
  refine then_n ?_
  refine C_seq ?_
  refine C_block ?_
  refine C_loop (γ := Nat × List UInt8 × Value) (fun g => [(0, .int .u64 (g.1 : Int)), (3, g.2.2)]) (fun g wr => g.1 < 18446744073709551616 ∧ g.2.1 ++ numB g.1 = numB n ∧ wr.ownsRow w.heap.size 5 1 g.2.2 g.2.1.length (g.2.1.map bv) ∧ Mv No w wr) (fun g => g.1) (n, [], .slice none 0 0) (.cons rfl (.cons rfl (.nil _))) ⟨hn, rfl, World.ownsRow_nil _ _ _ _, Mv.refl w⟩ ?_
  rintro ⟨m, pre, v⟩ wr ⟨hm, hp, hown, hmv⟩
  dsimp only at hm hp hown ⊢
  have hpl := numB_pre hp hlen
  have hsz := hmv.size
  refine C_seq ?_
  refine C_seq ?_
  refine C_region ?_
  refine L (S (P_move rfl) ?_)
  refine L (S (P_ge rfl rfl rfl) ?_)
  refine L_nil ?_
  refine then_n ?_
  refine C_ifp rfl rfl (fun hc => ?_) (fun hc => ?_)
  · refine C_skip ?_
    refine then_n ?_
    refine C_block ?_
    refine C_seq ?_
    refine C_region ?_
    refine L (S (P_move rfl) ?_)
    refine L (S (P_move rfl) ?_)
    refine L (S (P_rem rfl rfl (c := ((m % 128 : Nat) : Int)) (by decide) (remN (m := m) (k := 128) rfl rfl rfl)) ?_)
    refine L (S (P_conv Try.underlying22 Try.underlying5 rfl (wU8 (c := ((m % 128 : Nat) : Int)) (by omega))) ?_)
    refine L (S (P_add rfl rfl (wU8 (c := ((m % 128 + 128 : Nat) : Int)) (by omega))) ?_)
    refine L (S_buildSlice1 Try.underlying23 ti_5 rfl rfl rfl ?_)
    rintro b1 w1 hb1 hm1 hn1
    refine L (S_append Try.underlying23 ti_5 rfl (by decide) rfl (own_no hown hm1) rfl (.inr ⟨b1, 0, rfl, hb1.row⟩) rfl (fun u hu => by simp at hu; subst hu; rfl) (Nat.le_trans hsz hm1.size) (by unfold maxLen; omega) (by omega) ?_)
    rintro v2 w2 ho2 hm2 hf2
    refine L (S (P_assign rfl) ?_)
    refine L_nil ?_
    refine then_n ?_
    refine C_region ?_
    refine L (S (P_move rfl) ?_)
    refine L (S (P_quo rfl rfl (c := ((m / 128 : Nat) : Int)) (by decide) (quoU64 (m := m) (k := 128) rfl rfl rfl hm)) ?_)
    refine L (S (P_assign rfl) ?_)
    refine L_nil ?_
    refine blk_n ?_
    refine then_n ?_
    have hge := numB_ge (n := m) (by omega)
    rw [bv_ofNat (by omega)] at ho2
    refine ⟨rfl, (m / 128, pre ++ [UInt8.ofNat (m % 128 + 128)], v2), .cons rfl (.cons rfl (.nil _)), ⟨by dsimp only; omega, by dsimp only; rw [← hp, hge]; simp, by simpa using ho2, ?_⟩, by dsimp only; omega⟩
    exact (hmv.no hm1).trans hm2 fun x hx ho => absurd (own_lt hown ho).1 (by omega)
  · refine C_exit ?_
    refine then_x ?_
    refine then_x ?_
    refine blk_x ?_
    refine then_n ?_
    refine C_seq ?_
    refine C_region ?_
    refine L (S (P_move rfl) ?_)
    refine L (S (P_move rfl) ?_)
    refine L (S (P_conv Try.underlying22 Try.underlying5 rfl (wU8 (c := ((m : Nat) : Int)) (by omega))) ?_)
    refine L (S_buildSlice1 Try.underlying23 ti_5 rfl rfl rfl ?_)
    rintro b1 w1 hb1 hm1 hn1
    refine L (S_append Try.underlying23 ti_5 rfl (by decide) rfl (own_no hown hm1) rfl (.inr ⟨b1, 0, rfl, hb1.row⟩) rfl (fun u hu => by simp at hu; subst hu; rfl) (Nat.le_trans hsz hm1.size) (by unfold maxLen; omega) (by omega) ?_)
    rintro v2 w2 ho2 hm2 hf2
    refine L (S (P_assign rfl) ?_)
    refine L_nil ?_
    refine then_n ?_
    refine C_ret ?_
    refine F_ret1 Try.results11 rfl ?_
    rw [bv_ofNat (by omega)] at ho2
    have hl := numB_lt (n := m) (by omega)
    refine ⟨?_, (hmv.no hm1).trans hm2 fun x hx ho => absurd (own_lt hown ho).1 (by omega)⟩
    rw [← hp, hl]
    simpa using ho2
end Go.Proofs.Ytgicoidmjfhnbaa
