/- The decimal record of internal/strconv: its cells, and the small functions on it. -/
import Derived.Test.YtnoioimphcmeiaaGreatDoorFRead
namespace Go.Proofs.YtnoioimphcmeiaaGreatDoor
open Go.RowKit
set_option maxRecDepth 20000
set_option maxHeartbeats 1000000

structure Dc where
  ds : List UInt8
  nd : Nat
  dp : Int
  tr : Bool
def dcV (D : Dc) : List Value := D.ds.map bv ++ [.int .i64 (D.nd : Int), .int .i64 D.dp, .bool false, .bool D.tr]
structure DB (w : World) (b : Nat) (D : Dc) : Prop where
  blk : Blk w b (dcV D) 217
  len : D.ds.length = 800
section
variable {w w' : World} {b : Nat} {D : Dc}
theorem DB.no (h : DB w b D) (hm : Mv No w w') : DB w' b D := ⟨h.blk.no hm, h.len⟩
theorem DB.c_dig (h : DB w b D) {i : Nat} {c : UInt8} (hc : D.ds[i]? = some c) : w.cell? ⟨b, i, none⟩ = some (bv c) := h.blk.cell (by
  have hi := (List.getElem?_eq_some_iff.1 hc).1
  unfold dcV
  rw [List.getElem?_append_left (by rw [List.length_map]; exact hi), List.getElem?_map, hc]
  rfl)
theorem dcV_at (h : D.ds.length = 800) (k : Nat) : (dcV D)[800 + k]? = [Value.int .i64 (D.nd : Int), .int .i64 D.dp, .bool false, .bool D.tr][k]? := by
  unfold dcV
  rw [List.getElem?_append_right (by rw [List.length_map, h]; omega), List.length_map, h, Nat.add_sub_cancel_left]
theorem DB.c_nd (h : DB w b D) : w.cell? ⟨b, 800, none⟩ = some (.int .i64 (D.nd : Int)) := h.blk.cell (dcV_at h.len 0)
theorem DB.c_dp (h : DB w b D) : w.cell? ⟨b, 801, none⟩ = some (.int .i64 D.dp) := h.blk.cell (dcV_at h.len 1)
theorem DB.c_ng (h : DB w b D) : w.cell? ⟨b, 802, none⟩ = some (.bool false) := h.blk.cell (dcV_at h.len 2)
theorem DB.c_tr (h : DB w b D) : w.cell? ⟨b, 803, none⟩ = some (.bool D.tr) := h.blk.cell (dcV_at h.len 3)
theorem dcV_len (h : D.ds.length = 800) : (dcV D).length = 804 := by unfold dcV; simp [h]
theorem dcV_set (h : D.ds.length = 800) (k : Nat) (v : Value) : (dcV D).set (800 + k) v = D.ds.map bv ++ [Value.int .i64 (D.nd : Int), .int .i64 D.dp, .bool false, .bool D.tr].set k v := by
  unfold dcV
  rw [List.set_append_right _ _ (by rw [List.length_map, h]; omega), List.length_map, h, Nat.add_sub_cancel_left]
theorem DB.dig (h : DB w b D) (i : Nat) (hi : i < 800) : ∃ c, D.ds[i]? = some c := ⟨D.ds[i]'(by rw [h.len]; exact hi), List.getElem?_eq_getElem _⟩

variable {P : Program} {n : Nat} {N : Nxt} {Q : Post} {f : Fr} {ds : List Deferred} {d : Nat} {x y : Operand} {t yt ty : TypeId} {pos : String} {af : Array Edge} {g : Option (Nat × Bool)}
theorem S_stNd {z : Option Value} {by_ : Nat} {v : Int} {m : Nat} (hs : tinfo P t = some (z, 1, by_)) (hx : ev f x = some (.pointer (some ⟨b, 800, none⟩))) (hv : ev f y = some (.int .i64 v)) (hvm : v = (m : Int)) (hD : DB w b D)
    (h : ∀ w', DB w' b { D with nd := m } → Mv (At b) w w' → N f ds w') : opF P n ⟨none, .store t x y, ty, pos, af, g⟩ N Q f ds w :=
  S_store hs hx hv rfl hD.blk (by rw [dcV_len hD.len]; omega) fun w' hb hm => h w' ⟨by subst hvm; rw [dcV_set hD.len 0] at hb; exact hb, hD.len⟩ hm
theorem S_stDp {z : Option Value} {by_ : Nat} {v : Int} (hs : tinfo P t = some (z, 1, by_)) (hx : ev f x = some (.pointer (some ⟨b, 801, none⟩))) (hv : ev f y = some (.int .i64 v)) (hD : DB w b D)
    (h : ∀ w', DB w' b { D with dp := v } → Mv (At b) w w' → N f ds w') : opF P n ⟨none, .store t x y, ty, pos, af, g⟩ N Q f ds w :=
  S_store hs hx hv rfl hD.blk (by rw [dcV_len hD.len]; omega) fun w' hb hm => h w' ⟨by rw [dcV_set hD.len 1] at hb; exact hb, hD.len⟩ hm
theorem S_stNg {z : Option Value} {by_ : Nat} (hs : tinfo P t = some (z, 1, by_)) (hx : ev f x = some (.pointer (some ⟨b, 802, none⟩))) (hv : ev f y = some (.bool false)) (hD : DB w b D)
    (h : ∀ w', DB w' b D → Mv (At b) w w' → N f ds w') : opF P n ⟨none, .store t x y, ty, pos, af, g⟩ N Q f ds w :=
  S_store hs hx hv rfl hD.blk (by rw [dcV_len hD.len]; omega) fun w' hb hm => h w' ⟨by rw [dcV_set hD.len 2] at hb; exact hb, hD.len⟩ hm
theorem S_stTr {z : Option Value} {by_ : Nat} {β : Bool} (hs : tinfo P t = some (z, 1, by_)) (hx : ev f x = some (.pointer (some ⟨b, 803, none⟩))) (hv : ev f y = some (.bool β)) (hD : DB w b D)
    (h : ∀ w', DB w' b { D with tr := β } → Mv (At b) w w' → N f ds w') : opF P n ⟨none, .store t x y, ty, pos, af, g⟩ N Q f ds w :=
  S_store hs hx hv rfl hD.blk (by rw [dcV_len hD.len]; omega) fun w' hb hm => h w' ⟨by rw [dcV_set hD.len 3] at hb; exact hb, hD.len⟩ hm
theorem S_stDg {z : Option Value} {by_ : Nat} {v : Int} {c : UInt8} {i : Nat} (hs : tinfo P t = some (z, 1, by_)) (hx : ev f x = some (.pointer (some ⟨b, i, none⟩))) (hv : ev f y = some (.int .u8 v)) (hvc : v = (c.toNat : Int)) (hD : DB w b D) (hi : i < 800)
    (h : ∀ w', DB w' b { D with ds := D.ds.set i c } → Mv (At b) w w' → N f ds w') : opF P n ⟨none, .store t x y, ty, pos, af, g⟩ N Q f ds w :=
  S_store hs hx hv rfl hD.blk (by rw [dcV_len hD.len]; omega) fun w' hb hm => h w' ⟨by
    subst hvc
    have e : (dcV D).set i (.int .u8 (c.toNat : Int)) = dcV { D with ds := D.ds.set i c } := by
      unfold dcV
      rw [List.set_append_left _ _ (by rw [List.length_map, hD.len]; exact hi), List.map_set]
      rfl
    rw [e] at hb; exact hb, by rw [List.length_set]; exact hD.len⟩ hm
theorem P_sliceA {e : TypeId} {m len l hh o : Nat} {lo hi : Option Operand} (hu : P.underlying t = some (.array len e)) (hs : csz P e m) (hx : ev f x = some (.pointer (some ⟨b, o, none⟩))) (hl : bnd f lo 0 l) (hhi : bnd f hi len hh) (h1 : l ≤ hh) (h2 : hh ≤ len)
    : PureV P n ⟨some d, .slice t x lo hi none, ty, pos, af, g⟩ f (.slice (some (if len = l then ⟨b, o, none⟩ else Addr.add ⟨b, o, none⟩ (l * m))) (hh - l) (len - l)) :=
  fun a ha w => by
    have hb := run_sliceBounds (P := P) (w := w) (s := false) ha hl hhi h1 h2
    simp [execOp, ha.ev hx, Instr.sliceAt, Instr.sureAddr, run_underlying hu, hb, run_csz hs]
end

def trimN (ds : List UInt8) : Nat → Nat
  | 0 => 0
  | n + 1 => if ds[n]? = some 48 then trimN ds n else n + 1
def trF (D : Dc) : Dc := { D with nd := trimN D.ds D.nd, dp := if trimN D.ds D.nd = 0 then 0 else D.dp }
theorem trimN_le (ds : List UInt8) : ∀ n, trimN ds n ≤ n
  | 0 => Nat.le_refl _
  | n + 1 => by
    unfold trimN
    split
    · have := trimN_le ds n; omega
    · exact Nat.le_refl _
section
variable {w : World}
theorem trim_ret {b : Nat} {D : Dc} (hD : DB w b D) (hn : D.nd ≤ 800) : Ret Tryz.prog 197 [.pointer (some ⟨b, 0, none⟩)] w fun _ w' => DB w' b (trF D) ∧ Mv (At b) w w' := by
  refine F_enter Tryz.func197 Tryz.ntmps197 rfl rfl ?_
  refine C_seq ?_
  refine C_block ?_
  refine C_loop (γ := Nat) (fun i => [(0, .pointer (some ⟨b, 0, none⟩))]) (fun i wr => DB wr b { D with nd := i } ∧ Mv (At b) w wr ∧ i ≤ D.nd ∧ trimN D.ds i = trimN D.ds D.nd) (fun i => i) D.nd (.cons rfl (.nil _)) ⟨hD, Mv.refl w, Nat.le_refl _, rfl⟩ ?_
  rintro i wr ⟨hDi, hmi, hin, htr⟩
  cases i with
  | zero =>
    have h0 : trimN D.ds D.nd = 0 := htr.symm
    unfold trF
    rw [h0, if_pos rfl]
    have hcn : ∀ w', Mv No wr w' → w'.cell? ⟨b, 800, none⟩ = some (.int .i64 0) := fun w' h => (hDi.no h).c_nd
    refine C_seq ?_
    refine C_seq ?_
    refine C_drawQ 18 mixed rfl (fun hH => ?_)
    refine H_pure (i := 0) rfl (PureV.toS (P_move rfl)) ?_ (by assumption) (by decide +kernel) (by decide +kernel) (by decide +kernel) (fun _ _ _ _ h => h) rfl rfl rfl
    refine H_pure (i := 1) rfl (PureV.toS (P_nilCheck rfl)) ?_ (by assumption) (by decide +kernel) (by decide +kernel) (by decide +kernel) (fun _ _ _ _ h => h) rfl rfl rfl
    refine H_pure (i := 2) rfl (PureV.toS (P_fieldAddr fo_217_1 rfl)) ?_ (by assumption) (by decide +kernel) (by decide +kernel) (by decide +kernel) (fun _ _ _ _ h => h) rfl rfl rfl
    refine H_pure (i := 3) rfl (PS_load sc_3 rfl (fun _ h => hcn _ h)) ?_ (by assumption) (by decide +kernel) (by decide +kernel) (by decide +kernel) (fun _ _ _ _ h => h) rfl rfl rfl
    refine H_pure (i := 4) rfl (PureV.toS (P_gt rfl rfl (decide_eq_false (by decide)))) ?_ (by assumption) (by decide +kernel) (by decide +kernel) (by decide +kernel) (fun _ _ _ _ h => h) rfl rfl rfl
    refine H_pure (i := 5) rfl (PureV.toS (P_move rfl)) ?_ (by assumption) (by decide +kernel) (by decide +kernel) (by decide +kernel) (fun _ _ _ _ h => h) rfl rfl rfl
    refine H_pureN (i := 6) (j := 5) (dj := 7) (b := true) (b' := false) rfl rfl ?_ (by assumption) (by decide +kernel) (by decide +kernel) (by decide +kernel) (fun _ _ _ _ h => h) rfl rfl rfl rfl rfl
    refine H_pureN (i := 7) (j := 5) (dj := 7) (b := true) (b' := false) rfl rfl ?_ (by assumption) (by decide +kernel) (by decide +kernel) (by decide +kernel) (fun _ _ _ _ h => h) rfl rfl rfl rfl rfl
    refine H_pureN (i := 8) (j := 5) (dj := 7) (b := true) (b' := false) rfl rfl ?_ (by assumption) (by decide +kernel) (by decide +kernel) (by decide +kernel) (fun _ _ _ _ h => h) rfl rfl rfl rfl rfl
    refine H_pureN (i := 9) (j := 5) (dj := 7) (b := true) (b' := false) rfl rfl ?_ (by assumption) (by decide +kernel) (by decide +kernel) (by decide +kernel) (fun _ _ _ _ h => h) rfl rfl rfl rfl rfl
    refine H_pureN (i := 10) (j := 5) (dj := 7) (b := true) (b' := false) rfl rfl ?_ (by assumption) (by decide +kernel) (by decide +kernel) (by decide +kernel) (fun _ _ _ _ h => h) rfl rfl rfl rfl rfl
    refine H_pureN (i := 11) (j := 5) (dj := 7) (b := true) (b' := false) rfl rfl ?_ (by assumption) (by decide +kernel) (by decide +kernel) (by decide +kernel) (fun _ _ _ _ h => h) rfl rfl rfl rfl rfl
    refine H_pureN (i := 12) (j := 5) (dj := 7) (b := true) (b' := false) rfl rfl ?_ (by assumption) (by decide +kernel) (by decide +kernel) (by decide +kernel) (fun _ _ _ _ h => h) rfl rfl rfl rfl rfl
    refine H_pureN (i := 13) (j := 5) (dj := 7) (b := true) (b' := false) rfl rfl ?_ (by assumption) (by decide +kernel) (by decide +kernel) (by decide +kernel) (fun _ _ _ _ h => h) rfl rfl rfl rfl rfl
    refine H_pureN (i := 14) (j := 5) (dj := 7) (b := true) (b' := false) rfl rfl ?_ (by assumption) (by decide +kernel) (by decide +kernel) (by decide +kernel) (fun _ _ _ _ h => h) rfl rfl rfl rfl rfl
    refine H_pureN (i := 15) (j := 5) (dj := 7) (b := true) (b' := false) rfl rfl ?_ (by assumption) (by decide +kernel) (by decide +kernel) (by decide +kernel) (fun _ _ _ _ h => h) rfl rfl rfl rfl rfl
    refine H_pureN (i := 16) (j := 5) (dj := 7) (b := true) (b' := false) rfl rfl ?_ (by assumption) (by decide +kernel) (by decide +kernel) (by decide +kernel) (fun _ _ _ _ h => h) rfl rfl rfl rfl rfl
    refine H_pure (i := 17) rfl (PureV.toS (P_pickF rfl rfl)) ?_ (by assumption) (by decide +kernel) (by decide +kernel) (by decide +kernel) (fun _ _ _ _ h => h) rfl rfl rfl
    refine H_done (by decide +kernel) ?_
    refine then_n ?_
    refine C_false rfl ?_
    refine C_exit ?_
    refine then_x ?_
    refine then_x ?_
    refine blk_x ?_
    refine then_n ?_
    refine C_seq ?_
    refine C_region ?_
    refine L (S (P_move rfl) ?_)
    refine L (S (P_nilCheck rfl) ?_)
    refine L (S (P_fieldAddr fo_217_1 rfl) ?_)
    refine L (S_load sc_3 rfl (hcn _ hH) ?_)
    refine L (S (P_eq rfl rfl (decide_eq_true (by decide))) ?_)
    refine L_nil ?_
    refine then_n ?_
    refine C_true rfl ?_
    refine C_region ?_
    refine L (S (P_move rfl) ?_)
    refine L (S (P_nilCheck rfl) ?_)
    refine L (S (P_fieldAddr fo_217_2 rfl) ?_)
    refine L (S_stDp ti_3 rfl rfl (hDi.no hH) ?_)
    rintro w3 hD3 hm3
    refine L_nil ?_
    refine F_end0 Tryz.results197 ?_
    exact ⟨hD3, (hmi.no hH).trans hm3 fun _ _ h => h⟩
  | succ i =>
    obtain ⟨c, hc⟩ := hDi.dig i (by omega)
    have hcn : ∀ w', Mv No wr w' → w'.cell? ⟨b, 800, none⟩ = some (.int .i64 ((i + 1 : Nat) : Int)) := fun w' h => (hDi.no h).c_nd
    have hc' : D.ds[i]? = some c := hc
    by_cases h48 : c.toNat = 48
    · have hce : c = 48 := UInt8.toNat_inj.1 h48
      have htr' : trimN D.ds i = trimN D.ds D.nd := by
        rw [← htr]
        show _ = if D.ds[i]? = some 48 then trimN D.ds i else i + 1
        rw [hc', hce, if_pos rfl]
      refine C_seq ?_
      refine C_seq ?_
      refine C_drawQ 18 mixed rfl (fun hH => ?_)
      refine H_pure (i := 0) rfl (PureV.toS (P_move rfl)) ?_ (by assumption) (by decide +kernel) (by decide +kernel) (by decide +kernel) (fun _ _ _ _ h => h) rfl rfl rfl
      refine H_pure (i := 1) rfl (PureV.toS (P_nilCheck rfl)) ?_ (by assumption) (by decide +kernel) (by decide +kernel) (by decide +kernel) (fun _ _ _ _ h => h) rfl rfl rfl
      refine H_pure (i := 2) rfl (PureV.toS (P_fieldAddr fo_217_1 rfl)) ?_ (by assumption) (by decide +kernel) (by decide +kernel) (by decide +kernel) (fun _ _ _ _ h => h) rfl rfl rfl
      refine H_pure (i := 3) rfl (PS_load sc_3 rfl (fun _ h => hcn _ h)) ?_ (by assumption) (by decide +kernel) (by decide +kernel) (by decide +kernel) (fun _ _ _ _ h => h) rfl rfl rfl
      refine H_pure (i := 4) rfl (PureV.toS (P_gt rfl rfl (decide_eq_true (by omega)))) ?_ (by assumption) (by decide +kernel) (by decide +kernel) (by decide +kernel) (fun _ _ _ _ h => h) rfl rfl rfl
      refine H_pure (i := 5) rfl (PureV.toS (P_move rfl)) ?_ (by assumption) (by decide +kernel) (by decide +kernel) (by decide +kernel) (fun _ _ _ _ h => h) rfl rfl rfl
      refine H_pureY (i := 6) (j := 5) (dj := 7) (b := true) rfl (PureV.toS (P_move rfl)) rfl ?_ (by assumption) (by decide +kernel) (by decide +kernel) (by decide +kernel) (fun _ _ _ _ h => h) rfl rfl rfl rfl
      refine H_pureY (i := 7) (j := 5) (dj := 7) (b := true) rfl (PureV.toS (P_move rfl)) rfl ?_ (by assumption) (by decide +kernel) (by decide +kernel) (by decide +kernel) (fun _ _ _ _ h => h) rfl rfl rfl rfl
      refine H_pureY (i := 8) (j := 5) (dj := 7) (b := true) rfl (PureV.toS (P_nilCheck rfl)) rfl ?_ (by assumption) (by decide +kernel) (by decide +kernel) (by decide +kernel) (fun _ _ _ _ h => h) rfl rfl rfl rfl
      refine H_pureY (i := 9) (j := 5) (dj := 7) (b := true) rfl (PureV.toS (P_fieldAddr fo_217_1 rfl)) rfl ?_ (by assumption) (by decide +kernel) (by decide +kernel) (by decide +kernel) (fun _ _ _ _ h => h) rfl rfl rfl rfl
      refine H_pureY (i := 10) (j := 5) (dj := 7) (b := true) rfl (PS_load sc_3 rfl (fun _ h => hcn _ h)) rfl ?_ (by assumption) (by decide +kernel) (by decide +kernel) (by decide +kernel) (fun _ _ _ _ h => h) rfl rfl rfl rfl
      refine H_pureY (i := 11) (j := 5) (dj := 7) (b := true) rfl (PureV.toS (P_sub rfl rfl (wI64 (c := (i : Int)) (by omega)))) rfl ?_ (by assumption) (by decide +kernel) (by decide +kernel) (by decide +kernel) (fun _ _ _ _ h => h) rfl rfl rfl rfl
      refine H_pureY (i := 12) (j := 5) (dj := 7) (b := true) rfl (PureV.toS (P_nilCheck rfl)) rfl ?_ (by assumption) (by decide +kernel) (by decide +kernel) (by decide +kernel) (fun _ _ _ _ h => h) rfl rfl rfl rfl
      refine H_pureY (i := 13) (j := 5) (dj := 7) (b := true) rfl (PureV.toS (P_fieldAddr fo_217_0 rfl)) rfl ?_ (by assumption) (by decide +kernel) (by decide +kernel) (by decide +kernel) (fun _ _ _ _ h => h) rfl rfl rfl rfl
      refine H_pureY (i := 14) (j := 5) (dj := 7) (b := true) rfl (PureV.toS (P_indexAddrA Tryz.underlying215 (csz_of ti_5) rfl rfl (j := i) rfl (by omega) (q := i) (by omega))) rfl ?_ (by assumption) (by decide +kernel) (by decide +kernel) (by decide +kernel) (fun _ _ _ _ h => h) rfl rfl rfl rfl
      refine H_pureY (i := 15) (j := 5) (dj := 7) (b := true) rfl (PS_load sc_5 rfl (fun _ h => (hDi.no h).c_dig hc')) rfl ?_ (by assumption) (by decide +kernel) (by decide +kernel) (by decide +kernel) (fun _ _ _ _ h => h) rfl rfl rfl rfl
      refine H_pureY (i := 16) (j := 5) (dj := 7) (b := true) rfl (PureV.toS (P_eq rfl rfl (decide_eq_true (by omega)))) rfl ?_ (by assumption) (by decide +kernel) (by decide +kernel) (by decide +kernel) (fun _ _ _ _ h => h) rfl rfl rfl rfl
      refine H_pure (i := 17) rfl (PureV.toS (P_pickT rfl rfl)) ?_ (by assumption) (by decide +kernel) (by decide +kernel) (by decide +kernel) (fun _ _ _ _ h => h) rfl rfl rfl
      refine H_done (by decide +kernel) ?_
      refine then_n ?_
      refine C_true rfl ?_
      refine C_skip ?_
      refine then_n ?_
      refine C_block ?_
      refine C_region ?_
      refine L (S (P_move rfl) ?_)
      refine L (S (P_nilCheck rfl) ?_)
      refine L (S (P_fieldAddr fo_217_1 rfl) ?_)
      refine L (S_load sc_3 rfl (hcn _ hH) ?_)
      refine L (S (P_sub rfl rfl (wI64 (c := (i : Int)) (by omega))) ?_)
      refine L (S (P_nilCheck rfl) ?_)
      refine L (S (P_fieldAddr fo_217_1 rfl) ?_)
      refine L (S_stNd ti_3 rfl rfl rfl (hDi.no hH) ?_)
      rintro w3 hD3 hm3
      refine L_nil ?_
      refine blk_n ?_
      refine then_n ?_
      exact ⟨rfl, i, (.cons rfl (.nil _)), ⟨hD3, (hmi.no hH).trans hm3 fun _ _ h => h, by omega, htr'⟩, by omega⟩
    · have h0 : trimN D.ds D.nd = i + 1 := by
        rw [← htr]
        show (if D.ds[i]? = some 48 then trimN D.ds i else i + 1) = i + 1
        rw [hc', if_neg (fun h => h48 (by rw [Option.some.inj h]; rfl))]
      unfold trF
      rw [h0, if_neg (by omega)]
      refine C_seq ?_
      refine C_seq ?_
      refine C_drawQ 18 mixed rfl (fun hH => ?_)
      refine H_pure (i := 0) rfl (PureV.toS (P_move rfl)) ?_ (by assumption) (by decide +kernel) (by decide +kernel) (by decide +kernel) (fun _ _ _ _ h => h) rfl rfl rfl
      refine H_pure (i := 1) rfl (PureV.toS (P_nilCheck rfl)) ?_ (by assumption) (by decide +kernel) (by decide +kernel) (by decide +kernel) (fun _ _ _ _ h => h) rfl rfl rfl
      refine H_pure (i := 2) rfl (PureV.toS (P_fieldAddr fo_217_1 rfl)) ?_ (by assumption) (by decide +kernel) (by decide +kernel) (by decide +kernel) (fun _ _ _ _ h => h) rfl rfl rfl
      refine H_pure (i := 3) rfl (PS_load sc_3 rfl (fun _ h => hcn _ h)) ?_ (by assumption) (by decide +kernel) (by decide +kernel) (by decide +kernel) (fun _ _ _ _ h => h) rfl rfl rfl
      refine H_pure (i := 4) rfl (PureV.toS (P_gt rfl rfl (decide_eq_true (by omega)))) ?_ (by assumption) (by decide +kernel) (by decide +kernel) (by decide +kernel) (fun _ _ _ _ h => h) rfl rfl rfl
      refine H_pure (i := 5) rfl (PureV.toS (P_move rfl)) ?_ (by assumption) (by decide +kernel) (by decide +kernel) (by decide +kernel) (fun _ _ _ _ h => h) rfl rfl rfl
      refine H_pureY (i := 6) (j := 5) (dj := 7) (b := true) rfl (PureV.toS (P_move rfl)) rfl ?_ (by assumption) (by decide +kernel) (by decide +kernel) (by decide +kernel) (fun _ _ _ _ h => h) rfl rfl rfl rfl
      refine H_pureY (i := 7) (j := 5) (dj := 7) (b := true) rfl (PureV.toS (P_move rfl)) rfl ?_ (by assumption) (by decide +kernel) (by decide +kernel) (by decide +kernel) (fun _ _ _ _ h => h) rfl rfl rfl rfl
      refine H_pureY (i := 8) (j := 5) (dj := 7) (b := true) rfl (PureV.toS (P_nilCheck rfl)) rfl ?_ (by assumption) (by decide +kernel) (by decide +kernel) (by decide +kernel) (fun _ _ _ _ h => h) rfl rfl rfl rfl
      refine H_pureY (i := 9) (j := 5) (dj := 7) (b := true) rfl (PureV.toS (P_fieldAddr fo_217_1 rfl)) rfl ?_ (by assumption) (by decide +kernel) (by decide +kernel) (by decide +kernel) (fun _ _ _ _ h => h) rfl rfl rfl rfl
      refine H_pureY (i := 10) (j := 5) (dj := 7) (b := true) rfl (PS_load sc_3 rfl (fun _ h => hcn _ h)) rfl ?_ (by assumption) (by decide +kernel) (by decide +kernel) (by decide +kernel) (fun _ _ _ _ h => h) rfl rfl rfl rfl
      refine H_pureY (i := 11) (j := 5) (dj := 7) (b := true) rfl (PureV.toS (P_sub rfl rfl (wI64 (c := (i : Int)) (by omega)))) rfl ?_ (by assumption) (by decide +kernel) (by decide +kernel) (by decide +kernel) (fun _ _ _ _ h => h) rfl rfl rfl rfl
      refine H_pureY (i := 12) (j := 5) (dj := 7) (b := true) rfl (PureV.toS (P_nilCheck rfl)) rfl ?_ (by assumption) (by decide +kernel) (by decide +kernel) (by decide +kernel) (fun _ _ _ _ h => h) rfl rfl rfl rfl
      refine H_pureY (i := 13) (j := 5) (dj := 7) (b := true) rfl (PureV.toS (P_fieldAddr fo_217_0 rfl)) rfl ?_ (by assumption) (by decide +kernel) (by decide +kernel) (by decide +kernel) (fun _ _ _ _ h => h) rfl rfl rfl rfl
      refine H_pureY (i := 14) (j := 5) (dj := 7) (b := true) rfl (PureV.toS (P_indexAddrA Tryz.underlying215 (csz_of ti_5) rfl rfl (j := i) rfl (by omega) (q := i) (by omega))) rfl ?_ (by assumption) (by decide +kernel) (by decide +kernel) (by decide +kernel) (fun _ _ _ _ h => h) rfl rfl rfl rfl
      refine H_pureY (i := 15) (j := 5) (dj := 7) (b := true) rfl (PS_load sc_5 rfl (fun _ h => (hDi.no h).c_dig hc')) rfl ?_ (by assumption) (by decide +kernel) (by decide +kernel) (by decide +kernel) (fun _ _ _ _ h => h) rfl rfl rfl rfl
      refine H_pureY (i := 16) (j := 5) (dj := 7) (b := true) rfl (PureV.toS (P_eq rfl rfl (decide_eq_false (by omega)))) rfl ?_ (by assumption) (by decide +kernel) (by decide +kernel) (by decide +kernel) (fun _ _ _ _ h => h) rfl rfl rfl rfl
      refine H_pure (i := 17) rfl (PureV.toS (P_pickT rfl rfl)) ?_ (by assumption) (by decide +kernel) (by decide +kernel) (by decide +kernel) (fun _ _ _ _ h => h) rfl rfl rfl
      refine H_done (by decide +kernel) ?_
      refine then_n ?_
      refine C_false rfl ?_
      refine C_exit ?_
      refine then_x ?_
      refine then_x ?_
      refine blk_x ?_
      refine then_n ?_
      refine C_seq ?_
      refine C_region ?_
      refine L (S (P_move rfl) ?_)
      refine L (S (P_nilCheck rfl) ?_)
      refine L (S (P_fieldAddr fo_217_1 rfl) ?_)
      refine L (S_load sc_3 rfl (hcn _ hH) ?_)
      refine L (S (P_eq rfl rfl (decide_eq_false (by omega))) ?_)
      refine L_nil ?_
      refine then_n ?_
      refine C_false rfl ?_
      refine C_skip ?_
      refine F_end0 Tryz.results197 ?_
      exact ⟨hDi.no hH, hmi.no hH⟩
/-- Are the digits fewer, letter by letter? -/
def pltF : List UInt8 → List UInt8 → Bool
  | _, [] => false
  | [], _ :: _ => true
  | x :: l, y :: s => if x = y then pltF l s else decide (x.toNat < y.toNat)
theorem pltF_drop (l s : List UInt8) (i : Nat) : pltF (l.drop i) (s.drop i) = (match s[i]? with
    | none => false
    | some y => match l[i]? with
      | none => true
      | some x => if x = y then pltF (l.drop (i + 1)) (s.drop (i + 1)) else decide (x.toNat < y.toNat)) := by
  rcases Nat.lt_or_ge i s.length with h | h
  · rw [List.drop_eq_getElem_cons h, List.getElem?_eq_getElem h]
    rcases Nat.lt_or_ge i l.length with h2 | h2
    · rw [List.drop_eq_getElem_cons h2, List.getElem?_eq_getElem h2]
      rfl
    · rw [List.drop_eq_nil_of_le h2, List.getElem?_eq_none h2]
      rfl
  · rw [List.drop_eq_nil_of_le h, List.getElem?_eq_none h]
    cases l.drop i <;> rfl
theorem prefix_ret {A : Option Addr} {l s : List UInt8} {cap : Nat} (hA : SlR w A (l.map bv)) (hl : l.length < 100000) (hs : s.length < 100000) : Ret Tryz.prog 196 [.slice A l.length cap, .string (str s)] w fun v w' => v = .bool (pltF l s) ∧ Mv No w w' := by
  have hsz := str_size s
  refine F_enter Tryz.func196 Tryz.ntmps196 rfl rfl ?_
  refine C_seq ?_
  refine C_region ?_
  refine L (S (P_assign rfl) ?_)
  refine L_nil ?_
  refine then_n ?_
  refine C_seq ?_
  refine C_seq ?_
  refine C_region ?_
  refine L (S (P_assign rfl) ?_)
  refine L_nil ?_
  refine then_n ?_
  refine C_block ?_
  refine C_loop (γ := Nat) (fun i => [(0, .slice A l.length cap), (1, .string (str s)), (5, .int .i64 (i : Int))]) (fun i wr => Mv No w wr ∧ i ≤ s.length ∧ i ≤ l.length ∧ pltF (l.drop i) (s.drop i) = pltF l s) (fun i => s.length - i) 0 (.cons rfl (.cons rfl (.cons rfl (.nil _)))) ⟨Mv.refl w, Nat.zero_le _, Nat.zero_le _, rfl⟩ ?_
  rintro i wr ⟨hm, his, hil, hp⟩
  rw [pltF_drop] at hp
  have hAr := hA.no hm
  rcases Nat.lt_or_ge i s.length with h1 | h1
  · have hy := List.getElem?_eq_getElem h1
    generalize s[i] = y at hy
    rw [hy] at hp
    dsimp only at hp
    rcases Nat.lt_or_ge i l.length with h2 | h2
    · have hx := List.getElem?_eq_getElem h2
      generalize l[i] = x at hx
      rw [hx] at hp
      dsimp only at hp
      obtain ⟨b, o, rfl, hr⟩ := hAr.form (i := i) (by rw [List.length_map]; exact h2)
      have hcell : ∀ w', Mv No wr w' → w'.cell? ⟨b, o + i, none⟩ = some (bv x) := fun w' h => (hr.no h) i _ (by rw [List.getElem?_map, hx]; rfl)
      by_cases hxy : x.toNat = y.toNat
      · rw [if_pos (UInt8.toNat_inj.1 hxy)] at hp
        refine C_seq ?_
        refine C_seq ?_
        refine C_region ?_
        refine L (S (P_move rfl) ?_)
        refine L (S (P_move rfl) ?_)
        refine L (S (P_lenT Tryz.underlying9 rfl) ?_)
        refine L (S (P_lt rfl rfl (decide_eq_true (by omega))) ?_)
        refine L_nil ?_
        refine then_n ?_
        refine C_true rfl ?_
        refine C_skip ?_
        refine then_n ?_
        refine C_seq ?_
        refine C_block ?_
        refine C_seq ?_
        refine C_seq ?_
        refine C_region ?_
        refine L (S (P_move rfl) ?_)
        refine L (S (P_move rfl) ?_)
        refine L (S (P_lenS Tryz.underlying56 rfl) ?_)
        refine L (S (P_ge rfl rfl (decide_eq_false (by omega))) ?_)
        refine L_nil ?_
        refine then_n ?_
        refine C_false rfl ?_
        refine C_skip ?_
        refine then_n ?_
        refine C_seq ?_
        refine C_drawQ 8 mixed rfl (fun hH => ?_)
        refine H_pure (i := 0) rfl (PureV.toS (P_move rfl)) ?_ (by assumption) (by decide +kernel) (by decide +kernel) (by decide +kernel) (fun _ _ _ _ h => h) rfl rfl rfl
        refine H_pure (i := 1) rfl (PureV.toS (P_move rfl)) ?_ (by assumption) (by decide +kernel) (by decide +kernel) (by decide +kernel) (fun _ _ _ _ h => h) rfl rfl rfl
        refine H_pure (i := 2) rfl (PureV.toS (P_indexAddr Tryz.underlying56 (csz_of ti_5) rfl rfl (j := i) rfl h2 (p := o + i) (by omega))) ?_ (by assumption) (by decide +kernel) (by decide +kernel) (by decide +kernel) (fun _ _ _ _ h => h) rfl rfl rfl
        refine H_pure (i := 3) rfl (PS_load sc_5 rfl (fun _ h => hcell _ h)) ?_ (by assumption) (by decide +kernel) (by decide +kernel) (by decide +kernel) (fun _ _ _ _ h => h) rfl rfl rfl
        refine H_pure (i := 4) rfl (PureV.toS (P_move rfl)) ?_ (by assumption) (by decide +kernel) (by decide +kernel) (by decide +kernel) (fun _ _ _ _ h => h) rfl rfl rfl
        refine H_pure (i := 5) rfl (PureV.toS (P_move rfl)) ?_ (by assumption) (by decide +kernel) (by decide +kernel) (by decide +kernel) (fun _ _ _ _ h => h) rfl rfl rfl
        refine H_pure (i := 6) rfl (PureV.toS (P_indexT Tryz.underlying9 rfl rfl (j := i) rfl (str_idx hy))) ?_ (by assumption) (by decide +kernel) (by decide +kernel) (by decide +kernel) (fun _ _ _ _ h => h) rfl rfl rfl
        refine H_pure (i := 7) rfl (PureV.toS (P_ne rfl rfl (decide_eq_false (by omega)))) ?_ (by assumption) (by decide +kernel) (by decide +kernel) (by decide +kernel) (fun _ _ _ _ h => h) rfl rfl rfl
        refine H_done (by decide +kernel) ?_
        refine then_n ?_
        refine C_false rfl ?_
        refine C_skip ?_
        refine blk_n ?_
        refine then_n ?_
        refine C_region ?_
        refine L (S (P_move rfl) ?_)
        refine L (S (P_add rfl rfl (wI64 (c := ((i + 1 : Nat) : Int)) (by omega))) ?_)
        refine L (S (P_assign rfl) ?_)
        refine L_nil ?_
        refine then_n ?_
        exact ⟨rfl, i + 1, (.cons rfl (.cons rfl (.cons rfl (.nil _)))), ⟨hm.no hH, by omega, by omega, hp⟩, by omega⟩
      · rw [if_neg (fun h => hxy (by rw [h]))] at hp
        rw [← hp]
        refine C_seq ?_
        refine C_seq ?_
        refine C_region ?_
        refine L (S (P_move rfl) ?_)
        refine L (S (P_move rfl) ?_)
        refine L (S (P_lenT Tryz.underlying9 rfl) ?_)
        refine L (S (P_lt rfl rfl (decide_eq_true (by omega))) ?_)
        refine L_nil ?_
        refine then_n ?_
        refine C_true rfl ?_
        refine C_skip ?_
        refine then_n ?_
        refine C_seq ?_
        refine C_block ?_
        refine C_seq ?_
        refine C_seq ?_
        refine C_region ?_
        refine L (S (P_move rfl) ?_)
        refine L (S (P_move rfl) ?_)
        refine L (S (P_lenS Tryz.underlying56 rfl) ?_)
        refine L (S (P_ge rfl rfl (decide_eq_false (by omega))) ?_)
        refine L_nil ?_
        refine then_n ?_
        refine C_false rfl ?_
        refine C_skip ?_
        refine then_n ?_
        refine C_seq ?_
        refine C_drawQ 8 mixed rfl (fun hH => ?_)
        refine H_pure (i := 0) rfl (PureV.toS (P_move rfl)) ?_ (by assumption) (by decide +kernel) (by decide +kernel) (by decide +kernel) (fun _ _ _ _ h => h) rfl rfl rfl
        refine H_pure (i := 1) rfl (PureV.toS (P_move rfl)) ?_ (by assumption) (by decide +kernel) (by decide +kernel) (by decide +kernel) (fun _ _ _ _ h => h) rfl rfl rfl
        refine H_pure (i := 2) rfl (PureV.toS (P_indexAddr Tryz.underlying56 (csz_of ti_5) rfl rfl (j := i) rfl h2 (p := o + i) (by omega))) ?_ (by assumption) (by decide +kernel) (by decide +kernel) (by decide +kernel) (fun _ _ _ _ h => h) rfl rfl rfl
        refine H_pure (i := 3) rfl (PS_load sc_5 rfl (fun _ h => hcell _ h)) ?_ (by assumption) (by decide +kernel) (by decide +kernel) (by decide +kernel) (fun _ _ _ _ h => h) rfl rfl rfl
        refine H_pure (i := 4) rfl (PureV.toS (P_move rfl)) ?_ (by assumption) (by decide +kernel) (by decide +kernel) (by decide +kernel) (fun _ _ _ _ h => h) rfl rfl rfl
        refine H_pure (i := 5) rfl (PureV.toS (P_move rfl)) ?_ (by assumption) (by decide +kernel) (by decide +kernel) (by decide +kernel) (fun _ _ _ _ h => h) rfl rfl rfl
        refine H_pure (i := 6) rfl (PureV.toS (P_indexT Tryz.underlying9 rfl rfl (j := i) rfl (str_idx hy))) ?_ (by assumption) (by decide +kernel) (by decide +kernel) (by decide +kernel) (fun _ _ _ _ h => h) rfl rfl rfl
        refine H_pure (i := 7) rfl (PureV.toS (P_ne rfl rfl (decide_eq_true (by omega)))) ?_ (by assumption) (by decide +kernel) (by decide +kernel) (by decide +kernel) (fun _ _ _ _ h => h) rfl rfl rfl
        refine H_done (by decide +kernel) ?_
        refine then_n ?_
        refine C_true rfl ?_
        refine C_seq ?_
        have hq := hH
        refine C_drawQ 9 mixed rfl (fun hH => ?_)
        refine H_pure (i := 0) rfl (PureV.toS (P_move rfl)) ?_ (by assumption) (by decide +kernel) (by decide +kernel) (by decide +kernel) (fun _ _ _ _ h => h) rfl rfl rfl
        refine H_pure (i := 1) rfl (PureV.toS (P_move rfl)) ?_ (by assumption) (by decide +kernel) (by decide +kernel) (by decide +kernel) (fun _ _ _ _ h => h) rfl rfl rfl
        refine H_pure (i := 2) rfl (PureV.toS (P_indexAddr Tryz.underlying56 (csz_of ti_5) rfl rfl (j := i) rfl h2 (p := o + i) (by omega))) ?_ (by assumption) (by decide +kernel) (by decide +kernel) (by decide +kernel) (fun _ _ _ _ h => h) rfl rfl rfl
        refine H_pure (i := 3) rfl (PS_load sc_5 rfl (fun _ h => hcell _ (hq.no h))) ?_ (by assumption) (by decide +kernel) (by decide +kernel) (by decide +kernel) (fun _ _ _ _ h => h) rfl rfl rfl
        refine H_pure (i := 4) rfl (PureV.toS (P_move rfl)) ?_ (by assumption) (by decide +kernel) (by decide +kernel) (by decide +kernel) (fun _ _ _ _ h => h) rfl rfl rfl
        refine H_pure (i := 5) rfl (PureV.toS (P_move rfl)) ?_ (by assumption) (by decide +kernel) (by decide +kernel) (by decide +kernel) (fun _ _ _ _ h => h) rfl rfl rfl
        refine H_pure (i := 6) rfl (PureV.toS (P_indexT Tryz.underlying9 rfl rfl (j := i) rfl (str_idx hy))) ?_ (by assumption) (by decide +kernel) (by decide +kernel) (by decide +kernel) (fun _ _ _ _ h => h) rfl rfl rfl
        refine H_pure (i := 7) rfl (PureV.toS (P_lt rfl rfl (β := decide (x.toNat < y.toNat)) (by simp))) ?_ (by assumption) (by decide +kernel) (by decide +kernel) (by decide +kernel) (fun _ _ _ _ h => h) rfl rfl rfl
        refine H_pure (i := 8) rfl (PureV.toS (P_assign rfl)) ?_ (by assumption) (by decide +kernel) (by decide +kernel) (by decide +kernel) (fun _ _ _ _ h => h) rfl rfl rfl
        refine H_done (by decide +kernel) ?_
        refine then_n ?_
        refine C_ret ?_
        refine blk_r ?_
        refine then_r ?_
        refine then_r ?_
        refine blk_r ?_
        refine then_r ?_
        refine F_ret1 Tryz.results196 rfl ?_
        exact ⟨rfl, hm.no (hq.no hH)⟩
    · rw [List.getElem?_eq_none h2] at hp
      rw [← hp]
      refine C_seq ?_
      refine C_seq ?_
      refine C_region ?_
      refine L (S (P_move rfl) ?_)
      refine L (S (P_move rfl) ?_)
      refine L (S (P_lenT Tryz.underlying9 rfl) ?_)
      refine L (S (P_lt rfl rfl (decide_eq_true (by omega))) ?_)
      refine L_nil ?_
      refine then_n ?_
      refine C_true rfl ?_
      refine C_skip ?_
      refine then_n ?_
      refine C_seq ?_
      refine C_block ?_
      refine C_seq ?_
      refine C_seq ?_
      refine C_region ?_
      refine L (S (P_move rfl) ?_)
      refine L (S (P_move rfl) ?_)
      refine L (S (P_lenS Tryz.underlying56 rfl) ?_)
      refine L (S (P_ge rfl rfl (decide_eq_true (by omega))) ?_)
      refine L_nil ?_
      refine then_n ?_
      refine C_true rfl ?_
      refine C_seq ?_
      refine C_region ?_
      refine L (S (P_assign rfl) ?_)
      refine L_nil ?_
      refine then_n ?_
      refine C_ret ?_
      refine then_r ?_
      refine blk_r ?_
      refine then_r ?_
      refine then_r ?_
      refine blk_r ?_
      refine then_r ?_
      refine F_ret1 Tryz.results196 rfl ?_
      exact ⟨rfl, hm⟩
  · rw [List.getElem?_eq_none h1] at hp
    rw [← hp]
    refine C_seq ?_
    refine C_seq ?_
    refine C_region ?_
    refine L (S (P_move rfl) ?_)
    refine L (S (P_move rfl) ?_)
    refine L (S (P_lenT Tryz.underlying9 rfl) ?_)
    refine L (S (P_lt rfl rfl (decide_eq_false (by omega))) ?_)
    refine L_nil ?_
    refine then_n ?_
    refine C_false rfl ?_
    refine C_exit ?_
    refine then_x ?_
    refine then_x ?_
    refine blk_x ?_
    refine then_n ?_
    refine C_seq ?_
    refine C_region ?_
    refine L (S (P_assign rfl) ?_)
    refine L_nil ?_
    refine then_n ?_
    refine C_ret ?_
    refine F_ret1 Tryz.results196 rfl ?_
    exact ⟨rfl, hm⟩
end
end Go.Proofs.YtnoioimphcmeiaaGreatDoor
