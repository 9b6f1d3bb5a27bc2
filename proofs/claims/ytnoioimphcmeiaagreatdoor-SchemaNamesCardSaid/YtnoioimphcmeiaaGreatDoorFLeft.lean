import Derived.Test.YtnoioimphcmeiaaGreatDoorFDec
namespace Go.Proofs.YtnoioimphcmeiaaGreatDoor
open Go.RowKit
set_option maxRecDepth 20000
set_option maxHeartbeats 1000000

theorem quoU {a b : Nat} {c : Int} (h : a < 18446744073709551616) (hc : c = ((a / b : Nat) : Int)) : IntKind.u64.wrap ((a : Int).tdiv (b : Int)) = c := by
  subst hc
  exact wU64' (Nat.lt_of_le_of_lt (Nat.div_le_self _ _) h)
def putD (D : Dc) (w : Nat) (r : Nat) : Dc := if w < 800 then { D with ds := D.ds.set w (UInt8.ofNat (r + 48)) } else if r = 0 then D else { D with tr := true }
def dg (D : Dc) (r : Nat) : Nat := (D.ds[r]?.getD 48).toNat - 48
def ls1 (k δ : Nat) : Nat → Dc → Nat → Dc × Nat
  | 0, D, n => (D, n)
  | r + 1, D, n => ls1 k δ r (putD D (r + δ) ((n + dg D r * 2 ^ k) % 10)) ((n + dg D r * 2 ^ k) / 10)
def ls2 : Nat → Dc → Nat → Dc
  | 0, D, _ => D
  | w + 1, D, n => if n = 0 then D else ls2 w (putD D w (n % 10)) (n / 10)
def chN (k : Nat) : Nat := (Go.Pinned.cheatRows[k]?.getD (0, [])).1
def chS (k : Nat) : List UInt8 := (Go.Pinned.cheatRows[k]?.getD (0, [])).2
def dlF (k : Nat) (D : Dc) : Nat := chN k - (if pltF (D.ds.take D.nd) (chS k) = true then 1 else 0)
def lsF (k : Nat) (D : Dc) : Dc :=
  trF { ls2 (dlF k D) (ls1 k (dlF k D) D.nd D 0).1 (ls1 k (dlF k D) D.nd D 0).2 with nd := min (D.nd + dlF k D) 800, dp := D.dp + dlF k D }
theorem putD_nd (D : Dc) (w r : Nat) : (putD D w r).nd = D.nd ∧ (putD D w r).dp = D.dp := by
  unfold putD
  split
  · exact ⟨rfl, rfl⟩
  · split <;> exact ⟨rfl, rfl⟩
theorem putD_at (D : Dc) (w r j : Nat) (h : j ≠ w) : (putD D w r).ds[j]? = D.ds[j]? := by
  unfold putD
  split
  · exact List.getElem?_set_ne (Ne.symm h)
  · split <;> rfl
theorem cheat_len : Go.Pinned.cheatRows.length = 61 := by decide +kernel
theorem cheat_some {k : Nat} (h : k < 61) : Go.Pinned.cheatRows[k]? = some (chN k, chS k) := by
  unfold chN chS
  have := List.getElem?_eq_getElem (l := Go.Pinned.cheatRows) (i := k) (by rw [cheat_len]; exact h)
  rw [this]
  rfl
theorem ch_facts : ∀ x ∈ Go.Pinned.cheatRows, x.1 ≤ 19 ∧ x.2.length ≤ 50 := by decide +kernel
theorem ch_le {k : Nat} (h : k < 61) : chN k ≤ 19 ∧ (chS k).length ≤ 50 := ch_facts _ (List.mem_of_getElem? (cheat_some h))
theorem chV_get {k : Nat} (h : k < 61) : chV[2 * k]? = some (.int .i64 (chN k : Int)) ∧ chV[2 * k + 1]? = some (.string (str (chS k))) :=
  flat2 (fun x : Nat × List UInt8 => [Value.int .i64 (x.1 : Int), Value.string (str x.2)]) (fun _ => rfl) _ k _ (cheat_some h)
/-- The digits ahead of n are digits. -/
def Dig (D : Dc) (n : Nat) : Prop := ∀ j, j < n → ∃ c, D.ds[j]? = some c ∧ 48 ≤ c.toNat ∧ c.toNat ≤ 57
theorem Dig.dg {D : Dc} {n j : Nat} (h : Dig D n) (hj : j < n) : ∃ c, D.ds[j]? = some c ∧ c.toNat = dg D j + 48 ∧ dg D j ≤ 9 := by
  obtain ⟨c, h1, h2, h3⟩ := h j hj
  have e : Go.Proofs.YtnoioimphcmeiaaGreatDoor.dg D j = c.toNat - 48 := by unfold Go.Proofs.YtnoioimphcmeiaaGreatDoor.dg; rw [h1]; rfl
  exact ⟨c, h1, by omega, by omega⟩
theorem Dig.put {D : Dc} {n w r : Nat} (h : Dig D n) (hw : n ≤ w) : Dig (putD D w r) n := fun j hj => by
  rw [putD_at D w r j (by omega)]; exact h j hj
theorem u8ofNat {r : Nat} (h : r ≤ 9) : (UInt8.ofNat (r + 48)).toNat = r + 48 := by simp; omega

section
variable {P : Program} {n : Nat} {f : Fr} {d : Nat} {x : Operand} {t ty : TypeId} {pos : String} {af : Array Edge} {g : Option (Nat × Bool)}
theorem P_sliceA0 {e : TypeId} {m len hh o b : Nat} {lo hi : Option Operand} (hu : P.underlying t = some (.array len e)) (hs : csz P e m) (hx : ev f x = some (.pointer (some ⟨b, o, none⟩))) (h0 : len ≠ 0) (hl : bnd f lo 0 0) (hhi : bnd f hi len hh) (h2 : hh ≤ len)
    : PureV P n ⟨some d, .slice t x lo hi none, ty, pos, af, g⟩ f (.slice (some ⟨b, o, none⟩) hh len) := by
  have := P_sliceA (P := P) (n := n) (d := d) (ty := ty) (pos := pos) (af := af) (g := g) hu hs hx hl hhi (Nat.zero_le _) h2
  rw [if_neg h0] at this
  simpa [Addr.add_lit] using this
end
section
variable {w : World}
set_option maxHeartbeats 2000000 in
theorem leftShift_ret (hv : Vr w) {b : Nat} {D : Dc} (hD : DB w b D) {k : Nat} (hk1 : 1 ≤ k) (hk : k ≤ 60) (hn : D.nd ≤ 800) (hdig : Dig D D.nd) (hdp : -100000000 ≤ D.dp ∧ D.dp ≤ 100000000)
    (hcar : (ls1 k (dlF k D) D.nd D 0).2 < 10 ^ dlF k D) (hpre : (if pltF (D.ds.take D.nd) (chS k) = true then 1 else 0) ≤ chN k) :
    Ret Tryz.prog 189 [.pointer (some ⟨b, 0, none⟩), .int .u64 (k : Int)] w fun _ w' => DB w' b (lsF k D) ∧ Mv (At b) w w' := by
  obtain ⟨bc, oc, cc, gc1, gc2⟩ := hv.ch
  obtain ⟨hr1, hr2⟩ := chV_get (k := k) (by omega)
  have hc1 := gc2 _ _ hr1
  have hc2 := gc2 _ _ hr2
  have hch := ch_le (k := k) (by omega)
  have hlen := hD.len
  have hcn : ∀ w', Mv No w w' → w'.cell? ⟨b, 800, none⟩ = some (.int .i64 (D.nd : Int)) := fun w' h => (hD.no h).c_nd
  have hcd : ∀ w', Mv No w w' → w'.cell? ⟨b, 801, none⟩ = some (.int .i64 D.dp) := fun w' h => (hD.no h).c_dp
  have hrow : Row w b 0 ((D.ds.take D.nd).map bv) := fun i v hi => by
    rw [Nat.zero_add]
    rw [List.getElem?_map, Option.map_eq_some_iff] at hi
    obtain ⟨c, h1, rfl⟩ := hi
    rw [List.getElem?_take] at h1
    split at h1
    · exact hD.c_dig h1
    · cases h1
  have hrl : (D.ds.take D.nd).length = D.nd := by rw [List.length_take, hlen]; omega
  have hP : ∀ w', Mv No w w' → Ret Tryz.prog 196 [.slice (some ⟨b, 0, none⟩) D.nd 800, .string (str (chS k))] w' fun v w'' => v = .bool (pltF (D.ds.take D.nd) (chS k)) ∧ Mv No w' w'' := fun w' h => by
    have := prefix_ret (w := w') (A := some ⟨b, 0, none⟩) (l := D.ds.take D.nd) (s := chS k) (cap := 800) (.inr ⟨b, 0, rfl, hrow.no h⟩) (by rw [hrl]; omega) (by omega)
    rw [hrl] at this
    exact this
  have hmk : w.cell? ⟨bc, oc + 2 * k, none⟩ = some (.int .i64 (chN k : Int)) := hc1
  have hms : ∀ w', Mv No w w' → w'.cell? ⟨bc, oc + (2 * k + 1), none⟩ = some (.string (str (chS k))) := fun w' h => cell_no hc2 h
  have hgc : ∀ w', Mv No w w' → w'.cell? ⟨10, 0, none⟩ = some (.slice (some ⟨bc, oc, none⟩) 61 cc) := fun w' h => cell_no gc1 h
  unfold lsF
  refine F_enter Tryz.func189 Tryz.ntmps189 rfl rfl ?_
  refine C_seq ?_
  refine C_region ?_
  refine L (S_load sc_260 rfl gc1 ?_)
  refine L (S (P_move rfl) ?_)
  refine L (S (P_indexAddr Tryz.underlying260 (csz_of ti_259) rfl rfl (j := k) rfl (by omega) (p := oc + 2 * k) (by omega)) ?_)
  refine L (S (P_fieldAddr fo_259_0 rfl) ?_)
  refine L (S_load sc_3 rfl hmk ?_)
  refine L (S (P_assign rfl) ?_)
  refine L_nil ?_
  refine then_n ?_
  refine C_seq ?_
  refine C_seq ?_
  refine C_drawQ 14 mixed rfl (fun hH => ?_)
  refine H_pure (i := 0) rfl (PureV.toS (P_move rfl)) ?_ (by assumption) (by decide +kernel) (by decide +kernel) (by decide +kernel) (fun _ _ _ _ h => h) rfl rfl rfl
  refine H_pure (i := 1) rfl (PureV.toS (P_nilCheck rfl)) ?_ (by assumption) (by decide +kernel) (by decide +kernel) (by decide +kernel) (fun _ _ _ _ h => h) rfl rfl rfl
  refine H_pure (i := 2) rfl (PureV.toS (P_fieldAddr fo_217_0 rfl)) ?_ (by assumption) (by decide +kernel) (by decide +kernel) (by decide +kernel) (fun _ _ _ _ h => h) rfl rfl rfl
  refine H_pure (i := 3) rfl (PureV.toS (P_move rfl)) ?_ (by assumption) (by decide +kernel) (by decide +kernel) (by decide +kernel) (fun _ _ _ _ h => h) rfl rfl rfl
  refine H_pure (i := 4) rfl (PureV.toS (P_nilCheck rfl)) ?_ (by assumption) (by decide +kernel) (by decide +kernel) (by decide +kernel) (fun _ _ _ _ h => h) rfl rfl rfl
  refine H_pure (i := 5) rfl (PureV.toS (P_fieldAddr fo_217_1 rfl)) ?_ (by assumption) (by decide +kernel) (by decide +kernel) (by decide +kernel) (fun _ _ _ _ h => h) rfl rfl rfl
  refine H_pure (i := 6) rfl (PS_load sc_3 rfl (fun _ h => hcn _ h)) ?_ (by assumption) (by decide +kernel) (by decide +kernel) (by decide +kernel) (fun _ _ _ _ h => h) rfl rfl rfl
  refine H_pure (i := 7) rfl (PureV.toS (P_sliceA0 Tryz.underlying215 (csz_of ti_5) rfl (by decide) (bnd_some (j := 0) rfl rfl) (bnd_some (j := D.nd) rfl rfl) hn)) ?_ (by assumption) (by decide +kernel) (by decide +kernel) (by decide +kernel) (fun _ _ _ _ h => h) rfl rfl rfl
  refine H_pure (i := 8) rfl (PS_load sc_260 rfl (fun _ h => hgc _ h)) ?_ (by assumption) (by decide +kernel) (by decide +kernel) (by decide +kernel) (fun _ _ _ _ h => h) rfl rfl rfl
  refine H_pure (i := 9) rfl (PureV.toS (P_move rfl)) ?_ (by assumption) (by decide +kernel) (by decide +kernel) (by decide +kernel) (fun _ _ _ _ h => h) rfl rfl rfl
  refine H_pure (i := 10) rfl (PureV.toS (P_indexAddr Tryz.underlying260 (csz_of ti_259) rfl rfl (j := k) rfl (by omega) (p := oc + 2 * k) (by omega))) ?_ (by assumption) (by decide +kernel) (by decide +kernel) (by decide +kernel) (fun _ _ _ _ h => h) rfl rfl rfl
  refine H_pure (i := 11) rfl (PureV.toS (P_fieldAddr fo_259_1 rfl)) ?_ (by assumption) (by decide +kernel) (by decide +kernel) (by decide +kernel) (fun _ _ _ _ h => h) rfl rfl rfl
  refine H_pure (i := 12) rfl (PS_load sc_9 rfl (fun _ h => hms _ h)) ?_ (by assumption) (by decide +kernel) (by decide +kernel) (by decide +kernel) (fun _ _ _ _ h => h) rfl rfl rfl
  refine H_one (i := 13) (H_op rfl (S_call cb_196 rfl (hP _ hH) ?_)) (by decide +kernel)
  rintro _ w2 ⟨rfl, hm2⟩
  refine and_keep (by first | assumption | exact Mv.no (by assumption) (by assumption)) (fun hH => ?_)
  refine H_done (by decide +kernel) ?_
  refine then_n ?_
  have hm1 := hH
  refine C_cutg (γ := Unit) (fun _ => [(0, .pointer (some ⟨b, 0, none⟩)), (1, .int .u64 (k : Int)), (4, .int .i64 (dlF k D : Int))]) (fun _ wc => wc = w2) ?_ ?_
  · unfold dlF
    cases hpl : pltF (D.ds.take D.nd) (chS k) with
    | true =>
      rw [hpl, if_pos rfl] at hpre
      rw [if_pos rfl]
      refine C_true rfl ?_
      refine C_region ?_
      refine L (S (P_move rfl) ?_)
      refine L (S (P_sub rfl rfl (wI64 (c := ((chN k - 1 : Nat) : Int)) (by omega))) ?_)
      refine L (S (P_assign rfl) ?_)
      refine L_nil ?_
      refine then_n ?_
      exact ⟨rfl, (), (.cons rfl (.cons rfl (.cons rfl (.nil _)))), rfl⟩
    | false =>
      rw [if_neg (by decide)]
      refine C_false rfl ?_
      refine C_skip ?_
      refine then_n ?_
      exact ⟨rfl, (), (.cons rfl (.cons rfl (.cons rfl (.nil _)))), rfl⟩
  rintro _ w1 rfl f' hf'
  refine C_forget hf' ?_
  clear hf' f'
  have hD1 := hD.no hm1
  clear hms hgc hP hrow
  have hcn1 := hcn _ hm1
  have hdl : dlF k D ≤ 19 := by unfold dlF; omega
  generalize dlF k D = δ at *
  refine C_seq ?_
  refine C_region ?_
  refine L (S (P_move rfl) ?_)
  refine L (S (P_nilCheck rfl) ?_)
  refine L (S (P_fieldAddr fo_217_1 rfl) ?_)
  refine L (S_load sc_3 rfl hcn1 ?_)
  refine L (S (P_assign rfl) ?_)
  refine L_nil ?_
  refine then_n ?_
  refine C_seq ?_
  refine C_region ?_
  refine L (S (P_move rfl) ?_)
  refine L (S (P_nilCheck rfl) ?_)
  refine L (S (P_fieldAddr fo_217_1 rfl) ?_)
  refine L (S_load sc_3 rfl (by assumption) ?_)
  refine L (S (P_move rfl) ?_)
  refine L (S (P_add rfl rfl (wI64 (c := ((D.nd + δ : Nat) : Int)) (by omega))) ?_)
  refine L (S (P_assign rfl) ?_)
  refine L_nil ?_
  refine then_n ?_
  refine C_seq ?_
  refine C_region ?_
  refine L (S (P_assign rfl) ?_)
  refine L_nil ?_
  refine then_n ?_
  refine C_seq ?_
  refine C_seq ?_
  refine C_region ?_
  refine L (S (P_move rfl) ?_)
  refine L (S (P_sub rfl rfl (wI64 (c := (D.nd : Int) - 1) (by omega))) ?_)
  refine L (S (P_assign rfl) ?_)
  refine L_nil ?_
  refine then_n ?_
  refine C_block ?_
  have hp60 : 2 ^ k ≤ 1152921504606846976 := by
    have := Nat.pow_le_pow_right (n := 2) (by omega) hk
    simpa using this
  refine C_loop (γ := Nat × Dc × Nat) (fun q => [(0, .pointer (some ⟨b, 0, none⟩)), (1, .int .u64 (k : Int)), (4, .int .i64 (δ : Int)), (5, .int .i64 ((q.1 : Int) - 1)), (6, .int .i64 ((q.1 + δ : Nat) : Int)), (7, .int .u64 (q.2.2 : Int))]) (fun q wr => DB wr b q.2.1 ∧ Mv (At b) w wr ∧ q.1 ≤ D.nd ∧ Dig q.2.1 q.1 ∧ q.2.2 ≤ 2 ^ k ∧ q.2.1.nd = D.nd ∧ q.2.1.dp = D.dp ∧ ls1 k δ q.1 q.2.1 q.2.2 = ls1 k δ D.nd D 0) (fun q => q.1) (D.nd, D, 0) (.cons rfl (.cons rfl (.cons rfl (.cons rfl (.cons rfl (.cons rfl (.nil _))))))) ⟨hD1, hm1.ofNo, Nat.le_refl _, hdig, Nat.zero_le _, rfl, rfl, rfl⟩ ?_
  rintro ⟨r, E, m⟩ wr ⟨hE, hmr, hrn, hdE, hmb, hEn, hEd, hls⟩
  dsimp only at hE hrn hdE hmb hEn hEd hls
  dsimp only
  cases r with
  | succ r =>
    obtain ⟨c, hc, hcd, h9⟩ := hdE.dg (j := r) (by omega)
    have hmul : dg E r * 2 ^ k ≤ 9 * 2 ^ k := Nat.mul_le_mul_right _ h9
    have hdE' : Dig E r := fun j hj => hdE j (by omega)
    have hls' : ls1 k δ r (putD E (r + δ) ((m + dg E r * 2 ^ k) % 10)) ((m + dg E r * 2 ^ k) / 10) = ls1 k δ D.nd D 0 := hls
    have hpn := putD_nd E (r + δ) ((m + dg E r * 2 ^ k) % 10)
    have hdp' := hdE'.put (w := r + δ) (r := (m + dg E r * 2 ^ k) % 10) (by omega)
    have hdone : ∀ wz, DB wz b (putD E (r + δ) ((m + dg E r * 2 ^ k) % 10)) → Mv (At b) wr wz → (DB wz b (putD E (r + δ) ((m + dg E r * 2 ^ k) % 10)) ∧ Mv (At b) w wz ∧ r ≤ D.nd ∧ Dig (putD E (r + δ) ((m + dg E r * 2 ^ k) % 10)) r ∧ (m + dg E r * 2 ^ k) / 10 ≤ 2 ^ k ∧ (putD E (r + δ) ((m + dg E r * 2 ^ k) % 10)).nd = D.nd ∧ (putD E (r + δ) ((m + dg E r * 2 ^ k) % 10)).dp = D.dp ∧ ls1 k δ r (putD E (r + δ) ((m + dg E r * 2 ^ k) % 10)) ((m + dg E r * 2 ^ k) / 10) = ls1 k δ D.nd D 0) :=
      fun wz h1 h2 => ⟨h1, hmr.trans h2 fun _ _ h => h, by omega, hdp', by omega, by rw [hpn.1, hEn], by rw [hpn.2, hEd], hls'⟩
    clear hdp' hls' hls hpn
    generalize hx : m + dg E r * 2 ^ k = x at *
    have hx10 : x ≤ 11529215046068469760 := by omega
    have hput : putD E (r + δ) (x % 10) = if r + δ < 800 then { E with ds := E.ds.set (r + δ) (UInt8.ofNat (x % 10 + 48)) } else if x % 10 = 0 then E else { E with tr := true } := rfl
    have hu8 := u8ofNat (r := x % 10) (by omega)
    by_cases hlt : r + δ < 800
    · rw [if_pos hlt] at hput
      refine C_seq ?_
      refine C_seq ?_
      refine C_region ?_
      refine L (S (P_move rfl) ?_)
      refine L (S (P_ge rfl rfl (decide_eq_true (by omega))) ?_)
      refine L_nil ?_
      refine then_n ?_
      refine C_true rfl ?_
      refine C_skip ?_
      refine then_n ?_
      refine C_seq ?_
      refine C_block ?_
      refine C_seq ?_
      refine C_region ?_
      refine L (S (P_move rfl) ?_)
      refine L (S (P_move rfl) ?_)
      refine L (S (P_move rfl) ?_)
      refine L (S (P_nilCheck rfl) ?_)
      refine L (S (P_fieldAddr fo_217_0 rfl) ?_)
      refine L (S (P_indexAddrA Tryz.underlying215 (csz_of ti_5) rfl rfl (j := r) (by omega) (by omega) (q := r) (by omega)) ?_)
      refine L (S_load sc_5 rfl (hE.c_dig hc) ?_)
      refine L (S (P_conv Tryz.underlying5 Tryz.underlying74 rfl (wU64 ⟨rfl, by omega, by omega⟩)) ?_)
      refine L (S (P_sub rfl rfl (wU64 (c := ((dg E r : Nat) : Int)) (by omega))) ?_)
      refine L (S (P_move rfl) ?_)
      refine L (S (P_shl rfl rfl (by omega) (shlU64 (s := k) rfl (by omega) rfl (by omega))) ?_)
      refine L (S (P_add rfl rfl (wU64 (c := ((x : Nat) : Int)) (by omega))) ?_)
      refine L (S (P_assign rfl) ?_)
      refine L_nil ?_
      refine then_n ?_
      refine C_seq ?_
      refine C_region ?_
      refine L (S (P_move rfl) ?_)
      refine L (S (P_quo rfl rfl (by decide) (quoU (b := 10) (by omega) rfl)) ?_)
      refine L (S (P_assign rfl) ?_)
      refine L_nil ?_
      refine then_n ?_
      refine C_seq ?_
      refine C_region ?_
      refine L (S (P_move rfl) ?_)
      refine L (S (P_move rfl) ?_)
      refine L (S (P_mul rfl rfl (wU64 (c := ((10 * (x / 10) : Nat) : Int)) (by omega))) ?_)
      refine L (S (P_sub rfl rfl (wU64 (c := ((x % 10 : Nat) : Int)) (by omega))) ?_)
      refine L (S (P_assign rfl) ?_)
      refine L_nil ?_
      refine then_n ?_
      refine C_seq ?_
      refine C_region ?_
      refine L (S (P_move rfl) ?_)
      refine L (S (P_sub rfl rfl (wI64 (c := ((r + δ : Nat) : Int)) (by omega))) ?_)
      refine L (S (P_assign rfl) ?_)
      refine L_nil ?_
      refine then_n ?_
      refine C_seq ?_
      refine C_seq ?_
      refine C_region ?_
      refine L (S (P_move rfl) ?_)
      refine L (S (P_lt rfl rfl (decide_eq_true (by omega))) ?_)
      refine L_nil ?_
      refine then_n ?_
      refine C_true rfl ?_
      refine C_region ?_
      refine L (S (P_move rfl) ?_)
      refine L (S (P_move rfl) ?_)
      refine L (S (P_move rfl) ?_)
      refine L (S (P_add rfl rfl (wU64 (c := ((x % 10 + 48 : Nat) : Int)) (by omega))) ?_)
      refine L (S (P_conv Tryz.underlying74 Tryz.underlying5 rfl (wU8 (c := ((x % 10 + 48 : Nat) : Int)) (by omega))) ?_)
      refine L (S (P_nilCheck rfl) ?_)
      refine L (S (P_fieldAddr fo_217_0 rfl) ?_)
      refine L (S (P_indexAddrA Tryz.underlying215 (csz_of ti_5) rfl rfl (j := r + δ) rfl (by omega) (q := r + δ) (by omega)) ?_)
      refine L (S_stDg ti_5 rfl rfl (c := UInt8.ofNat (x % 10 + 48)) (by rw [hu8]) hE (by omega) ?_)
      rintro w3 hD3 hm3
      refine L_nil ?_
      refine then_n ?_
      refine C_region ?_
      refine L (S (P_move rfl) ?_)
      refine L (S (P_assign rfl) ?_)
      refine L_nil ?_
      refine blk_n ?_
      refine then_n ?_
      refine C_region ?_
      refine L (S (P_move rfl) ?_)
      refine L (S (P_sub rfl rfl (wI64 (c := (r : Int) - 1) (by omega))) ?_)
      refine L (S (P_assign rfl) ?_)
      refine L_nil ?_
      refine then_n ?_
      exact ⟨rfl, (r, putD E (r + δ) (x % 10), x / 10), (.cons rfl (.cons rfl (.cons rfl (.cons rfl (.cons rfl (.cons rfl (.nil _))))))), hdone _ (by rw [hput]; exact hD3) hm3, by dsimp only; omega⟩
    · rw [if_neg hlt] at hput
      by_cases h0 : x % 10 = 0
      · rw [if_pos h0] at hput
        refine C_seq ?_
        refine C_seq ?_
        refine C_region ?_
        refine L (S (P_move rfl) ?_)
        refine L (S (P_ge rfl rfl (decide_eq_true (by omega))) ?_)
        refine L_nil ?_
        refine then_n ?_
        refine C_true rfl ?_
        refine C_skip ?_
        refine then_n ?_
        refine C_seq ?_
        refine C_block ?_
        refine C_seq ?_
        refine C_region ?_
        refine L (S (P_move rfl) ?_)
        refine L (S (P_move rfl) ?_)
        refine L (S (P_move rfl) ?_)
        refine L (S (P_nilCheck rfl) ?_)
        refine L (S (P_fieldAddr fo_217_0 rfl) ?_)
        refine L (S (P_indexAddrA Tryz.underlying215 (csz_of ti_5) rfl rfl (j := r) (by omega) (by omega) (q := r) (by omega)) ?_)
        refine L (S_load sc_5 rfl (hE.c_dig hc) ?_)
        refine L (S (P_conv Tryz.underlying5 Tryz.underlying74 rfl (wU64 ⟨rfl, by omega, by omega⟩)) ?_)
        refine L (S (P_sub rfl rfl (wU64 (c := ((dg E r : Nat) : Int)) (by omega))) ?_)
        refine L (S (P_move rfl) ?_)
        refine L (S (P_shl rfl rfl (by omega) (shlU64 (s := k) rfl (by omega) rfl (by omega))) ?_)
        refine L (S (P_add rfl rfl (wU64 (c := ((x : Nat) : Int)) (by omega))) ?_)
        refine L (S (P_assign rfl) ?_)
        refine L_nil ?_
        refine then_n ?_
        refine C_seq ?_
        refine C_region ?_
        refine L (S (P_move rfl) ?_)
        refine L (S (P_quo rfl rfl (by decide) (quoU (b := 10) (by omega) rfl)) ?_)
        refine L (S (P_assign rfl) ?_)
        refine L_nil ?_
        refine then_n ?_
        refine C_seq ?_
        refine C_region ?_
        refine L (S (P_move rfl) ?_)
        refine L (S (P_move rfl) ?_)
        refine L (S (P_mul rfl rfl (wU64 (c := ((10 * (x / 10) : Nat) : Int)) (by omega))) ?_)
        refine L (S (P_sub rfl rfl (wU64 (c := ((x % 10 : Nat) : Int)) (by omega))) ?_)
        refine L (S (P_assign rfl) ?_)
        refine L_nil ?_
        refine then_n ?_
        refine C_seq ?_
        refine C_region ?_
        refine L (S (P_move rfl) ?_)
        refine L (S (P_sub rfl rfl (wI64 (c := ((r + δ : Nat) : Int)) (by omega))) ?_)
        refine L (S (P_assign rfl) ?_)
        refine L_nil ?_
        refine then_n ?_
        refine C_seq ?_
        refine C_seq ?_
        refine C_region ?_
        refine L (S (P_move rfl) ?_)
        refine L (S (P_lt rfl rfl (decide_eq_false (by omega))) ?_)
        refine L_nil ?_
        refine then_n ?_
        refine C_false rfl ?_
        refine C_seq ?_
        refine C_region ?_
        refine L (S (P_move rfl) ?_)
        refine L (S (P_ne rfl rfl (decide_eq_false (by omega))) ?_)
        refine L_nil ?_
        refine then_n ?_
        refine C_false rfl ?_
        refine C_skip ?_
        refine then_n ?_
        refine C_region ?_
        refine L (S (P_move rfl) ?_)
        refine L (S (P_assign rfl) ?_)
        refine L_nil ?_
        refine blk_n ?_
        refine then_n ?_
        refine C_region ?_
        refine L (S (P_move rfl) ?_)
        refine L (S (P_sub rfl rfl (wI64 (c := (r : Int) - 1) (by omega))) ?_)
        refine L (S (P_assign rfl) ?_)
        refine L_nil ?_
        refine then_n ?_
        exact ⟨rfl, (r, putD E (r + δ) (x % 10), x / 10), (.cons rfl (.cons rfl (.cons rfl (.cons rfl (.cons rfl (.cons rfl (.nil _))))))), hdone _ (by rw [hput]; exact hE) (Mv.refl _), by dsimp only; omega⟩
      · rw [if_neg h0] at hput
        refine C_seq ?_
        refine C_seq ?_
        refine C_region ?_
        refine L (S (P_move rfl) ?_)
        refine L (S (P_ge rfl rfl (decide_eq_true (by omega))) ?_)
        refine L_nil ?_
        refine then_n ?_
        refine C_true rfl ?_
        refine C_skip ?_
        refine then_n ?_
        refine C_seq ?_
        refine C_block ?_
        refine C_seq ?_
        refine C_region ?_
        refine L (S (P_move rfl) ?_)
        refine L (S (P_move rfl) ?_)
        refine L (S (P_move rfl) ?_)
        refine L (S (P_nilCheck rfl) ?_)
        refine L (S (P_fieldAddr fo_217_0 rfl) ?_)
        refine L (S (P_indexAddrA Tryz.underlying215 (csz_of ti_5) rfl rfl (j := r) (by omega) (by omega) (q := r) (by omega)) ?_)
        refine L (S_load sc_5 rfl (hE.c_dig hc) ?_)
        refine L (S (P_conv Tryz.underlying5 Tryz.underlying74 rfl (wU64 ⟨rfl, by omega, by omega⟩)) ?_)
        refine L (S (P_sub rfl rfl (wU64 (c := ((dg E r : Nat) : Int)) (by omega))) ?_)
        refine L (S (P_move rfl) ?_)
        refine L (S (P_shl rfl rfl (by omega) (shlU64 (s := k) rfl (by omega) rfl (by omega))) ?_)
        refine L (S (P_add rfl rfl (wU64 (c := ((x : Nat) : Int)) (by omega))) ?_)
        refine L (S (P_assign rfl) ?_)
        refine L_nil ?_
        refine then_n ?_
        refine C_seq ?_
        refine C_region ?_
        refine L (S (P_move rfl) ?_)
        refine L (S (P_quo rfl rfl (by decide) (quoU (b := 10) (by omega) rfl)) ?_)
        refine L (S (P_assign rfl) ?_)
        refine L_nil ?_
        refine then_n ?_
        refine C_seq ?_
        refine C_region ?_
        refine L (S (P_move rfl) ?_)
        refine L (S (P_move rfl) ?_)
        refine L (S (P_mul rfl rfl (wU64 (c := ((10 * (x / 10) : Nat) : Int)) (by omega))) ?_)
        refine L (S (P_sub rfl rfl (wU64 (c := ((x % 10 : Nat) : Int)) (by omega))) ?_)
        refine L (S (P_assign rfl) ?_)
        refine L_nil ?_
        refine then_n ?_
        refine C_seq ?_
        refine C_region ?_
        refine L (S (P_move rfl) ?_)
        refine L (S (P_sub rfl rfl (wI64 (c := ((r + δ : Nat) : Int)) (by omega))) ?_)
        refine L (S (P_assign rfl) ?_)
        refine L_nil ?_
        refine then_n ?_
        refine C_seq ?_
        refine C_seq ?_
        refine C_region ?_
        refine L (S (P_move rfl) ?_)
        refine L (S (P_lt rfl rfl (decide_eq_false (by omega))) ?_)
        refine L_nil ?_
        refine then_n ?_
        refine C_false rfl ?_
        refine C_seq ?_
        refine C_region ?_
        refine L (S (P_move rfl) ?_)
        refine L (S (P_ne rfl rfl (decide_eq_true (by omega))) ?_)
        refine L_nil ?_
        refine then_n ?_
        refine C_true rfl ?_
        refine C_region ?_
        refine L (S (P_move rfl) ?_)
        refine L (S (P_nilCheck rfl) ?_)
        refine L (S (P_fieldAddr fo_217_4 rfl) ?_)
        refine L (S_stTr ti_4 rfl rfl hE ?_)
        rintro w3 hD3 hm3
        refine L_nil ?_
        refine then_n ?_
        refine C_region ?_
        refine L (S (P_move rfl) ?_)
        refine L (S (P_assign rfl) ?_)
        refine L_nil ?_
        refine blk_n ?_
        refine then_n ?_
        refine C_region ?_
        refine L (S (P_move rfl) ?_)
        refine L (S (P_sub rfl rfl (wI64 (c := (r : Int) - 1) (by omega))) ?_)
        refine L (S (P_assign rfl) ?_)
        refine L_nil ?_
        refine then_n ?_
        exact ⟨rfl, (r, putD E (r + δ) (x % 10), x / 10), (.cons rfl (.cons rfl (.cons rfl (.cons rfl (.cons rfl (.cons rfl (.nil _))))))), hdone _ (by rw [hput]; exact hD3) hm3, by dsimp only; omega⟩
  | zero =>
    have hls' : (E, m) = ls1 k δ D.nd D 0 := hls
    rw [← hls'] at hcar ⊢
    dsimp only at hcar ⊢
    refine C_seq ?_
    refine C_seq ?_
    refine C_region ?_
    refine L (S (P_move rfl) ?_)
    refine L (S (P_ge rfl rfl (decide_eq_false (by omega))) ?_)
    refine L_nil ?_
    refine then_n ?_
    refine C_false rfl ?_
    refine C_exit ?_
    refine then_x ?_
    refine then_x ?_
    refine blk_x ?_
    refine then_n ?_
    refine C_seq ?_
    refine C_block ?_
    refine C_loop (γ := Nat × Dc × Nat) (fun q => [(0, .pointer (some ⟨b, 0, none⟩)), (4, .int .i64 (δ : Int)), (6, .int .i64 (q.1 : Int)), (7, .int .u64 (q.2.2 : Int))]) (fun q wr => DB wr b q.2.1 ∧ Mv (At b) w wr ∧ q.1 ≤ δ ∧ q.2.2 < 10 ^ q.1 ∧ q.2.2 ≤ 2 ^ k ∧ q.2.1.nd = D.nd ∧ q.2.1.dp = D.dp ∧ ls2 q.1 q.2.1 q.2.2 = ls2 δ E m) (fun q => q.1) (δ, E, m) (.cons rfl (.cons rfl (.cons (by rw [Nat.zero_add]; rfl) (.cons rfl (.nil _))))) ⟨hE, hmr, Nat.le_refl _, hcar, hmb, hEn, hEd, rfl⟩ ?_
    rintro ⟨r, F, x⟩ wq ⟨hF, hmq, hrd, hx10, hxb, hFn, hFd, hl2⟩
    dsimp only at hF hrd hx10 hxb hFn hFd hl2
    dsimp only
    by_cases hx0 : x = 0
    · have hend : ls2 δ E m = F := by
        rw [← hl2, hx0]
        cases r <;> rfl
      rw [hend]
      have hcn2 : wq.cell? ⟨b, 800, none⟩ = some (.int .i64 (D.nd : Int)) := by rw [← hFn]; exact hF.c_nd
      by_cases h8 : D.nd + δ < 800
      · rw [Nat.min_eq_left (by omega)]
        have hcd3 : ∀ wz, DB wz b { F with nd := D.nd + δ } → wz.cell? ⟨b, 800, none⟩ = some (.int .i64 ((D.nd + δ : Nat) : Int)) ∧ wz.cell? ⟨b, 801, none⟩ = some (.int .i64 D.dp) := fun wz h => ⟨h.c_nd, by rw [← hFd]; exact h.c_dp⟩
        refine C_seq ?_
        refine C_seq ?_
        refine C_region ?_
        refine L (S (P_move rfl) ?_)
        refine L (S (P_gt rfl rfl (decide_eq_false (by omega))) ?_)
        refine L_nil ?_
        refine then_n ?_
        refine C_false rfl ?_
        refine C_exit ?_
        refine then_x ?_
        refine then_x ?_
        refine blk_x ?_
        refine then_n ?_
        refine C_seq ?_
        refine C_region ?_
        refine L (S (P_move rfl) ?_)
        refine L (S (P_nilCheck rfl) ?_)
        refine L (S (P_fieldAddr fo_217_1 rfl) ?_)
        refine L (S_load sc_3 rfl hcn2 ?_)
        refine L (S (P_move rfl) ?_)
        refine L (S (P_add rfl rfl (wI64 (c := ((D.nd + δ : Nat) : Int)) (by omega))) ?_)
        refine L (S (P_nilCheck rfl) ?_)
        refine L (S (P_fieldAddr fo_217_1 rfl) ?_)
        refine L (S_stNd ti_3 rfl rfl rfl hF ?_)
        rintro w3 hD3 hm3
        refine L_nil ?_
        refine then_n ?_
        refine C_seq ?_
        refine C_seq ?_
        refine C_region ?_
        refine L (S (P_move rfl) ?_)
        refine L (S (P_nilCheck rfl) ?_)
        refine L (S (P_fieldAddr fo_217_1 rfl) ?_)
        refine L (S_load sc_3 rfl (hcd3 _ hD3).1 ?_)
        refine L (S (P_ge rfl rfl (decide_eq_false (by omega))) ?_)
        refine L_nil ?_
        refine then_n ?_
        refine C_false rfl ?_
        refine C_skip ?_
        refine then_n ?_
        refine C_seq ?_
        refine C_region ?_
        refine L (S (P_move rfl) ?_)
        refine L (S (P_nilCheck rfl) ?_)
        refine L (S (P_fieldAddr fo_217_2 rfl) ?_)
        refine L (S_load sc_3 rfl (hcd3 _ hD3).2 ?_)
        refine L (S (P_move rfl) ?_)
        refine L (S (P_add rfl rfl (wI64 (c := D.dp + (δ : Int)) (by omega))) ?_)
        refine L (S (P_nilCheck rfl) ?_)
        refine L (S (P_fieldAddr fo_217_2 rfl) ?_)
        refine L (S_stDp ti_3 rfl rfl hD3 ?_)
        rintro w4 hD4 hm4
        refine L_nil ?_
        refine then_n ?_
        refine C_region ?_
        refine L (S (P_move rfl) ?_)
        refine L (S_call cb_197 rfl (trim_ret hD4 (by dsimp only; omega)) ?_)
        rintro _ w5 ⟨hD5, hm5⟩
        refine L_nil ?_
        refine F_end0 Tryz.results189 ?_
        exact ⟨hD5, ((hmq.trans hm3 fun _ _ h => h).trans hm4 fun _ _ h => h).trans hm5 fun _ _ h => h⟩
      · rw [Nat.min_eq_right (by omega)]
        have hcd3 : ∀ wz, DB wz b { F with nd := D.nd + δ } → wz.cell? ⟨b, 800, none⟩ = some (.int .i64 ((D.nd + δ : Nat) : Int)) := fun wz h => h.c_nd
        have hcd4 : ∀ wz, DB wz b { F with nd := 800 } → wz.cell? ⟨b, 801, none⟩ = some (.int .i64 D.dp) := fun wz h => by rw [← hFd]; exact h.c_dp
        refine C_seq ?_
        refine C_seq ?_
        refine C_region ?_
        refine L (S (P_move rfl) ?_)
        refine L (S (P_gt rfl rfl (decide_eq_false (by omega))) ?_)
        refine L_nil ?_
        refine then_n ?_
        refine C_false rfl ?_
        refine C_exit ?_
        refine then_x ?_
        refine then_x ?_
        refine blk_x ?_
        refine then_n ?_
        refine C_seq ?_
        refine C_region ?_
        refine L (S (P_move rfl) ?_)
        refine L (S (P_nilCheck rfl) ?_)
        refine L (S (P_fieldAddr fo_217_1 rfl) ?_)
        refine L (S_load sc_3 rfl hcn2 ?_)
        refine L (S (P_move rfl) ?_)
        refine L (S (P_add rfl rfl (wI64 (c := ((D.nd + δ : Nat) : Int)) (by omega))) ?_)
        refine L (S (P_nilCheck rfl) ?_)
        refine L (S (P_fieldAddr fo_217_1 rfl) ?_)
        refine L (S_stNd ti_3 rfl rfl rfl hF ?_)
        rintro w3 hD3 hm3
        refine L_nil ?_
        refine then_n ?_
        refine C_seq ?_
        refine C_seq ?_
        refine C_region ?_
        refine L (S (P_move rfl) ?_)
        refine L (S (P_nilCheck rfl) ?_)
        refine L (S (P_fieldAddr fo_217_1 rfl) ?_)
        refine L (S_load sc_3 rfl (hcd3 _ hD3) ?_)
        refine L (S (P_ge rfl rfl (decide_eq_true (by omega))) ?_)
        refine L_nil ?_
        refine then_n ?_
        refine C_true rfl ?_
        refine C_region ?_
        refine L (S (P_move rfl) ?_)
        refine L (S (P_nilCheck rfl) ?_)
        refine L (S (P_fieldAddr fo_217_1 rfl) ?_)
        refine L (S_stNd (m := 800) ti_3 rfl rfl rfl hD3 ?_)
        rintro w3' hD3' hm3'
        refine L_nil ?_
        refine then_n ?_
        refine C_seq ?_
        refine C_region ?_
        refine L (S (P_move rfl) ?_)
        refine L (S (P_nilCheck rfl) ?_)
        refine L (S (P_fieldAddr fo_217_2 rfl) ?_)
        refine L (S_load sc_3 rfl (hcd4 _ hD3') ?_)
        refine L (S (P_move rfl) ?_)
        refine L (S (P_add rfl rfl (wI64 (c := D.dp + (δ : Int)) (by omega))) ?_)
        refine L (S (P_nilCheck rfl) ?_)
        refine L (S (P_fieldAddr fo_217_2 rfl) ?_)
        refine L (S_stDp ti_3 rfl rfl hD3' ?_)
        rintro w4 hD4 hm4
        refine L_nil ?_
        refine then_n ?_
        refine C_region ?_
        refine L (S (P_move rfl) ?_)
        refine L (S_call cb_197 rfl (trim_ret hD4 (by dsimp only; omega)) ?_)
        rintro _ w5 ⟨hD5, hm5⟩
        refine L_nil ?_
        refine F_end0 Tryz.results189 ?_
        exact ⟨hD5, (((hmq.trans hm3 fun _ _ h => h).trans hm3' fun _ _ h => h).trans hm4 fun _ _ h => h).trans hm5 fun _ _ h => h⟩
    · cases r with
      | zero => exact absurd (show x = 0 by simpa using hx10) hx0
      | succ r =>
        have hl2' : ls2 r (putD F r (x % 10)) (x / 10) = ls2 δ E m := by
          rw [← hl2]
          show _ = if x = 0 then F else _
          rw [if_neg hx0]
        have hpn := putD_nd F r (x % 10)
        have hx10' : x / 10 < 10 ^ r := by rw [Nat.div_lt_iff_lt_mul (by omega)]; rw [Nat.pow_succ] at hx10; exact hx10
        have hdone : ∀ wz, DB wz b (putD F r (x % 10)) → Mv (At b) wq wz → (DB wz b (putD F r (x % 10)) ∧ Mv (At b) w wz ∧ r ≤ δ ∧ x / 10 < 10 ^ r ∧ x / 10 ≤ 2 ^ k ∧ (putD F r (x % 10)).nd = D.nd ∧ (putD F r (x % 10)).dp = D.dp ∧ ls2 r (putD F r (x % 10)) (x / 10) = ls2 δ E m) :=
          fun wz h1 h2 => ⟨h1, hmq.trans h2 fun _ _ h => h, by omega, hx10', by omega, by rw [hpn.1, hFn], by rw [hpn.2, hFd], hl2'⟩
        have hput : putD F r (x % 10) = if r < 800 then { F with ds := F.ds.set r (UInt8.ofNat (x % 10 + 48)) } else if x % 10 = 0 then F else { F with tr := true } := rfl
        rw [if_pos (by omega)] at hput
        have hu8 := u8ofNat (r := x % 10) (by omega)
        refine C_seq ?_
        refine C_seq ?_
        refine C_region ?_
        refine L (S (P_move rfl) ?_)
        refine L (S (P_gt rfl rfl (decide_eq_true (by omega))) ?_)
        refine L_nil ?_
        refine then_n ?_
        refine C_true rfl ?_
        refine C_skip ?_
        refine then_n ?_
        refine C_block ?_
        refine C_seq ?_
        refine C_region ?_
        refine L (S (P_move rfl) ?_)
        refine L (S (P_quo rfl rfl (by decide) (quoU (b := 10) (by omega) rfl)) ?_)
        refine L (S (P_assign rfl) ?_)
        refine L_nil ?_
        refine then_n ?_
        refine C_seq ?_
        refine C_region ?_
        refine L (S (P_move rfl) ?_)
        refine L (S (P_move rfl) ?_)
        refine L (S (P_mul rfl rfl (wU64 (c := ((10 * (x / 10) : Nat) : Int)) (by omega))) ?_)
        refine L (S (P_sub rfl rfl (wU64 (c := ((x % 10 : Nat) : Int)) (by omega))) ?_)
        refine L (S (P_assign rfl) ?_)
        refine L_nil ?_
        refine then_n ?_
        refine C_seq ?_
        refine C_region ?_
        refine L (S (P_move rfl) ?_)
        refine L (S (P_sub rfl rfl (wI64 (c := ((r : Nat) : Int)) (by omega))) ?_)
        refine L (S (P_assign rfl) ?_)
        refine L_nil ?_
        refine then_n ?_
        refine C_seq ?_
        refine C_seq ?_
        refine C_region ?_
        refine L (S (P_move rfl) ?_)
        refine L (S (P_lt rfl rfl (decide_eq_true (by omega))) ?_)
        refine L_nil ?_
        refine then_n ?_
        refine C_true rfl ?_
        refine C_region ?_
        refine L (S (P_move rfl) ?_)
        refine L (S (P_move rfl) ?_)
        refine L (S (P_move rfl) ?_)
        refine L (S (P_add rfl rfl (wU64 (c := ((x % 10 + 48 : Nat) : Int)) (by omega))) ?_)
        refine L (S (P_conv Tryz.underlying74 Tryz.underlying5 rfl (wU8 (c := ((x % 10 + 48 : Nat) : Int)) (by omega))) ?_)
        refine L (S (P_nilCheck rfl) ?_)
        refine L (S (P_fieldAddr fo_217_0 rfl) ?_)
        refine L (S (P_indexAddrA Tryz.underlying215 (csz_of ti_5) rfl rfl (j := r) rfl (by omega) (q := r) (by omega)) ?_)
        refine L (S_stDg ti_5 rfl rfl (c := UInt8.ofNat (x % 10 + 48)) (by rw [hu8]) hF (by omega) ?_)
        rintro w3 hD3 hm3
        refine L_nil ?_
        refine then_n ?_
        refine C_region ?_
        refine L (S (P_move rfl) ?_)
        refine L (S (P_assign rfl) ?_)
        refine L_nil ?_
        refine blk_n ?_
        refine then_n ?_
        exact ⟨rfl, (r, putD F r (x % 10), x / 10), (.cons rfl (.cons rfl (.cons rfl (.cons rfl (.nil _))))), hdone _ (by rw [hput]; exact hD3) hm3, by dsimp only; omega⟩
end
end Go.Proofs.YtnoioimphcmeiaaGreatDoor
