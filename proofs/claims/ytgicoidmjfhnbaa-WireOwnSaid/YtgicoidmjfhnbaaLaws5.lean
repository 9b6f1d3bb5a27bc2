import Derived.Test.YtgicoidmjfhnbaaLaws4
namespace Go.Proofs.Ytgicoidmjfhnbaa
open Go.RowKit

theorem own_form {w : World} {base : Nat} {e : TypeId} {size : Nat} {v : Value} {n : Nat} {xs : List Value} (h : w.ownsRow base e size v n xs) (hn : 0 < n) :
    ∃ g cap, v = .slice (some ⟨g, 0, none⟩) n cap ∧ base ≤ g ∧ g < w.heap.size := by
  obtain ⟨h1, h2⟩ := h
  rcases h2 with ⟨rfl, rfl⟩ | ⟨g, cap, cur, rfl, hg, hh, r⟩
  · omega
  · refine ⟨g, cap, rfl, hg, ?_⟩
    rcases Nat.lt_or_ge g w.heap.size with hl | hl
    · exact hl
    · rw [Array.getElem?_eq_none hl] at hh; cases hh

section
variable {P : Program} {n : Nat} {N : Nxt} {Q : Post} {f : Fr} {ds : List Deferred} {w w' : World}
variable {d : Nat} {x y : Operand} {t yt ty : TypeId} {pos : String} {af : Array Edge} {g : Option (Nat × Bool)}
/-- A store into an element, one cell, of a slice of one's own. -/
theorem S_storeOwn {b i len cap base : Nat} {e : TypeId} {xs : List Value} {v : Value} {z : Option Value} {by_ : Nat} (hs : tinfo P t = some (z, 1, by_)) (hx : ev f x = some (.pointer (some ⟨b, i, none⟩))) (hv : ev f y = some v) (h1 : v.oneCell' = true) (ho : w.ownsRow base e 1 (.slice (some ⟨b, 0, none⟩) len cap) len xs) (hi : i < len)
    (h : ∀ w', w'.ownsRow base e 1 (.slice (some ⟨b, 0, none⟩) len cap) len (xs.set i v) → Mv (At b) w w' → N f ds w') : opF P n ⟨none, .store t x y, ty, pos, af, g⟩ N Q f ds w :=
  S_skip (w' := w.setCell ⟨b, i, none⟩ v) (fun a ha => by
    obtain ⟨inf, hinf, hz⟩ := Option.map_eq_some_iff.1 hs
    simp only [Prod.mk.injEq] at hz
    have hxl : xs.length = len := by simpa using ho.1
    have hcell : w.cell? ⟨b, i, none⟩ = some xs[i] := by
      rw [ho.cellAt i (by simpa using hi)]; simp
    have hvc := one_cells h1
    simp [execOp, ha.ev hx, ha.ev hv, Instr.storeAt, Instr.sureAddr, storeVar, hvc, sizeOf, typeInfo, hinf, hz.2.1, storeCells, run_store P w _ v _ h1, Addr.add_lit, hcell, ho.frozenAt i]) (h _ (ho.stored i v).1 (Mv.setCell w ⟨b, i, none⟩ v)) rfl
end

theorem rtext_own {w : World} {lo g : Nat} (l : List UInt8) (hl : l.length ≤ 140737488351232) (h : IsR w lo g (numB l.length ++ l) 0) :
    Ret Try.prog 18 [.pointer (some ⟨g, 0, none⟩), .int .i64 (l.length : Int)] w fun v w' => v = .string (str l) ∧ IsR w' lo g [] 0 ∧ Mv (At g) w w' := by
  have hT : rText (numB l.length ++ l) 0 l.length = (l, [], 0) := by
    have := rText_ok l [] (by omega) l.length (by omega)
    rwa [List.append_nil] at this
  have k := rtext_ret (l.length : Int) (by omega) (by omega) h
  rw [hT] at k
  exact k
theorem rnum_own {w : World} {lo g : Nat} (n : Nat) (hn : n < 18446744073709551616) (l : List UInt8) (h : IsR w lo g (numB n ++ l) 0) :
    Ret Try.prog 14 [.pointer (some ⟨g, 0, none⟩)] w fun v w' => v = .int .u64 n ∧ IsR w' lo g l 0 ∧ Mv (At g) w w' := by
  have k := rnum_ret h
  rw [rNum_numB n hn] at k
  exact k

theorem xorU8 (c : UInt8) (k : Int) : ∃ c' : UInt8, bitsOp .xor .u8 (c.toNat : Int) k = (c'.toNat : Int) := by
  refine ⟨UInt8.ofNat (BitVec.ofInt IntKind.u8.bits (c.toNat : Int) ^^^ BitVec.ofInt IntKind.u8.bits k).toNat, ?_⟩
  simp only [bitsOp]
  have hlt : (BitVec.ofInt IntKind.u8.bits (c.toNat : Int) ^^^ BitVec.ofInt IntKind.u8.bits k).toNat < 256 := (BitVec.ofInt IntKind.u8.bits (c.toNat : Int) ^^^ BitVec.ofInt IntKind.u8.bits k).isLt
  generalize (BitVec.ofInt IntKind.u8.bits (c.toNat : Int) ^^^ BitVec.ofInt IntKind.u8.bits k).toNat = y at *
  rw [UInt8.toNat_ofNat', Nat.mod_eq_of_lt hlt]
  exact wU8 ⟨rfl, by omega, by omega⟩

theorem wireOwn_ret {w : World} (l : List UInt8) (hl : l.length ≤ 140737488351232) (n : Nat) (hn : n < 18446744073709551616) :
    Ret Try.prog 6 [.string (str l), .int .u64 n] w fun v w' => v = .bool true ∧ Mv No w w' := by
  have hsz := str_size l
  refine F_enter Try.func6 Try.ntmps6 rfl rfl ?_
  refine C_seq ?_
  refine C_region ?_
  refine L (S (P_assign rfl) ?_)
  refine L_nil ?_
  refine then_n ?_
  refine C_seq ?_
  refine C_seq ?_
  by_cases hbig : 1000 < l.length
  · refine C_region ?_
    refine L (S_call cb_10 rfl (lives_ret) ?_)
    rintro _ w1 ⟨rfl, hm1⟩
    refine L (S (P_not rfl rfl) ?_)
    refine L (S (P_move rfl) ?_)
    refine L_yes (j := 2) (dj := 12) (b := false) (S (P_move rfl) ?_) rfl
    refine L_yes (j := 2) (dj := 12) (b := false) (S (P_lenT Try.underlying9 rfl) ?_) rfl
    refine L_yes (j := 2) (dj := 12) (b := false) (S (P_gt rfl rfl (decide_eq_true (by omega))) ?_) rfl
    refine L (S (P_pickF rfl rfl) ?_)
    refine L_nil ?_
    refine then_n ?_
    refine C_true rfl ?_
    refine C_seq ?_
    refine C_region ?_
    refine L (S_call cb_10 rfl (lives_ret) ?_)
    rintro _ w2 ⟨rfl, hm2⟩
    refine L (S (P_assign rfl) ?_)
    refine L_nil ?_
    refine then_n ?_
    refine C_ret ?_
    refine then_r ?_
    refine F_ret1 Try.results6 rfl ?_
    exact ⟨rfl, hm1.no hm2⟩
  · have hnl := numB_len l.length (by omega)
    have hnn := numB_len n hn
    have hnp := numB_pos n
    refine C_region ?_
    refine L (S_call cb_10 rfl (lives_ret) ?_)
    rintro _ w1 ⟨rfl, hm1⟩
    refine L (S (P_not rfl rfl) ?_)
    refine L (S (P_move rfl) ?_)
    refine L_yes (j := 2) (dj := 12) (b := false) (S (P_move rfl) ?_) rfl
    refine L_yes (j := 2) (dj := 12) (b := false) (S (P_lenT Try.underlying9 rfl) ?_) rfl
    refine L_yes (j := 2) (dj := 12) (b := false) (S (P_gt rfl rfl (decide_eq_false (by omega))) ?_) rfl
    refine L (S (P_pickF rfl rfl) ?_)
    refine L_nil ?_
    refine then_n ?_
    refine C_false rfl ?_
    refine C_skip ?_
    refine then_n ?_
    refine C_seq ?_
    refine C_region ?_
    refine L (S (P_move rfl) ?_)
    refine L (S_call cb_11 rfl (num_sl n hn _) ?_)
    rintro _ w2 ⟨A2, cap2, rfl, hs2, ho2, hm2⟩
    refine L (S (P_move rfl) ?_)
    refine L (S_call cb_17 rfl (text_sl l (by omega) _) ?_)
    rintro _ w3 ⟨A3, cap3, rfl, hs3, ho3, hm3⟩
    have ho2' := own_no ho2 hm3
    refine L (S_append Try.underlying23 ti_5 rfl (by decide) rfl ho2' rfl hs3 (by simp) (bv_one _) (Nat.le_trans hm2.size hm3.size) (by unfold maxLen; simp; omega) (by simp; omega) ?_)
    rintro v4 w4 ho4 hm4 hf4
    refine L (S (P_assign rfl) ?_)
    refine L_nil ?_
    refine then_n ?_
    refine C_seq ?_
    obtain ⟨C, hC⟩ : ∃ C, C = numB n ++ (numB l.length ++ l) := ⟨_, rfl⟩
    have hCl : C.length = (numB n).length + (numB l.length ++ l).length := by rw [hC, List.length_append]
    have hCs : (numB l.length ++ l).length = (numB l.length).length + l.length := List.length_append
    have hm13 : Mv No w1 w3 := hm2.no hm3
    have hm14 : Mv No w1 w4 := hm13.own hm4 ho2' (Nat.le_refl _)
    rw [← List.map_append, ← hC, ← hCl] at ho4
    obtain ⟨g4, cap4, rfl, hg4, hg4'⟩ := own_form ho4 (by omega)
    have hs4 : SlR w4 (some ⟨g4, 0, none⟩) (C.map bv) := by
      obtain ⟨A, cap, he, hs, _⟩ := own_reads ho4
      cases he
      exact hs
    refine C_region ?_
    refine L (S (P_move rfl) ?_)
    refine L (S_call cb_12 rfl (read_ret C hs4 (by omega)) ?_)
    rintro _ w5 ⟨g, rfl, hR5, hm5⟩
    refine L (S (P_assign rfl) ?_)
    refine L_nil ?_
    refine then_n ?_
    refine C_seq ?_
    refine C_seq ?_
    have hm05 : Mv No w w5 := (hm1.no hm14).no hm5
    have ho5 := own_no ho4 hm5
    have hgw : w.heap.size ≤ g := Nat.le_trans (hm1.no hm14).size hR5.lo
    have hg4w : w.heap.size ≤ g4 := Nat.le_trans hm1.size hg4
    refine C_region ?_
    refine L (S (P_move rfl) ?_)
    refine L (S (P_lenS Try.underlying23 rfl) ?_)
    refine L (S (P_move rfl) ?_)
    refine L_nil ?_
    refine then_n ?_
    refine C_block ?_
    refine C_loop (γ := Nat × List UInt8) (fun q => [(0, .string (str l)), (1, .int .u64 (n : Int)), (5, .slice (some ⟨g4, 0, none⟩) C.length cap4), (6, .pointer (some ⟨g, 0, none⟩)), (26, .int .i64 (C.length : Int)), (27, .int .i64 (q.1 : Int))]) (fun q wr => q.1 ≤ C.length ∧ q.2.length = C.length ∧ wr.ownsRow w1.heap.size 5 1 (.slice (some ⟨g4, 0, none⟩) C.length cap4) C.length (q.2.map bv) ∧ IsR wr w4.heap.size g C 0 ∧ Mv No w wr) (fun q => C.length - q.1) (0, C) (.cons rfl (.cons rfl (.cons rfl (.cons rfl (.cons rfl (.cons rfl (.nil _))))))) ⟨by omega, rfl, ho5, hR5, hm05⟩ ?_
    rintro ⟨i, cs⟩ wr ⟨hi, hcl, hor, hRr, hmr⟩
    dsimp only at hi hcl hor hRr hmr
    dsimp only
    refine C_seq ?_
    refine C_region ?_
    refine L (S (P_lt rfl rfl rfl) ?_)
    refine L_nil ?_
    refine then_n ?_
    refine C_seq ?_
    refine C_ifp rfl rfl (fun hlt => ?_) (fun hge => ?_)
    · have hil : i < C.length := by omega
      obtain ⟨c, hc⟩ : ∃ c, cs[i]? = some c := ⟨cs[i], List.getElem?_eq_getElem (by omega)⟩
      obtain ⟨c', hx⟩ := xorU8 c 255
      have hcell : wr.cell? ⟨g4, 0 + i * 1, none⟩ = some (.int .u8 (c.toNat : Int)) := by
        rw [Nat.zero_add, Nat.mul_one, hor.cellAt i (by omega)]
        simp [hc, bv]
      refine C_skip ?_
      refine then_n ?_
      refine C_seq ?_
      refine C_block ?_
      refine C_seq ?_
      refine C_region ?_
      refine L (S (P_move rfl) ?_)
      refine L (S (P_assign rfl) ?_)
      refine L_nil ?_
      refine then_n ?_
      refine C_region ?_
      refine L (S (P_move rfl) ?_)
      refine L (S (P_move rfl) ?_)
      refine L (S (P_indexAddr Try.underlying23 (csz_of ti_5) rfl rfl (j := i) rfl hil rfl) ?_)
      refine L (S_load sc_5 rfl hcell ?_)
      refine L (S (P_xor rfl rfl (c := (c'.toNat : Int)) hx) ?_)
      refine L (S (P_indexAddr Try.underlying23 (csz_of ti_5) rfl rfl (j := i) rfl hil (p := i) (by omega)) ?_)
      refine L (S_storeOwn ti_5 rfl rfl rfl hor hil ?_)
      rintro w6 ho6 hm6
      refine L_nil ?_
      refine blk_n ?_
      refine then_n ?_
      refine C_region ?_
      refine L (S (P_add rfl rfl (wI64 (c := ((i + 1 : Nat) : Int)) (by omega))) ?_)
      refine L (S (P_move rfl) ?_)
      refine L_nil ?_
      refine then_n ?_
      refine ⟨rfl, (i + 1, cs.set i c'), .cons rfl (.cons rfl (.cons rfl (.cons rfl (.cons rfl (.cons rfl (.nil _)))))), ⟨by dsimp only; omega, by simpa using hcl, ?_, hRr.mv hm6 ?_, hmr.new hm6 hg4w⟩, by dsimp only; omega⟩
      · dsimp only
        rw [List.map_set]
        exact ho6
      · intro k hk _ he
        have : k = g4 := he
        omega
    · clear hor ho5 hs4 ho4
      refine C_exit ?_
      refine then_x ?_
      refine then_x ?_
      refine blk_x ?_
      refine then_n ?_
      refine C_seq ?_
      refine C_region ?_
      refine L (S (P_move rfl) ?_)
      refine L (S_call cb_11 rfl (num_sl n hn _) ?_)
      rintro _ w6 ⟨A6, cap6, rfl, hs6, ho6, hm6⟩
      refine L (S (P_assign rfl) ?_)
      refine L_nil ?_
      refine then_n ?_
      refine C_seq ?_
      refine C_seq ?_
      refine C_region ?_
      refine L (S (P_move rfl) ?_)
      refine L (S (P_lenS Try.underlying23 rfl) ?_)
      refine L (S (P_move rfl) ?_)
      refine L_nil ?_
      refine then_n ?_
      refine C_block ?_
      obtain ⟨g6, cap6', he6, hg6, hg6'⟩ := own_form ho6 (by omega)
      cases he6
      have hR6 := hRr.no hm6
      have hm06 := hmr.no hm6
      have hgg : g < wr.heap.size := hRr.lt
      refine C_loop (γ := Nat × List UInt8) (fun q => [(0, .string (str l)), (1, .int .u64 (n : Int)), (6, .pointer (some ⟨g, 0, none⟩)), (8, .slice (some ⟨g6, 0, none⟩) (numB n).length cap6), (40, .int .i64 ((numB n).length : Int)), (41, .int .i64 (q.1 : Int))]) (fun q wr' => q.1 ≤ (numB n).length ∧ q.2.length = (numB n).length ∧ wr'.ownsRow wr.heap.size 5 1 (.slice (some ⟨g6, 0, none⟩) (numB n).length cap6) (numB n).length (q.2.map bv) ∧ Mv (At g6) w6 wr') (fun q => (numB n).length - q.1) (0, numB n) (.cons rfl (.cons rfl (.cons rfl (.cons rfl (.cons rfl (.cons rfl (.nil _))))))) ⟨by omega, rfl, ho6, Mv.refl _⟩ ?_
      rintro ⟨i, cs⟩ wq ⟨hi, hcl, hoq, hmq⟩
      dsimp only at hi hcl hoq hmq
      dsimp only
      refine C_seq ?_
      refine C_region ?_
      refine L (S (P_lt rfl rfl rfl) ?_)
      refine L_nil ?_
      refine then_n ?_
      refine C_seq ?_
      refine C_ifp rfl rfl (fun hlt => ?_) (fun hge => ?_)
      · have hil : i < (numB n).length := by omega
        refine C_skip ?_
        refine then_n ?_
        refine C_seq ?_
        refine C_block ?_
        refine C_seq ?_
        refine C_region ?_
        refine L (S (P_move rfl) ?_)
        refine L (S (P_assign rfl) ?_)
        refine L_nil ?_
        refine then_n ?_
        refine C_region ?_
        refine L (S (P_move rfl) ?_)
        refine L (S (P_move rfl) ?_)
        refine L (S (P_indexAddr Try.underlying23 (csz_of ti_5) rfl rfl (j := i) rfl hil (p := i) (by omega)) ?_)
        refine L (S_storeOwn ti_5 rfl rfl rfl hoq hil ?_)
        rintro w7 ho7 hm7
        refine L_nil ?_
        refine blk_n ?_
        refine then_n ?_
        refine C_region ?_
        refine L (S (P_add rfl rfl (wI64 (c := ((i + 1 : Nat) : Int)) (by omega))) ?_)
        refine L (S (P_move rfl) ?_)
        refine L_nil ?_
        refine then_n ?_
        refine ⟨rfl, (i + 1, cs.set i 0), .cons rfl (.cons rfl (.cons rfl (.cons rfl (.cons rfl (.cons rfl (.nil _)))))), ⟨by dsimp only; omega, by simpa using hcl, ?_, hmq.trans hm7 fun _ _ h => h⟩, by dsimp only; omega⟩
        dsimp only
        rw [List.map_set]
        exact ho7
      · have hmR : Mv No wr wq := hm6.new hmq hg6
        have hRq : IsR wq w4.heap.size g (numB n ++ (numB l.length ++ l)) 0 := hC ▸ hRr.no hmR
        have hmw : Mv No w wq := hmr.no hmR
        clear hoq
        refine C_exit ?_
        refine then_x ?_
        refine then_x ?_
        refine blk_x ?_
        refine then_n ?_
        refine C_seq ?_
        refine C_draw 21 mixed rfl ?_
        refine A_pure (i := 0) rfl (P_move rfl) ?_ (by decide +kernel) (by decide +kernel) (by decide +kernel) (fun _ _ _ _ h => h) rfl rfl rfl
        refine A_pure (i := 2) rfl (P_move rfl) ?_ (by decide +kernel) (by decide +kernel) (by decide +kernel) (fun _ _ _ _ h => h) rfl rfl rfl
        refine A_one (i := 1) (A_op rfl (S_call cb_14 rfl (rnum_own n hn _ hRq.drew) ?_)) (by decide +kernel)
        rintro _ w7 ⟨rfl, hR7, hm7⟩
        refine A_pure (i := 3) rfl (P_eq rfl rfl (decide_eq_true rfl)) ?_ (by decide +kernel) (by decide +kernel) (by decide +kernel) (fun _ _ _ _ h => h) rfl rfl rfl
        refine A_pure (i := 4) rfl (P_move rfl) ?_ (by decide +kernel) (by decide +kernel) (by decide +kernel) (fun _ _ _ _ h => h) rfl rfl rfl
        refine A_pureY (i := 5) (j := 4) (dj := 52) (b := true) rfl (P_move rfl) rfl ?_ (by decide +kernel) (by decide +kernel) (by decide +kernel) (fun _ _ _ _ h => h) rfl rfl rfl rfl
        refine A_pureY (i := 6) (j := 4) (dj := 52) (b := true) rfl (P_move rfl) rfl ?_ (by decide +kernel) (by decide +kernel) (by decide +kernel) (fun _ _ _ _ h => h) rfl rfl rfl rfl
        refine A_pureY (i := 7) (j := 4) (dj := 52) (b := true) rfl (P_lenT Try.underlying9 rfl) rfl ?_ (by decide +kernel) (by decide +kernel) (by decide +kernel) (fun _ _ _ _ h => h) rfl rfl rfl rfl
        refine A_pureY (i := 9) (j := 4) (dj := 52) (b := true) rfl (P_move rfl) rfl ?_ (by decide +kernel) (by decide +kernel) (by decide +kernel) (fun _ _ _ _ h => h) rfl rfl rfl rfl
        refine A_one (i := 8) (A_yes (j := 4) (dj := 52) (b := true) rfl rfl (S_call cb_18 rfl (rtext_own l hl hR7) ?_)) (by decide +kernel)
        rintro _ w8 ⟨rfl, hR8, hm8⟩
        refine A_pureY (i := 10) (j := 4) (dj := 52) (b := true) rfl (P_eqT rfl rfl (decide_eq_true rfl)) rfl ?_ (by decide +kernel) (by decide +kernel) (by decide +kernel) (fun _ _ _ _ h => h) rfl rfl rfl rfl
        refine A_pure (i := 11) rfl (P_pickT rfl rfl) ?_ (by decide +kernel) (by decide +kernel) (by decide +kernel) (fun _ _ _ _ h => h) rfl rfl rfl
        refine A_pure (i := 12) rfl (P_move rfl) ?_ (by decide +kernel) (by decide +kernel) (by decide +kernel) (fun _ _ _ _ h => h) rfl rfl rfl
        refine A_pureY (i := 13) (j := 12) (dj := 60) (b := true) rfl (P_move rfl) rfl ?_ (by decide +kernel) (by decide +kernel) (by decide +kernel) (fun _ _ _ _ h => h) rfl rfl rfl rfl
        refine A_pureY (i := 16) (j := 12) (dj := 60) (b := true) rfl (P_move rfl) rfl ?_ (by decide +kernel) (by decide +kernel) (by decide +kernel) (fun _ _ _ _ h => h) rfl rfl rfl rfl
        refine A_one (i := 14) (A_yes (j := 12) (dj := 60) (b := true) rfl rfl (S_call cb_11 rfl (num_sl n hn _) ?_)) (by decide +kernel)
        rintro _ w9 ⟨A9, cap9, rfl, hs9, ho9, hm9⟩
        refine A_two (i := 15) (i2 := 17) (A_yes (j := 12) (dj := 60) (b := true) rfl rfl (S_bytesStr Try.underlying23 Try.underlying5 Try.underlying9 rfl (l := numB n) (by first | exact hs9 | exact hs9.no hm10) rfl ?_)) (A_yes (j := 12) (dj := 60) (b := true) rfl rfl (S_call cb_13 rfl (refnum_ret n hn _) ?_)) (by decide +kernel)
        · refine A_one (i := 17) (A_yes (j := 12) (dj := 60) (b := true) rfl rfl (S_call cb_13 rfl (refnum_ret n hn _) ?_)) (by decide +kernel)
          rintro _ w10 ⟨rfl, hm10⟩
          refine A_pureY (i := 18) (j := 12) (dj := 60) (b := true) rfl (P_eqT rfl rfl (decide_eq_true rfl)) rfl ?_ (by decide +kernel) (by decide +kernel) (by decide +kernel) (fun _ _ _ _ h => h) rfl rfl rfl rfl
          refine A_pure (i := 19) rfl (P_pickT rfl rfl) ?_ (by decide +kernel) (by decide +kernel) (by decide +kernel) (fun _ _ _ _ h => h) rfl rfl rfl
          refine A_pure (i := 20) rfl (P_assign rfl) ?_ (by decide +kernel) (by decide +kernel) (by decide +kernel) (fun _ _ _ _ h => h) rfl rfl rfl
          refine A_done (by decide +kernel) ?_
          refine then_n ?_
          refine C_ret ?_
          refine F_ret1 Try.results6 rfl ?_
          exact ⟨rfl, (((hmw.drew.new hm7 hgw).new hm8 hgw).no hm9).no hm10⟩
        · rintro _ w10 ⟨rfl, hm10⟩
          refine A_one (i := 15) (A_yes (j := 12) (dj := 60) (b := true) rfl rfl (S_bytesStr Try.underlying23 Try.underlying5 Try.underlying9 rfl (l := numB n) (by first | exact hs9 | exact hs9.no hm10) rfl ?_)) (by decide +kernel)
          refine A_pureY (i := 18) (j := 12) (dj := 60) (b := true) rfl (P_eqT rfl rfl (decide_eq_true rfl)) rfl ?_ (by decide +kernel) (by decide +kernel) (by decide +kernel) (fun _ _ _ _ h => h) rfl rfl rfl rfl
          refine A_pure (i := 19) rfl (P_pickT rfl rfl) ?_ (by decide +kernel) (by decide +kernel) (by decide +kernel) (fun _ _ _ _ h => h) rfl rfl rfl
          refine A_pure (i := 20) rfl (P_assign rfl) ?_ (by decide +kernel) (by decide +kernel) (by decide +kernel) (fun _ _ _ _ h => h) rfl rfl rfl
          refine A_done (by decide +kernel) ?_
          refine then_n ?_
          refine C_ret ?_
          refine F_ret1 Try.results6 rfl ?_
          exact ⟨rfl, (((hmw.drew.new hm7 hgw).new hm8 hgw).no hm9).no hm10⟩
end Go.Proofs.Ytgicoidmjfhnbaa
