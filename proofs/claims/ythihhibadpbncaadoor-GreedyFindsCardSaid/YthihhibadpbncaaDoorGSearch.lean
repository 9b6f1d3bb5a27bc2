import Derived.Test.YthihhibadpbncaaDoorGSeed
namespace Go.Proofs.YthihhibadpbncaaDoor
open Go.RowKit

def pbC (A : Option Addr) (n cap : Nat) (bud : Int) (fv : Value) : List Value := [.slice A n cap, .int .i64 bud, fv]
theorem pbC_one {A : Option Addr} {n cap : Nat} {bud : Int} {fv : Value} (h : fv.oneCell' = true) : ∀ v ∈ pbC A n cap bud fv, v.oneCell' = true := by
  intro v hv
  simp only [pbC, List.mem_cons, List.not_mem_nil, or_false] at hv
  rcases hv with rfl | rfl | rfl
  · rfl
  · rfl
  · exact h
theorem pairF : PairT Tryd.prog 48 .u32 .i64 := ⟨_, _, Tryd.underlying48, by kernel_rfl, by kernel_rfl, by decide, by decide, rfl, rfl, by kernel_rfl, by kernel_rfl, by kernel_rfl, by kernel_rfl⟩

/-- What cannot be searched in. -/
theorem search_bad {w : World} {A : Option Addr} {cap : Nat} {fv : Value} (n : Nat) (bud m k : Int) (hn : n < 9223372036854775808) (hbad : 16 < n ∨ m < 0 ∨ 3 < m ∨ k < 0 ∨ bud < 0) :
    Ret Tryd.prog 9 [.slice A n cap, .int .i64 bud, .int .i64 m, .int .i64 k, fv] w fun v w' => v = .tuple #[.int .u32 0, .int .i64 1] ∧ w = w' := by
  refine F_enter Tryd.func9 Tryd.ntmps9 rfl rfl ?_
  refine C_seq ?_
  refine C_region ?_
  refine L (S (P_assign rfl) ?_)
  refine L (S (P_assign rfl) ?_)
  refine L_nil ?_
  refine then_n ?_
  refine C_seq ?_
  refine C_seq ?_
  by_cases h1 : 16 < n
  · refine C_region ?_
    refine L (S (P_move rfl) ?_)
    refine L (S (P_lenS Tryd.underlying22 rfl) ?_)
    refine L (S (P_gt rfl rfl (decide_eq_true (by omega))) ?_)
    refine L (S (P_move rfl) ?_)
    refine L_no (j := 3) (dj := 21) (b := false) (b' := true) (d := 22) rfl ?_
    refine L_no (j := 3) (dj := 21) (b := false) (b' := true) (d := 23) rfl ?_
    refine L (S (P_pickT rfl rfl) ?_)
    refine L (S (P_move rfl) ?_)
    refine L_no (j := 7) (dj := 25) (b := false) (b' := true) (d := 26) rfl ?_
    refine L_no (j := 7) (dj := 25) (b := false) (b' := true) (d := 27) rfl ?_
    refine L (S (P_pickT rfl rfl) ?_)
    refine L (S (P_move rfl) ?_)
    refine L_no (j := 11) (dj := 29) (b := false) (b' := true) (d := 30) rfl ?_
    refine L_no (j := 11) (dj := 29) (b := false) (b' := true) (d := 31) rfl ?_
    refine L (S (P_pickT rfl rfl) ?_)
    refine L (S (P_move rfl) ?_)
    refine L_no (j := 15) (dj := 33) (b := false) (b' := true) (d := 34) rfl ?_
    refine L_no (j := 15) (dj := 33) (b := false) (b' := true) (d := 35) rfl ?_
    refine L (S (P_pickT rfl rfl) ?_)
    refine L (S (P_move rfl) ?_)
    refine L_no (j := 19) (dj := 37) (b := false) (b' := true) (d := 38) rfl ?_
    refine L_no (j := 19) (dj := 37) (b := false) (b' := true) (d := 39) rfl ?_
    refine L (S (P_pickT rfl rfl) ?_)
    refine L_nil ?_
    refine then_n ?_
    refine C_true rfl ?_
    refine C_seq ?_
    refine C_region ?_
    refine L (S (P_assign rfl) ?_)
    refine L (S (P_assign rfl) ?_)
    refine L_nil ?_
    refine then_n ?_
    refine C_ret ?_
    refine then_r ?_
    refine F_ret2 Tryd.results9 rfl rfl ?_
    exact ⟨rfl, rfl⟩
  · by_cases h2 : m < 0
    · refine C_region ?_
      refine L (S (P_move rfl) ?_)
      refine L (S (P_lenS Tryd.underlying22 rfl) ?_)
      refine L (S (P_gt rfl rfl (decide_eq_false (by omega))) ?_)
      refine L (S (P_move rfl) ?_)
      refine L_yes (j := 3) (dj := 21) (b := false) (S (P_move rfl) ?_) rfl
      refine L_yes (j := 3) (dj := 21) (b := false) (S (P_lt rfl rfl (decide_eq_true (by omega))) ?_) rfl
      refine L (S (P_pickF rfl rfl) ?_)
      refine L (S (P_move rfl) ?_)
      refine L_no (j := 7) (dj := 25) (b := false) (b' := true) (d := 26) rfl ?_
      refine L_no (j := 7) (dj := 25) (b := false) (b' := true) (d := 27) rfl ?_
      refine L (S (P_pickT rfl rfl) ?_)
      refine L (S (P_move rfl) ?_)
      refine L_no (j := 11) (dj := 29) (b := false) (b' := true) (d := 30) rfl ?_
      refine L_no (j := 11) (dj := 29) (b := false) (b' := true) (d := 31) rfl ?_
      refine L (S (P_pickT rfl rfl) ?_)
      refine L (S (P_move rfl) ?_)
      refine L_no (j := 15) (dj := 33) (b := false) (b' := true) (d := 34) rfl ?_
      refine L_no (j := 15) (dj := 33) (b := false) (b' := true) (d := 35) rfl ?_
      refine L (S (P_pickT rfl rfl) ?_)
      refine L (S (P_move rfl) ?_)
      refine L_no (j := 19) (dj := 37) (b := false) (b' := true) (d := 38) rfl ?_
      refine L_no (j := 19) (dj := 37) (b := false) (b' := true) (d := 39) rfl ?_
      refine L (S (P_pickT rfl rfl) ?_)
      refine L_nil ?_
      refine then_n ?_
      refine C_true rfl ?_
      refine C_seq ?_
      refine C_region ?_
      refine L (S (P_assign rfl) ?_)
      refine L (S (P_assign rfl) ?_)
      refine L_nil ?_
      refine then_n ?_
      refine C_ret ?_
      refine then_r ?_
      refine F_ret2 Tryd.results9 rfl rfl ?_
      exact ⟨rfl, rfl⟩
    · by_cases h3 : 3 < m
      · refine C_region ?_
        refine L (S (P_move rfl) ?_)
        refine L (S (P_lenS Tryd.underlying22 rfl) ?_)
        refine L (S (P_gt rfl rfl (decide_eq_false (by omega))) ?_)
        refine L (S (P_move rfl) ?_)
        refine L_yes (j := 3) (dj := 21) (b := false) (S (P_move rfl) ?_) rfl
        refine L_yes (j := 3) (dj := 21) (b := false) (S (P_lt rfl rfl (decide_eq_false (by omega))) ?_) rfl
        refine L (S (P_pickF rfl rfl) ?_)
        refine L (S (P_move rfl) ?_)
        refine L_yes (j := 7) (dj := 25) (b := false) (S (P_move rfl) ?_) rfl
        refine L_yes (j := 7) (dj := 25) (b := false) (S (P_gt rfl rfl (decide_eq_true (by omega))) ?_) rfl
        refine L (S (P_pickF rfl rfl) ?_)
        refine L (S (P_move rfl) ?_)
        refine L_no (j := 11) (dj := 29) (b := false) (b' := true) (d := 30) rfl ?_
        refine L_no (j := 11) (dj := 29) (b := false) (b' := true) (d := 31) rfl ?_
        refine L (S (P_pickT rfl rfl) ?_)
        refine L (S (P_move rfl) ?_)
        refine L_no (j := 15) (dj := 33) (b := false) (b' := true) (d := 34) rfl ?_
        refine L_no (j := 15) (dj := 33) (b := false) (b' := true) (d := 35) rfl ?_
        refine L (S (P_pickT rfl rfl) ?_)
        refine L (S (P_move rfl) ?_)
        refine L_no (j := 19) (dj := 37) (b := false) (b' := true) (d := 38) rfl ?_
        refine L_no (j := 19) (dj := 37) (b := false) (b' := true) (d := 39) rfl ?_
        refine L (S (P_pickT rfl rfl) ?_)
        refine L_nil ?_
        refine then_n ?_
        refine C_true rfl ?_
        refine C_seq ?_
        refine C_region ?_
        refine L (S (P_assign rfl) ?_)
        refine L (S (P_assign rfl) ?_)
        refine L_nil ?_
        refine then_n ?_
        refine C_ret ?_
        refine then_r ?_
        refine F_ret2 Tryd.results9 rfl rfl ?_
        exact ⟨rfl, rfl⟩
      · by_cases h4 : k < 0
        · refine C_region ?_
          refine L (S (P_move rfl) ?_)
          refine L (S (P_lenS Tryd.underlying22 rfl) ?_)
          refine L (S (P_gt rfl rfl (decide_eq_false (by omega))) ?_)
          refine L (S (P_move rfl) ?_)
          refine L_yes (j := 3) (dj := 21) (b := false) (S (P_move rfl) ?_) rfl
          refine L_yes (j := 3) (dj := 21) (b := false) (S (P_lt rfl rfl (decide_eq_false (by omega))) ?_) rfl
          refine L (S (P_pickF rfl rfl) ?_)
          refine L (S (P_move rfl) ?_)
          refine L_yes (j := 7) (dj := 25) (b := false) (S (P_move rfl) ?_) rfl
          refine L_yes (j := 7) (dj := 25) (b := false) (S (P_gt rfl rfl (decide_eq_false (by omega))) ?_) rfl
          refine L (S (P_pickF rfl rfl) ?_)
          refine L (S (P_move rfl) ?_)
          refine L_yes (j := 11) (dj := 29) (b := false) (S (P_move rfl) ?_) rfl
          refine L_yes (j := 11) (dj := 29) (b := false) (S (P_lt rfl rfl (decide_eq_true (by omega))) ?_) rfl
          refine L (S (P_pickF rfl rfl) ?_)
          refine L (S (P_move rfl) ?_)
          refine L_no (j := 15) (dj := 33) (b := false) (b' := true) (d := 34) rfl ?_
          refine L_no (j := 15) (dj := 33) (b := false) (b' := true) (d := 35) rfl ?_
          refine L (S (P_pickT rfl rfl) ?_)
          refine L (S (P_move rfl) ?_)
          refine L_no (j := 19) (dj := 37) (b := false) (b' := true) (d := 38) rfl ?_
          refine L_no (j := 19) (dj := 37) (b := false) (b' := true) (d := 39) rfl ?_
          refine L (S (P_pickT rfl rfl) ?_)
          refine L_nil ?_
          refine then_n ?_
          refine C_true rfl ?_
          refine C_seq ?_
          refine C_region ?_
          refine L (S (P_assign rfl) ?_)
          refine L (S (P_assign rfl) ?_)
          refine L_nil ?_
          refine then_n ?_
          refine C_ret ?_
          refine then_r ?_
          refine F_ret2 Tryd.results9 rfl rfl ?_
          exact ⟨rfl, rfl⟩
        · have h5 : bud < 0 := by omega
          refine C_region ?_
          refine L (S (P_move rfl) ?_)
          refine L (S (P_lenS Tryd.underlying22 rfl) ?_)
          refine L (S (P_gt rfl rfl (decide_eq_false (by omega))) ?_)
          refine L (S (P_move rfl) ?_)
          refine L_yes (j := 3) (dj := 21) (b := false) (S (P_move rfl) ?_) rfl
          refine L_yes (j := 3) (dj := 21) (b := false) (S (P_lt rfl rfl (decide_eq_false (by omega))) ?_) rfl
          refine L (S (P_pickF rfl rfl) ?_)
          refine L (S (P_move rfl) ?_)
          refine L_yes (j := 7) (dj := 25) (b := false) (S (P_move rfl) ?_) rfl
          refine L_yes (j := 7) (dj := 25) (b := false) (S (P_gt rfl rfl (decide_eq_false (by omega))) ?_) rfl
          refine L (S (P_pickF rfl rfl) ?_)
          refine L (S (P_move rfl) ?_)
          refine L_yes (j := 11) (dj := 29) (b := false) (S (P_move rfl) ?_) rfl
          refine L_yes (j := 11) (dj := 29) (b := false) (S (P_lt rfl rfl (decide_eq_false (by omega))) ?_) rfl
          refine L (S (P_pickF rfl rfl) ?_)
          refine L (S (P_move rfl) ?_)
          refine L_yes (j := 15) (dj := 33) (b := false) (S (P_move rfl) ?_) rfl
          refine L_yes (j := 15) (dj := 33) (b := false) (S (P_lt rfl rfl (decide_eq_true h5)) ?_) rfl
          refine L (S (P_pickF rfl rfl) ?_)
          refine L (S (P_move rfl) ?_)
          refine L_no (j := 19) (dj := 37) (b := false) (b' := true) (d := 38) rfl ?_
          refine L_no (j := 19) (dj := 37) (b := false) (b' := true) (d := 39) rfl ?_
          refine L (S (P_pickT rfl rfl) ?_)
          refine L_nil ?_
          refine then_n ?_
          refine C_true rfl ?_
          refine C_seq ?_
          refine C_region ?_
          refine L (S (P_assign rfl) ?_)
          refine L (S (P_assign rfl) ?_)
          refine L_nil ?_
          refine then_n ?_
          refine C_ret ?_
          refine then_r ?_
          refine F_ret2 Tryd.results9 rfl rfl ?_
          exact ⟨rfl, rfl⟩

theorem search_nil {w : World} {A : Option Addr} {cap : Nat} (n : Nat) (bud m k : Int) (hn : n < 9223372036854775808) :
    Ret Tryd.prog 9 [.slice A n cap, .int .i64 bud, .int .i64 m, .int .i64 k, .nilFunc] w fun v w' => v = .tuple #[.int .u32 0, .int .i64 1] ∧ w = w' := by
  by_cases hbad : 16 < n ∨ m < 0 ∨ 3 < m ∨ k < 0 ∨ bud < 0
  · exact search_bad n bud m k hn hbad
  · refine F_enter Tryd.func9 Tryd.ntmps9 rfl rfl ?_
    refine C_seq ?_
    refine C_region ?_
    refine L (S (P_assign rfl) ?_)
    refine L (S (P_assign rfl) ?_)
    refine L_nil ?_
    refine then_n ?_
    refine C_seq ?_
    refine C_seq ?_
    refine C_region ?_
    refine L (S (P_move rfl) ?_)
    refine L (S (P_lenS Tryd.underlying22 rfl) ?_)
    refine L (S (P_gt rfl rfl (decide_eq_false (by omega))) ?_)
    refine L (S (P_move rfl) ?_)
    refine L_yes (j := 3) (dj := 21) (b := false) (S (P_move rfl) ?_) rfl
    refine L_yes (j := 3) (dj := 21) (b := false) (S (P_lt rfl rfl (decide_eq_false (by omega))) ?_) rfl
    refine L (S (P_pickF rfl rfl) ?_)
    refine L (S (P_move rfl) ?_)
    refine L_yes (j := 7) (dj := 25) (b := false) (S (P_move rfl) ?_) rfl
    refine L_yes (j := 7) (dj := 25) (b := false) (S (P_gt rfl rfl (decide_eq_false (by omega))) ?_) rfl
    refine L (S (P_pickF rfl rfl) ?_)
    refine L (S (P_move rfl) ?_)
    refine L_yes (j := 11) (dj := 29) (b := false) (S (P_move rfl) ?_) rfl
    refine L_yes (j := 11) (dj := 29) (b := false) (S (P_lt rfl rfl (decide_eq_false (by omega))) ?_) rfl
    refine L (S (P_pickF rfl rfl) ?_)
    refine L (S (P_move rfl) ?_)
    refine L_yes (j := 15) (dj := 33) (b := false) (S (P_move rfl) ?_) rfl
    refine L_yes (j := 15) (dj := 33) (b := false) (S (P_lt rfl rfl (decide_eq_false (by omega))) ?_) rfl
    refine L (S (P_pickF rfl rfl) ?_)
    refine L (S (P_move rfl) ?_)
    refine L_yes (j := 19) (dj := 37) (b := false) (S (P_move rfl) ?_) rfl
    refine L_yes (j := 19) (dj := 37) (b := false) (S (P_eqNN Tryd.underlying32 rfl rfl) ?_) rfl
    refine L (S (P_pickF rfl rfl) ?_)
    refine L_nil ?_
    refine then_n ?_
    refine C_true rfl ?_
    refine C_seq ?_
    refine C_region ?_
    refine L (S (P_assign rfl) ?_)
    refine L (S (P_assign rfl) ?_)
    refine L_nil ?_
    refine then_n ?_
    refine C_ret ?_
    refine then_r ?_
    refine F_ret2 Tryd.results9 rfl rfl ?_
    exact ⟨rfl, rfl⟩

set_option maxHeartbeats 1000000 in
theorem search_ret {w : World} {A : Option Addr} {cap : Nat} {fv : Value} {pr : Nat → Int} (sz : List Int) (bud m k : Int) (hs : SlR w A (sz.map iv)) (hr : Inr sz) (hgood : ¬ (16 < sz.length ∨ m < 0 ∨ 3 < m ∨ k < 0 ∨ bud < 0)) (hb9 : bud < 9223372036854775808) (hp : PrF Tryd.prog w fv pr) (hT : Tab w) :
    Ret Tryd.prog 9 [.slice A sz.length cap, .int .i64 bud, .int .i64 m, .int .i64 k, fv] w fun v w' => v = .tuple #[.int .u32 (searchF sz bud pr m k : Int), .int .i64 0] ∧ Mv No w w' := by
  have hl : sz.length ≤ 16 := by omega
  have hb0 : 0 ≤ bud := by omega
  have hpow : 2 ^ sz.length ≤ 65536 := by
    have := Nat.pow_le_pow_right (n := 2) (by omega) hl
    simpa using this
  have hpow1 : 0 < 2 ^ sz.length := Nat.two_pow_pos _
  obtain ⟨kk, fs, cs, hfv, _⟩ := id hp
  subst hfv
  have h1f : (Value.func (.func kk) fs.toArray cs.toArray).oneCell' = true := rfl
  refine F_enter Tryd.func9 Tryd.ntmps9 rfl rfl ?_
  refine C_seq ?_
  refine C_region ?_
  refine L (S (P_assign rfl) ?_)
  refine L (S (P_assign rfl) ?_)
  refine L_nil ?_
  refine then_n ?_
  refine C_seq ?_
  refine C_seq ?_
  refine C_region ?_
  refine L (S (P_move rfl) ?_)
  refine L (S (P_lenS Tryd.underlying22 rfl) ?_)
  refine L (S (P_gt rfl rfl (decide_eq_false (by omega))) ?_)
  refine L (S (P_move rfl) ?_)
  refine L_yes (j := 3) (dj := 21) (b := false) (S (P_move rfl) ?_) rfl
  refine L_yes (j := 3) (dj := 21) (b := false) (S (P_lt rfl rfl (decide_eq_false (by omega))) ?_) rfl
  refine L (S (P_pickF rfl rfl) ?_)
  refine L (S (P_move rfl) ?_)
  refine L_yes (j := 7) (dj := 25) (b := false) (S (P_move rfl) ?_) rfl
  refine L_yes (j := 7) (dj := 25) (b := false) (S (P_gt rfl rfl (decide_eq_false (by omega))) ?_) rfl
  refine L (S (P_pickF rfl rfl) ?_)
  refine L (S (P_move rfl) ?_)
  refine L_yes (j := 11) (dj := 29) (b := false) (S (P_move rfl) ?_) rfl
  refine L_yes (j := 11) (dj := 29) (b := false) (S (P_lt rfl rfl (decide_eq_false (by omega))) ?_) rfl
  refine L (S (P_pickF rfl rfl) ?_)
  refine L (S (P_move rfl) ?_)
  refine L_yes (j := 15) (dj := 33) (b := false) (S (P_move rfl) ?_) rfl
  refine L_yes (j := 15) (dj := 33) (b := false) (S (P_lt rfl rfl (decide_eq_false (by omega))) ?_) rfl
  refine L (S (P_pickF rfl rfl) ?_)
  refine L (S (P_move rfl) ?_)
  refine L_yes (j := 19) (dj := 37) (b := false) (S (P_move rfl) ?_) rfl
  refine L_yes (j := 19) (dj := 37) (b := false) (S (P_eqNilF Tryd.underlying32 rfl rfl) ?_) rfl
  refine L (S (P_pickF rfl rfl) ?_)
  refine L_nil ?_
  refine then_n ?_
  refine C_false rfl ?_
  refine C_skip ?_
  refine then_n ?_
  refine C_seq ?_
  refine C_region ?_
  refine L (S (P_move rfl) ?_)
  refine L (S (P_move rfl) ?_)
  refine L (S (P_move rfl) ?_)
  refine L (S (P_buildC (ix := [0, 1, 2]) (l := [.tmp 41, .tmp 42, .tmp 43]) bi_46_0_1_2 rfl (by simp [Value.oneCell']) rfl) ?_)
  refine L (S_alloc (zs := [(.slice none 0 0), (.int .i64 0), .nilFunc]) ti_46 rfl ?_)
  rintro b12 w1 hb12 hm1 hn1
  refine L (S_storeS ti_46 rfl rfl (pbC_one (A := A) (n := sz.length) (cap := cap) (bud := bud) h1f) rfl hb12 (by exact Nat.le_refl 3) ?_)
  rintro w2 hb12' hm2
  refine L_nil ?_
  refine then_n ?_
  refine C_seq ?_
  have h12 : Blk w2 b12 (pbC A sz.length cap bud (.func (.func kk) fs.toArray cs.toArray)) 46 := hb12'
  have hm02 : Mv No w w2 := hm1.new hm2 hn1
  generalize hfv : Value.func (.func kk) fs.toArray cs.toArray = fv at *
  have hso : searchF sz bud pr m k = (growF sz bud pr k sz.length (seedF sz bud pr (min m k) (2 ^ sz.length - 1))).1 := rfl
  have hslt := seedF_lt sz bud pr (min m k) (2 ^ sz.length - 1)
  rw [hso]
  have hseed := fun w hs hp hT => seed_ret (w := w) (A := A) (cap := cap) (fv := fv) (pr := pr) sz bud (min m k) hs hr hl hb0 hb9 hp hT
  generalize seedF sz bud pr (min m k) (2 ^ sz.length - 1) = best0 at *
  obtain ⟨s0, p0⟩ := best0
  dsimp only at hslt hseed
  clear hb12 hb12'
  refine C_region ?_
  refine L (S_loadS st_46 rfl h12.row rfl ?_)
  refine L (S (P_move rfl) ?_)
  refine L (S (P_move rfl) ?_)
  refine L (S (P_min rfl rfl (c := min m k) (by split <;> omega)) ?_)
  refine L (S_call cb_18 rfl (hseed _ (hs.no hm02) (hp.mv hm02) (hT.mv hm02)) ?_)
  rintro _ w3 ⟨rfl, hm3⟩
  refine L (S_alloc (zs := [(.int .u32 0), (.int .i64 0)]) ti_48 rfl ?_)
  rintro b13 w4 hb13 hm4 hn4
  refine L (S_storeS ti_48 rfl rfl (fdC_one s0 p0) rfl hb13 (by exact Nat.le_refl 2) ?_)
  rintro w5 hb13' hm5
  refine L_nil ?_
  refine then_n ?_
  refine C_seq ?_
  refine C_block ?_
  have hle3 := hm3.size
  have hle2 := hm2.size
  have hle1 := hm1.size
  have hlt12 := h12.lt
  have hw13 : w.heap.size ≤ b13 := Nat.le_trans (hm02.no hm3).size hn4
  have hne : b12 ≠ b13 := by omega
  have h12' : Blk w5 b12 (pbC A sz.length cap bud fv) 46 := ((h12.no hm3).no hm4).ne hm5 hne
  have h13' : Blk w5 b13 (fdC s0 p0) 48 := hb13'
  have hm05 : Mv No w w5 := ((hm02.no hm3).no hm4).new hm5 hw13
  clear hb13 hb13' h12
  refine C_loop (γ := Nat × Nat × Int) (fun q => [(0, .slice A sz.length cap), (3, .int .i64 k), (4, fv), (12, .pointer (some ⟨b12, 0, none⟩)), (13, .pointer (some ⟨b13, 0, none⟩))]) (fun q wr => growF sz bud pr k q.1 q.2 = growF sz bud pr k sz.length (s0, p0) ∧ sz.length ≤ q.1 + pop q.2.1 ∧ q.2.1 < 2 ^ sz.length ∧ Blk wr b12 (pbC A sz.length cap bud fv) 46 ∧ Blk wr b13 (fdC q.2.1 q.2.2) 48 ∧ Mv No w wr) (fun q => q.1) (sz.length, s0, p0) (.cons rfl (.cons rfl (.cons rfl (.cons rfl (.cons rfl (.nil _)))))) ⟨rfl, by omega, by dsimp only; omega, h12', h13', hm05⟩ ?_
  rintro ⟨fu, bs, bp⟩ wr ⟨hg, hfu, hbs, h12r, h13r, hmr⟩
  dsimp only at hg hfu hbs h12r h13r hmr
  clear h12' h13'
  dsimp only
  refine C_seq ?_
  refine C_seq ?_
  refine C_region ?_
  refine L (S (P_fieldAddr fo_48_0 rfl) ?_)
  refine L (S_load sc_28 rfl (h13r.cell (i := 0) rfl) ?_)
  refine L (S_call cb_19 rfl (ones_ret bs (by omega)) ?_)
  rintro _ w6 ⟨rfl, hm6⟩
  refine L (S (P_move rfl) ?_)
  refine L (S (P_lt rfl rfl rfl) ?_)
  refine L_nil ?_
  refine then_n ?_
  refine C_ifp rfl rfl (fun hlt => ?_) (fun hge => ?_)
  · have h12a := h12r.no hm6
    have h13a := h13r.no hm6
    have hm06 : Mv No w w6 := hmr.no hm6
    refine C_skip ?_
    refine then_n ?_
    refine C_block ?_
    refine C_seq ?_
    refine C_region ?_
    refine L (S_loadS st_48 rfl h13a.row rfl ?_)
    refine L (S_alloc (zs := [(.int .u32 0), (.int .i64 0)]) ti_48 rfl ?_)
    rintro b14 w7 hb14 hm7 hn7
    refine L (S_storeS ti_48 rfl rfl (fdC_one bs bp) rfl hb14 (by exact Nat.le_refl 2) ?_)
    rintro w8 hb14' hm8
    refine L_nil ?_
    refine then_n ?_
    refine C_seq ?_
    refine C_seq ?_
    refine C_region ?_
    refine L (S (P_move rfl) ?_)
    refine L (S (P_lenS Tryd.underlying22 rfl) ?_)
    refine L (S (P_move rfl) ?_)
    refine L_nil ?_
    refine then_n ?_
    refine C_block ?_
    have hw14 : w.heap.size ≤ b14 := Nat.le_trans hm06.size hn7
    have hn12 : b12 ≠ b14 := by have := h12a.lt; omega
    have hn13 : b13 ≠ b14 := by have := h13a.lt; omega
    have h12b : Blk w8 b12 (pbC A sz.length cap bud fv) 46 := (h12a.no hm7).ne hm8 hn12
    have h13b : Blk w8 b13 (fdC bs bp) 48 := (h13a.no hm7).ne hm8 hn13
    have h14b : Blk w8 b14 (fdC bs bp) 48 := hb14'
    have hm08 : Mv No w w8 := (hm06.no hm7).new hm8 hw14
    clear hb14 hb14' h12a h13a h12r h13r
    refine C_loop (γ := Nat) (fun i => [(0, .slice A sz.length cap), (3, .int .i64 k), (4, fv), (12, .pointer (some ⟨b12, 0, none⟩)), (13, .pointer (some ⟨b13, 0, none⟩)), (14, .pointer (some ⟨b14, 0, none⟩)), (57, .int .i64 (sz.length : Int)), (58, .int .i64 (i : Int))]) (fun i wq => i ≤ sz.length ∧ Blk wq b12 (pbC A sz.length cap bud fv) 46 ∧ Blk wq b13 (fdC bs bp) 48 ∧ Blk wq b14 (fdC (addF sz bud pr (bs, bp) i).1 (addF sz bud pr (bs, bp) i).2) 48 ∧ Mv No w wq) (fun i => sz.length - i) 0 (.cons rfl (.cons rfl (.cons rfl (.cons rfl (.cons rfl (.cons rfl (.cons rfl (.cons rfl (.nil _))))))))) ⟨by omega, h12b, h13b, h14b, hm08⟩ ?_
    rintro i wq ⟨hi, h12q, h13q, h14q, hmq⟩
    clear h12b h13b h14b
    refine C_seq ?_
    refine C_region ?_
    refine L (S (P_lt rfl rfl rfl) ?_)
    refine L_nil ?_
    refine then_n ?_
    refine C_seq ?_
    refine C_ifp rfl rfl (fun hlt2 => ?_) (fun hge2 => ?_)
    · have hil : i < sz.length := by omega
      have hae : addF sz bud pr (bs, bp) (i + 1) = addStep sz bud pr (bs, bp) (addF sz bud pr (bs, bp) i) i := rfl
      generalize addF sz bud pr (bs, bp) i = nx at *
      obtain ⟨ns, np⟩ := nx
      dsimp only at h14q
      simp only [addStep] at hae
      have hol : bs ||| 2 ^ i < 2 ^ sz.length := or_bit_lt hbs hil
      have hpi : 2 ^ i < 4294967296 := by
        have : 2 ^ i < 2 ^ sz.length := Nat.pow_lt_pow_right (by omega) hil
        omega
      have h12d := h12q.no (Mv.refl wq).drew
      have h13d := h13q.no (Mv.refl wq).drew
      have h14d := h14q.no (Mv.refl wq).drew
      have hmd : Mv No w wq.drew := hmq.drew
      refine C_skip ?_
      refine then_n ?_
      refine C_seq ?_
      refine C_block ?_
      refine C_seq ?_
      refine C_region ?_
      refine L (S (P_move rfl) ?_)
      refine L (S (P_assign rfl) ?_)
      refine L_nil ?_
      refine then_n ?_
      refine C_seq ?_
      refine C_draw 6 mixed rfl ?_
      refine A_pure (i := 0) rfl (P_fieldAddr fo_48_0 rfl) ?_ (by decide +kernel) (by decide +kernel) (by decide +kernel) (fun _ _ _ _ h => h) rfl rfl rfl
      refine A_pure (i := 2) rfl (P_move rfl) ?_ (by decide +kernel) (by decide +kernel) (by decide +kernel) (fun _ _ _ _ h => h) rfl rfl rfl
      refine A_pure (i := 3) rfl (P_shl rfl rfl (by omega) (shlU32 (s := i) rfl (by omega) rfl)) ?_ (by decide +kernel) (by decide +kernel) (by decide +kernel) (fun _ _ _ _ h => h) rfl rfl rfl
      refine A_one (i := 1) (A_op rfl (S_load sc_28 rfl (h13d.cell (i := 0) rfl) ?_)) (by decide +kernel)
      refine A_pure (i := 4) rfl (P_or rfl rfl (orU32 (by omega) hpi rfl)) ?_ (by decide +kernel) (by decide +kernel) (by decide +kernel) (fun _ _ _ _ h => h) rfl rfl rfl
      refine A_pure (i := 5) rfl (P_assign rfl) ?_ (by decide +kernel) (by decide +kernel) (by decide +kernel) (fun _ _ _ _ h => h) rfl rfl rfl
      refine A_done (by decide +kernel) ?_
      refine then_n ?_
      refine C_seq ?_
      refine C_seq ?_
      by_cases hsame : bs ||| 2 ^ i = bs
      · rw [if_pos hsame] at hae
        refine C_region ?_
        refine L (S (P_move rfl) ?_)
        refine L (S (P_fieldAddr fo_48_0 rfl) ?_)
        refine L (S_load sc_28 rfl (h13d.cell (i := 0) rfl) ?_)
        refine L (S (P_eq rfl rfl (decide_eq_true (by omega))) ?_)
        refine L (S (P_move rfl) ?_)
        refine L_no (j := 4) (dj := 70) (b := false) (b' := true) (d := 71) rfl ?_
        refine L_no (j := 4) (dj := 70) (b := false) (b' := true) (d := 72) rfl ?_
        refine L_no (j := 4) (dj := 70) (b := false) (b' := true) (d := 73) rfl ?_
        refine L_no (j := 4) (dj := 70) (b := false) (b' := true) (d := 74) rfl ?_
        refine L (S (P_pickT rfl rfl) ?_)
        refine L_nil ?_
        refine then_n ?_
        refine C_true rfl ?_
        refine C_exit ?_
        refine then_x ?_
        refine blk_x ?_
        refine then_n ?_
        refine C_region ?_
        refine L (S (P_add rfl rfl (wI64 (c := ((i + 1 : Nat) : Int)) (by omega))) ?_)
        refine L (S (P_move rfl) ?_)
        refine L_nil ?_
        refine then_n ?_
        exact ⟨rfl, i + 1, .cons rfl (.cons rfl (.cons rfl (.cons rfl (.cons rfl (.cons rfl (.cons rfl (.cons rfl (.nil _)))))))), ⟨hil, h12d, h13d, by rw [hae]; exact h14d, hmd⟩, by omega⟩
      · rw [if_neg hsame] at hae
        have kf := fun w hs => fits_ret (w := w) (A := A) (cap := cap) (fv := fv) sz bud (bs ||| 2 ^ i) hs hr hl hb0 hb9 (by omega)
        by_cases hfit : fitsF sz bud (bs ||| 2 ^ i) 0 = false
        · rw [if_pos hfit] at hae
          rw [hfit] at kf
          refine C_region ?_
          refine L (S (P_move rfl) ?_)
          refine L (S (P_fieldAddr fo_48_0 rfl) ?_)
          refine L (S_load sc_28 rfl (h13d.cell (i := 0) rfl) ?_)
          refine L (S (P_eq rfl rfl (decide_eq_false (by omega))) ?_)
          refine L (S (P_move rfl) ?_)
          refine L_yes (j := 4) (dj := 70) (b := false) (S_loadS st_46 rfl h12d.row rfl ?_) rfl
          refine L_yes (j := 4) (dj := 70) (b := false) (S (P_move rfl) ?_) rfl
          refine L_yes (j := 4) (dj := 70) (b := false) (S_call cb_20 rfl (kf _ (hs.no hmd)) ?_) rfl
          rintro _ w9 ⟨rfl, hm9⟩
          refine L_yes (j := 4) (dj := 70) (b := false) (S (P_not rfl rfl) ?_) rfl
          refine L (S (P_pickF rfl rfl) ?_)
          refine L_nil ?_
          refine then_n ?_
          refine C_true rfl ?_
          refine C_exit ?_
          refine then_x ?_
          refine blk_x ?_
          refine then_n ?_
          refine C_region ?_
          refine L (S (P_add rfl rfl (wI64 (c := ((i + 1 : Nat) : Int)) (by omega))) ?_)
          refine L (S (P_move rfl) ?_)
          refine L_nil ?_
          refine then_n ?_
          exact ⟨rfl, i + 1, .cons rfl (.cons rfl (.cons rfl (.cons rfl (.cons rfl (.cons rfl (.cons rfl (.cons rfl (.nil _)))))))), ⟨hil, h12d.no hm9, h13d.no hm9, by rw [hae]; exact h14d.no hm9, hmd.no hm9⟩, by omega⟩
        · rw [if_neg hfit] at hae
          have hfit2 : fitsF sz bud (bs ||| 2 ^ i) 0 = true := by simpa using hfit
          rw [hfit2] at kf
          refine C_region ?_
          refine L (S (P_move rfl) ?_)
          refine L (S (P_fieldAddr fo_48_0 rfl) ?_)
          refine L (S_load sc_28 rfl (h13d.cell (i := 0) rfl) ?_)
          refine L (S (P_eq rfl rfl (decide_eq_false (by omega))) ?_)
          refine L (S (P_move rfl) ?_)
          refine L_yes (j := 4) (dj := 70) (b := false) (S_loadS st_46 rfl h12d.row rfl ?_) rfl
          refine L_yes (j := 4) (dj := 70) (b := false) (S (P_move rfl) ?_) rfl
          refine L_yes (j := 4) (dj := 70) (b := false) (S_call cb_20 rfl (kf _ (hs.no hmd)) ?_) rfl
          rintro _ w9 ⟨rfl, hm9⟩
          refine L_yes (j := 4) (dj := 70) (b := false) (S (P_not rfl rfl) ?_) rfl
          refine L (S (P_pickF rfl rfl) ?_)
          refine L_nil ?_
          refine then_n ?_
          refine C_false rfl ?_
          refine C_skip ?_
          refine then_n ?_
          refine C_seq ?_
          refine C_region ?_
          refine L (S (P_move rfl) ?_)
          refine L (S (P_move rfl) ?_)
          refine L (S_callP (s := bs ||| 2 ^ i) hp rfl rfl (by omega) (hmd.no hm9) ?_)
          rintro w10 hm10
          refine L (S (P_assign rfl) ?_)
          refine L_nil ?_
          refine then_n ?_
          refine C_seq ?_
          have hm910 : Mv No wq.drew w10 := hm9.no hm10
          have h12e := h12d.no hm910
          have h13e := h13d.no hm910
          have h14e := h14d.no hm910
          have hm010 : Mv No w w10 := hmd.no hm910
          by_cases hless : pr (bs ||| 2 ^ i) < np
          · rw [if_pos hless] at hae
            refine C_region ?_
            refine L (S (P_move rfl) ?_)
            refine L (S (P_fieldAddr fo_48_1 rfl) ?_)
            refine L (S_load sc_2 rfl (h14e.cell (i := 1) rfl) ?_)
            refine L (S (P_lt rfl rfl (decide_eq_true hless)) ?_)
            refine L_nil ?_
            refine then_n ?_
            refine C_true rfl ?_
            refine C_region ?_
            refine L (S (P_move rfl) ?_)
            refine L (S (P_move rfl) ?_)
            refine L (S (P_buildC (ix := [0, 1]) (l := [.tmp 83, .tmp 84]) bi_48_0_1 rfl (by simp [Value.oneCell']) rfl) ?_)
            refine L (S_storeS ti_48 rfl rfl (fdC_one (bs ||| 2 ^ i) (pr (bs ||| 2 ^ i))) rfl h14e (by exact Nat.le_refl 2) ?_)
            rintro w11 hb11 hm11
            refine L_nil ?_
            refine blk_n ?_
            refine then_n ?_
            refine C_region ?_
            refine L (S (P_add rfl rfl (wI64 (c := ((i + 1 : Nat) : Int)) (by omega))) ?_)
            refine L (S (P_move rfl) ?_)
            refine L_nil ?_
            refine then_n ?_
            exact ⟨rfl, i + 1, .cons rfl (.cons rfl (.cons rfl (.cons rfl (.cons rfl (.cons rfl (.cons rfl (.cons rfl (.nil _)))))))), ⟨hil, h12e.ne hm11 hn12, h13e.ne hm11 hn13, by rw [hae]; exact hb11, hm010.new hm11 hw14⟩, by omega⟩
          · rw [if_neg hless] at hae
            refine C_region ?_
            refine L (S (P_move rfl) ?_)
            refine L (S (P_fieldAddr fo_48_1 rfl) ?_)
            refine L (S_load sc_2 rfl (h14e.cell (i := 1) rfl) ?_)
            refine L (S (P_lt rfl rfl (decide_eq_false hless)) ?_)
            refine L_nil ?_
            refine then_n ?_
            refine C_false rfl ?_
            refine C_skip ?_
            refine blk_n ?_
            refine then_n ?_
            refine C_region ?_
            refine L (S (P_add rfl rfl (wI64 (c := ((i + 1 : Nat) : Int)) (by omega))) ?_)
            refine L (S (P_move rfl) ?_)
            refine L_nil ?_
            refine then_n ?_
            exact ⟨rfl, i + 1, .cons rfl (.cons rfl (.cons rfl (.cons rfl (.cons rfl (.cons rfl (.cons rfl (.cons rfl (.nil _)))))))), ⟨hil, h12e, h13e, by rw [hae]; exact h14e, hm010⟩, by omega⟩
    · have hin : i = sz.length := by omega
      subst hin
      have hform := addF_form sz bud pr (bs, bp) sz.length
      by_cases hnx : addF sz bud pr (bs, bp) sz.length = (bs, bp)
      · have hgb : growF sz bud pr k fu (bs, bp) = (bs, bp) := by
          cases fu with
          | zero => rfl
          | succ fu => simp only [growF, hnx, if_pos, ite_self]
        rw [hnx] at h14q
        rw [← hg, hgb]
        refine C_exit ?_
        refine then_x ?_
        refine then_x ?_
        refine blk_x ?_
        refine then_n ?_
        refine C_seq ?_
        refine C_seq ?_
        refine C_region ?_
        refine L (S_loadS st_48 rfl h14q.row rfl ?_)
        refine L (S_loadS st_48 rfl h13q.row rfl ?_)
        refine L (S ((P_eqPair pairF rfl rfl (decide_eq_true ⟨rfl, rfl⟩))) ?_)
        refine L_nil ?_
        refine then_n ?_
        refine C_true rfl ?_
        refine C_exit ?_
        refine then_x ?_
        refine blk_o rfl ?_
        refine then_x ?_
        refine blk_x ?_
        refine then_n ?_
        refine C_seq ?_
        refine C_region ?_
        refine L (S (P_fieldAddr fo_48_0 rfl) ?_)
        refine L (S_load sc_28 rfl (h13q.cell (i := 0) rfl) ?_)
        refine L (S (P_assign rfl) ?_)
        refine L (S (P_assign rfl) ?_)
        refine L_nil ?_
        refine then_n ?_
        refine C_ret ?_
        refine F_ret2 Tryd.results9 rfl rfl ?_
        exact ⟨rfl, hmq⟩
      · obtain ⟨j, hj, hbit, hne2⟩ : ∃ i, i < sz.length ∧ bs.testBit i = false ∧ addF sz bud pr (bs, bp) sz.length = (bs ||| 2 ^ i, pr (bs ||| 2 ^ i)) := by
          rcases hform with h | h
          · exact absurd h hnx
          · exact h
        have hpop := pop_or (b := bs) (i := j) (by omega) hbit
        have hol : bs ||| 2 ^ j < 2 ^ sz.length := or_bit_lt hbs hj
        have hple := pop_lt (by omega) hol
        obtain ⟨fu', rfl⟩ : ∃ f', fu = f' + 1 := ⟨fu - 1, by omega⟩
        have hgs : growF sz bud pr k (fu' + 1) (bs, bp) = growF sz bud pr k fu' (bs ||| 2 ^ j, pr (bs ||| 2 ^ j)) := by
          rw [growF, if_pos hlt, if_neg hnx, hne2]
        rw [hne2] at h14q
        dsimp only at h14q
        have hd : ¬ (bs ||| 2 ^ j = bs) := by
          intro he
          rw [he] at hpop
          omega
        refine C_exit ?_
        refine then_x ?_
        refine then_x ?_
        refine blk_x ?_
        refine then_n ?_
        refine C_seq ?_
        refine C_seq ?_
        refine C_region ?_
        refine L (S_loadS st_48 rfl h14q.row rfl ?_)
        refine L (S_loadS st_48 rfl h13q.row rfl ?_)
        refine L (S ((P_eqPair pairF rfl rfl (decide_eq_false (fun hh => hd (by have := hh.1; omega))))) ?_)
        refine L_nil ?_
        refine then_n ?_
        refine C_false rfl ?_
        refine C_skip ?_
        refine then_n ?_
        refine C_region ?_
        refine L (S_loadS st_48 rfl h14q.row rfl ?_)
        refine L (S_storeS ti_48 rfl rfl (fdC_one (bs ||| 2 ^ j) (pr (bs ||| 2 ^ j))) rfl h13q (by exact Nat.le_refl 2) ?_)
        rintro w11 hb11 hm11
        refine L_nil ?_
        refine blk_n ?_
        refine then_n ?_
        exact ⟨rfl, (fu', bs ||| 2 ^ j, pr (bs ||| 2 ^ j)), .cons rfl (.cons rfl (.cons rfl (.cons rfl (.cons rfl (.nil _))))), ⟨by dsimp only; rw [← hgs]; exact hg, by dsimp only; omega, hol, h12q.ne hm11 hne, hb11, hmq.new hm11 hw13⟩, by dsimp only; omega⟩
  · have hgb : growF sz bud pr k fu (bs, bp) = (bs, bp) := by
      cases fu with
      | zero => rfl
      | succ fu => simp only [growF]; rw [if_neg hge]
    rw [← hg, hgb]
    refine C_exit ?_
    refine then_x ?_
    refine then_x ?_
    refine blk_x ?_
    refine then_n ?_
    refine C_seq ?_
    refine C_region ?_
    refine L (S (P_fieldAddr fo_48_0 rfl) ?_)
    refine L (S_load sc_28 rfl ((h13r.no hm6).cell (i := 0) rfl) ?_)
    refine L (S (P_assign rfl) ?_)
    refine L (S (P_assign rfl) ?_)
    refine L_nil ?_
    refine then_n ?_
    refine C_ret ?_
    refine F_ret2 Tryd.results9 rfl rfl ?_
    exact ⟨rfl, hmr.no hm6⟩
end Go.Proofs.YthihhibadpbncaaDoor
