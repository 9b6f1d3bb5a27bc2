import Derived.Test.YthihhibadpbncaaDoorGSearch
namespace Go.Proofs.YthihhibadpbncaaDoor
open Go.RowKit

def iv16 (n : Int) : Value := .int .i16 n
def Inr16 (l : List Int) : Prop := ∀ n ∈ l, -32768 ≤ n ∧ n < 32768
theorem Inr16.get {l : List Int} (h : Inr16 l) {i : Nat} (hi : i < l.length) : -32768 ≤ l.getD i 0 ∧ l.getD i 0 < 32768 := by
  have : l.getD i 0 ∈ l := by
    rw [List.getD_eq_getElem?_getD, List.getElem?_eq_getElem hi]
    exact List.getElem_mem hi
  exact h _ this
theorem getD_get {l : List Int} {i : Nat} (hi : i < l.length) : l[i]? = some (l.getD i 0) := by
  rw [List.getD_eq_getElem?_getD, List.getElem?_eq_getElem hi]; rfl

def offF (off : List Int) (acc : Int) (i : Nat) : Int := if i < off.length then acc - off.getD i 0 else acc
def priceStep (off two : List Int) (x : Nat) (acc : Int) (i : Nat) : Int :=
  if x.testBit i = true then (if i < two.length ∧ x.testBit (i + 1) = true then offF off acc i + two.getD i 0 else offF off acc i) else acc
/-- The price of a set. -/
def priceF (base : Int) (off two : List Int) (x : Nat) : Nat → Int
  | 0 => base.tmod 1000000
  | i + 1 => priceStep off two x (priceF base off two x i) i

theorem offF_bound {off : List Int} (h : Inr16 off) (acc : Int) (i : Nat) : acc - 32768 ≤ offF off acc i ∧ offF off acc i ≤ acc + 32768 := by
  unfold offF
  split
  · rename_i hi
    have := h.get hi
    omega
  · omega
theorem priceF_bound {base : Int} {off two : List Int} (ho : Inr16 off) (ht : Inr16 two) (x : Nat) : ∀ i : Nat, -1000000 - 65536 * (i : Int) ≤ priceF base off two x i ∧ priceF base off two x i ≤ 1000000 + 65536 * (i : Int)
  | 0 => by
    have h1 := Int.tmod_lt_of_pos base (show (0 : Int) < 1000000 by omega)
    have h2 := Int.lt_tmod_of_pos base (show (0 : Int) < 1000000 by omega)
    simp only [priceF]
    omega
  | i + 1 => by
    have ih := priceF_bound (base := base) ho ht x i
    have hb := offF_bound ho (priceF base off two x i) i
    simp only [priceF, priceStep]
    split
    · split
      · rename_i h
        have := ht.get h.1
        omega
      · omega
    · omega

def caseV (A : Option Addr) (n cap : Nat) (bud m k base : Int) (A5 : Option Addr) (n5 c5 : Nat) (A6 : Option Addr) (n6 c6 : Nat) : Value :=
  .agg #[.slice A n cap, .int .i64 bud, .int .i64 m, .int .i64 k, .int .i64 base, .slice A5 n5 c5, .slice A6 n6 c6]
def caseC (A : Option Addr) (n cap : Nat) (bud m k base : Int) (A5 : Option Addr) (n5 c5 : Nat) (A6 : Option Addr) (n6 c6 : Nat) : List Value :=
  [.slice A n cap, .int .i64 bud, .int .i64 m, .int .i64 k, .int .i64 base, .slice A5 n5 c5, .slice A6 n6 c6]

theorem price_ret {w : World} {A A5 A6 : Option Addr} {cap c5 c6 : Nat} (n : Nat) (bud m k base : Int) (off two : List Int) (x : Nat) (hx : x < 4294967296) (hn : n ≤ 16) (h5 : SlR w A5 (off.map iv16)) (h6 : SlR w A6 (two.map iv16)) (ho : Inr16 off) (ht : Inr16 two) (hol : off.length ≤ 9223372036854775807) (htl : two.length ≤ 9223372036854775807) :
    Ret Tryd.prog 10 [caseV A n cap bud m k base A5 off.length c5 A6 two.length c6, .int .u32 (x : Int)] w fun v w' => v = .int .i64 (priceF base off two x n) ∧ Mv No w w' := by
  refine F_enter Tryd.func10 Tryd.ntmps10 rfl rfl ?_
  refine C_seq ?_
  refine C_region ?_
  refine L (S_box rfl ?_)
  rintro b2 w1 hb2 hm1 hn1
  refine L (S (P_assign rfl) ?_)
  refine L_nil ?_
  refine then_n ?_
  refine C_seq ?_
  have h2 : Blk w1 b2 (caseC A n cap bud m k base A5 off.length c5 A6 two.length c6) 25 := hb2
  have h51 := h5.no hm1
  have h61 := h6.no hm1
  refine C_region ?_
  refine L (S (P_fieldAddr fo_25_4 rfl) ?_)
  refine L (S_load sc_2 rfl (h2.cell (i := 4) rfl) ?_)
  refine L (S (P_rem rfl rfl (by decide) rfl) ?_)
  refine L (S (P_assign rfl) ?_)
  refine L_nil ?_
  refine then_n ?_
  refine C_seq ?_
  refine C_seq ?_
  refine C_region ?_
  refine L (S (P_fieldAddr fo_25_0 rfl) ?_)
  refine L (S_load sc_22 rfl (h2.cell (i := 0) rfl) ?_)
  refine L (S (P_lenS Tryd.underlying22 rfl) ?_)
  refine L (S (P_move rfl) ?_)
  refine L_nil ?_
  refine then_n ?_
  refine C_block ?_
  refine C_loop (γ := Nat) (fun i => [(1, .int .u32 (x : Int)), (2, .pointer (some ⟨b2, 0, none⟩)), (5, .int .i64 (priceF base off two x i)), (12, .int .i64 (n : Int)), (13, .int .i64 (i : Int))]) (fun i wr => wr = w1 ∧ i ≤ n) (fun i => n - i) 0 (.cons rfl (.cons rfl (.cons rfl (.cons rfl (.cons rfl (.nil _)))))) ⟨rfl, by omega⟩ ?_
  rintro i wr ⟨rfl, hi⟩
  have hbd := priceF_bound (base := base) ho ht x i
  have hps : priceF base off two x (i + 1) = priceStep off two x (priceF base off two x i) i := rfl
  have hob := offF_bound ho (priceF base off two x i) i
  generalize hacc : priceF base off two x i = acc at *
  refine C_seq ?_
  refine C_region ?_
  refine L (S (P_lt rfl rfl rfl) ?_)
  refine L_nil ?_
  refine then_n ?_
  refine C_seq ?_
  refine C_ifp rfl rfl (fun hlt => ?_) (fun hge => ?_)
  · have hil : i < n := by omega
    unfold priceStep at hps
    refine C_skip ?_
    refine then_n ?_
    refine C_seq ?_
    refine C_block ?_
    refine C_seq ?_
    refine C_region ?_
    refine L (S (P_move rfl) ?_)
    refine L (S (P_assign rfl) ?_)
    refine L_nil ?_
    refine then_n ?_
    refine C_seq ?_
    refine C_seq ?_
    by_cases hbit : x.testBit i = true
    · rw [if_pos hbit] at hps
      refine C_region ?_
      refine L (S (P_move rfl) ?_)
      refine L (S (P_move rfl) ?_)
      refine L (S (P_shr rfl rfl (by omega) (shrU32 (s := i) rfl (by omega) rfl)) ?_)
      refine L (S (P_and rfl rfl (andU32 (b := 1) (shr_lt x hx i) (by omega) rfl)) ?_)
      refine L (S (P_eq rfl rfl (decide_eq_false (fun hh => by rw [(bitZ x i).1 hh] at hbit; cases hbit))) ?_)
      refine L_nil ?_
      refine then_n ?_
      refine C_false rfl ?_
      refine C_skip ?_
      refine then_n ?_
      refine C_seq ?_
      refine C_seq ?_
      refine C_region ?_
      refine L (S (P_move rfl) ?_)
      refine L (S (P_fieldAddr fo_25_5 rfl) ?_)
      refine L (S_load sc_23 rfl (h2.cell (i := 5) rfl) ?_)
      refine L (S (P_lenS Tryd.underlying23 rfl) ?_)
      refine L (S (P_lt rfl rfl rfl) ?_)
      refine L_nil ?_
      refine then_n ?_
      refine C_cutg (γ := Unit) (fun _ => [(1, .int .u32 (x : Int)), (2, .pointer (some ⟨b2, 0, none⟩)), (5, .int .i64 (offF off acc i)), (6, .int .i64 (i : Int)), (12, .int .i64 (n : Int)), (13, .int .i64 (i : Int))]) (fun _ wc => wc = wr) ?_ ?_
      · refine C_ifp rfl rfl (fun ha => ?_) (fun hb => ?_)
        · have hio : i < off.length := by omega
          have hoF : offF off acc i = acc - off.getD i 0 := by unfold offF; rw [if_pos hio]
          rw [hoF] at hob ⊢
          have hrg := ho.get hio
          obtain ⟨b, o, rfl, hrow⟩ := h51.form (i := i) (by simpa using hio)
          have hcell : wr.cell? ⟨b, o + i, none⟩ = some (.int .i16 (off.getD i 0)) := hrow i _ (by rw [List.getElem?_map, getD_get hio]; rfl)
          refine C_region ?_
          refine L (S (P_move rfl) ?_)
          refine L (S (P_fieldAddr fo_25_5 rfl) ?_)
          refine L (S_load sc_23 rfl (h2.cell (i := 5) rfl) ?_)
          refine L (S (P_move rfl) ?_)
          refine L (S (P_indexAddr Tryd.underlying23 (csz_of ti_41) rfl rfl (j := i) rfl hio (p := o + i) (by omega)) ?_)
          refine L (S_load sc_41 rfl hcell ?_)
          refine L (S (P_conv Tryd.underlying41 Tryd.underlying2 rfl (wI64 (c := off.getD i 0) (by omega))) ?_)
          refine L (S (P_sub rfl rfl (wI64 (c := acc - off.getD i 0) (by omega))) ?_)
          refine L (S (P_assign rfl) ?_)
          refine L_nil ?_
          refine then_n ?_
          exact ⟨rfl, (), .cons rfl (.cons rfl (.cons rfl (.cons rfl (.cons rfl (.cons rfl (.nil _)))))), rfl⟩
        · have hoF : offF off acc i = acc := by unfold offF; rw [if_neg (by omega)]
          rw [hoF]
          refine C_skip ?_
          refine then_n ?_
          exact ⟨rfl, (), .cons rfl (.cons rfl (.cons rfl (.cons rfl (.cons rfl (.cons rfl (.nil _)))))), rfl⟩
      rintro _ wc rfl f' hf'
      refine C_forget hf' ?_
      by_cases htw : i < two.length
      · by_cases hbt : x.testBit (i + 1) = true
        · rw [if_pos ⟨htw, hbt⟩] at hps
          have hrg := ht.get htw
          obtain ⟨b, o, rfl, hrow⟩ := h61.form (i := i) (by simpa using htw)
          have hcell : wc.cell? ⟨b, o + i, none⟩ = some (.int .i16 (two.getD i 0)) := hrow i _ (by rw [List.getElem?_map, getD_get htw]; rfl)
          refine C_seq ?_
          refine C_region ?_
          refine L (S (P_move rfl) ?_)
          refine L (S (P_fieldAddr fo_25_6 rfl) ?_)
          refine L (S_load sc_23 rfl (h2.cell (i := 6) rfl) ?_)
          refine L (S (P_lenS Tryd.underlying23 rfl) ?_)
          refine L (S (P_lt rfl rfl (decide_eq_true (by omega))) ?_)
          refine L (S (P_move rfl) ?_)
          refine L_yes (j := 5) (dj := 39) (b := true) (S (P_move rfl) ?_) rfl
          refine L_yes (j := 5) (dj := 39) (b := true) (S (P_move rfl) ?_) rfl
          refine L_yes (j := 5) (dj := 39) (b := true) (S (P_add rfl rfl (wI64 (c := ((i + 1 : Nat) : Int)) (by omega))) ?_) rfl
          refine L_yes (j := 5) (dj := 39) (b := true) (S (P_shr rfl rfl (by omega) (shrU32 (s := i + 1) rfl (by omega) rfl)) ?_) rfl
          refine L_yes (j := 5) (dj := 39) (b := true) (S (P_and rfl rfl (andU32 (b := 1) (shr_lt x hx (i + 1)) (by omega) rfl)) ?_) rfl
          refine L_yes (j := 5) (dj := 39) (b := true) (S (P_eq rfl rfl (decide_eq_true ((bitO x (i + 1)).2 hbt))) ?_) rfl
          refine L (S (P_pickT rfl rfl) ?_)
          refine L_nil ?_
          refine then_n ?_
          refine C_true rfl ?_
          refine C_region ?_
          refine L (S (P_move rfl) ?_)
          refine L (S (P_fieldAddr fo_25_6 rfl) ?_)
          refine L (S_load sc_23 rfl (h2.cell (i := 6) rfl) ?_)
          refine L (S (P_move rfl) ?_)
          refine L (S (P_indexAddr Tryd.underlying23 (csz_of ti_41) rfl rfl (j := i) rfl htw (p := o + i) (by omega)) ?_)
          refine L (S_load sc_41 rfl hcell ?_)
          refine L (S (P_conv Tryd.underlying41 Tryd.underlying2 rfl (wI64 (c := two.getD i 0) (by omega))) ?_)
          refine L (S (P_add rfl rfl (wI64 (c := offF off acc i + two.getD i 0) (by omega))) ?_)
          refine L (S (P_assign rfl) ?_)
          refine L_nil ?_
          refine blk_n ?_
          refine then_n ?_
          refine C_region ?_
          refine L (S (P_add rfl rfl (wI64 (c := ((i + 1 : Nat) : Int)) (by omega))) ?_)
          refine L (S (P_move rfl) ?_)
          refine L_nil ?_
          refine then_n ?_
          exact ⟨rfl, i + 1, .cons rfl (.cons rfl (.cons (by rw [hps]; rfl) (.cons rfl (.cons rfl (.nil _))))), ⟨rfl, hil⟩, by omega⟩
        · rw [if_neg (fun h => hbt h.2)] at hps
          refine C_seq ?_
          refine C_region ?_
          refine L (S (P_move rfl) ?_)
          refine L (S (P_fieldAddr fo_25_6 rfl) ?_)
          refine L (S_load sc_23 rfl (h2.cell (i := 6) rfl) ?_)
          refine L (S (P_lenS Tryd.underlying23 rfl) ?_)
          refine L (S (P_lt rfl rfl (decide_eq_true (by omega))) ?_)
          refine L (S (P_move rfl) ?_)
          refine L_yes (j := 5) (dj := 39) (b := true) (S (P_move rfl) ?_) rfl
          refine L_yes (j := 5) (dj := 39) (b := true) (S (P_move rfl) ?_) rfl
          refine L_yes (j := 5) (dj := 39) (b := true) (S (P_add rfl rfl (wI64 (c := ((i + 1 : Nat) : Int)) (by omega))) ?_) rfl
          refine L_yes (j := 5) (dj := 39) (b := true) (S (P_shr rfl rfl (by omega) (shrU32 (s := i + 1) rfl (by omega) rfl)) ?_) rfl
          refine L_yes (j := 5) (dj := 39) (b := true) (S (P_and rfl rfl (andU32 (b := 1) (shr_lt x hx (i + 1)) (by omega) rfl)) ?_) rfl
          refine L_yes (j := 5) (dj := 39) (b := true) (S (P_eq rfl rfl (decide_eq_false (fun hh => hbt ((bitO x (i + 1)).1 hh)))) ?_) rfl
          refine L (S (P_pickT rfl rfl) ?_)
          refine L_nil ?_
          refine then_n ?_
          refine C_false rfl ?_
          refine C_skip ?_
          refine blk_n ?_
          refine then_n ?_
          refine C_region ?_
          refine L (S (P_add rfl rfl (wI64 (c := ((i + 1 : Nat) : Int)) (by omega))) ?_)
          refine L (S (P_move rfl) ?_)
          refine L_nil ?_
          refine then_n ?_
          exact ⟨rfl, i + 1, .cons rfl (.cons rfl (.cons (by rw [hps]; rfl) (.cons rfl (.cons rfl (.nil _))))), ⟨rfl, hil⟩, by omega⟩
      · rw [if_neg (fun h => htw h.1)] at hps
        refine C_seq ?_
        refine C_region ?_
        refine L (S (P_move rfl) ?_)
        refine L (S (P_fieldAddr fo_25_6 rfl) ?_)
        refine L (S_load sc_23 rfl (h2.cell (i := 6) rfl) ?_)
        refine L (S (P_lenS Tryd.underlying23 rfl) ?_)
        refine L (S (P_lt rfl rfl (decide_eq_false (by omega))) ?_)
        refine L (S (P_move rfl) ?_)
        refine L_no (j := 5) (dj := 39) (b := true) (b' := false) (d := 40) rfl ?_
        refine L_no (j := 5) (dj := 39) (b := true) (b' := false) (d := 41) rfl ?_
        refine L_no (j := 5) (dj := 39) (b := true) (b' := false) (d := 42) rfl ?_
        refine L_no (j := 5) (dj := 39) (b := true) (b' := false) (d := 43) rfl ?_
        refine L_no (j := 5) (dj := 39) (b := true) (b' := false) (d := 44) rfl ?_
        refine L_no (j := 5) (dj := 39) (b := true) (b' := false) (d := 45) rfl ?_
        refine L (S (P_pickF rfl rfl) ?_)
        refine L_nil ?_
        refine then_n ?_
        refine C_false rfl ?_
        refine C_skip ?_
        refine blk_n ?_
        refine then_n ?_
        refine C_region ?_
        refine L (S (P_add rfl rfl (wI64 (c := ((i + 1 : Nat) : Int)) (by omega))) ?_)
        refine L (S (P_move rfl) ?_)
        refine L_nil ?_
        refine then_n ?_
        exact ⟨rfl, i + 1, .cons rfl (.cons rfl (.cons (by rw [hps]; rfl) (.cons rfl (.cons rfl (.nil _))))), ⟨rfl, hil⟩, by omega⟩
    · rw [if_neg hbit] at hps
      have hbf : x.testBit i = false := by simpa using hbit
      refine C_region ?_
      refine L (S (P_move rfl) ?_)
      refine L (S (P_move rfl) ?_)
      refine L (S (P_shr rfl rfl (by omega) (shrU32 (s := i) rfl (by omega) rfl)) ?_)
      refine L (S (P_and rfl rfl (andU32 (b := 1) (shr_lt x hx i) (by omega) rfl)) ?_)
      refine L (S (P_eq rfl rfl (decide_eq_true ((bitZ x i).2 hbf))) ?_)
      refine L_nil ?_
      refine then_n ?_
      refine C_true rfl ?_
      refine C_exit ?_
      refine then_x ?_
      refine blk_x ?_
      refine then_n ?_
      refine C_region ?_
      refine L (S (P_add rfl rfl (wI64 (c := ((i + 1 : Nat) : Int)) (by omega))) ?_)
      refine L (S (P_move rfl) ?_)
      refine L_nil ?_
      refine then_n ?_
      exact ⟨rfl, i + 1, .cons rfl (.cons rfl (.cons (by rw [hps]; rfl) (.cons rfl (.cons rfl (.nil _))))), ⟨rfl, hil⟩, by omega⟩
  · have hin : i = n := by omega
    subst hin
    rw [hacc]
    refine C_exit ?_
    refine then_x ?_
    refine then_x ?_
    refine blk_x ?_
    refine then_n ?_
    refine C_seq ?_
    refine C_region ?_
    refine L (S (P_move rfl) ?_)
    refine L (S (P_assign rfl) ?_)
    refine L_nil ?_
    refine then_n ?_
    refine C_ret ?_
    refine F_ret1 Tryd.results10 rfl ?_
    exact ⟨rfl, hm1⟩

/-- The method value of a case. -/
theorem price_PrF {w : World} {A A5 A6 : Option Addr} {cap c5 c6 : Nat} (n : Nat) (bud m k base : Int) (off two : List Int) (hn : n ≤ 16) (h5 : SlR w A5 (off.map iv16)) (h6 : SlR w A6 (two.map iv16)) (ho : Inr16 off) (ht : Inr16 two) (hol : off.length ≤ 9223372036854775807) (htl : two.length ≤ 9223372036854775807) :
    PrF Tryd.prog w (.func (.func 10) [caseV A n cap bud m k base A5 off.length c5 A6 two.length c6].toArray [].toArray) fun x => priceF base off two x n :=
  ⟨_, _, _, rfl, cb_10, fun w' x hx hm => price_ret n bud m k base off two x hx hn (h5.no hm) (h6.no hm) ho ht hol htl⟩

def livesP (x : Nat) : Int := 100 - 10 * ((x &&& 1 : Nat) : Int) - 10 * ((x &&& 2 : Nat) : Int) - 30 * ((x >>> 2 &&& 1 : Nat) : Int)
theorem lives1_ret {w : World} (x : Nat) (hx : x < 4294967296) : Ret Tryd.prog 17 [.int .u32 (x : Int)] w fun v w' => v = .int .i64 (livesP x) ∧ w = w' := by
  show Ret _ _ _ _ fun v w' => v = .int .i64 (100 - 10 * ((x &&& 1 : Nat) : Int) - 10 * ((x &&& 2 : Nat) : Int) - 30 * ((x >>> 2 &&& 1 : Nat) : Int)) ∧ w = w'
  have h1 : x &&& 1 ≤ 1 := Nat.and_le_right
  have h2 : x &&& 2 ≤ 2 := Nat.and_le_right
  have h3 : x >>> 2 &&& 1 ≤ 1 := Nat.and_le_right
  refine F_enter Tryd.func17 Tryd.ntmps17 rfl rfl ?_
  refine C_seq ?_
  refine C_region ?_
  refine L (S (P_assign rfl) ?_)
  refine L_nil ?_
  refine then_n ?_
  refine C_seq ?_
  refine C_region ?_
  refine L (S (P_move rfl) ?_)
  refine L (S (P_and rfl rfl (andU32 (b := 1) hx (by omega) rfl)) ?_)
  refine L (S (P_conv Tryd.underlying28 Tryd.underlying2 rfl (wI64 (c := ((x &&& 1 : Nat) : Int)) (by omega))) ?_)
  refine L (S (P_mul rfl rfl (wI64 (c := 10 * ((x &&& 1 : Nat) : Int)) (by omega))) ?_)
  refine L (S (P_sub rfl rfl (wI64 (c := 100 - 10 * ((x &&& 1 : Nat) : Int)) (by omega))) ?_)
  refine L (S (P_move rfl) ?_)
  refine L (S (P_and rfl rfl (andU32 (b := 2) hx (by omega) rfl)) ?_)
  refine L (S (P_conv Tryd.underlying28 Tryd.underlying2 rfl (wI64 (c := ((x &&& 2 : Nat) : Int)) (by omega))) ?_)
  refine L (S (P_mul rfl rfl (wI64 (c := 10 * ((x &&& 2 : Nat) : Int)) (by omega))) ?_)
  refine L (S (P_sub rfl rfl (wI64 (c := 100 - 10 * ((x &&& 1 : Nat) : Int) - 10 * ((x &&& 2 : Nat) : Int)) (by omega))) ?_)
  refine L (S (P_move rfl) ?_)
  refine L (S (P_shr rfl rfl (by decide) (shrU32 (s := 2) rfl (by omega) rfl)) ?_)
  refine L (S (P_and rfl rfl (andU32 (b := 1) (shr_lt x hx 2) (by omega) rfl)) ?_)
  refine L (S (P_conv Tryd.underlying28 Tryd.underlying2 rfl (wI64 (c := ((x >>> 2 &&& 1 : Nat) : Int)) (by omega))) ?_)
  refine L (S (P_mul rfl rfl (wI64 (c := 30 * ((x >>> 2 &&& 1 : Nat) : Int)) (by omega))) ?_)
  refine L (S (P_sub rfl rfl (wI64 (c := 100 - 10 * ((x &&& 1 : Nat) : Int) - 10 * ((x &&& 2 : Nat) : Int) - 30 * ((x >>> 2 &&& 1 : Nat) : Int)) (by omega))) ?_)
  refine L (S (P_assign rfl) ?_)
  refine L_nil ?_
  refine then_n ?_
  refine C_ret ?_
  refine F_ret1 Tryd.results17 rfl ?_
  exact ⟨rfl, rfl⟩

theorem livesF : searchF [5, 5, 5] 10 livesP 1 2 = 6 := by decide +kernel

theorem lives_ret {w : World} (hT : Tab w) : Ret Tryd.prog 7 [] w fun v w' => v = .bool true ∧ Mv No w w' := by
  have hP : ∀ w, PrF Tryd.prog w (.func (.func 17) [].toArray [].toArray) livesP := fun w => ⟨_, _, _, rfl, cb_17, fun w' x hx hm => (lives1_ret x hx).mono fun v w'' ⟨h1, h2⟩ => ⟨h1, h2 ▸ Mv.refl _⟩⟩
  have hS := fun w A cap hs hp hT => search_ret (w := w) (pr := livesP) (A := A) (cap := cap) (fv := .func (.func 17) [].toArray [].toArray) [5, 5, 5] 10 1 2 hs (by simp [Inr]) (by simp) (by omega) hp hT
  simp only [livesF] at hS
  refine F_enter Tryd.func7 Tryd.ntmps7 rfl rfl ?_
  refine C_seq ?_
  refine C_region ?_
  refine L (S (P_assign rfl) ?_)
  refine L_nil ?_
  refine then_n ?_
  refine C_seq ?_
  refine C_region ?_
  refine L (S_buildSliceN (l := [.const (.int .i64 5), .const (.int .i64 5), .const (.int .i64 5)]) Tryd.underlying22 ti_2 rfl (by simp [Value.oneCell']) rfl (by decide) (by decide) ?_)
  rintro b1 w1 hb1 hm1 hn1
  refine L (S_call cb_9 rfl (hS _ _ _ (.inr ⟨b1, 0, rfl, hb1.row⟩) (hP _) (hT.mv hm1)) ?_)
  rintro _ w2 ⟨rfl, hm2⟩
  refine L (S (P_move rfl) ?_)
  refine L (S (P_extract rfl rfl) ?_)
  refine L (S (P_extract rfl rfl) ?_)
  refine L (S (P_assign rfl) ?_)
  refine L (S (P_assign rfl) ?_)
  refine L_nil ?_
  refine then_n ?_
  refine C_seq ?_
  refine C_region ?_
  refine L (S (P_move rfl) ?_)
  refine L (S (P_eq rfl rfl (decide_eq_true rfl)) ?_)
  refine L (S (P_move rfl) ?_)
  refine L_yes (j := 2) (dj := 10) (b := true) (S (P_move rfl) ?_) rfl
  refine L_yes (j := 2) (dj := 10) (b := true) (S (P_eq rfl rfl (decide_eq_true rfl)) ?_) rfl
  refine L (S (P_pickT rfl rfl) ?_)
  refine L (S (P_move rfl) ?_)
  refine L (S (P_pickT rfl rfl) ?_)
  refine L (S (P_assign rfl) ?_)
  refine L_nil ?_
  refine then_n ?_
  refine C_ret ?_
  refine F_ret1 Tryd.results7 rfl ?_
  exact ⟨rfl, hm1.no hm2⟩
end Go.Proofs.YthihhibadpbncaaDoor
