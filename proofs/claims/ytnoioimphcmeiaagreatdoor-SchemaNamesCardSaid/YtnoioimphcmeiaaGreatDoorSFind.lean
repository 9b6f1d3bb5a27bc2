import Derived.Test.YtnoioimphcmeiaaGreatDoorSP
namespace Go.Proofs.YtnoioimphcmeiaaGreatDoor
open Go.RowKit
set_option maxRecDepth 20000

section
variable {P : Program} {n : Nat} {N : Nxt} {Q : Post} {f : Fr} {ds : List Deferred} {w : World}
variable {d : Nat} {ty : TypeId} {pos : String} {af : Array Edge} {g : Option (Nat × Bool)}
/-- A function value that tells whether a thing is so. -/
def FnB (P : Program) (w0 : World) (fv : Value) {α : Type} (cells : α → List Value) (p : α → Bool) : Prop :=
  ∃ (k : FuncId) (first captured : List Value), fv = .func (.func k) first.toArray captured.toArray ∧ callable P k = true ∧
    ∀ (w : World) (x : α), Mv No w0 w → Ret P k (first ++ [.agg (cells x).toArray] ++ captured) w fun v w' => v = .bool (p x) ∧ Mv No w w'
theorem FnB.mv {w0 w1 : World} {fv : Value} {α : Type} {cells : α → List Value} {p : α → Bool} (h : FnB P w0 fv cells p) (hm : Mv No w0 w1) : FnB P w1 fv cells p := by
  obtain ⟨k, a, b, h1, h2, h3⟩ := h
  exact ⟨k, a, b, h1, h2, fun w x hw => h3 w x (hm.no hw)⟩
theorem S_callB {fv : Value} {α : Type} {cells : α → List Value} {p : α → Bool} {c : Operand} {l : List Operand} {ats : Array TypeId} {x : α} {w0 : World} {β : Bool} (hp : FnB P w0 fv cells p) (hβ : p x = β) (hf : ev f c = some fv) (hl : evs f l = some [.agg (cells x).toArray]) (hm : Mv No w0 w) (h : ∀ w', Mv No w w' → N ((d, .bool β) :: f) ds w') (hn : Nat.blt d n = true := by rfl) :
    opF P n ⟨some d, .call { callee := .value c, args := l.toArray, argTypes := ats }, ty, pos, af, g⟩ N Q f ds w := by
  obtain ⟨k, a, b, rfl, h2, h3⟩ := hp
  exact S_callv h2 hf hl (h3 w x hm) (fun v w' ⟨hv, hw⟩ => by subst hv; subst hβ; exact h w' hw) hn
end
section
variable {w : World}
theorem ixTab_ret {xs : List Tab} {A : Option Addr} {c k : Nat} (hk : xs.length = k) (hA : SlR w A (cellsL tabC xs)) (hl : xs.length ≤ 1000000) {fv : Value} {p : Tab → Bool} (hp : FnB Tryz.prog w fv tabC p) : Ret Tryz.prog 42 [.slice A k c, fv] w fun v w' => v = .int .i64 (findN p xs) ∧ Mv No w w' := by
  subst hk
  refine F_enter Tryz.func42 Tryz.ntmps42 rfl rfl ?_
  refine C_seq ?_
  refine C_region ?_
  refine L (S (P_assign rfl) ?_)
  refine L_nil ?_
  refine then_n ?_
  refine C_seq ?_
  refine C_seq ?_
  refine C_region ?_
  refine L (S (P_move rfl) ?_)
  refine L (S (P_lenS Tryz.underlying34 rfl) ?_)
  refine L (S (P_move rfl) ?_)
  refine L_nil ?_
  refine then_n ?_
  refine C_block ?_
  refine C_loop (γ := Nat) (fun i => [(0, .slice A xs.length c), (1, fv), (7, .int .i64 (xs.length : Int)), (8, .int .i64 (i : Int))]) (fun i wr => Mv No w wr ∧ i ≤ xs.length ∧ ∀ x ∈ xs.take i, p x = false) (fun i => xs.length - i) 0 (.cons rfl (.cons rfl (.cons rfl (.cons rfl (.nil _))))) ⟨Mv.refl w, Nat.zero_le _, by simp⟩ ?_
  rintro i wr ⟨hmr, hi, hb⟩
  by_cases hlt : i < xs.length
  · have ha := List.getElem?_eq_getElem hlt
    generalize xs[i] = a at ha
    obtain ⟨b, o, rfl, -, hrow⟩ := cellsL_at tabC_len (by decide) (hA.no hmr) ha
    by_cases hq : p a = true
    · refine C_seq ?_
      refine C_region ?_
      refine L (S (P_lt rfl rfl (decide_eq_true (by omega))) ?_)
      refine L_nil ?_
      refine then_n ?_
      refine C_seq ?_
      refine C_true rfl ?_
      refine C_skip ?_
      refine then_n ?_
      refine C_seq ?_
      refine C_block ?_
      refine C_seq ?_
      refine C_region ?_
      refine L (S (P_move rfl) ?_)
      refine L (S (P_assign rfl) ?_)
      refine L_nil ?_
      refine then_n ?_
      refine C_seq ?_
      refine C_region ?_
      refine L (S (P_move rfl) ?_)
      refine L (S (P_move rfl) ?_)
      refine L (S (P_move rfl) ?_)
      refine L (S (P_indexAddr Tryz.underlying34 (csz_of ti_27) rfl rfl (j := i) rfl (by omega) (p := o + i * 5) (by omega)) ?_)
      refine L (S_loadS st_27 rfl hrow rfl ?_)
      refine L (S_callB hp hq rfl rfl hmr ?_)
      rintro w2 hm2
      refine L_nil ?_
      refine then_n ?_
      refine C_true rfl ?_
      refine C_seq ?_
      refine C_region ?_
      refine L (S (P_move rfl) ?_)
      refine L (S (P_assign rfl) ?_)
      refine L_nil ?_
      refine then_n ?_
      refine C_ret ?_
      refine blk_r ?_
      refine then_r ?_
      refine then_r ?_
      refine blk_r ?_
      refine then_r ?_
      refine F_ret1 Tryz.results42 rfl ?_
      exact ⟨by rw [findN_some ha hq hb], hmr.no hm2⟩
    · have hq' : p a = false := by simpa using hq
      refine C_seq ?_
      refine C_region ?_
      refine L (S (P_lt rfl rfl (decide_eq_true (by omega))) ?_)
      refine L_nil ?_
      refine then_n ?_
      refine C_seq ?_
      refine C_true rfl ?_
      refine C_skip ?_
      refine then_n ?_
      refine C_seq ?_
      refine C_block ?_
      refine C_seq ?_
      refine C_region ?_
      refine L (S (P_move rfl) ?_)
      refine L (S (P_assign rfl) ?_)
      refine L_nil ?_
      refine then_n ?_
      refine C_seq ?_
      refine C_region ?_
      refine L (S (P_move rfl) ?_)
      refine L (S (P_move rfl) ?_)
      refine L (S (P_move rfl) ?_)
      refine L (S (P_indexAddr Tryz.underlying34 (csz_of ti_27) rfl rfl (j := i) rfl (by omega) (p := o + i * 5) (by omega)) ?_)
      refine L (S_loadS st_27 rfl hrow rfl ?_)
      refine L (S_callB hp hq' rfl rfl hmr ?_)
      rintro w2 hm2
      refine L_nil ?_
      refine then_n ?_
      refine C_false rfl ?_
      refine C_skip ?_
      refine blk_n ?_
      refine then_n ?_
      refine C_region ?_
      refine L (S (P_add rfl rfl (wI64 (c := ((i + 1 : Nat) : Int)) (by omega))) ?_)
      refine L (S (P_move rfl) ?_)
      refine L_nil ?_
      refine then_n ?_
      refine ⟨rfl, i + 1, (.cons rfl (.cons rfl (.cons rfl (.cons rfl (.nil _))))), ⟨hmr.no hm2, by omega, fun x hx => ?_⟩, by omega⟩
      rw [take_at ha, List.mem_append] at hx
      rcases hx with hx | hx
      · exact hb x hx
      · have : x = a := by simpa using hx
        rw [this]; exact hq'
  · refine C_seq ?_
    refine C_region ?_
    refine L (S (P_lt rfl rfl (decide_eq_false (by omega))) ?_)
    refine L_nil ?_
    refine then_n ?_
    refine C_seq ?_
    refine C_false rfl ?_
    refine C_exit ?_
    refine then_x ?_
    refine then_x ?_
    refine blk_x ?_
    refine then_n ?_
    refine C_seq ?_
    refine C_region ?_
    refine L (S (P_assign rfl) ?_)
    refine L_nil ?_
    refine then_n ?_
    refine C_ret ?_
    refine F_ret1 Tryz.results42 rfl ?_
    refine ⟨by rw [findN_none fun x hx => hb x (by rw [List.take_of_length_le (by omega)]; exact hx)], hmr⟩
theorem table_fn {b : Nat} {nm : List UInt8} (hb : Blk w b [.string (str nm)] 9) : FnB Tryz.prog w (.func (.func 43) #[] #[.pointer (some ⟨b, 0, none⟩)]) tabC (fun x => decide (x.name = nm)) := by
  refine ⟨_, [], [_], rfl, cb_43, fun w2 x hm => ?_⟩
  show Ret _ _ [.agg (tabC x).toArray, .pointer (some ⟨b, 0, none⟩)] w2 _
  refine F_enter Tryz.func43 Tryz.ntmps43 rfl rfl ?_
  refine C_seq ?_
  refine C_region ?_
  refine L (S_box rfl ?_)
  rintro b1 w1 hb1 hm1 hn1
  refine L (S (P_assign rfl) ?_)
  refine L_nil ?_
  refine then_n ?_
  refine C_seq ?_
  refine C_region ?_
  refine L (S (P_fieldAddr fo_27_0 rfl) ?_)
  refine L (S_load sc_9 rfl (hb1.cell (i := 0) rfl) ?_)
  refine L (S_load sc_9 rfl (((hb.no hm).no hm1).cell (i := 0) rfl) ?_)
  refine L (S (P_eqT rfl rfl str_dec) ?_)
  refine L (S (P_assign rfl) ?_)
  refine L_nil ?_
  refine then_n ?_
  refine C_ret ?_
  refine F_ret1 Tryz.results43 rfl ?_
  exact ⟨rfl, hm1⟩
theorem table_ret {s : Sch} (hs : SlR w s.A (cellsL tabC s.tabs)) (hl : s.tabs.length ≤ 1000000) (nm : List UInt8) : Ret Tryz.prog 15 [.agg (schC s).toArray, .string (str nm)] w fun v w' => v = .int .i64 (findN (fun x => decide (x.name = nm)) s.tabs) ∧ Mv No w w' := by
  refine F_enter Tryz.func15 Tryz.ntmps15 rfl rfl ?_
  refine C_seq ?_
  refine C_region ?_
  refine L (S_box rfl ?_)
  rintro b1 w1 hb1 hm1 hn1
  refine L (S_box rfl ?_)
  rintro b2 w2 hb2 hm2 hn2
  refine L (S (P_assign rfl) ?_)
  refine L_nil ?_
  refine then_n ?_
  refine C_seq ?_
  refine C_region ?_
  refine L (S (P_fieldAddr fo_37_0 rfl) ?_)
  refine L (S_load sc_34 rfl ((hb1.no hm2).cell (i := 0) rfl) ?_)
  refine L (S (P_makeFunc rfl rfl) ?_)
  refine L (S_call cb_42 rfl ((ixTab_ret rfl ((hs.no hm1).no hm2) hl (table_fn hb2))) ?_)
  rintro _ w3 ⟨rfl, hm3⟩
  refine L (S (P_assign rfl) ?_)
  refine L_nil ?_
  refine then_n ?_
  refine C_ret ?_
  refine F_ret1 Tryz.results15 rfl ?_
  exact ⟨rfl, (hm1.no hm2).no hm3⟩
theorem ixIdx_ret {xs : List Idx} {A : Option Addr} {c k : Nat} (hk : xs.length = k) (hA : SlR w A (cellsL idxC xs)) (hl : xs.length ≤ 1000000) {fv : Value} {p : Idx → Bool} (hp : FnB Tryz.prog w fv idxC p) : Ret Tryz.prog 44 [.slice A k c, fv] w fun v w' => v = .int .i64 (findN p xs) ∧ Mv No w w' := by
  subst hk
  refine F_enter Tryz.func44 Tryz.ntmps44 rfl rfl ?_
  refine C_seq ?_
  refine C_region ?_
  refine L (S (P_assign rfl) ?_)
  refine L_nil ?_
  refine then_n ?_
  refine C_seq ?_
  refine C_seq ?_
  refine C_region ?_
  refine L (S (P_move rfl) ?_)
  refine L (S (P_lenS Tryz.underlying35 rfl) ?_)
  refine L (S (P_move rfl) ?_)
  refine L_nil ?_
  refine then_n ?_
  refine C_block ?_
  refine C_loop (γ := Nat) (fun i => [(0, .slice A xs.length c), (1, fv), (7, .int .i64 (xs.length : Int)), (8, .int .i64 (i : Int))]) (fun i wr => Mv No w wr ∧ i ≤ xs.length ∧ ∀ x ∈ xs.take i, p x = false) (fun i => xs.length - i) 0 (.cons rfl (.cons rfl (.cons rfl (.cons rfl (.nil _))))) ⟨Mv.refl w, Nat.zero_le _, by simp⟩ ?_
  rintro i wr ⟨hmr, hi, hb⟩
  by_cases hlt : i < xs.length
  · have ha := List.getElem?_eq_getElem hlt
    generalize xs[i] = a at ha
    obtain ⟨b, o, rfl, -, hrow⟩ := cellsL_at idxC_len (by decide) (hA.no hmr) ha
    by_cases hq : p a = true
    · refine C_seq ?_
      refine C_region ?_
      refine L (S (P_lt rfl rfl (decide_eq_true (by omega))) ?_)
      refine L_nil ?_
      refine then_n ?_
      refine C_seq ?_
      refine C_true rfl ?_
      refine C_skip ?_
      refine then_n ?_
      refine C_seq ?_
      refine C_block ?_
      refine C_seq ?_
      refine C_region ?_
      refine L (S (P_move rfl) ?_)
      refine L (S (P_assign rfl) ?_)
      refine L_nil ?_
      refine then_n ?_
      refine C_seq ?_
      refine C_region ?_
      refine L (S (P_move rfl) ?_)
      refine L (S (P_move rfl) ?_)
      refine L (S (P_move rfl) ?_)
      refine L (S (P_indexAddr Tryz.underlying35 (csz_of ti_30) rfl rfl (j := i) rfl (by omega) (p := o + i * 6) (by omega)) ?_)
      refine L (S_loadS st_30 rfl hrow rfl ?_)
      refine L (S_callB hp hq rfl rfl hmr ?_)
      rintro w2 hm2
      refine L_nil ?_
      refine then_n ?_
      refine C_true rfl ?_
      refine C_seq ?_
      refine C_region ?_
      refine L (S (P_move rfl) ?_)
      refine L (S (P_assign rfl) ?_)
      refine L_nil ?_
      refine then_n ?_
      refine C_ret ?_
      refine blk_r ?_
      refine then_r ?_
      refine then_r ?_
      refine blk_r ?_
      refine then_r ?_
      refine F_ret1 Tryz.results44 rfl ?_
      exact ⟨by rw [findN_some ha hq hb], hmr.no hm2⟩
    · have hq' : p a = false := by simpa using hq
      refine C_seq ?_
      refine C_region ?_
      refine L (S (P_lt rfl rfl (decide_eq_true (by omega))) ?_)
      refine L_nil ?_
      refine then_n ?_
      refine C_seq ?_
      refine C_true rfl ?_
      refine C_skip ?_
      refine then_n ?_
      refine C_seq ?_
      refine C_block ?_
      refine C_seq ?_
      refine C_region ?_
      refine L (S (P_move rfl) ?_)
      refine L (S (P_assign rfl) ?_)
      refine L_nil ?_
      refine then_n ?_
      refine C_seq ?_
      refine C_region ?_
      refine L (S (P_move rfl) ?_)
      refine L (S (P_move rfl) ?_)
      refine L (S (P_move rfl) ?_)
      refine L (S (P_indexAddr Tryz.underlying35 (csz_of ti_30) rfl rfl (j := i) rfl (by omega) (p := o + i * 6) (by omega)) ?_)
      refine L (S_loadS st_30 rfl hrow rfl ?_)
      refine L (S_callB hp hq' rfl rfl hmr ?_)
      rintro w2 hm2
      refine L_nil ?_
      refine then_n ?_
      refine C_false rfl ?_
      refine C_skip ?_
      refine blk_n ?_
      refine then_n ?_
      refine C_region ?_
      refine L (S (P_add rfl rfl (wI64 (c := ((i + 1 : Nat) : Int)) (by omega))) ?_)
      refine L (S (P_move rfl) ?_)
      refine L_nil ?_
      refine then_n ?_
      refine ⟨rfl, i + 1, (.cons rfl (.cons rfl (.cons rfl (.cons rfl (.nil _))))), ⟨hmr.no hm2, by omega, fun x hx => ?_⟩, by omega⟩
      rw [take_at ha, List.mem_append] at hx
      rcases hx with hx | hx
      · exact hb x hx
      · have : x = a := by simpa using hx
        rw [this]; exact hq'
  · refine C_seq ?_
    refine C_region ?_
    refine L (S (P_lt rfl rfl (decide_eq_false (by omega))) ?_)
    refine L_nil ?_
    refine then_n ?_
    refine C_seq ?_
    refine C_false rfl ?_
    refine C_exit ?_
    refine then_x ?_
    refine then_x ?_
    refine blk_x ?_
    refine then_n ?_
    refine C_seq ?_
    refine C_region ?_
    refine L (S (P_assign rfl) ?_)
    refine L_nil ?_
    refine then_n ?_
    refine C_ret ?_
    refine F_ret1 Tryz.results44 rfl ?_
    refine ⟨by rw [findN_none fun x hx => hb x (by rw [List.take_of_length_le (by omega)]; exact hx)], hmr⟩
theorem index_fn {b : Nat} {nm : List UInt8} (hb : Blk w b [.string (str nm)] 9) : FnB Tryz.prog w (.func (.func 45) #[] #[.pointer (some ⟨b, 0, none⟩)]) idxC (fun x => decide (x.name = nm)) := by
  refine ⟨_, [], [_], rfl, cb_45, fun w2 x hm => ?_⟩
  show Ret _ _ [.agg (idxC x).toArray, .pointer (some ⟨b, 0, none⟩)] w2 _
  refine F_enter Tryz.func45 Tryz.ntmps45 rfl rfl ?_
  refine C_seq ?_
  refine C_region ?_
  refine L (S_box rfl ?_)
  rintro b1 w1 hb1 hm1 hn1
  refine L (S (P_assign rfl) ?_)
  refine L_nil ?_
  refine then_n ?_
  refine C_seq ?_
  refine C_region ?_
  refine L (S (P_fieldAddr fo_30_0 rfl) ?_)
  refine L (S_load sc_9 rfl (hb1.cell (i := 0) rfl) ?_)
  refine L (S_load sc_9 rfl (((hb.no hm).no hm1).cell (i := 0) rfl) ?_)
  refine L (S (P_eqT rfl rfl str_dec) ?_)
  refine L (S (P_assign rfl) ?_)
  refine L_nil ?_
  refine then_n ?_
  refine C_ret ?_
  refine F_ret1 Tryz.results45 rfl ?_
  exact ⟨rfl, hm1⟩
theorem index_ret {s : Sch} (hs : SlR w s.B (cellsL idxC s.idxs)) (hl : s.idxs.length ≤ 1000000) (nm : List UInt8) : Ret Tryz.prog 17 [.agg (schC s).toArray, .string (str nm)] w fun v w' => v = .int .i64 (findN (fun x => decide (x.name = nm)) s.idxs) ∧ Mv No w w' := by
  refine F_enter Tryz.func17 Tryz.ntmps17 rfl rfl ?_
  refine C_seq ?_
  refine C_region ?_
  refine L (S_box rfl ?_)
  rintro b1 w1 hb1 hm1 hn1
  refine L (S_box rfl ?_)
  rintro b2 w2 hb2 hm2 hn2
  refine L (S (P_assign rfl) ?_)
  refine L_nil ?_
  refine then_n ?_
  refine C_seq ?_
  refine C_region ?_
  refine L (S (P_fieldAddr fo_37_1 rfl) ?_)
  refine L (S_load sc_35 rfl ((hb1.no hm2).cell (i := 1) rfl) ?_)
  refine L (S (P_makeFunc rfl rfl) ?_)
  refine L (S_call cb_44 rfl ((ixIdx_ret rfl ((hs.no hm1).no hm2) hl (index_fn hb2))) ?_)
  rintro _ w3 ⟨rfl, hm3⟩
  refine L (S (P_assign rfl) ?_)
  refine L_nil ?_
  refine then_n ?_
  refine C_ret ?_
  refine F_ret1 Tryz.results17 rfl ?_
  exact ⟨rfl, (hm1.no hm2).no hm3⟩
theorem ixCol_ret {xs : List Col} {A : Option Addr} {c k : Nat} (hk : xs.length = k) (hA : SlR w A (cellsL colC xs)) (hl : xs.length ≤ 1000000) {fv : Value} {p : Col → Bool} (hp : FnB Tryz.prog w fv colC p) : Ret Tryz.prog 47 [.slice A k c, fv] w fun v w' => v = .int .i64 (findN p xs) ∧ Mv No w w' := by
  subst hk
  refine F_enter Tryz.func47 Tryz.ntmps47 rfl rfl ?_
  refine C_seq ?_
  refine C_region ?_
  refine L (S (P_assign rfl) ?_)
  refine L_nil ?_
  refine then_n ?_
  refine C_seq ?_
  refine C_seq ?_
  refine C_region ?_
  refine L (S (P_move rfl) ?_)
  refine L (S (P_lenS Tryz.underlying25 rfl) ?_)
  refine L (S (P_move rfl) ?_)
  refine L_nil ?_
  refine then_n ?_
  refine C_block ?_
  refine C_loop (γ := Nat) (fun i => [(0, .slice A xs.length c), (1, fv), (7, .int .i64 (xs.length : Int)), (8, .int .i64 (i : Int))]) (fun i wr => Mv No w wr ∧ i ≤ xs.length ∧ ∀ x ∈ xs.take i, p x = false) (fun i => xs.length - i) 0 (.cons rfl (.cons rfl (.cons rfl (.cons rfl (.nil _))))) ⟨Mv.refl w, Nat.zero_le _, by simp⟩ ?_
  rintro i wr ⟨hmr, hi, hb⟩
  by_cases hlt : i < xs.length
  · have ha := List.getElem?_eq_getElem hlt
    generalize xs[i] = a at ha
    obtain ⟨b, o, rfl, -, hrow⟩ := cellsL_at colC_len (by decide) (hA.no hmr) ha
    by_cases hq : p a = true
    · refine C_seq ?_
      refine C_region ?_
      refine L (S (P_lt rfl rfl (decide_eq_true (by omega))) ?_)
      refine L_nil ?_
      refine then_n ?_
      refine C_seq ?_
      refine C_true rfl ?_
      refine C_skip ?_
      refine then_n ?_
      refine C_seq ?_
      refine C_block ?_
      refine C_seq ?_
      refine C_region ?_
      refine L (S (P_move rfl) ?_)
      refine L (S (P_assign rfl) ?_)
      refine L_nil ?_
      refine then_n ?_
      refine C_seq ?_
      refine C_region ?_
      refine L (S (P_move rfl) ?_)
      refine L (S (P_move rfl) ?_)
      refine L (S (P_move rfl) ?_)
      refine L (S (P_indexAddr Tryz.underlying25 (csz_of ti_43) rfl rfl (j := i) rfl (by omega) (p := o + i * 3) (by omega)) ?_)
      refine L (S_loadS st_43 rfl hrow rfl ?_)
      refine L (S_callB hp hq rfl rfl hmr ?_)
      rintro w2 hm2
      refine L_nil ?_
      refine then_n ?_
      refine C_true rfl ?_
      refine C_seq ?_
      refine C_region ?_
      refine L (S (P_move rfl) ?_)
      refine L (S (P_assign rfl) ?_)
      refine L_nil ?_
      refine then_n ?_
      refine C_ret ?_
      refine blk_r ?_
      refine then_r ?_
      refine then_r ?_
      refine blk_r ?_
      refine then_r ?_
      refine F_ret1 Tryz.results47 rfl ?_
      exact ⟨by rw [findN_some ha hq hb], hmr.no hm2⟩
    · have hq' : p a = false := by simpa using hq
      refine C_seq ?_
      refine C_region ?_
      refine L (S (P_lt rfl rfl (decide_eq_true (by omega))) ?_)
      refine L_nil ?_
      refine then_n ?_
      refine C_seq ?_
      refine C_true rfl ?_
      refine C_skip ?_
      refine then_n ?_
      refine C_seq ?_
      refine C_block ?_
      refine C_seq ?_
      refine C_region ?_
      refine L (S (P_move rfl) ?_)
      refine L (S (P_assign rfl) ?_)
      refine L_nil ?_
      refine then_n ?_
      refine C_seq ?_
      refine C_region ?_
      refine L (S (P_move rfl) ?_)
      refine L (S (P_move rfl) ?_)
      refine L (S (P_move rfl) ?_)
      refine L (S (P_indexAddr Tryz.underlying25 (csz_of ti_43) rfl rfl (j := i) rfl (by omega) (p := o + i * 3) (by omega)) ?_)
      refine L (S_loadS st_43 rfl hrow rfl ?_)
      refine L (S_callB hp hq' rfl rfl hmr ?_)
      rintro w2 hm2
      refine L_nil ?_
      refine then_n ?_
      refine C_false rfl ?_
      refine C_skip ?_
      refine blk_n ?_
      refine then_n ?_
      refine C_region ?_
      refine L (S (P_add rfl rfl (wI64 (c := ((i + 1 : Nat) : Int)) (by omega))) ?_)
      refine L (S (P_move rfl) ?_)
      refine L_nil ?_
      refine then_n ?_
      refine ⟨rfl, i + 1, (.cons rfl (.cons rfl (.cons rfl (.cons rfl (.nil _))))), ⟨hmr.no hm2, by omega, fun x hx => ?_⟩, by omega⟩
      rw [take_at ha, List.mem_append] at hx
      rcases hx with hx | hx
      · exact hb x hx
      · have : x = a := by simpa using hx
        rw [this]; exact hq'
  · refine C_seq ?_
    refine C_region ?_
    refine L (S (P_lt rfl rfl (decide_eq_false (by omega))) ?_)
    refine L_nil ?_
    refine then_n ?_
    refine C_seq ?_
    refine C_false rfl ?_
    refine C_exit ?_
    refine then_x ?_
    refine then_x ?_
    refine blk_x ?_
    refine then_n ?_
    refine C_seq ?_
    refine C_region ?_
    refine L (S (P_assign rfl) ?_)
    refine L_nil ?_
    refine then_n ?_
    refine C_ret ?_
    refine F_ret1 Tryz.results47 rfl ?_
    refine ⟨by rw [findN_none fun x hx => hb x (by rw [List.take_of_length_le (by omega)]; exact hx)], hmr⟩
theorem column_fn {b : Nat} {nm : List UInt8} (hb : Blk w b [.string (str nm)] 9) : FnB Tryz.prog w (.func (.func 48) #[] #[.pointer (some ⟨b, 0, none⟩)]) colC (fun x => decide (x.name = nm)) := by
  refine ⟨_, [], [_], rfl, cb_48, fun w2 x hm => ?_⟩
  show Ret _ _ [.agg (colC x).toArray, .pointer (some ⟨b, 0, none⟩)] w2 _
  refine F_enter Tryz.func48 Tryz.ntmps48 rfl rfl ?_
  refine C_seq ?_
  refine C_region ?_
  refine L (S_box rfl ?_)
  rintro b1 w1 hb1 hm1 hn1
  refine L (S (P_assign rfl) ?_)
  refine L_nil ?_
  refine then_n ?_
  refine C_seq ?_
  refine C_region ?_
  refine L (S (P_fieldAddr fo_43_0 rfl) ?_)
  refine L (S_load sc_9 rfl (hb1.cell (i := 0) rfl) ?_)
  refine L (S_load sc_9 rfl (((hb.no hm).no hm1).cell (i := 0) rfl) ?_)
  refine L (S (P_eqT rfl rfl str_dec) ?_)
  refine L (S (P_assign rfl) ?_)
  refine L_nil ?_
  refine then_n ?_
  refine C_ret ?_
  refine F_ret1 Tryz.results48 rfl ?_
  exact ⟨rfl, hm1⟩
theorem column_ret {s : Tab} (hs : SlR w s.A (cellsL colC s.cols)) (hl : s.cols.length ≤ 1000000) (nm : List UInt8) : Ret Tryz.prog 21 [.agg (tabC s).toArray, .string (str nm)] w fun v w' => v = .int .i64 (findN (fun x => decide (x.name = nm)) s.cols) ∧ Mv No w w' := by
  refine F_enter Tryz.func21 Tryz.ntmps21 rfl rfl ?_
  refine C_seq ?_
  refine C_region ?_
  refine L (S_box rfl ?_)
  rintro b1 w1 hb1 hm1 hn1
  refine L (S_box rfl ?_)
  rintro b2 w2 hb2 hm2 hn2
  refine L (S (P_assign rfl) ?_)
  refine L_nil ?_
  refine then_n ?_
  refine C_seq ?_
  refine C_region ?_
  refine L (S (P_fieldAddr fo_27_1 rfl) ?_)
  refine L (S_load sc_25 rfl ((hb1.no hm2).cell (i := 1) rfl) ?_)
  refine L (S (P_makeFunc rfl rfl) ?_)
  refine L (S_call cb_47 rfl ((ixCol_ret rfl ((hs.no hm1).no hm2) hl (column_fn hb2))) ?_)
  rintro _ w3 ⟨rfl, hm3⟩
  refine L (S (P_assign rfl) ?_)
  refine L_nil ?_
  refine then_n ?_
  refine C_ret ?_
  refine F_ret1 Tryz.results21 rfl ?_
  exact ⟨rfl, (hm1.no hm2).no hm3⟩
end
end Go.Proofs.YtnoioimphcmeiaaGreatDoor
