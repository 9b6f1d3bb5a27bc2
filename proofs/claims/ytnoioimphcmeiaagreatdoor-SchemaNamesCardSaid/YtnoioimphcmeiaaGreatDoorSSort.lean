import Derived.Test.YtnoioimphcmeiaaGreatDoorSCloneS
namespace Go.Proofs.YtnoioimphcmeiaaGreatDoor
open Go.RowKit
set_option maxRecDepth 20000
set_option maxHeartbeats 1000000

/-- The order of names. -/
def ltN (a b : List UInt8) : Bool := Op.bytesLess (str a).toList (str b).toList
section
variable {α : Type}
/-- Where a thing is put: behind the last that it is not below. -/
def plc (lt : α → α → Bool) (x : α) (l : List α) : Nat → Nat
  | 0 => 0
  | n + 1 => if (l[n]?.any fun y => lt x y) = true then plc lt x l n else n + 1
def insB (lt : α → α → Bool) (x : α) (l : List α) : List α := l.take (plc lt x l l.length) ++ x :: l.drop (plc lt x l l.length)
def sortI (lt : α → α → Bool) (l : List α) : List α := l.foldl (fun out x => insB lt x out) []
theorem plc_le (lt : α → α → Bool) (x : α) (l : List α) : ∀ n, plc lt x l n ≤ n
  | 0 => Nat.le_refl _
  | n + 1 => by
    have := plc_le lt x l n
    unfold plc
    split <;> omega
theorem insB_len (lt : α → α → Bool) (x : α) (l : List α) : (insB lt x l).length = l.length + 1 := by
  have := plc_le lt x l l.length
  unfold insB
  rw [List.length_append, List.length_cons, List.length_take, List.length_drop]
  omega
theorem sortI_snoc (lt : α → α → Bool) (l : List α) (x : α) : sortI lt (l ++ [x]) = insB lt x (sortI lt l) := by
  unfold sortI; rw [List.foldl_append]; rfl
theorem sortI_len (lt : α → α → Bool) (l : List α) : (sortI lt l).length = l.length := by
  have key : ∀ (l acc : List α), (l.foldl (fun out x => insB lt x out) acc).length = acc.length + l.length := by
    intro l
    induction l with
    | nil => intro acc; rfl
    | cons x r ih => intro acc; rw [List.foldl_cons, ih, insB_len, List.length_cons]; omega
  have := key l []
  simpa [sortI] using this
theorem mem_insB {lt : α → α → Bool} {x y : α} {l : List α} (h : y ∈ insB lt x l) : y = x ∨ y ∈ l := by
  unfold insB at h
  rcases List.mem_append.1 h with h | h
  · exact .inr (List.mem_of_mem_take h)
  · rcases List.mem_cons.1 h with h | h
    · exact .inl h
    · exact .inr (List.mem_of_mem_drop h)
theorem mem_sortI {lt : α → α → Bool} {y : α} {l : List α} (h : y ∈ sortI lt l) : y ∈ l := by
  have key : ∀ (l acc : List α), y ∈ l.foldl (fun out x => insB lt x out) acc → y ∈ acc ∨ y ∈ l := by
    intro l
    induction l with
    | nil => intro acc h; exact .inl h
    | cons x r ih =>
      intro acc h
      rw [List.foldl_cons] at h
      rcases ih _ h with h | h
      · rcases mem_insB h with h | h
        · exact .inr (by rw [h]; exact List.mem_cons_self ..)
        · exact .inl h
      · exact .inr (List.mem_cons_of_mem _ h)
  rcases key l [] h with h | h
  · simp at h
  · exact h
theorem map_insB {β : Type} {lt : α → α → Bool} {lt' : β → β → Bool} {g : α → β} (hg : ∀ a b, lt a b = lt' (g a) (g b)) (x : α) (l : List α) : (insB lt x l).map g = insB lt' (g x) (l.map g) := by
  have hp : ∀ n, plc lt x l n = plc lt' (g x) (l.map g) n := by
    intro n
    induction n with
    | zero => rfl
    | succ n ih =>
      unfold plc
      rw [ih, List.getElem?_map]
      have : (l[n]?.any fun y => lt x y) = ((l[n]?.map g).any fun y => lt' (g x) y) := by cases l[n]? <;> simp [hg]
      rw [this]
  unfold insB
  rw [List.length_map, ← hp, List.map_append, List.map_cons, List.map_take, List.map_drop]
theorem map_sortI {β : Type} {lt : α → α → Bool} {lt' : β → β → Bool} {g : α → β} (hg : ∀ a b, lt a b = lt' (g a) (g b)) (l : List α) : (sortI lt l).map g = sortI lt' (l.map g) := by
  have key : ∀ (l acc : List α), (l.foldl (fun out x => insB lt x out) acc).map g = (l.map g).foldl (fun out x => insB lt' x out) (acc.map g) := by
    intro l
    induction l with
    | nil => intro acc; rfl
    | cons x r ih => intro acc; rw [List.foldl_cons, ih, map_insB hg, List.map_cons, List.foldl_cons]
  exact key l []
theorem splice_take {cs vs : List Value} {o n : Nat} (h : o + vs.length ≤ n) (hc : o + vs.length ≤ cs.length) : (splice cs o vs).take n = splice (cs.take n) o vs := by
  unfold splice
  have h1 : (cs.take o ++ vs).length = o + vs.length := by rw [List.length_append, List.length_take]; omega
  rw [List.take_append, h1, List.take_of_length_le (by omega), List.take_take, Nat.min_eq_left (by omega), List.drop_take]
theorem cellsL_splice {f : α → List Value} {m : Nat} (h : ∀ a, (f a).length = m) (l : List α) (i : Nat) (a : α) (hi : i < l.length) : splice (cellsL f l) (i * m) (f a) = cellsL f (l.set i a) := by
  unfold splice
  rw [h, show i * m + m = (i + 1) * m by rw [Nat.add_mul, Nat.one_mul], cellsL_take h, cellsL_drop h, List.set_eq_take_append_cons_drop, if_pos hi, cellsL_app, cellsL_cons, List.append_assoc]
theorem splice_len {cs vs : List Value} {o : Nat} (hc : o + vs.length ≤ cs.length) : (splice cs o vs).length = cs.length := by
  unfold splice
  simp only [List.length_append, List.length_take, List.length_drop]
  omega
end
section
variable {P : Program} {n : Nat} {N : Nxt} {Q : Post} {f : Fr} {ds : List Deferred} {w : World}
variable {d : Nat} {x y : Operand} {t ty : TypeId} {pos : String} {af : Array Edge} {g : Option (Nat × Bool)}
/-- A function value that says which of two things comes first. -/
def FnC (P : Program) (fv : Value) {α : Type} (cells : α → List Value) (lt : α → α → Bool) : Prop :=
  ∃ (k : FuncId) (first captured : List Value), fv = .func (.func k) first.toArray captured.toArray ∧ callable P k = true ∧
    ∀ (w : World) (x y : α), Ret P k (first ++ [.agg (cells x).toArray, .agg (cells y).toArray] ++ captured) w fun v w' => ∃ c : Int, v = .int .i64 c ∧ decide (c < 0) = lt x y ∧ Mv No w w'
theorem S_callC {fv : Value} {α : Type} {cells : α → List Value} {lt : α → α → Bool} {c : Operand} {l : List Operand} {ats : Array TypeId} {x y : α} {β : Bool} (hp : FnC P fv cells lt) (hβ : lt x y = β) (hf : ev f c = some fv) (hl : evs f l = some [.agg (cells x).toArray, .agg (cells y).toArray]) (h : ∀ (q : Int) w', decide (q < 0) = β → Mv No w w' → N ((d, .int .i64 q) :: f) ds w') (hn : Nat.blt d n = true := by rfl) :
    opF P n ⟨some d, .call { callee := .value c, args := l.toArray, argTypes := ats }, ty, pos, af, g⟩ N Q f ds w := by
  obtain ⟨k, a, b, rfl, h2, h3⟩ := hp
  exact S_callv h2 hf hl (h3 w x y) (fun v w' ⟨q, hv, hq, hw⟩ => by subst hv; subst hβ; exact h q w' hq hw) hn
/-- A store of a struct into a slice of one's own. -/
theorem S_storeOwnS {α : Type} {cells : α → List Value} {m b i p len c base by_ : Nat} {e : TypeId} {z : Option Value} {xs : List α} {a : α} (hcl : ∀ a, (cells a).length = m) (hs : tinfo P t = some (z, m, by_)) (hx : ev f x = some (.pointer (some ⟨b, p, none⟩))) (hp : p = i * m) (hv : ev f y = some (.agg (cells a).toArray)) (h1 : ∀ v ∈ cells a, v.oneCell' = true)
    (ho : w.ownsRow base e m (.slice (some ⟨b, 0, none⟩) len c) len (cellsL cells xs)) (hlen : xs.length = len) (hi : i < len)
    (h : ∀ w', w'.ownsRow base e m (.slice (some ⟨b, 0, none⟩) len c) len (cellsL cells (xs.set i a)) → Mv (At b) w w' → N f ds w') : opF P n ⟨none, .store t x y, ty, pos, af, g⟩ N Q f ds w := by
  subst hp
  obtain ⟨b', cs, hA, hb, hblk, hlc, hcm, hcs, ht⟩ := own_blk ho (by omega)
  cases hA
  have hle : i * m + m ≤ len * m := by
    have := Nat.mul_le_mul_right m (show i + 1 ≤ len from hi)
    rwa [Nat.add_mul, Nat.one_mul] at this
  have hle2 := Nat.mul_le_mul_right m hlc
  refine S_storeS hs hx hv h1 (hcl a) hblk (by have := hcl a; omega) (fun w' hb' hm' => h w' ?_ hm')
  refine own_mk hb hb' hlc hcm (by rw [splice_len (by rw [hcl]; omega), hcs]) ?_
  rw [splice_take (by rw [hcl]; omega) (by rw [hcl]; omega), ht]
  exact cellsL_splice hcl xs i a (by omega)
end
theorem mvAt {b : Nat} {w1 w2 w3 : World} (h : Mv (At b) w1 w2) (k : Mv (At b) w2 w3) : Mv (At b) w1 w3 := h.trans k fun _ _ h => h
theorem own_at {α : Type} {cells : α → List Value} {m b len c base : Nat} {e : TypeId} {w : World} (hcl : ∀ a, (cells a).length = m) {xs : List α} {i : Nat} {a : α} (ho : w.ownsRow base e m (.slice (some ⟨b, 0, none⟩) len c) len (cellsL cells xs)) (ha : xs[i]? = some a) : Row w b (0 + i * m) (cells a) := by
  rcases (own_slr ho).1 with h | ⟨b', o, hA, hr⟩
  · have h1 := cellsL_len hcl xs
    rw [h] at h1
    have hi := (List.getElem?_eq_some_iff.1 ha).1
    have h2 : xs.length * m = 0 := h1.symm
    rcases Nat.mul_eq_zero.1 h2 with h3 | h3
    · omega
    · have : cells a = [] := List.eq_nil_of_length_eq_zero (by rw [hcl, h3])
      rw [this]; exact Row.nil
  · cases hA
    exact cellsL_row hcl hr ha
section
variable {w : World}
theorem nan_ret (s : ByteArray) : Ret Tryz.prog 99 [.string s] w fun v w' => v = .bool false ∧ Mv No w w' := by
  refine F_enter Tryz.func99 Tryz.ntmps99 rfl rfl ?_
  refine C_seq ?_
  refine C_region ?_
  refine L (S (P_assign rfl) ?_)
  refine L_nil ?_
  refine then_n ?_
  refine C_seq ?_
  refine C_region ?_
  refine L (S (P_move rfl) ?_)
  refine L (S (P_move rfl) ?_)
  refine L (S (P_neT rfl rfl (decide_eq_false (fun h => h rfl))) ?_)
  refine L (S (P_assign rfl) ?_)
  refine L_nil ?_
  refine then_n ?_
  refine C_ret ?_
  refine F_ret1 Tryz.results99 rfl ?_
  exact ⟨rfl, Mv.refl w⟩
theorem compare_ret (a b : List UInt8) : Ret Tryz.prog 61 [.string (str a), .string (str b)] w fun v w' => ∃ c : Int, v = .int .i64 c ∧ decide (c < 0) = ltN a b ∧ Mv No w w' := by
  refine F_enter Tryz.func61 Tryz.ntmps61 rfl rfl ?_
  cases hlt : ltN a b with
  | true =>
    refine C_seq ?_
    refine C_region ?_
    refine L (S (P_assign rfl) ?_)
    refine L_nil ?_
    refine then_n ?_
    refine C_seq ?_
    refine C_region ?_
    refine L (S (P_move rfl) ?_)
    refine L (S_call cb_99 rfl ((nan_ret _)) ?_)
    rintro _ w1 ⟨rfl, hm1⟩
    refine L (S (P_assign rfl) ?_)
    refine L_nil ?_
    refine then_n ?_
    refine C_seq ?_
    refine C_region ?_
    refine L (S (P_move rfl) ?_)
    refine L (S_call cb_99 rfl ((nan_ret _)) ?_)
    rintro _ w2 ⟨rfl, hm2⟩
    refine L (S (P_assign rfl) ?_)
    refine L_nil ?_
    refine then_n ?_
    refine C_seq ?_
    refine C_seq ?_
    refine C_region ?_
    refine L (S (P_move rfl) ?_)
    refine L_nil ?_
    refine then_n ?_
    refine C_false rfl ?_
    refine C_skip ?_
    refine then_n ?_
    refine C_seq ?_
    refine C_seq ?_
    refine C_region ?_
    refine L (S (P_move rfl) ?_)
    refine L_nil ?_
    refine then_n ?_
    refine C_false rfl ?_
    refine C_skip ?_
    refine then_n ?_
    refine C_seq ?_
    refine C_seq ?_
    refine C_region ?_
    refine L (S (P_move rfl) ?_)
    refine L (S (P_move rfl) ?_)
    refine L (S (P_ltT rfl rfl hlt) ?_)
    refine L_nil ?_
    refine then_n ?_
    refine C_true rfl ?_
    refine C_seq ?_
    refine C_region ?_
    refine L (S (P_assign rfl) ?_)
    refine L_nil ?_
    refine then_n ?_
    refine C_ret ?_
    refine then_r ?_
    refine F_ret1 Tryz.results61 rfl ?_
    exact ⟨_, rfl, rfl, hm1.no hm2⟩
  | false =>
    cases hgt : !(Op.bytesLess (str a).toList (str b).toList || (str a).toList == (str b).toList) with
    | true =>
      refine C_seq ?_
      refine C_region ?_
      refine L (S (P_assign rfl) ?_)
      refine L_nil ?_
      refine then_n ?_
      refine C_seq ?_
      refine C_region ?_
      refine L (S (P_move rfl) ?_)
      refine L (S_call cb_99 rfl ((nan_ret _)) ?_)
      rintro _ w1 ⟨rfl, hm1⟩
      refine L (S (P_assign rfl) ?_)
      refine L_nil ?_
      refine then_n ?_
      refine C_seq ?_
      refine C_region ?_
      refine L (S (P_move rfl) ?_)
      refine L (S_call cb_99 rfl ((nan_ret _)) ?_)
      rintro _ w2 ⟨rfl, hm2⟩
      refine L (S (P_assign rfl) ?_)
      refine L_nil ?_
      refine then_n ?_
      refine C_seq ?_
      refine C_seq ?_
      refine C_region ?_
      refine L (S (P_move rfl) ?_)
      refine L_nil ?_
      refine then_n ?_
      refine C_false rfl ?_
      refine C_skip ?_
      refine then_n ?_
      refine C_seq ?_
      refine C_seq ?_
      refine C_region ?_
      refine L (S (P_move rfl) ?_)
      refine L_nil ?_
      refine then_n ?_
      refine C_false rfl ?_
      refine C_skip ?_
      refine then_n ?_
      refine C_seq ?_
      refine C_seq ?_
      refine C_region ?_
      refine L (S (P_move rfl) ?_)
      refine L (S (P_move rfl) ?_)
      refine L (S (P_ltT rfl rfl hlt) ?_)
      refine L_nil ?_
      refine then_n ?_
      refine C_false rfl ?_
      refine C_skip ?_
      refine then_n ?_
      refine C_seq ?_
      refine C_seq ?_
      refine C_region ?_
      refine L (S (P_move rfl) ?_)
      refine L (S (P_move rfl) ?_)
      refine L (S (P_gtT rfl rfl hgt) ?_)
      refine L_nil ?_
      refine then_n ?_
      refine C_true rfl ?_
      refine C_seq ?_
      refine C_region ?_
      refine L (S (P_assign rfl) ?_)
      refine L_nil ?_
      refine then_n ?_
      refine C_ret ?_
      refine then_r ?_
      refine F_ret1 Tryz.results61 rfl ?_
      exact ⟨_, rfl, rfl, hm1.no hm2⟩
    | false =>
      refine C_seq ?_
      refine C_region ?_
      refine L (S (P_assign rfl) ?_)
      refine L_nil ?_
      refine then_n ?_
      refine C_seq ?_
      refine C_region ?_
      refine L (S (P_move rfl) ?_)
      refine L (S_call cb_99 rfl ((nan_ret _)) ?_)
      rintro _ w1 ⟨rfl, hm1⟩
      refine L (S (P_assign rfl) ?_)
      refine L_nil ?_
      refine then_n ?_
      refine C_seq ?_
      refine C_region ?_
      refine L (S (P_move rfl) ?_)
      refine L (S_call cb_99 rfl ((nan_ret _)) ?_)
      rintro _ w2 ⟨rfl, hm2⟩
      refine L (S (P_assign rfl) ?_)
      refine L_nil ?_
      refine then_n ?_
      refine C_seq ?_
      refine C_seq ?_
      refine C_region ?_
      refine L (S (P_move rfl) ?_)
      refine L_nil ?_
      refine then_n ?_
      refine C_false rfl ?_
      refine C_skip ?_
      refine then_n ?_
      refine C_seq ?_
      refine C_seq ?_
      refine C_region ?_
      refine L (S (P_move rfl) ?_)
      refine L_nil ?_
      refine then_n ?_
      refine C_false rfl ?_
      refine C_skip ?_
      refine then_n ?_
      refine C_seq ?_
      refine C_seq ?_
      refine C_region ?_
      refine L (S (P_move rfl) ?_)
      refine L (S (P_move rfl) ?_)
      refine L (S (P_ltT rfl rfl hlt) ?_)
      refine L_nil ?_
      refine then_n ?_
      refine C_false rfl ?_
      refine C_skip ?_
      refine then_n ?_
      refine C_seq ?_
      refine C_seq ?_
      refine C_region ?_
      refine L (S (P_move rfl) ?_)
      refine L (S (P_move rfl) ?_)
      refine L (S (P_gtT rfl rfl hgt) ?_)
      refine L_nil ?_
      refine then_n ?_
      refine C_false rfl ?_
      refine C_skip ?_
      refine then_n ?_
      refine C_seq ?_
      refine C_region ?_
      refine L (S (P_assign rfl) ?_)
      refine L_nil ?_
      refine then_n ?_
      refine C_ret ?_
      refine F_ret1 Tryz.results61 rfl ?_
      exact ⟨_, rfl, rfl, hm1.no hm2⟩
theorem tab_cmp : FnC Tryz.prog (.func (.func 60) #[] #[]) tabC (fun x y => ltN x.name y.name) := by
  refine ⟨_, [], [], rfl, cb_60, fun w2 x y => ?_⟩
  show Ret _ _ [.agg (tabC x).toArray, .agg (tabC y).toArray] w2 _
  refine F_enter Tryz.func60 Tryz.ntmps60 rfl rfl ?_
  refine C_seq ?_
  refine C_region ?_
  refine L (S_box rfl ?_)
  rintro b1 w1 hb1 hm1 hn1
  refine L (S_box rfl ?_)
  rintro b3 w3 hb3 hm3 hn3
  refine L (S (P_assign rfl) ?_)
  refine L_nil ?_
  refine then_n ?_
  refine C_seq ?_
  refine C_region ?_
  refine L (S (P_fieldAddr fo_27_0 rfl) ?_)
  refine L (S_load sc_9 rfl ((hb1.no hm3).cell (i := 0) rfl) ?_)
  refine L (S (P_fieldAddr fo_27_0 rfl) ?_)
  refine L (S_load sc_9 rfl (hb3.cell (i := 0) rfl) ?_)
  refine L (S_call cb_61 rfl ((compare_ret x.name y.name)) ?_)
  rintro _ w4 ⟨c, rfl, hc, hm4⟩
  refine L (S (P_assign rfl) ?_)
  refine L_nil ?_
  refine then_n ?_
  refine C_ret ?_
  refine F_ret1 Tryz.results60 rfl ?_
  exact ⟨c, rfl, hc, (hm1.no hm3).no hm4⟩
theorem insTab_ret {xs : List Tab} {b c n base : Nat} (hn : xs.length = n) (h0 : 0 < n) (hl : n ≤ 1000) (ho : w.ownsRow base 27 5 (.slice (some ⟨b, 0, none⟩) n c) n (cellsL tabC xs)) {fv : Value} {lt : Tab → Tab → Bool} (hf : FnC Tryz.prog fv tabC lt) : Ret Tryz.prog 117 [.slice (some ⟨b, 0, none⟩) n c, .int .i64 0, .int .i64 (n : Int), fv] w fun _ w' => w'.ownsRow base 27 5 (.slice (some ⟨b, 0, none⟩) n c) n (cellsL tabC (sortI lt xs)) ∧ Mv (At b) w w' := by
  refine F_enter Tryz.func117 Tryz.ntmps117 rfl rfl ?_
  refine C_seq ?_
  refine C_region ?_
  refine L (S (P_move rfl) ?_)
  refine L (S (P_add rfl rfl (wI64 (c := ((1 : Nat) : Int)) (by omega))) ?_)
  refine L (S (P_assign rfl) ?_)
  refine L_nil ?_
  refine then_n ?_
  refine C_block ?_
  refine C_loop (γ := Nat) (fun i => [(0, .slice (some ⟨b, 0, none⟩) n c), (1, .int .i64 0), (2, .int .i64 (n : Int)), (3, fv), (8, .int .i64 (i : Int))]) (fun i wr => 1 ≤ i ∧ i ≤ n ∧ wr.ownsRow base 27 5 (.slice (some ⟨b, 0, none⟩) n c) n (cellsL tabC (sortI lt (xs.take i) ++ xs.drop i)) ∧ Mv (At b) w wr) (fun i => n - i) 1 (.cons rfl (.cons rfl (.cons rfl (.cons rfl (.cons rfl (.nil _)))))) ⟨Nat.le_refl _, h0, ?_, Mv.refl w⟩ ?_
  · have e : sortI lt (xs.take 1) ++ xs.drop 1 = xs := by
      cases xs with
      | nil => rfl
      | cons x r => rfl
    rw [e]; exact ho
  rintro i wr ⟨h1, hi, hor, hmr⟩
  by_cases hlt : i < n
  · have ha := List.getElem?_eq_getElem (show i < xs.length by omega)
    generalize xs[i] = x at ha
    have hsl : (sortI lt (xs.take i)).length = i := by rw [sortI_len, List.length_take]; omega
    have hsn : sortI lt (xs.take (i + 1)) = insB lt x (sortI lt (xs.take i)) := by rw [take_at ha, sortI_snoc]
    rw [drop_at ha] at hor
    have hrl : (xs.drop (i + 1)).length = n - (i + 1) := by rw [List.length_drop, hn]
    generalize sortI lt (xs.take i) = out at *
    obtain ⟨rest, hrest⟩ : ∃ r, r = xs.drop (i + 1) := ⟨_, rfl⟩
    rw [← hrest] at hor hrl
    refine C_seq ?_
    refine C_seq ?_
    refine C_region ?_
    refine L (S (P_move rfl) ?_)
    refine L (S (P_move rfl) ?_)
    refine L (S (P_lt rfl rfl (decide_eq_true (by omega))) ?_)
    refine L_nil ?_
    refine then_n ?_
    refine C_true rfl ?_
    refine C_skip ?_
    refine then_n ?_
    refine C_seq ?_
    refine C_block ?_
    refine C_seq ?_
    refine C_region ?_
    refine L (S (P_move rfl) ?_)
    refine L (S (P_assign rfl) ?_)
    refine L_nil ?_
    refine then_n ?_
    refine C_block ?_
    refine C_loop (γ := Nat) (fun j => [(0, .slice (some ⟨b, 0, none⟩) n c), (1, .int .i64 0), (2, .int .i64 (n : Int)), (3, fv), (8, .int .i64 (i : Int)), (9, .int .i64 (j : Int))]) (fun j wq => j ≤ i ∧ wq.ownsRow base 27 5 (.slice (some ⟨b, 0, none⟩) n c) n (cellsL tabC (out.take j ++ x :: out.drop j ++ rest)) ∧ plc lt x out i = plc lt x out j ∧ Mv (At b) w wq) (fun j => j) i (.cons rfl (.cons rfl (.cons rfl (.cons rfl (.cons rfl (.cons rfl (.nil _))))))) ⟨Nat.le_refl _, ?_, rfl, hmr⟩ ?_
    · rw [List.take_of_length_le (by omega), List.drop_eq_nil_of_le (by omega), List.append_assoc]; exact hor
    rintro j wq ⟨hj, hoq, hp, hmq⟩
    have hdone : plc lt x out j = j → wq.ownsRow base 27 5 (.slice (some ⟨b, 0, none⟩) n c) n (cellsL tabC (insB lt x out ++ rest)) := fun h => by
      unfold insB
      rw [hsl, hp, h]; exact hoq
    rcases Nat.eq_zero_or_pos j with rfl | hj0
    · refine C_seq ?_
      refine C_seq ?_
      refine C_drawQ 17 mixed rfl (fun hH => ?_)
      refine H_pure (i := 0) rfl (PureV.toS (P_move rfl)) ?_ (by assumption) (by decide +kernel) (by decide +kernel) (by decide +kernel) (fun _ _ _ _ h => h) rfl rfl rfl
      refine H_pure (i := 1) rfl (PureV.toS (P_move rfl)) ?_ (by assumption) (by decide +kernel) (by decide +kernel) (by decide +kernel) (fun _ _ _ _ h => h) rfl rfl rfl
      refine H_pure (i := 2) rfl (PureV.toS (P_gt rfl rfl (decide_eq_false (by omega)))) ?_ (by assumption) (by decide +kernel) (by decide +kernel) (by decide +kernel) (fun _ _ _ _ h => h) rfl rfl rfl
      refine H_pure (i := 3) rfl (PureV.toS (P_move rfl)) ?_ (by assumption) (by decide +kernel) (by decide +kernel) (by decide +kernel) (fun _ _ _ _ h => h) rfl rfl rfl
      refine H_pureN (i := 4) (j := 3) (dj := 21) (b := true) (b' := false) rfl rfl ?_ (by assumption) (by decide +kernel) (by decide +kernel) (by decide +kernel) (fun _ _ _ _ h => h) rfl rfl rfl rfl rfl
      refine H_pureN (i := 5) (j := 3) (dj := 21) (b := true) (b' := false) rfl rfl ?_ (by assumption) (by decide +kernel) (by decide +kernel) (by decide +kernel) (fun _ _ _ _ h => h) rfl rfl rfl rfl rfl
      refine H_pureN (i := 6) (j := 3) (dj := 21) (b := true) (b' := false) rfl rfl ?_ (by assumption) (by decide +kernel) (by decide +kernel) (by decide +kernel) (fun _ _ _ _ h => h) rfl rfl rfl rfl rfl
      refine H_pureN (i := 7) (j := 3) (dj := 21) (b := true) (b' := false) rfl rfl ?_ (by assumption) (by decide +kernel) (by decide +kernel) (by decide +kernel) (fun _ _ _ _ h => h) rfl rfl rfl rfl rfl
      refine H_pureN (i := 8) (j := 3) (dj := 21) (b := true) (b' := false) rfl rfl ?_ (by assumption) (by decide +kernel) (by decide +kernel) (by decide +kernel) (fun _ _ _ _ h => h) rfl rfl rfl rfl rfl
      refine H_pureN (i := 9) (j := 3) (dj := 21) (b := true) (b' := false) rfl rfl ?_ (by assumption) (by decide +kernel) (by decide +kernel) (by decide +kernel) (fun _ _ _ _ h => h) rfl rfl rfl rfl rfl
      refine H_pureN (i := 10) (j := 3) (dj := 21) (b := true) (b' := false) rfl rfl ?_ (by assumption) (by decide +kernel) (by decide +kernel) (by decide +kernel) (fun _ _ _ _ h => h) rfl rfl rfl rfl rfl
      refine H_pureN (i := 11) (j := 3) (dj := 21) (b := true) (b' := false) rfl rfl ?_ (by assumption) (by decide +kernel) (by decide +kernel) (by decide +kernel) (fun _ _ _ _ h => h) rfl rfl rfl rfl rfl
      refine H_pureN (i := 12) (j := 3) (dj := 21) (b := true) (b' := false) rfl rfl ?_ (by assumption) (by decide +kernel) (by decide +kernel) (by decide +kernel) (fun _ _ _ _ h => h) rfl rfl rfl rfl rfl
      refine H_pureN (i := 13) (j := 3) (dj := 21) (b := true) (b' := false) rfl rfl ?_ (by assumption) (by decide +kernel) (by decide +kernel) (by decide +kernel) (fun _ _ _ _ h => h) rfl rfl rfl rfl rfl
      refine H_pureN (i := 14) (j := 3) (dj := 21) (b := true) (b' := false) rfl rfl ?_ (by assumption) (by decide +kernel) (by decide +kernel) (by decide +kernel) (fun _ _ _ _ h => h) rfl rfl rfl rfl rfl
      refine H_pureN (i := 15) (j := 3) (dj := 21) (b := true) (b' := false) rfl rfl ?_ (by assumption) (by decide +kernel) (by decide +kernel) (by decide +kernel) (fun _ _ _ _ h => h) rfl rfl rfl rfl rfl
      refine H_pure (i := 16) rfl (PureV.toS (P_pickF rfl rfl)) ?_ (by assumption) (by decide +kernel) (by decide +kernel) (by decide +kernel) (fun _ _ _ _ h => h) rfl rfl rfl
      refine H_done (by decide +kernel) ?_
      refine then_n ?_
      refine C_false rfl ?_
      refine C_exit ?_
      refine then_x ?_
      refine then_x ?_
      refine blk_x ?_
      refine blk_n ?_
      refine then_n ?_
      refine C_region ?_
      refine L (S (P_move rfl) ?_)
      refine L (S (P_add rfl rfl (wI64 (c := ((i + 1 : Nat) : Int)) (by omega))) ?_)
      refine L (S (P_assign rfl) ?_)
      refine L_nil ?_
      refine then_n ?_
      exact ⟨rfl, i + 1, (.cons rfl (.cons rfl (.cons rfl (.cons rfl (.cons rfl (.nil _)))))), ⟨by omega, by omega, by rw [hsn, ← hrest]; exact own_no (hdone rfl) hH, hmq.no hH⟩, by omega⟩
    obtain ⟨k, rfl⟩ : ∃ k, j = k + 1 := ⟨j - 1, by omega⟩
    have hy := List.getElem?_eq_getElem (show k < out.length by omega)
    generalize out[k] = y at hy
    have htk := take_at hy
    have hdr := drop_at hy
    have hpl : plc lt x out (k + 1) = if lt x y = true then plc lt x out k else k + 1 := by
      rw [show plc lt x out (k + 1) = if (out[k]?.any fun y => lt x y) = true then plc lt x out k else k + 1 from rfl, hy]; rfl
    have hL : (out.take (k + 1)).length = k + 1 := by rw [List.length_take]; omega
    have hLk : (out.take k).length = k := by rw [List.length_take]; omega
    have hgx : (out.take (k + 1) ++ x :: out.drop (k + 1) ++ rest)[k + 1]? = some x := by
      rw [List.append_assoc, List.getElem?_append_right (by omega), hL, Nat.sub_self]; rfl
    have hgy : (out.take (k + 1) ++ x :: out.drop (k + 1) ++ rest)[k]? = some y := by
      rw [List.append_assoc, List.getElem?_append_left (by omega), List.getElem?_take_of_lt (by omega)]; exact hy
    have hrx := own_at tabC_len hoq hgx
    have hry := own_at tabC_len hoq hgy
    have hlen : (out.take (k + 1) ++ x :: out.drop (k + 1) ++ rest).length = n := by
      simp only [List.length_append, List.length_cons, List.length_take, List.length_drop, hrl]
      omega
    have hset : ((out.take (k + 1) ++ x :: out.drop (k + 1) ++ rest).set (k + 1) y).set k x = out.take k ++ x :: out.drop k ++ rest := by
      rw [htk, hdr]
      simp [List.set_append, hLk]
    cases hxy : lt x y with
    | false =>
      rw [hxy, if_neg (by decide)] at hpl
      refine C_seq ?_
      refine C_seq ?_
      refine C_drawQ 17 mixed rfl (fun hH => ?_)
      refine H_pure (i := 0) rfl (PureV.toS (P_move rfl)) ?_ (by assumption) (by decide +kernel) (by decide +kernel) (by decide +kernel) (fun _ _ _ _ h => h) rfl rfl rfl
      refine H_pure (i := 1) rfl (PureV.toS (P_move rfl)) ?_ (by assumption) (by decide +kernel) (by decide +kernel) (by decide +kernel) (fun _ _ _ _ h => h) rfl rfl rfl
      refine H_pure (i := 2) rfl (PureV.toS (P_gt rfl rfl (decide_eq_true (by omega)))) ?_ (by assumption) (by decide +kernel) (by decide +kernel) (by decide +kernel) (fun _ _ _ _ h => h) rfl rfl rfl
      refine H_pure (i := 3) rfl (PureV.toS (P_move rfl)) ?_ (by assumption) (by decide +kernel) (by decide +kernel) (by decide +kernel) (fun _ _ _ _ h => h) rfl rfl rfl
      refine H_pureY (i := 4) (j := 3) (dj := 21) (b := true) rfl (PureV.toS (P_move rfl)) rfl ?_ (by assumption) (by decide +kernel) (by decide +kernel) (by decide +kernel) (fun _ _ _ _ h => h) rfl rfl rfl rfl
      refine H_pureY (i := 5) (j := 3) (dj := 21) (b := true) rfl (PureV.toS (P_move rfl)) rfl ?_ (by assumption) (by decide +kernel) (by decide +kernel) (by decide +kernel) (fun _ _ _ _ h => h) rfl rfl rfl rfl
      refine H_pureY (i := 6) (j := 3) (dj := 21) (b := true) rfl (PureV.toS (P_move rfl)) rfl ?_ (by assumption) (by decide +kernel) (by decide +kernel) (by decide +kernel) (fun _ _ _ _ h => h) rfl rfl rfl rfl
      refine H_pureY (i := 7) (j := 3) (dj := 21) (b := true) rfl (PureV.toS (P_indexAddr Tryz.underlying34 (csz_of ti_27) rfl rfl (j := k + 1) rfl (by omega) (p := 0 + (k + 1) * 5) rfl)) rfl ?_ (by assumption) (by decide +kernel) (by decide +kernel) (by decide +kernel) (fun _ _ _ _ h => h) rfl rfl rfl rfl
      refine H_pureY (i := 8) (j := 3) (dj := 21) (b := true) rfl (PS_loadS st_27 rfl (fun _ h => hrx.no h) rfl) rfl ?_ (by assumption) (by decide +kernel) (by decide +kernel) (by decide +kernel) (fun _ _ _ _ h => h) rfl rfl rfl rfl
      refine H_pureY (i := 9) (j := 3) (dj := 21) (b := true) rfl (PureV.toS (P_move rfl)) rfl ?_ (by assumption) (by decide +kernel) (by decide +kernel) (by decide +kernel) (fun _ _ _ _ h => h) rfl rfl rfl rfl
      refine H_pureY (i := 10) (j := 3) (dj := 21) (b := true) rfl (PureV.toS (P_move rfl)) rfl ?_ (by assumption) (by decide +kernel) (by decide +kernel) (by decide +kernel) (fun _ _ _ _ h => h) rfl rfl rfl rfl
      refine H_pureY (i := 11) (j := 3) (dj := 21) (b := true) rfl (PureV.toS (P_sub rfl rfl (wI64 (c := ((k : Nat) : Int)) (by omega)))) rfl ?_ (by assumption) (by decide +kernel) (by decide +kernel) (by decide +kernel) (fun _ _ _ _ h => h) rfl rfl rfl rfl
      refine H_pureY (i := 12) (j := 3) (dj := 21) (b := true) rfl (PureV.toS (P_indexAddr Tryz.underlying34 (csz_of ti_27) rfl rfl (j := k) rfl (by omega) (p := 0 + k * 5) rfl)) rfl ?_ (by assumption) (by decide +kernel) (by decide +kernel) (by decide +kernel) (fun _ _ _ _ h => h) rfl rfl rfl rfl
      refine H_pureY (i := 13) (j := 3) (dj := 21) (b := true) rfl (PS_loadS st_27 rfl (fun _ h => hry.no h) rfl) rfl ?_ (by assumption) (by decide +kernel) (by decide +kernel) (by decide +kernel) (fun _ _ _ _ h => h) rfl rfl rfl rfl
      refine H_one (i := 14) (H_yes (j := 3) (dj := 21) (b := true) rfl rfl (S_callC hf hxy rfl rfl ?_)) (by decide +kernel)
      rintro q w2 hq hm2
      refine and_keep (by first | assumption | exact Mv.no (by assumption) (by assumption)) (fun hH => ?_)
      refine H_pureY (i := 15) (j := 3) (dj := 21) (b := true) rfl (PureV.toS (P_lt rfl rfl (decide_eq_false (of_decide_eq_false hq)))) rfl ?_ (by assumption) (by decide +kernel) (by decide +kernel) (by decide +kernel) (fun _ _ _ _ h => h) rfl rfl rfl rfl
      refine H_pure (i := 16) rfl (PureV.toS (P_pickT rfl rfl)) ?_ (by assumption) (by decide +kernel) (by decide +kernel) (by decide +kernel) (fun _ _ _ _ h => h) rfl rfl rfl
      refine H_done (by decide +kernel) ?_
      refine then_n ?_
      refine C_false rfl ?_
      refine C_exit ?_
      refine then_x ?_
      refine then_x ?_
      refine blk_x ?_
      refine blk_n ?_
      refine then_n ?_
      refine C_region ?_
      refine L (S (P_move rfl) ?_)
      refine L (S (P_add rfl rfl (wI64 (c := ((i + 1 : Nat) : Int)) (by omega))) ?_)
      refine L (S (P_assign rfl) ?_)
      refine L_nil ?_
      refine then_n ?_
      exact ⟨rfl, i + 1, (.cons rfl (.cons rfl (.cons rfl (.cons rfl (.cons rfl (.nil _)))))), ⟨by omega, by omega, by rw [hsn, ← hrest]; exact own_no (hdone hpl) hH, hmq.no hH⟩, by omega⟩
    | true =>
      rw [hxy, if_pos rfl] at hpl
      refine C_seq ?_
      refine C_seq ?_
      refine C_drawQ 17 mixed rfl (fun hH => ?_)
      refine H_pure (i := 0) rfl (PureV.toS (P_move rfl)) ?_ (by assumption) (by decide +kernel) (by decide +kernel) (by decide +kernel) (fun _ _ _ _ h => h) rfl rfl rfl
      refine H_pure (i := 1) rfl (PureV.toS (P_move rfl)) ?_ (by assumption) (by decide +kernel) (by decide +kernel) (by decide +kernel) (fun _ _ _ _ h => h) rfl rfl rfl
      refine H_pure (i := 2) rfl (PureV.toS (P_gt rfl rfl (decide_eq_true (by omega)))) ?_ (by assumption) (by decide +kernel) (by decide +kernel) (by decide +kernel) (fun _ _ _ _ h => h) rfl rfl rfl
      refine H_pure (i := 3) rfl (PureV.toS (P_move rfl)) ?_ (by assumption) (by decide +kernel) (by decide +kernel) (by decide +kernel) (fun _ _ _ _ h => h) rfl rfl rfl
      refine H_pureY (i := 4) (j := 3) (dj := 21) (b := true) rfl (PureV.toS (P_move rfl)) rfl ?_ (by assumption) (by decide +kernel) (by decide +kernel) (by decide +kernel) (fun _ _ _ _ h => h) rfl rfl rfl rfl
      refine H_pureY (i := 5) (j := 3) (dj := 21) (b := true) rfl (PureV.toS (P_move rfl)) rfl ?_ (by assumption) (by decide +kernel) (by decide +kernel) (by decide +kernel) (fun _ _ _ _ h => h) rfl rfl rfl rfl
      refine H_pureY (i := 6) (j := 3) (dj := 21) (b := true) rfl (PureV.toS (P_move rfl)) rfl ?_ (by assumption) (by decide +kernel) (by decide +kernel) (by decide +kernel) (fun _ _ _ _ h => h) rfl rfl rfl rfl
      refine H_pureY (i := 7) (j := 3) (dj := 21) (b := true) rfl (PureV.toS (P_indexAddr Tryz.underlying34 (csz_of ti_27) rfl rfl (j := k + 1) rfl (by omega) (p := 0 + (k + 1) * 5) rfl)) rfl ?_ (by assumption) (by decide +kernel) (by decide +kernel) (by decide +kernel) (fun _ _ _ _ h => h) rfl rfl rfl rfl
      refine H_pureY (i := 8) (j := 3) (dj := 21) (b := true) rfl (PS_loadS st_27 rfl (fun _ h => hrx.no h) rfl) rfl ?_ (by assumption) (by decide +kernel) (by decide +kernel) (by decide +kernel) (fun _ _ _ _ h => h) rfl rfl rfl rfl
      refine H_pureY (i := 9) (j := 3) (dj := 21) (b := true) rfl (PureV.toS (P_move rfl)) rfl ?_ (by assumption) (by decide +kernel) (by decide +kernel) (by decide +kernel) (fun _ _ _ _ h => h) rfl rfl rfl rfl
      refine H_pureY (i := 10) (j := 3) (dj := 21) (b := true) rfl (PureV.toS (P_move rfl)) rfl ?_ (by assumption) (by decide +kernel) (by decide +kernel) (by decide +kernel) (fun _ _ _ _ h => h) rfl rfl rfl rfl
      refine H_pureY (i := 11) (j := 3) (dj := 21) (b := true) rfl (PureV.toS (P_sub rfl rfl (wI64 (c := ((k : Nat) : Int)) (by omega)))) rfl ?_ (by assumption) (by decide +kernel) (by decide +kernel) (by decide +kernel) (fun _ _ _ _ h => h) rfl rfl rfl rfl
      refine H_pureY (i := 12) (j := 3) (dj := 21) (b := true) rfl (PureV.toS (P_indexAddr Tryz.underlying34 (csz_of ti_27) rfl rfl (j := k) rfl (by omega) (p := 0 + k * 5) rfl)) rfl ?_ (by assumption) (by decide +kernel) (by decide +kernel) (by decide +kernel) (fun _ _ _ _ h => h) rfl rfl rfl rfl
      refine H_pureY (i := 13) (j := 3) (dj := 21) (b := true) rfl (PS_loadS st_27 rfl (fun _ h => hry.no h) rfl) rfl ?_ (by assumption) (by decide +kernel) (by decide +kernel) (by decide +kernel) (fun _ _ _ _ h => h) rfl rfl rfl rfl
      refine H_one (i := 14) (H_yes (j := 3) (dj := 21) (b := true) rfl rfl (S_callC hf hxy rfl rfl ?_)) (by decide +kernel)
      rintro q w2 hq hm2
      refine and_keep (by first | assumption | exact Mv.no (by assumption) (by assumption)) (fun hH => ?_)
      refine H_pureY (i := 15) (j := 3) (dj := 21) (b := true) rfl (PureV.toS (P_lt rfl rfl (decide_eq_true (of_decide_eq_true hq)))) rfl ?_ (by assumption) (by decide +kernel) (by decide +kernel) (by decide +kernel) (fun _ _ _ _ h => h) rfl rfl rfl rfl
      refine H_pure (i := 16) rfl (PureV.toS (P_pickT rfl rfl)) ?_ (by assumption) (by decide +kernel) (by decide +kernel) (by decide +kernel) (fun _ _ _ _ h => h) rfl rfl rfl
      refine H_done (by decide +kernel) ?_
      refine then_n ?_
      refine C_true rfl ?_
      refine C_skip ?_
      refine then_n ?_
      refine C_seq ?_
      refine C_block ?_
      have ho2 := own_no hoq hH
      have hrx2 := hrx.no hH
      have hry2 := hry.no hH
      refine C_draw 18 mixed rfl ?_
      refine A_pure (i := 0) rfl (P_move rfl) ?_ (by decide +kernel) (by decide +kernel) (by decide +kernel) (fun _ _ _ _ h => h) rfl rfl rfl
      refine A_pure (i := 1) rfl (P_move rfl) ?_ (by decide +kernel) (by decide +kernel) (by decide +kernel) (fun _ _ _ _ h => h) rfl rfl rfl
      refine A_pure (i := 2) rfl (P_move rfl) ?_ (by decide +kernel) (by decide +kernel) (by decide +kernel) (fun _ _ _ _ h => h) rfl rfl rfl
      refine A_pure (i := 3) rfl (P_move rfl) ?_ (by decide +kernel) (by decide +kernel) (by decide +kernel) (fun _ _ _ _ h => h) rfl rfl rfl
      refine A_pure (i := 4) rfl (P_sub rfl rfl (wI64 (c := ((k : Nat) : Int)) (by omega))) ?_ (by decide +kernel) (by decide +kernel) (by decide +kernel) (fun _ _ _ _ h => h) rfl rfl rfl
      refine A_pure (i := 5) rfl (P_move rfl) ?_ (by decide +kernel) (by decide +kernel) (by decide +kernel) (fun _ _ _ _ h => h) rfl rfl rfl
      refine A_pure (i := 6) rfl (P_move rfl) ?_ (by decide +kernel) (by decide +kernel) (by decide +kernel) (fun _ _ _ _ h => h) rfl rfl rfl
      refine A_pure (i := 7) rfl (P_sub rfl rfl (wI64 (c := ((k : Nat) : Int)) (by omega))) ?_ (by decide +kernel) (by decide +kernel) (by decide +kernel) (fun _ _ _ _ h => h) rfl rfl rfl
      refine A_pure (i := 8) rfl (P_indexAddr Tryz.underlying34 (csz_of ti_27) rfl rfl (j := k) rfl (by omega) (p := 0 + k * 5) rfl) ?_ (by decide +kernel) (by decide +kernel) (by decide +kernel) (fun _ _ _ _ h => h) rfl rfl rfl
      refine A_pure (i := 10) rfl (P_move rfl) ?_ (by decide +kernel) (by decide +kernel) (by decide +kernel) (fun _ _ _ _ h => h) rfl rfl rfl
      refine A_pure (i := 11) rfl (P_move rfl) ?_ (by decide +kernel) (by decide +kernel) (by decide +kernel) (fun _ _ _ _ h => h) rfl rfl rfl
      refine A_pure (i := 12) rfl (P_indexAddr Tryz.underlying34 (csz_of ti_27) rfl rfl (j := k + 1) rfl (by omega) (p := 0 + (k + 1) * 5) rfl) ?_ (by decide +kernel) (by decide +kernel) (by decide +kernel) (fun _ _ _ _ h => h) rfl rfl rfl
      refine A_two (i := 9) (i2 := 13) (A_op rfl (S_loadS st_27 rfl (hry2.no (Mv.refl _).drew) rfl ?_)) (A_op rfl (S_loadS st_27 rfl (hrx2.no (Mv.refl _).drew) rfl ?_)) (by decide +kernel)
      · refine A_one (i := 13) (A_op rfl (S_loadS st_27 rfl (hrx2.no (Mv.refl _).drew) rfl ?_)) (by decide +kernel)
        refine A_pure (i := 14) rfl (P_indexAddr Tryz.underlying34 (csz_of ti_27) rfl rfl (j := k + 1) rfl (by omega) (p := 0 + (k + 1) * 5) rfl) ?_ (by decide +kernel) (by decide +kernel) (by decide +kernel) (fun _ _ _ _ h => h) rfl rfl rfl
        refine A_one (i := 15) (A_op rfl (S_storeOwnS (i := k + 1) tabC_len ti_27 rfl (by omega) rfl (tabC_one y) (own_no ho2 (Mv.refl _).drew) hlen (by omega) ?_)) (by decide +kernel)
        rintro w3 ho3 hm3
        refine A_pure (i := 16) rfl (P_indexAddr Tryz.underlying34 (csz_of ti_27) rfl rfl (j := k) rfl (by omega) (p := 0 + k * 5) rfl) ?_ (by decide +kernel) (by decide +kernel) (by decide +kernel) (fun _ _ _ _ h => h) rfl rfl rfl
        refine A_one (i := 17) (A_op rfl (S_storeOwnS (i := k) tabC_len ti_27 rfl (by omega) rfl (tabC_one x) ho3 (by rw [List.length_set]; exact hlen) (by omega) ?_)) (by decide +kernel)
        rintro w4 ho4 hm4
        refine A_done (by decide +kernel) ?_
        refine blk_n ?_
        refine then_n ?_
        refine C_region ?_
        refine L (S (P_move rfl) ?_)
        refine L (S (P_sub rfl rfl (wI64 (c := ((k : Nat) : Int)) (by omega))) ?_)
        refine L (S (P_assign rfl) ?_)
        refine L_nil ?_
        refine then_n ?_
        rw [hset] at ho4
        exact ⟨rfl, k, (.cons rfl (.cons rfl (.cons rfl (.cons rfl (.cons rfl (.cons rfl (.nil _))))))), ⟨by omega, ho4, hp.trans hpl, mvAt (mvAt ((hmq.no hH).no (Mv.refl _).drew) hm3) hm4⟩, by omega⟩
      · refine A_one (i := 9) (A_op rfl (S_loadS st_27 rfl (hry2.no (Mv.refl _).drew) rfl ?_)) (by decide +kernel)
        refine A_pure (i := 14) rfl (P_indexAddr Tryz.underlying34 (csz_of ti_27) rfl rfl (j := k + 1) rfl (by omega) (p := 0 + (k + 1) * 5) rfl) ?_ (by decide +kernel) (by decide +kernel) (by decide +kernel) (fun _ _ _ _ h => h) rfl rfl rfl
        refine A_one (i := 15) (A_op rfl (S_storeOwnS (i := k + 1) tabC_len ti_27 rfl (by omega) rfl (tabC_one y) (own_no ho2 (Mv.refl _).drew) hlen (by omega) ?_)) (by decide +kernel)
        rintro w3 ho3 hm3
        refine A_pure (i := 16) rfl (P_indexAddr Tryz.underlying34 (csz_of ti_27) rfl rfl (j := k) rfl (by omega) (p := 0 + k * 5) rfl) ?_ (by decide +kernel) (by decide +kernel) (by decide +kernel) (fun _ _ _ _ h => h) rfl rfl rfl
        refine A_one (i := 17) (A_op rfl (S_storeOwnS (i := k) tabC_len ti_27 rfl (by omega) rfl (tabC_one x) ho3 (by rw [List.length_set]; exact hlen) (by omega) ?_)) (by decide +kernel)
        rintro w4 ho4 hm4
        refine A_done (by decide +kernel) ?_
        refine blk_n ?_
        refine then_n ?_
        refine C_region ?_
        refine L (S (P_move rfl) ?_)
        refine L (S (P_sub rfl rfl (wI64 (c := ((k : Nat) : Int)) (by omega))) ?_)
        refine L (S (P_assign rfl) ?_)
        refine L_nil ?_
        refine then_n ?_
        rw [hset] at ho4
        exact ⟨rfl, k, (.cons rfl (.cons rfl (.cons rfl (.cons rfl (.cons rfl (.cons rfl (.nil _))))))), ⟨by omega, ho4, hp.trans hpl, mvAt (mvAt ((hmq.no hH).no (Mv.refl _).drew) hm3) hm4⟩, by omega⟩
  · have e : sortI lt (xs.take i) ++ xs.drop i = sortI lt xs := by rw [List.take_of_length_le (by omega), List.drop_eq_nil_of_le (by omega), List.append_nil]
    rw [e] at hor
    refine C_seq ?_
    refine C_seq ?_
    refine C_region ?_
    refine L (S (P_move rfl) ?_)
    refine L (S (P_move rfl) ?_)
    refine L (S (P_lt rfl rfl (decide_eq_false (by omega))) ?_)
    refine L_nil ?_
    refine then_n ?_
    refine C_false rfl ?_
    refine C_exit ?_
    refine then_x ?_
    refine then_x ?_
    refine blk_x ?_
    refine F_end0 Tryz.results117 ?_
    exact ⟨hor, hmr⟩
theorem stableTab_ret {xs : List Tab} {b c n base : Nat} (hn : xs.length = n) (h0 : 0 < n) (hl : n ≤ 19) (ho : w.ownsRow base 27 5 (.slice (some ⟨b, 0, none⟩) n c) n (cellsL tabC xs)) {fv : Value} {lt : Tab → Tab → Bool} (hf : FnC Tryz.prog fv tabC lt) : Ret Tryz.prog 98 [.slice (some ⟨b, 0, none⟩) n c, .int .i64 (n : Int), fv] w fun _ w' => w'.ownsRow base 27 5 (.slice (some ⟨b, 0, none⟩) n c) n (cellsL tabC (sortI lt xs)) ∧ Mv (At b) w w' := by
  refine F_enter Tryz.func98 Tryz.ntmps98 rfl rfl ?_
  refine C_seq ?_
  refine C_region ?_
  refine L (S (P_assign rfl) ?_)
  refine L_nil ?_
  refine then_n ?_
  refine C_seq ?_
  refine C_region ?_
  refine L (S (P_move rfl) ?_)
  refine L (S (P_assign rfl) ?_)
  refine L (S (P_assign rfl) ?_)
  refine L_nil ?_
  refine then_n ?_
  refine C_seq ?_
  refine C_block ?_
  refine C_loop (γ := Unit) (fun _ => [(0, .slice (some ⟨b, 0, none⟩) n c), (1, .int .i64 (n : Int)), (2, fv), (6, .int .i64 20), (7, .int .i64 0), (8, .int .i64 20)]) (fun _ wr => wr = w) (fun _ => 0) () (.cons rfl (.cons rfl (.cons rfl (.cons rfl (.cons rfl (.cons rfl (.nil _))))))) rfl ?_
  rintro _ wr rfl
  refine C_seq ?_
  refine C_seq ?_
  refine C_region ?_
  refine L (S (P_move rfl) ?_)
  refine L (S (P_move rfl) ?_)
  refine L (S (P_le rfl rfl (decide_eq_false (by omega))) ?_)
  refine L_nil ?_
  refine then_n ?_
  refine C_false rfl ?_
  refine C_exit ?_
  refine then_x ?_
  refine then_x ?_
  refine blk_x ?_
  refine then_n ?_
  refine C_seq ?_
  refine C_region ?_
  refine L (S (P_move rfl) ?_)
  refine L (S (P_move rfl) ?_)
  refine L (S (P_move rfl) ?_)
  refine L (S (P_move rfl) ?_)
  refine L (S_call cb_117 rfl ((insTab_ret hn h0 (by omega) ho hf)) ?_)
  rintro _ w2 ⟨ho2, hm2⟩
  refine L_nil ?_
  refine then_n ?_
  refine C_block ?_
  refine C_loop (γ := Unit) (fun _ => [(0, .slice (some ⟨b, 0, none⟩) n c), (1, .int .i64 (n : Int)), (2, fv), (6, .int .i64 20)]) (fun _ wq => wq = w2) (fun _ => 0) () (.cons rfl (.cons rfl (.cons rfl (.cons rfl (.nil _))))) rfl ?_
  rintro _ wq rfl
  refine C_seq ?_
  refine C_seq ?_
  refine C_region ?_
  refine L (S (P_move rfl) ?_)
  refine L (S (P_move rfl) ?_)
  refine L (S (P_lt rfl rfl (decide_eq_false (by omega))) ?_)
  refine L_nil ?_
  refine then_n ?_
  refine C_false rfl ?_
  refine C_exit ?_
  refine then_x ?_
  refine then_x ?_
  refine blk_x ?_
  refine F_end0 Tryz.results98 ?_
  exact ⟨ho2, hm2⟩
theorem sortTab_ret {xs : List Tab} {b c n base : Nat} (hn : xs.length = n) (h0 : 0 < n) (hl : n ≤ 19) (ho : w.ownsRow base 27 5 (.slice (some ⟨b, 0, none⟩) n c) n (cellsL tabC xs)) {fv : Value} {lt : Tab → Tab → Bool} (hf : FnC Tryz.prog fv tabC lt) : Ret Tryz.prog 59 [.slice (some ⟨b, 0, none⟩) n c, fv] w fun _ w' => w'.ownsRow base 27 5 (.slice (some ⟨b, 0, none⟩) n c) n (cellsL tabC (sortI lt xs)) ∧ Mv (At b) w w' := by
  refine F_enter Tryz.func59 Tryz.ntmps59 rfl rfl ?_
  refine C_region ?_
  refine L (S (P_move rfl) ?_)
  refine L (S (P_move rfl) ?_)
  refine L (S (P_lenS Tryz.underlying34 rfl) ?_)
  refine L (S (P_move rfl) ?_)
  refine L (S_call cb_98 rfl ((stableTab_ret hn h0 hl ho hf)) ?_)
  rintro _ w2 ⟨ho2, hm2⟩
  refine L_nil ?_
  refine F_end0 Tryz.results59 ?_
  exact ⟨ho2, hm2⟩
theorem idx_cmp : FnC Tryz.prog (.func (.func 69) #[] #[]) idxC (fun x y => ltN x.name y.name) := by
  refine ⟨_, [], [], rfl, cb_69, fun w2 x y => ?_⟩
  show Ret _ _ [.agg (idxC x).toArray, .agg (idxC y).toArray] w2 _
  refine F_enter Tryz.func69 Tryz.ntmps69 rfl rfl ?_
  refine C_seq ?_
  refine C_region ?_
  refine L (S_box rfl ?_)
  rintro b1 w1 hb1 hm1 hn1
  refine L (S_box rfl ?_)
  rintro b3 w3 hb3 hm3 hn3
  refine L (S (P_assign rfl) ?_)
  refine L_nil ?_
  refine then_n ?_
  refine C_seq ?_
  refine C_region ?_
  refine L (S (P_fieldAddr fo_30_0 rfl) ?_)
  refine L (S_load sc_9 rfl ((hb1.no hm3).cell (i := 0) rfl) ?_)
  refine L (S (P_fieldAddr fo_30_0 rfl) ?_)
  refine L (S_load sc_9 rfl (hb3.cell (i := 0) rfl) ?_)
  refine L (S_call cb_61 rfl ((compare_ret x.name y.name)) ?_)
  rintro _ w4 ⟨c, rfl, hc, hm4⟩
  refine L (S (P_assign rfl) ?_)
  refine L_nil ?_
  refine then_n ?_
  refine C_ret ?_
  refine F_ret1 Tryz.results69 rfl ?_
  exact ⟨c, rfl, hc, (hm1.no hm3).no hm4⟩
theorem insIdx_ret {xs : List Idx} {b c n base : Nat} (hn : xs.length = n) (h0 : 0 < n) (hl : n ≤ 1000) (ho : w.ownsRow base 30 6 (.slice (some ⟨b, 0, none⟩) n c) n (cellsL idxC xs)) {fv : Value} {lt : Idx → Idx → Bool} (hf : FnC Tryz.prog fv idxC lt) : Ret Tryz.prog 128 [.slice (some ⟨b, 0, none⟩) n c, .int .i64 0, .int .i64 (n : Int), fv] w fun _ w' => w'.ownsRow base 30 6 (.slice (some ⟨b, 0, none⟩) n c) n (cellsL idxC (sortI lt xs)) ∧ Mv (At b) w w' := by
  refine F_enter Tryz.func128 Tryz.ntmps128 rfl rfl ?_
  refine C_seq ?_
  refine C_region ?_
  refine L (S (P_move rfl) ?_)
  refine L (S (P_add rfl rfl (wI64 (c := ((1 : Nat) : Int)) (by omega))) ?_)
  refine L (S (P_assign rfl) ?_)
  refine L_nil ?_
  refine then_n ?_
  refine C_block ?_
  refine C_loop (γ := Nat) (fun i => [(0, .slice (some ⟨b, 0, none⟩) n c), (1, .int .i64 0), (2, .int .i64 (n : Int)), (3, fv), (8, .int .i64 (i : Int))]) (fun i wr => 1 ≤ i ∧ i ≤ n ∧ wr.ownsRow base 30 6 (.slice (some ⟨b, 0, none⟩) n c) n (cellsL idxC (sortI lt (xs.take i) ++ xs.drop i)) ∧ Mv (At b) w wr) (fun i => n - i) 1 (.cons rfl (.cons rfl (.cons rfl (.cons rfl (.cons rfl (.nil _)))))) ⟨Nat.le_refl _, h0, ?_, Mv.refl w⟩ ?_
  · have e : sortI lt (xs.take 1) ++ xs.drop 1 = xs := by
      cases xs with
      | nil => rfl
      | cons x r => rfl
    rw [e]; exact ho
  rintro i wr ⟨h1, hi, hor, hmr⟩
  by_cases hlt : i < n
  · have ha := List.getElem?_eq_getElem (show i < xs.length by omega)
    generalize xs[i] = x at ha
    have hsl : (sortI lt (xs.take i)).length = i := by rw [sortI_len, List.length_take]; omega
    have hsn : sortI lt (xs.take (i + 1)) = insB lt x (sortI lt (xs.take i)) := by rw [take_at ha, sortI_snoc]
    rw [drop_at ha] at hor
    have hrl : (xs.drop (i + 1)).length = n - (i + 1) := by rw [List.length_drop, hn]
    generalize sortI lt (xs.take i) = out at *
    obtain ⟨rest, hrest⟩ : ∃ r, r = xs.drop (i + 1) := ⟨_, rfl⟩
    rw [← hrest] at hor hrl
    refine C_seq ?_
    refine C_seq ?_
    refine C_region ?_
    refine L (S (P_move rfl) ?_)
    refine L (S (P_move rfl) ?_)
    refine L (S (P_lt rfl rfl (decide_eq_true (by omega))) ?_)
    refine L_nil ?_
    refine then_n ?_
    refine C_true rfl ?_
    refine C_skip ?_
    refine then_n ?_
    refine C_seq ?_
    refine C_block ?_
    refine C_seq ?_
    refine C_region ?_
    refine L (S (P_move rfl) ?_)
    refine L (S (P_assign rfl) ?_)
    refine L_nil ?_
    refine then_n ?_
    refine C_block ?_
    refine C_loop (γ := Nat) (fun j => [(0, .slice (some ⟨b, 0, none⟩) n c), (1, .int .i64 0), (2, .int .i64 (n : Int)), (3, fv), (8, .int .i64 (i : Int)), (9, .int .i64 (j : Int))]) (fun j wq => j ≤ i ∧ wq.ownsRow base 30 6 (.slice (some ⟨b, 0, none⟩) n c) n (cellsL idxC (out.take j ++ x :: out.drop j ++ rest)) ∧ plc lt x out i = plc lt x out j ∧ Mv (At b) w wq) (fun j => j) i (.cons rfl (.cons rfl (.cons rfl (.cons rfl (.cons rfl (.cons rfl (.nil _))))))) ⟨Nat.le_refl _, ?_, rfl, hmr⟩ ?_
    · rw [List.take_of_length_le (by omega), List.drop_eq_nil_of_le (by omega), List.append_assoc]; exact hor
    rintro j wq ⟨hj, hoq, hp, hmq⟩
    have hdone : plc lt x out j = j → wq.ownsRow base 30 6 (.slice (some ⟨b, 0, none⟩) n c) n (cellsL idxC (insB lt x out ++ rest)) := fun h => by
      unfold insB
      rw [hsl, hp, h]; exact hoq
    rcases Nat.eq_zero_or_pos j with rfl | hj0
    · refine C_seq ?_
      refine C_seq ?_
      refine C_drawQ 17 mixed rfl (fun hH => ?_)
      refine H_pure (i := 0) rfl (PureV.toS (P_move rfl)) ?_ (by assumption) (by decide +kernel) (by decide +kernel) (by decide +kernel) (fun _ _ _ _ h => h) rfl rfl rfl
      refine H_pure (i := 1) rfl (PureV.toS (P_move rfl)) ?_ (by assumption) (by decide +kernel) (by decide +kernel) (by decide +kernel) (fun _ _ _ _ h => h) rfl rfl rfl
      refine H_pure (i := 2) rfl (PureV.toS (P_gt rfl rfl (decide_eq_false (by omega)))) ?_ (by assumption) (by decide +kernel) (by decide +kernel) (by decide +kernel) (fun _ _ _ _ h => h) rfl rfl rfl
      refine H_pure (i := 3) rfl (PureV.toS (P_move rfl)) ?_ (by assumption) (by decide +kernel) (by decide +kernel) (by decide +kernel) (fun _ _ _ _ h => h) rfl rfl rfl
      refine H_pureN (i := 4) (j := 3) (dj := 21) (b := true) (b' := false) rfl rfl ?_ (by assumption) (by decide +kernel) (by decide +kernel) (by decide +kernel) (fun _ _ _ _ h => h) rfl rfl rfl rfl rfl
      refine H_pureN (i := 5) (j := 3) (dj := 21) (b := true) (b' := false) rfl rfl ?_ (by assumption) (by decide +kernel) (by decide +kernel) (by decide +kernel) (fun _ _ _ _ h => h) rfl rfl rfl rfl rfl
      refine H_pureN (i := 6) (j := 3) (dj := 21) (b := true) (b' := false) rfl rfl ?_ (by assumption) (by decide +kernel) (by decide +kernel) (by decide +kernel) (fun _ _ _ _ h => h) rfl rfl rfl rfl rfl
      refine H_pureN (i := 7) (j := 3) (dj := 21) (b := true) (b' := false) rfl rfl ?_ (by assumption) (by decide +kernel) (by decide +kernel) (by decide +kernel) (fun _ _ _ _ h => h) rfl rfl rfl rfl rfl
      refine H_pureN (i := 8) (j := 3) (dj := 21) (b := true) (b' := false) rfl rfl ?_ (by assumption) (by decide +kernel) (by decide +kernel) (by decide +kernel) (fun _ _ _ _ h => h) rfl rfl rfl rfl rfl
      refine H_pureN (i := 9) (j := 3) (dj := 21) (b := true) (b' := false) rfl rfl ?_ (by assumption) (by decide +kernel) (by decide +kernel) (by decide +kernel) (fun _ _ _ _ h => h) rfl rfl rfl rfl rfl
      refine H_pureN (i := 10) (j := 3) (dj := 21) (b := true) (b' := false) rfl rfl ?_ (by assumption) (by decide +kernel) (by decide +kernel) (by decide +kernel) (fun _ _ _ _ h => h) rfl rfl rfl rfl rfl
      refine H_pureN (i := 11) (j := 3) (dj := 21) (b := true) (b' := false) rfl rfl ?_ (by assumption) (by decide +kernel) (by decide +kernel) (by decide +kernel) (fun _ _ _ _ h => h) rfl rfl rfl rfl rfl
      refine H_pureN (i := 12) (j := 3) (dj := 21) (b := true) (b' := false) rfl rfl ?_ (by assumption) (by decide +kernel) (by decide +kernel) (by decide +kernel) (fun _ _ _ _ h => h) rfl rfl rfl rfl rfl
      refine H_pureN (i := 13) (j := 3) (dj := 21) (b := true) (b' := false) rfl rfl ?_ (by assumption) (by decide +kernel) (by decide +kernel) (by decide +kernel) (fun _ _ _ _ h => h) rfl rfl rfl rfl rfl
      refine H_pureN (i := 14) (j := 3) (dj := 21) (b := true) (b' := false) rfl rfl ?_ (by assumption) (by decide +kernel) (by decide +kernel) (by decide +kernel) (fun _ _ _ _ h => h) rfl rfl rfl rfl rfl
      refine H_pureN (i := 15) (j := 3) (dj := 21) (b := true) (b' := false) rfl rfl ?_ (by assumption) (by decide +kernel) (by decide +kernel) (by decide +kernel) (fun _ _ _ _ h => h) rfl rfl rfl rfl rfl
      refine H_pure (i := 16) rfl (PureV.toS (P_pickF rfl rfl)) ?_ (by assumption) (by decide +kernel) (by decide +kernel) (by decide +kernel) (fun _ _ _ _ h => h) rfl rfl rfl
      refine H_done (by decide +kernel) ?_
      refine then_n ?_
      refine C_false rfl ?_
      refine C_exit ?_
      refine then_x ?_
      refine then_x ?_
      refine blk_x ?_
      refine blk_n ?_
      refine then_n ?_
      refine C_region ?_
      refine L (S (P_move rfl) ?_)
      refine L (S (P_add rfl rfl (wI64 (c := ((i + 1 : Nat) : Int)) (by omega))) ?_)
      refine L (S (P_assign rfl) ?_)
      refine L_nil ?_
      refine then_n ?_
      exact ⟨rfl, i + 1, (.cons rfl (.cons rfl (.cons rfl (.cons rfl (.cons rfl (.nil _)))))), ⟨by omega, by omega, by rw [hsn, ← hrest]; exact own_no (hdone rfl) hH, hmq.no hH⟩, by omega⟩
    obtain ⟨k, rfl⟩ : ∃ k, j = k + 1 := ⟨j - 1, by omega⟩
    have hy := List.getElem?_eq_getElem (show k < out.length by omega)
    generalize out[k] = y at hy
    have htk := take_at hy
    have hdr := drop_at hy
    have hpl : plc lt x out (k + 1) = if lt x y = true then plc lt x out k else k + 1 := by
      rw [show plc lt x out (k + 1) = if (out[k]?.any fun y => lt x y) = true then plc lt x out k else k + 1 from rfl, hy]; rfl
    have hL : (out.take (k + 1)).length = k + 1 := by rw [List.length_take]; omega
    have hLk : (out.take k).length = k := by rw [List.length_take]; omega
    have hgx : (out.take (k + 1) ++ x :: out.drop (k + 1) ++ rest)[k + 1]? = some x := by
      rw [List.append_assoc, List.getElem?_append_right (by omega), hL, Nat.sub_self]; rfl
    have hgy : (out.take (k + 1) ++ x :: out.drop (k + 1) ++ rest)[k]? = some y := by
      rw [List.append_assoc, List.getElem?_append_left (by omega), List.getElem?_take_of_lt (by omega)]; exact hy
    have hrx := own_at idxC_len hoq hgx
    have hry := own_at idxC_len hoq hgy
    have hlen : (out.take (k + 1) ++ x :: out.drop (k + 1) ++ rest).length = n := by
      simp only [List.length_append, List.length_cons, List.length_take, List.length_drop, hrl]
      omega
    have hset : ((out.take (k + 1) ++ x :: out.drop (k + 1) ++ rest).set (k + 1) y).set k x = out.take k ++ x :: out.drop k ++ rest := by
      rw [htk, hdr]
      simp [List.set_append, hLk]
    cases hxy : lt x y with
    | false =>
      rw [hxy, if_neg (by decide)] at hpl
      refine C_seq ?_
      refine C_seq ?_
      refine C_drawQ 17 mixed rfl (fun hH => ?_)
      refine H_pure (i := 0) rfl (PureV.toS (P_move rfl)) ?_ (by assumption) (by decide +kernel) (by decide +kernel) (by decide +kernel) (fun _ _ _ _ h => h) rfl rfl rfl
      refine H_pure (i := 1) rfl (PureV.toS (P_move rfl)) ?_ (by assumption) (by decide +kernel) (by decide +kernel) (by decide +kernel) (fun _ _ _ _ h => h) rfl rfl rfl
      refine H_pure (i := 2) rfl (PureV.toS (P_gt rfl rfl (decide_eq_true (by omega)))) ?_ (by assumption) (by decide +kernel) (by decide +kernel) (by decide +kernel) (fun _ _ _ _ h => h) rfl rfl rfl
      refine H_pure (i := 3) rfl (PureV.toS (P_move rfl)) ?_ (by assumption) (by decide +kernel) (by decide +kernel) (by decide +kernel) (fun _ _ _ _ h => h) rfl rfl rfl
      refine H_pureY (i := 4) (j := 3) (dj := 21) (b := true) rfl (PureV.toS (P_move rfl)) rfl ?_ (by assumption) (by decide +kernel) (by decide +kernel) (by decide +kernel) (fun _ _ _ _ h => h) rfl rfl rfl rfl
      refine H_pureY (i := 5) (j := 3) (dj := 21) (b := true) rfl (PureV.toS (P_move rfl)) rfl ?_ (by assumption) (by decide +kernel) (by decide +kernel) (by decide +kernel) (fun _ _ _ _ h => h) rfl rfl rfl rfl
      refine H_pureY (i := 6) (j := 3) (dj := 21) (b := true) rfl (PureV.toS (P_move rfl)) rfl ?_ (by assumption) (by decide +kernel) (by decide +kernel) (by decide +kernel) (fun _ _ _ _ h => h) rfl rfl rfl rfl
      refine H_pureY (i := 7) (j := 3) (dj := 21) (b := true) rfl (PureV.toS (P_indexAddr Tryz.underlying35 (csz_of ti_30) rfl rfl (j := k + 1) rfl (by omega) (p := 0 + (k + 1) * 6) rfl)) rfl ?_ (by assumption) (by decide +kernel) (by decide +kernel) (by decide +kernel) (fun _ _ _ _ h => h) rfl rfl rfl rfl
      refine H_pureY (i := 8) (j := 3) (dj := 21) (b := true) rfl (PS_loadS st_30 rfl (fun _ h => hrx.no h) rfl) rfl ?_ (by assumption) (by decide +kernel) (by decide +kernel) (by decide +kernel) (fun _ _ _ _ h => h) rfl rfl rfl rfl
      refine H_pureY (i := 9) (j := 3) (dj := 21) (b := true) rfl (PureV.toS (P_move rfl)) rfl ?_ (by assumption) (by decide +kernel) (by decide +kernel) (by decide +kernel) (fun _ _ _ _ h => h) rfl rfl rfl rfl
      refine H_pureY (i := 10) (j := 3) (dj := 21) (b := true) rfl (PureV.toS (P_move rfl)) rfl ?_ (by assumption) (by decide +kernel) (by decide +kernel) (by decide +kernel) (fun _ _ _ _ h => h) rfl rfl rfl rfl
      refine H_pureY (i := 11) (j := 3) (dj := 21) (b := true) rfl (PureV.toS (P_sub rfl rfl (wI64 (c := ((k : Nat) : Int)) (by omega)))) rfl ?_ (by assumption) (by decide +kernel) (by decide +kernel) (by decide +kernel) (fun _ _ _ _ h => h) rfl rfl rfl rfl
      refine H_pureY (i := 12) (j := 3) (dj := 21) (b := true) rfl (PureV.toS (P_indexAddr Tryz.underlying35 (csz_of ti_30) rfl rfl (j := k) rfl (by omega) (p := 0 + k * 6) rfl)) rfl ?_ (by assumption) (by decide +kernel) (by decide +kernel) (by decide +kernel) (fun _ _ _ _ h => h) rfl rfl rfl rfl
      refine H_pureY (i := 13) (j := 3) (dj := 21) (b := true) rfl (PS_loadS st_30 rfl (fun _ h => hry.no h) rfl) rfl ?_ (by assumption) (by decide +kernel) (by decide +kernel) (by decide +kernel) (fun _ _ _ _ h => h) rfl rfl rfl rfl
      refine H_one (i := 14) (H_yes (j := 3) (dj := 21) (b := true) rfl rfl (S_callC hf hxy rfl rfl ?_)) (by decide +kernel)
      rintro q w2 hq hm2
      refine and_keep (by first | assumption | exact Mv.no (by assumption) (by assumption)) (fun hH => ?_)
      refine H_pureY (i := 15) (j := 3) (dj := 21) (b := true) rfl (PureV.toS (P_lt rfl rfl (decide_eq_false (of_decide_eq_false hq)))) rfl ?_ (by assumption) (by decide +kernel) (by decide +kernel) (by decide +kernel) (fun _ _ _ _ h => h) rfl rfl rfl rfl
      refine H_pure (i := 16) rfl (PureV.toS (P_pickT rfl rfl)) ?_ (by assumption) (by decide +kernel) (by decide +kernel) (by decide +kernel) (fun _ _ _ _ h => h) rfl rfl rfl
      refine H_done (by decide +kernel) ?_
      refine then_n ?_
      refine C_false rfl ?_
      refine C_exit ?_
      refine then_x ?_
      refine then_x ?_
      refine blk_x ?_
      refine blk_n ?_
      refine then_n ?_
      refine C_region ?_
      refine L (S (P_move rfl) ?_)
      refine L (S (P_add rfl rfl (wI64 (c := ((i + 1 : Nat) : Int)) (by omega))) ?_)
      refine L (S (P_assign rfl) ?_)
      refine L_nil ?_
      refine then_n ?_
      exact ⟨rfl, i + 1, (.cons rfl (.cons rfl (.cons rfl (.cons rfl (.cons rfl (.nil _)))))), ⟨by omega, by omega, by rw [hsn, ← hrest]; exact own_no (hdone hpl) hH, hmq.no hH⟩, by omega⟩
    | true =>
      rw [hxy, if_pos rfl] at hpl
      refine C_seq ?_
      refine C_seq ?_
      refine C_drawQ 17 mixed rfl (fun hH => ?_)
      refine H_pure (i := 0) rfl (PureV.toS (P_move rfl)) ?_ (by assumption) (by decide +kernel) (by decide +kernel) (by decide +kernel) (fun _ _ _ _ h => h) rfl rfl rfl
      refine H_pure (i := 1) rfl (PureV.toS (P_move rfl)) ?_ (by assumption) (by decide +kernel) (by decide +kernel) (by decide +kernel) (fun _ _ _ _ h => h) rfl rfl rfl
      refine H_pure (i := 2) rfl (PureV.toS (P_gt rfl rfl (decide_eq_true (by omega)))) ?_ (by assumption) (by decide +kernel) (by decide +kernel) (by decide +kernel) (fun _ _ _ _ h => h) rfl rfl rfl
      refine H_pure (i := 3) rfl (PureV.toS (P_move rfl)) ?_ (by assumption) (by decide +kernel) (by decide +kernel) (by decide +kernel) (fun _ _ _ _ h => h) rfl rfl rfl
      refine H_pureY (i := 4) (j := 3) (dj := 21) (b := true) rfl (PureV.toS (P_move rfl)) rfl ?_ (by assumption) (by decide +kernel) (by decide +kernel) (by decide +kernel) (fun _ _ _ _ h => h) rfl rfl rfl rfl
      refine H_pureY (i := 5) (j := 3) (dj := 21) (b := true) rfl (PureV.toS (P_move rfl)) rfl ?_ (by assumption) (by decide +kernel) (by decide +kernel) (by decide +kernel) (fun _ _ _ _ h => h) rfl rfl rfl rfl
      refine H_pureY (i := 6) (j := 3) (dj := 21) (b := true) rfl (PureV.toS (P_move rfl)) rfl ?_ (by assumption) (by decide +kernel) (by decide +kernel) (by decide +kernel) (fun _ _ _ _ h => h) rfl rfl rfl rfl
      refine H_pureY (i := 7) (j := 3) (dj := 21) (b := true) rfl (PureV.toS (P_indexAddr Tryz.underlying35 (csz_of ti_30) rfl rfl (j := k + 1) rfl (by omega) (p := 0 + (k + 1) * 6) rfl)) rfl ?_ (by assumption) (by decide +kernel) (by decide +kernel) (by decide +kernel) (fun _ _ _ _ h => h) rfl rfl rfl rfl
      refine H_pureY (i := 8) (j := 3) (dj := 21) (b := true) rfl (PS_loadS st_30 rfl (fun _ h => hrx.no h) rfl) rfl ?_ (by assumption) (by decide +kernel) (by decide +kernel) (by decide +kernel) (fun _ _ _ _ h => h) rfl rfl rfl rfl
      refine H_pureY (i := 9) (j := 3) (dj := 21) (b := true) rfl (PureV.toS (P_move rfl)) rfl ?_ (by assumption) (by decide +kernel) (by decide +kernel) (by decide +kernel) (fun _ _ _ _ h => h) rfl rfl rfl rfl
      refine H_pureY (i := 10) (j := 3) (dj := 21) (b := true) rfl (PureV.toS (P_move rfl)) rfl ?_ (by assumption) (by decide +kernel) (by decide +kernel) (by decide +kernel) (fun _ _ _ _ h => h) rfl rfl rfl rfl
      refine H_pureY (i := 11) (j := 3) (dj := 21) (b := true) rfl (PureV.toS (P_sub rfl rfl (wI64 (c := ((k : Nat) : Int)) (by omega)))) rfl ?_ (by assumption) (by decide +kernel) (by decide +kernel) (by decide +kernel) (fun _ _ _ _ h => h) rfl rfl rfl rfl
      refine H_pureY (i := 12) (j := 3) (dj := 21) (b := true) rfl (PureV.toS (P_indexAddr Tryz.underlying35 (csz_of ti_30) rfl rfl (j := k) rfl (by omega) (p := 0 + k * 6) rfl)) rfl ?_ (by assumption) (by decide +kernel) (by decide +kernel) (by decide +kernel) (fun _ _ _ _ h => h) rfl rfl rfl rfl
      refine H_pureY (i := 13) (j := 3) (dj := 21) (b := true) rfl (PS_loadS st_30 rfl (fun _ h => hry.no h) rfl) rfl ?_ (by assumption) (by decide +kernel) (by decide +kernel) (by decide +kernel) (fun _ _ _ _ h => h) rfl rfl rfl rfl
      refine H_one (i := 14) (H_yes (j := 3) (dj := 21) (b := true) rfl rfl (S_callC hf hxy rfl rfl ?_)) (by decide +kernel)
      rintro q w2 hq hm2
      refine and_keep (by first | assumption | exact Mv.no (by assumption) (by assumption)) (fun hH => ?_)
      refine H_pureY (i := 15) (j := 3) (dj := 21) (b := true) rfl (PureV.toS (P_lt rfl rfl (decide_eq_true (of_decide_eq_true hq)))) rfl ?_ (by assumption) (by decide +kernel) (by decide +kernel) (by decide +kernel) (fun _ _ _ _ h => h) rfl rfl rfl rfl
      refine H_pure (i := 16) rfl (PureV.toS (P_pickT rfl rfl)) ?_ (by assumption) (by decide +kernel) (by decide +kernel) (by decide +kernel) (fun _ _ _ _ h => h) rfl rfl rfl
      refine H_done (by decide +kernel) ?_
      refine then_n ?_
      refine C_true rfl ?_
      refine C_skip ?_
      refine then_n ?_
      refine C_seq ?_
      refine C_block ?_
      have ho2 := own_no hoq hH
      have hrx2 := hrx.no hH
      have hry2 := hry.no hH
      refine C_draw 18 mixed rfl ?_
      refine A_pure (i := 0) rfl (P_move rfl) ?_ (by decide +kernel) (by decide +kernel) (by decide +kernel) (fun _ _ _ _ h => h) rfl rfl rfl
      refine A_pure (i := 1) rfl (P_move rfl) ?_ (by decide +kernel) (by decide +kernel) (by decide +kernel) (fun _ _ _ _ h => h) rfl rfl rfl
      refine A_pure (i := 2) rfl (P_move rfl) ?_ (by decide +kernel) (by decide +kernel) (by decide +kernel) (fun _ _ _ _ h => h) rfl rfl rfl
      refine A_pure (i := 3) rfl (P_move rfl) ?_ (by decide +kernel) (by decide +kernel) (by decide +kernel) (fun _ _ _ _ h => h) rfl rfl rfl
      refine A_pure (i := 4) rfl (P_sub rfl rfl (wI64 (c := ((k : Nat) : Int)) (by omega))) ?_ (by decide +kernel) (by decide +kernel) (by decide +kernel) (fun _ _ _ _ h => h) rfl rfl rfl
      refine A_pure (i := 5) rfl (P_move rfl) ?_ (by decide +kernel) (by decide +kernel) (by decide +kernel) (fun _ _ _ _ h => h) rfl rfl rfl
      refine A_pure (i := 6) rfl (P_move rfl) ?_ (by decide +kernel) (by decide +kernel) (by decide +kernel) (fun _ _ _ _ h => h) rfl rfl rfl
      refine A_pure (i := 7) rfl (P_sub rfl rfl (wI64 (c := ((k : Nat) : Int)) (by omega))) ?_ (by decide +kernel) (by decide +kernel) (by decide +kernel) (fun _ _ _ _ h => h) rfl rfl rfl
      refine A_pure (i := 8) rfl (P_indexAddr Tryz.underlying35 (csz_of ti_30) rfl rfl (j := k) rfl (by omega) (p := 0 + k * 6) rfl) ?_ (by decide +kernel) (by decide +kernel) (by decide +kernel) (fun _ _ _ _ h => h) rfl rfl rfl
      refine A_pure (i := 10) rfl (P_move rfl) ?_ (by decide +kernel) (by decide +kernel) (by decide +kernel) (fun _ _ _ _ h => h) rfl rfl rfl
      refine A_pure (i := 11) rfl (P_move rfl) ?_ (by decide +kernel) (by decide +kernel) (by decide +kernel) (fun _ _ _ _ h => h) rfl rfl rfl
      refine A_pure (i := 12) rfl (P_indexAddr Tryz.underlying35 (csz_of ti_30) rfl rfl (j := k + 1) rfl (by omega) (p := 0 + (k + 1) * 6) rfl) ?_ (by decide +kernel) (by decide +kernel) (by decide +kernel) (fun _ _ _ _ h => h) rfl rfl rfl
      refine A_two (i := 9) (i2 := 13) (A_op rfl (S_loadS st_30 rfl (hry2.no (Mv.refl _).drew) rfl ?_)) (A_op rfl (S_loadS st_30 rfl (hrx2.no (Mv.refl _).drew) rfl ?_)) (by decide +kernel)
      · refine A_one (i := 13) (A_op rfl (S_loadS st_30 rfl (hrx2.no (Mv.refl _).drew) rfl ?_)) (by decide +kernel)
        refine A_pure (i := 14) rfl (P_indexAddr Tryz.underlying35 (csz_of ti_30) rfl rfl (j := k + 1) rfl (by omega) (p := 0 + (k + 1) * 6) rfl) ?_ (by decide +kernel) (by decide +kernel) (by decide +kernel) (fun _ _ _ _ h => h) rfl rfl rfl
        refine A_one (i := 15) (A_op rfl (S_storeOwnS (i := k + 1) idxC_len ti_30 rfl (by omega) rfl (idxC_one y) (own_no ho2 (Mv.refl _).drew) hlen (by omega) ?_)) (by decide +kernel)
        rintro w3 ho3 hm3
        refine A_pure (i := 16) rfl (P_indexAddr Tryz.underlying35 (csz_of ti_30) rfl rfl (j := k) rfl (by omega) (p := 0 + k * 6) rfl) ?_ (by decide +kernel) (by decide +kernel) (by decide +kernel) (fun _ _ _ _ h => h) rfl rfl rfl
        refine A_one (i := 17) (A_op rfl (S_storeOwnS (i := k) idxC_len ti_30 rfl (by omega) rfl (idxC_one x) ho3 (by rw [List.length_set]; exact hlen) (by omega) ?_)) (by decide +kernel)
        rintro w4 ho4 hm4
        refine A_done (by decide +kernel) ?_
        refine blk_n ?_
        refine then_n ?_
        refine C_region ?_
        refine L (S (P_move rfl) ?_)
        refine L (S (P_sub rfl rfl (wI64 (c := ((k : Nat) : Int)) (by omega))) ?_)
        refine L (S (P_assign rfl) ?_)
        refine L_nil ?_
        refine then_n ?_
        rw [hset] at ho4
        exact ⟨rfl, k, (.cons rfl (.cons rfl (.cons rfl (.cons rfl (.cons rfl (.cons rfl (.nil _))))))), ⟨by omega, ho4, hp.trans hpl, mvAt (mvAt ((hmq.no hH).no (Mv.refl _).drew) hm3) hm4⟩, by omega⟩
      · refine A_one (i := 9) (A_op rfl (S_loadS st_30 rfl (hry2.no (Mv.refl _).drew) rfl ?_)) (by decide +kernel)
        refine A_pure (i := 14) rfl (P_indexAddr Tryz.underlying35 (csz_of ti_30) rfl rfl (j := k + 1) rfl (by omega) (p := 0 + (k + 1) * 6) rfl) ?_ (by decide +kernel) (by decide +kernel) (by decide +kernel) (fun _ _ _ _ h => h) rfl rfl rfl
        refine A_one (i := 15) (A_op rfl (S_storeOwnS (i := k + 1) idxC_len ti_30 rfl (by omega) rfl (idxC_one y) (own_no ho2 (Mv.refl _).drew) hlen (by omega) ?_)) (by decide +kernel)
        rintro w3 ho3 hm3
        refine A_pure (i := 16) rfl (P_indexAddr Tryz.underlying35 (csz_of ti_30) rfl rfl (j := k) rfl (by omega) (p := 0 + k * 6) rfl) ?_ (by decide +kernel) (by decide +kernel) (by decide +kernel) (fun _ _ _ _ h => h) rfl rfl rfl
        refine A_one (i := 17) (A_op rfl (S_storeOwnS (i := k) idxC_len ti_30 rfl (by omega) rfl (idxC_one x) ho3 (by rw [List.length_set]; exact hlen) (by omega) ?_)) (by decide +kernel)
        rintro w4 ho4 hm4
        refine A_done (by decide +kernel) ?_
        refine blk_n ?_
        refine then_n ?_
        refine C_region ?_
        refine L (S (P_move rfl) ?_)
        refine L (S (P_sub rfl rfl (wI64 (c := ((k : Nat) : Int)) (by omega))) ?_)
        refine L (S (P_assign rfl) ?_)
        refine L_nil ?_
        refine then_n ?_
        rw [hset] at ho4
        exact ⟨rfl, k, (.cons rfl (.cons rfl (.cons rfl (.cons rfl (.cons rfl (.cons rfl (.nil _))))))), ⟨by omega, ho4, hp.trans hpl, mvAt (mvAt ((hmq.no hH).no (Mv.refl _).drew) hm3) hm4⟩, by omega⟩
  · have e : sortI lt (xs.take i) ++ xs.drop i = sortI lt xs := by rw [List.take_of_length_le (by omega), List.drop_eq_nil_of_le (by omega), List.append_nil]
    rw [e] at hor
    refine C_seq ?_
    refine C_seq ?_
    refine C_region ?_
    refine L (S (P_move rfl) ?_)
    refine L (S (P_move rfl) ?_)
    refine L (S (P_lt rfl rfl (decide_eq_false (by omega))) ?_)
    refine L_nil ?_
    refine then_n ?_
    refine C_false rfl ?_
    refine C_exit ?_
    refine then_x ?_
    refine then_x ?_
    refine blk_x ?_
    refine F_end0 Tryz.results128 ?_
    exact ⟨hor, hmr⟩
theorem stableIdx_ret {xs : List Idx} {b c n base : Nat} (hn : xs.length = n) (h0 : 0 < n) (hl : n ≤ 19) (ho : w.ownsRow base 30 6 (.slice (some ⟨b, 0, none⟩) n c) n (cellsL idxC xs)) {fv : Value} {lt : Idx → Idx → Bool} (hf : FnC Tryz.prog fv idxC lt) : Ret Tryz.prog 111 [.slice (some ⟨b, 0, none⟩) n c, .int .i64 (n : Int), fv] w fun _ w' => w'.ownsRow base 30 6 (.slice (some ⟨b, 0, none⟩) n c) n (cellsL idxC (sortI lt xs)) ∧ Mv (At b) w w' := by
  refine F_enter Tryz.func111 Tryz.ntmps111 rfl rfl ?_
  refine C_seq ?_
  refine C_region ?_
  refine L (S (P_assign rfl) ?_)
  refine L_nil ?_
  refine then_n ?_
  refine C_seq ?_
  refine C_region ?_
  refine L (S (P_move rfl) ?_)
  refine L (S (P_assign rfl) ?_)
  refine L (S (P_assign rfl) ?_)
  refine L_nil ?_
  refine then_n ?_
  refine C_seq ?_
  refine C_block ?_
  refine C_loop (γ := Unit) (fun _ => [(0, .slice (some ⟨b, 0, none⟩) n c), (1, .int .i64 (n : Int)), (2, fv), (6, .int .i64 20), (7, .int .i64 0), (8, .int .i64 20)]) (fun _ wr => wr = w) (fun _ => 0) () (.cons rfl (.cons rfl (.cons rfl (.cons rfl (.cons rfl (.cons rfl (.nil _))))))) rfl ?_
  rintro _ wr rfl
  refine C_seq ?_
  refine C_seq ?_
  refine C_region ?_
  refine L (S (P_move rfl) ?_)
  refine L (S (P_move rfl) ?_)
  refine L (S (P_le rfl rfl (decide_eq_false (by omega))) ?_)
  refine L_nil ?_
  refine then_n ?_
  refine C_false rfl ?_
  refine C_exit ?_
  refine then_x ?_
  refine then_x ?_
  refine blk_x ?_
  refine then_n ?_
  refine C_seq ?_
  refine C_region ?_
  refine L (S (P_move rfl) ?_)
  refine L (S (P_move rfl) ?_)
  refine L (S (P_move rfl) ?_)
  refine L (S (P_move rfl) ?_)
  refine L (S_call cb_128 rfl ((insIdx_ret hn h0 (by omega) ho hf)) ?_)
  rintro _ w2 ⟨ho2, hm2⟩
  refine L_nil ?_
  refine then_n ?_
  refine C_block ?_
  refine C_loop (γ := Unit) (fun _ => [(0, .slice (some ⟨b, 0, none⟩) n c), (1, .int .i64 (n : Int)), (2, fv), (6, .int .i64 20)]) (fun _ wq => wq = w2) (fun _ => 0) () (.cons rfl (.cons rfl (.cons rfl (.cons rfl (.nil _))))) rfl ?_
  rintro _ wq rfl
  refine C_seq ?_
  refine C_seq ?_
  refine C_region ?_
  refine L (S (P_move rfl) ?_)
  refine L (S (P_move rfl) ?_)
  refine L (S (P_lt rfl rfl (decide_eq_false (by omega))) ?_)
  refine L_nil ?_
  refine then_n ?_
  refine C_false rfl ?_
  refine C_exit ?_
  refine then_x ?_
  refine then_x ?_
  refine blk_x ?_
  refine F_end0 Tryz.results111 ?_
  exact ⟨ho2, hm2⟩
theorem sortIdx_ret {xs : List Idx} {b c n base : Nat} (hn : xs.length = n) (h0 : 0 < n) (hl : n ≤ 19) (ho : w.ownsRow base 30 6 (.slice (some ⟨b, 0, none⟩) n c) n (cellsL idxC xs)) {fv : Value} {lt : Idx → Idx → Bool} (hf : FnC Tryz.prog fv idxC lt) : Ret Tryz.prog 68 [.slice (some ⟨b, 0, none⟩) n c, fv] w fun _ w' => w'.ownsRow base 30 6 (.slice (some ⟨b, 0, none⟩) n c) n (cellsL idxC (sortI lt xs)) ∧ Mv (At b) w w' := by
  refine F_enter Tryz.func68 Tryz.ntmps68 rfl rfl ?_
  refine C_region ?_
  refine L (S (P_move rfl) ?_)
  refine L (S (P_move rfl) ?_)
  refine L (S (P_lenS Tryz.underlying35 rfl) ?_)
  refine L (S (P_move rfl) ?_)
  refine L (S_call cb_111 rfl ((stableIdx_ret hn h0 hl ho hf)) ?_)
  rintro _ w2 ⟨ho2, hm2⟩
  refine L_nil ?_
  refine F_end0 Tryz.results68 ?_
  exact ⟨ho2, hm2⟩
end
end Go.Proofs.YtnoioimphcmeiaaGreatDoor
