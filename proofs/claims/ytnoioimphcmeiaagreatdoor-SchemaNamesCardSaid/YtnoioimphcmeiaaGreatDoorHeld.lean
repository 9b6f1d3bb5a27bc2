/- Drawn regions under a condition on the world that every operation keeps: a load whose cell nobody writes is taken first. No program is named here. -/
import Derived.Test.YtnoioimphcmeiaaGreatDoorFn
import Derived.OrdersHeld
namespace Go.Proofs.YtnoioimphcmeiaaGreatDoor
open Go.RowKit

theorem and_keep {p q : Prop} (h : p) (k : p → q) : p ∧ q := ⟨h, k h⟩

section
variable {P : Program} {n : Nat} {Q : Post} {f : Fr} {ds : List Deferred} {w : World} {S : World → Prop}
def wpAH (P : Program) (n : Nat) (ops : Array Oper) (Q : Post) (S : World → Prop) (fuel : Nat) (listed : Array Bool) (f : Fr) (ds : List Deferred) (w : World) : Prop :=
  ∀ a, Of n f a → a.defers = ds → wpAnyH P .any ops (QA n Q) S fuel listed a w

theorem C_drawS {id : Nat} {ops : Array Oper} (S : World → Prop) (m : Nat) (hm : P.follows .mixedOrders = true) (hsz : ops.size = m) (hS : S w.drew) (h : S w.drew → wpAH P n ops Q S m (Array.replicate m false) f ds w.drew) : wpF P n (.region id ops true) Q f ds w :=
  fun a ha hd => wp_region_held (S := S) hm (by rw [hsz]; exact h hS a ha hd)
/-- All that stood when the region began stays. -/
theorem C_drawQ {id : Nat} {ops : Array Oper} (m : Nat) (hm : P.follows .mixedOrders = true) (hsz : ops.size = m) (h : Mv No w w.drew → wpAH P n ops Q (fun w' => Mv No w w') m (Array.replicate m false) f ds w.drew) : wpF P n (.region id ops true) Q f ds w :=
  C_drawS (fun w' => Mv No w w') m hm hsz (Mv.refl w).drew h
/-- All but one block. -/
theorem C_drawG {id : Nat} {ops : Array Oper} (g m : Nat) (hm : P.follows .mixedOrders = true) (hsz : ops.size = m) (h : Mv (At g) w w.drew → wpAH P n ops Q (fun w' => Mv (At g) w w') m (Array.replicate m false) f ds w.drew) : wpF P n (.region id ops true) Q f ds w :=
  C_drawS (fun w' => Mv (At g) w w') m hm hsz (Mv.refl w).drew h

theorem H_done {ops : Array Oper} {fuel : Nat} {listed : Array Bool} (hr : Region.ready .any ops listed = []) (h : Q .normal f ds w) : wpAH P n ops Q S fuel listed f ds w :=
  fun a ha hd => wpAnyH_done hr ⟨f, ha, hd ▸ h⟩ fuel

theorem H_all {ops : Array Oper} {fuel : Nat} {listed : Array Bool} {rs : List Nat} (hr : Region.ready .any ops listed = rs) (hne : rs ≠ [])
    (h : ∀ i ∈ rs, ∀ a, Of n f a → a.defers = ds → wpOp P ops (QA n Q) i (fun a' w' => S w' ∧ wpAnyH P .any ops (QA n Q) S fuel (listed.setIfInBounds i true) a' w') a w) : wpAH P n ops Q S (fuel + 1) listed f ds w :=
  fun a ha hd => wpAnyH_all hr hne fun i hi => h i hi a ha hd

section
variable {ops : Array Oper} {fuel i d : Nat} {v : Value} {listed : Array Bool} {o : Oper}
theorem H_op (ho : ops[i]? = some o) (h : opF P n o (fun f' ds' w' => S w' ∧ wpAH P n ops Q S fuel (listed.setIfInBounds i true) f' ds' w') Q f ds w) (hg : o.guard = none := by rfl) :
    ∀ a, Of n f a → a.defers = ds → wpOp P ops (QA n Q) i (fun a' w' => S w' ∧ wpAnyH P .any ops (QA n Q) S fuel (listed.setIfInBounds i true) a' w') a w := fun a ha hd =>
  wpOp_step ho fun K hK => by
    rw [if_pos (by simp [Region.wanted, hg])]
    exact h a ha hd K fun _ a' w' hof hN => hK a' w' ⟨hN.1, hN.2 a' hof rfl⟩
theorem H_yes {j dj : Nat} {b : Bool} (ho : ops[i]? = some o) (hv : fget f dj = some (.bool b)) (h : opF P n o (fun f' ds' w' => S w' ∧ wpAH P n ops Q S fuel (listed.setIfInBounds i true) f' ds' w') Q f ds w) (hg : o.guard = some (j, b) := by rfl) (hj : (ops[j]?).bind (·.dst) = some dj := by rfl) :
    ∀ a, Of n f a → a.defers = ds → wpOp P ops (QA n Q) i (fun a' w' => S w' ∧ wpAnyH P .any ops (QA n Q) S fuel (listed.setIfInBounds i true) a' w') a w := fun a ha hd =>
  wpOp_step ho fun K hK => by
    have hw : Region.wanted o (yielded ops a.tmps) = true := by
      have := ha.val dj _ hv
      simp [Region.wanted, hg, yielded, hj, this]
    rw [if_pos hw]
    exact h a ha hd K fun _ a' w' hof hN => hK a' w' ⟨hN.1, hN.2 a' hof rfl⟩

abbrev HA (P : Program) (n : Nat) (ops : Array Oper) (Q : Post) (S : World → Prop) (fuel i : Nat) (listed : Array Bool) (f : Fr) (ds : List Deferred) (w : World) : Prop :=
  ∀ a, Of n f a → a.defers = ds → wpOp P ops (QA n Q) i (fun a' w' => S w' ∧ wpAnyH P .any ops (QA n Q) S fuel (listed.setIfInBounds i true) a' w') a w
theorem H_one (h : HA P n ops Q S fuel i listed f ds w) (hr : Region.ready .any ops listed = [i]) : wpAH P n ops Q S (fuel + 1) listed f ds w :=
  H_all hr (by simp) fun j hj => by
    have : j = i := by simpa using hj
    subst this; exact h
theorem H_two {i2 : Nat} (h : HA P n ops Q S fuel i listed f ds w) (h2 : HA P n ops Q S fuel i2 listed f ds w)
    (hr : Region.ready .any ops listed = [i, i2]) : wpAH P n ops Q S (fuel + 1) listed f ds w :=
  H_all hr (by simp) fun j hj => by
    have : j = i ∨ j = i2 := by simpa using hj
    rcases this with rfl | rfl
    · exact h
    · exact h2
theorem H_three {i2 i3 : Nat} (h : HA P n ops Q S fuel i listed f ds w) (h2 : HA P n ops Q S fuel i2 listed f ds w) (h3 : HA P n ops Q S fuel i3 listed f ds w)
    (hr : Region.ready .any ops listed = [i, i2, i3]) : wpAH P n ops Q S (fuel + 1) listed f ds w :=
  H_all hr (by simp) fun j hj => by
    have : j = i ∨ j = i2 ∨ j = i3 := by simpa using hj
    rcases this with rfl | rfl | rfl
    · exact h
    · exact h2
    · exact h3

/-- What yields the same in whatever world meets the condition. -/
def PureS (P : Program) (n : Nat) (S : World → Prop) (o : Oper) (f : Fr) (v : Value) : Prop := ∀ a, Of n f a → ∀ w, S w → (execOp a.eval o).run P w = .ok (.value v) w
theorem PureV.toS (h : PureV P n o f v) : PureS P n S o f v := fun a ha w _ => h a ha w

theorem H_take (ho : ops[i]? = some o) (hd : o.dst = some d) (hn : Nat.blt d n = true) (hs : Region.noSelect ops = true) (hf : Region.free .any ops listed i = true)
    (hr : (Region.ready .any ops listed).contains i = true) (hQ : ∀ c f ds w, Q (.panic c) f ds w → False) (hy : ∀ a, Of n f a → YieldsIf P ops S o v a) (hS : S w) (h : wpAH P n ops Q S fuel (listed.setIfInBounds i true) ((d, v) :: f) ds w) :
    wpAH P n ops Q S (fuel + 1) listed f ds w := fun a ha hds =>
  wpAnyH_take ho hs hf hr (fun c a w ⟨f, _, hq⟩ => (hQ c f _ w hq).elim) (hy a ha) hS (by rw [hd]; exact h _ (ha.put hn) hds)

theorem H_pure (ho : ops[i]? = some o) (hp : PureS P n S o f v) (h : wpAH P n ops Q S fuel (listed.setIfInBounds i true) ((d, v) :: f) ds w) (hS : S w) (hs : Region.noSelect ops = true) (hf : Region.free .any ops listed i = true) (hr : (Region.ready .any ops listed).contains i = true)
    (hQ : ∀ c f ds w, Q (.panic c) f ds w → False) (hd : o.dst = some d) (hn : Nat.blt d n = true) (hg : o.guard = none) : wpAH P n ops Q S (fuel + 1) listed f ds w :=
  H_take ho hd hn hs hf hr hQ (fun a ha => .inl ⟨by simp [Region.wanted, hg], hp a ha⟩) hS h
theorem H_pureY {j dj : Nat} {b : Bool} (ho : ops[i]? = some o) (hp : PureS P n S o f v) (hv : fget f dj = some (.bool b)) (h : wpAH P n ops Q S fuel (listed.setIfInBounds i true) ((d, v) :: f) ds w) (hS : S w) (hs : Region.noSelect ops = true) (hf : Region.free .any ops listed i = true) (hr : (Region.ready .any ops listed).contains i = true)
    (hQ : ∀ c f ds w, Q (.panic c) f ds w → False) (hd : o.dst = some d) (hn : Nat.blt d n = true) (hg : o.guard = some (j, b)) (hj : (ops[j]?).bind (·.dst) = some dj) : wpAH P n ops Q S (fuel + 1) listed f ds w :=
  H_take ho hd hn hs hf hr hQ (fun a ha => .inl ⟨by
    have := ha.val dj _ hv
    simp [Region.wanted, hg, yielded, hj, this], hp a ha⟩) hS h
theorem H_pureN {j dj : Nat} {b b' : Bool} (ho : ops[i]? = some o) (hv : fget f dj = some (.bool b')) (h : wpAH P n ops Q S fuel (listed.setIfInBounds i true) ((d, undef) :: f) ds w) (hS : S w) (hs : Region.noSelect ops = true) (hf : Region.free .any ops listed i = true) (hr : (Region.ready .any ops listed).contains i = true)
    (hQ : ∀ c f ds w, Q (.panic c) f ds w → False) (hd : o.dst = some d) (hn : Nat.blt d n = true) (hg : o.guard = some (j, b)) (hne : (b' == b) = false) (hj : (ops[j]?).bind (·.dst) = some dj) : wpAH P n ops Q S (fuel + 1) listed f ds w :=
  H_take ho hd hn hs hf hr hQ (fun a ha => .inr ⟨by
    have := ha.val dj _ hv
    simp only [Region.wanted, hg, yielded, hj, this, Option.bind_some]
    cases b <;> cases b' <;> simp_all, rfl⟩) hS h
theorem H_pureNu {j dj : Nat} {b : Bool} (ho : ops[i]? = some o) (hv : fget f dj = some undef) (h : wpAH P n ops Q S fuel (listed.setIfInBounds i true) ((d, undef) :: f) ds w) (hS : S w) (hs : Region.noSelect ops = true) (hf : Region.free .any ops listed i = true) (hr : (Region.ready .any ops listed).contains i = true)
    (hQ : ∀ c f ds w, Q (.panic c) f ds w → False) (hd : o.dst = some d) (hn : Nat.blt d n = true) (hg : o.guard = some (j, b)) (hj : (ops[j]?).bind (·.dst) = some dj) : wpAH P n ops Q S (fuel + 1) listed f ds w :=
  H_take ho hd hn hs hf hr hQ (fun a ha => .inr ⟨by
    have := ha.val dj _ hv
    simp [Region.wanted, hg, yielded, hj, this, undef], rfl⟩) hS h
end

variable {d : Nat} {x y : Operand} {t yt ty : TypeId} {pos : String} {af : Array Edge} {g : Option (Nat × Bool)}
theorem PS_load {A : Addr} {v : Value} (hs : scalarT P t = true) (hx : ev f x = some (.pointer (some A))) (hc : ∀ w, S w → w.cell? A = some v) : PureS P n S ⟨some d, .load t x, ty, pos, af, g⟩ f v :=
  fun a ha w hw => by simp [execOp, ha.ev hx, Instr.loadAt, Instr.sureAddr, loadVar, run_isAgg_scalar hs, run_load, hc w hw]
theorem PS_loadS {b off m : Nat} {cs : List Value} (hs : structT P t m = true) (hx : ev f x = some (.pointer (some ⟨b, off, none⟩))) (hr : ∀ w, S w → Row w b off cs) (hm : cs.length = m) : PureS P n S ⟨some d, .load t x, ty, pos, af, g⟩ f (.agg cs.toArray) :=
  fun a ha w hw => by
    subst hm
    have hl := run_loadCells_list (P := P) w ⟨b, off, none⟩ cs (fun j v hv => by rw [Addr.add_lit]; exact hr w hw j v hv)
    simp [execOp, ha.ev hx, Instr.loadAt, Instr.sureAddr, loadVar, (run_isAgg_struct (w := w) hs).1, (run_isAgg_struct (w := w) hs).2, hl]
end
end Go.Proofs.YtnoioimphcmeiaaGreatDoor
