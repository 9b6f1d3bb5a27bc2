/- A walk by frames: what the slots hold stands in a list, each operation is one rule. No program is named here. -/
import Derived.WalkKit
import Derived.Orders
namespace Go.Proofs.YtnoioimphcmeiaaGreatDoor
open Go.RowKit

/-- What is known of a frame: slots and what they hold, the newest first. -/
abbrev Fr := List (Nat × Value)

def fget : Fr → Nat → Option Value
  | [], _ => none
  | (k, v) :: r, s => bif Nat.beq k s then some v else fget r s

def ev (f : Fr) : Operand → Option Value
  | .tmp t => fget f t
  | .const v => some v
  | .global g => some (.pointer (some ⟨g, 0, none⟩))
  | .func k => some (.func (.func k) #[] #[])

theorem nbeq_ne {a b : Nat} (h : a ≠ b) : Nat.beq a b = false := by
  cases hb : Nat.beq a b
  · rfl
  · exact absurd (Nat.eq_of_beq_eq_true hb) h

structure Of (n : Nat) (f : Fr) (a : Act) : Prop where
  size : a.tmps.size = n
  val : ∀ s v, fget f s = some v → a.tmps[s]? = some v

theorem Of.ev {n : Nat} {f : Fr} {a : Act} {x : Operand} {v : Value} (h : Of n f a) (hx : ev f x = some v) : a.eval x = v := by
  cases x with
  | tmp t =>
    have := h.val t v hx
    simp only [Act.eval, Array.getD_eq_getD_getElem?, this, Option.getD_some]
  | const u => simpa [Go.Proofs.YtnoioimphcmeiaaGreatDoor.ev, Act.eval] using hx
  | global g => simpa [Go.Proofs.YtnoioimphcmeiaaGreatDoor.ev, Act.eval] using hx
  | func k => simpa [Go.Proofs.YtnoioimphcmeiaaGreatDoor.ev, Act.eval] using hx

theorem Of.put {n : Nat} {f : Fr} {a : Act} {d : Nat} {v : Value} (h : Of n f a) (hd : Nat.blt d n = true) : Of n ((d, v) :: f) (a.put (some d) v) := by
  have hlt : d < n := by simpa using hd
  refine ⟨by simp [Act.put, h.size], fun s u hs => ?_⟩
  simp only [Act.put, Array.getElem?_setIfInBounds, h.size]
  by_cases hds : d = s
  · subst hds
    have : some v = some u := by simpa [fget] using hs
    simp [hlt, this]
  · have : fget f s = some u := by
      have hb : Nat.beq d s = false := nbeq_ne hds
      simpa [fget, hb] using hs
    rw [if_neg hds]
    exact h.val s u this

theorem Of.put_none {n : Nat} {f : Fr} {a : Act} {v : Value} (h : Of n f a) : Of n f (a.put none v) := h

/-- The same frame, told by fewer words. -/
def Sub (f' f : Fr) : Prop := ∀ s v, fget f' s = some v → fget f s = some v
theorem Sub.nil (f : Fr) : Sub [] f := fun _ _ h => by simp [fget] at h
theorem Sub.cons {f' f : Fr} {s : Nat} {v : Value} (h : fget f s = some v) (hs : Sub f' f) : Sub ((s, v) :: f') f := fun t u ht => by
  by_cases hst : s = t
  · subst hst
    have : v = u := by simpa [fget] using ht
    rw [h, this]
  · have hb : Nat.beq s t = false := nbeq_ne hst
    exact hs t u (by simpa [fget, hb] using ht)
theorem Of.sub {n : Nat} {f f' : Fr} {a : Act} (h : Of n f a) (hs : Sub f' f) : Of n f' a := ⟨h.size, fun s v hv => h.val s v (hs s v hv)⟩

abbrev Post := Exit → Fr → List Deferred → World → Prop
abbrev Nxt := Fr → List Deferred → World → Prop

def QA (n : Nat) (Q : Post) : Exit → Act → World → Prop := fun e a w => ∃ f, Of n f a ∧ Q e f a.defers w

def wpF (P : Program) (n : Nat) (c : Code) (Q : Post) (f : Fr) (ds : List Deferred) (w : World) : Prop :=
  ∀ a, Of n f a → a.defers = ds → c.wp P (QA n Q) a w

def wpL (P : Program) (n : Nat) (ops : Array Oper) (Q : Post) (l : List Oper) (f : Fr) (ds : List Deferred) (w : World) : Prop :=
  ∀ a, Of n f a → a.defers = ds → wpList P ops (QA n Q) l a w

/-- One operation, whatever stands behind it. -/
def opF (P : Program) (n : Nat) (o : Oper) (N : Nxt) (Q : Post) (f : Fr) (ds : List Deferred) (w : World) : Prop :=
  ∀ a, Of n f a → a.defers = ds → ∀ K : Act → World → Prop, (∀ f' a' w', Of n f' a' → N f' a'.defers w' → K a' w') → o.wp P a w K (QA n Q)

def thenF (K : Nxt) (Q : Post) : Post
  | .normal, f, ds, w => K f ds w
  | e, f, ds, w => Q e f ds w

def blkF (id : Nat) (Q : Post) : Post
  | .exit id', f, ds, w => bif Nat.beq id' id then Q .normal f ds w else Q (.exit id') f ds w
  | e, f, ds, w => Q e f ds w

section
variable {P : Program} {n : Nat} {Q : Post} {f : Fr} {ds : List Deferred} {w : World}

/- the exits -/
theorem then_n {K : Nxt} (h : K f ds w) : thenF K Q .normal f ds w := h
theorem then_x {K : Nxt} {id : Nat} (h : Q (.exit id) f ds w) : thenF K Q (.exit id) f ds w := h
theorem then_r {K : Nxt} (h : Q .ret f ds w) : thenF K Q .ret f ds w := h
theorem then_p {K : Nxt} {c : List PanicEntry} (h : Q (.panic c) f ds w) : thenF K Q (.panic c) f ds w := h
theorem blk_n {id : Nat} (h : Q .normal f ds w) : blkF id Q .normal f ds w := h
theorem blk_r {id : Nat} (h : Q .ret f ds w) : blkF id Q .ret f ds w := h
theorem blk_p {id : Nat} {c : List PanicEntry} (h : Q (.panic c) f ds w) : blkF id Q (.panic c) f ds w := h
theorem blk_x {id : Nat} (h : Q .normal f ds w) : blkF id Q (.exit id) f ds w := by
  simp only [blkF]
  rw [show Nat.beq id id = true by simp]
  exact h
theorem blk_o {id id' : Nat} (hb : Nat.beq id' id = false) (h : Q (.exit id') f ds w) : blkF id Q (.exit id') f ds w := by
  simp only [blkF, hb]
  exact h

/- code -/
theorem C_seq {x y : Code} (h : wpF P n x (thenF (wpF P n y Q) Q) f ds w) : wpF P n (.seq x y) Q f ds w := fun a ha hd =>
  wp_seq (wp_mono (h a ha hd) fun e a' w' ⟨f', hf', hq⟩ => by
    cases e with
    | normal => exact hq a' hf' rfl
    | _ => exact ⟨f', hf', hq⟩)

theorem C_block {id : Nat} {c : Code} (h : wpF P n c (blkF id Q) f ds w) : wpF P n (.block id c) Q f ds w := fun a ha hd =>
  wp_block (wp_mono (h a ha hd) fun e a' w' ⟨f', hf', hq⟩ => by
    cases e with
    | exit id' =>
      simp only [Exit.inBlock]
      by_cases hid : id' = id
      · subst hid
        simp only [if_true]
        simp only [blkF] at hq
        rw [show Nat.beq id' id' = true by simp] at hq
        exact ⟨f', hf', hq⟩
      · rw [if_neg hid]
        simp only [blkF] at hq
        rw [nbeq_ne hid] at hq
        exact ⟨f', hf', hq⟩
    | _ => exact ⟨f', hf', hq⟩)

theorem C_skip (h : Q .normal f ds w) : wpF P n .skip Q f ds w := fun a ha hd => wp_skip ⟨f, ha, hd ▸ h⟩
theorem C_ret (h : Q .ret f ds w) : wpF P n .ret Q f ds w := fun a ha hd => wp_ret ⟨f, ha, hd ▸ h⟩
theorem C_exit {id : Nat} (h : Q (.exit id) f ds w) : wpF P n (.exit id) Q f ds w := fun a ha hd => wp_exit ⟨f, ha, hd ▸ h⟩
theorem C_label {l : Nat} (h : Q .normal f ds w) : wpF P n (.label l) Q f ds w := fun a ha hd => wp_label ⟨f, ha, hd ▸ h⟩

theorem C_true {c : Operand} {x y : Code} (hc : ev f c = some (.bool true)) (h : wpF P n x Q f ds w) : wpF P n (.cond c x y) Q f ds w :=
  fun a ha hd => wp_cond_true (ha.ev hc) (h a ha hd)
theorem C_false {c : Operand} {x y : Code} (hc : ev f c = some (.bool false)) (h : wpF P n y Q f ds w) : wpF P n (.cond c x y) Q f ds w :=
  fun a ha hd => wp_cond_false (ha.ev hc) (h a ha hd)
theorem C_if {c : Operand} {x y : Code} {b : Bool} (hc : ev f c = some (.bool b)) (ht : b = true → wpF P n x Q f ds w) (hf : b = false → wpF P n y Q f ds w) : wpF P n (.cond c x y) Q f ds w := by
  cases b
  · exact C_false hc (hf rfl)
  · exact C_true hc (ht rfl)
theorem C_ifp {c : Operand} {x y : Code} {b : Bool} (hc : ev f c = some (.bool b)) {p : Prop} {dp : Decidable p} (hp : b = @decide p dp) (ht : p → wpF P n x Q f ds w) (hf : ¬ p → wpF P n y Q f ds w) : wpF P n (.cond c x y) Q f ds w :=
  C_if hc (fun h => ht (of_decide_eq_true (hp ▸ h))) (fun h => hf (of_decide_eq_false (hp ▸ h)))

theorem C_region {id : Nat} {l : List Oper} (h : wpL P n l.toArray Q l f ds w) : wpF P n (.region id l.toArray false) Q f ds w :=
  fun a ha hd => wp_region_lit (h a ha hd)

theorem C_forget {c : Code} {f' : Fr} (hs : Sub f' f) (h : wpF P n c Q f' ds w) : wpF P n c Q f ds w := fun a ha hd => h a (ha.sub hs) hd

/-- A loop: 'fr' tells the frame at a round's head by what the letters are, 'I' what holds of them, 'μ' goes down. -/
theorem C_loop {γ : Type} {c : Code} (fr : γ → Fr) (I : γ → World → Prop) (μ : γ → Nat) (g₀ : γ) (hs : Sub (fr g₀) f) (h₀ : I g₀ w)
    (round : ∀ g w, I g w → wpF P n c (thenF (fun f' ds' w' => ds' = ds ∧ ∃ g', Sub (fr g') f' ∧ I g' w' ∧ μ g' < μ g) Q) (fr g) ds w) : wpF P n (.loop c) Q f ds w := by
  intro a ha hd
  intro b k cs
  have key : ∀ m (g : γ) a w, μ g = m → Of n (fr g) a → a.defers = ds → I g w →
      ∃ e a' w', QA n Q e a' w' ∧ Arrives P (lone (b.at a (.code c :: .inLoop c :: k)) cs w) b k cs e a' w' := by
    intro m
    induction m using Nat.strongRecOn with
    | _ m ih =>
      intro g a w hm hof hds hI
      obtain ⟨e, a₁, w₁, ⟨f₁, hof₁, hq⟩, harr⟩ := round g w hI a hof hds b (.inLoop c :: k) cs
      cases e with
      | normal =>
        obtain ⟨hd₁, g', hs', hI', hlt⟩ := hq
        obtain ⟨e₂, a₂, w₂, hq₂, harr₂⟩ := ih (μ g') (hm ▸ hlt) g' a₁ w₁ rfl (hof₁.sub hs') hd₁ hI'
        exact ⟨e₂, a₂, w₂, hq₂, .of_steps (Steps.trans harr (.one step_inLoop)) harr₂⟩
      | exit id => exact ⟨_, a₁, w₁, ⟨f₁, hof₁, hq⟩, .pass (x := .inLoop c) rfl (fun _ _ => .inl (by simp)) harr⟩
      | goto l => exact ⟨_, a₁, w₁, ⟨f₁, hof₁, hq⟩, .pass (x := .inLoop c) rfl (fun _ _ => .inl (by simp)) harr⟩
      | ret => exact ⟨_, a₁, w₁, ⟨f₁, hof₁, hq⟩, .pass (x := .inLoop c) rfl (fun _ _ => .inl (by simp)) harr⟩
      | panic ch => exact ⟨_, a₁, w₁, ⟨f₁, hof₁, hq⟩, .pass (x := .inLoop c) rfl (fun _ _ => .inl (by simp)) harr⟩
      | outgrown => exact ⟨_, a₁, w₁, ⟨f₁, hof₁, hq⟩, .pass (x := .inLoop c) rfl (fun _ _ => .inl (by simp)) harr⟩
  obtain ⟨e, a', w', hq, harr⟩ := key _ g₀ a w rfl (ha.sub hs) hd h₀
  exact ⟨e, a', w', hq, .of_steps (.one step_loop) harr⟩

/-- A round's end. -/
theorem round_end {γ : Type} {fr : γ → Fr} {I : γ → World → Prop} {μ : γ → Nat} {g : γ} {f' : Fr} {w' : World} (g' : γ) (hs : Sub (fr g') f') (hI : I g' w') (hm : μ g' < μ g) :
    thenF (fun f' ds' w' => ds' = ds ∧ ∃ g', Sub (fr g') f' ∧ I g' w' ∧ μ g' < μ g) Q .normal f' ds w' := ⟨rfl, g', hs, hI, hm⟩

/-- A cut: what stands behind a piece of code is proved once. -/
theorem C_cut {c : Code} {K : Nxt} (J : Nxt) (h : wpF P n c (thenF J Q) f ds w) (hJ : ∀ f ds w, J f ds w → K f ds w) : wpF P n c (thenF K Q) f ds w := fun a ha hd =>
  wp_mono (h a ha hd) fun e a' w' ⟨f', hf', hq⟩ => ⟨f', hf', by
    cases e with
    | normal => exact hJ _ _ _ hq
    | _ => exact hq⟩

/-- A piece of code by the letters that it leaves. -/
theorem C_cutg {γ : Type} {c : Code} {K : Nxt} (fr : γ → Fr) (I : γ → World → Prop) (h : wpF P n c (thenF (fun f' ds' w' => ds' = ds ∧ ∃ g, Sub (fr g) f' ∧ I g w') Q) f ds w)
    (hK : ∀ g w, I g w → ∀ f', Sub (fr g) f' → K f' ds w) : wpF P n c (thenF K Q) f ds w :=
  C_cut _ h fun f' ds' w' ⟨hd, g, hs, hI⟩ => by subst hd; exact hK g w' hI f' hs
theorem cut_end {γ : Type} {fr : γ → Fr} {I : γ → World → Prop} {f' : Fr} {w' : World} (g : γ) (hs : Sub (fr g) f') (hI : I g w') :
    thenF (fun f' ds' w' => ds' = ds ∧ ∃ g, Sub (fr g) f' ∧ I g w') Q .normal f' ds w' := ⟨rfl, g, hs, hI⟩

/- lists of operations -/
theorem L_nil {ops : Array Oper} (h : Q .normal f ds w) : wpL P n ops Q [] f ds w := fun _ ha hd => wpList_nil ⟨f, ha, hd ▸ h⟩

theorem L {ops : Array Oper} {o : Oper} {rest : List Oper} (h : opF P n o (wpL P n ops Q rest) Q f ds w) (hg : o.guard = none := by rfl) : wpL P n ops Q (o :: rest) f ds w := fun a ha hd =>
  wpList_plain hg fun K hK => h a ha hd K fun _ a' w' hof hN => hK a' w' (hN a' hof rfl)

/-- A guarded operation that runs. -/
theorem L_yes {ops : Array Oper} {o : Oper} {rest : List Oper} {j dj : Nat} {b : Bool} (h : opF P n o (wpL P n ops Q rest) Q f ds w) (hv : fget f dj = some (.bool b)) (hg : o.guard = some (j, b) := by rfl) (hj : (ops[j]?).bind (·.dst) = some dj := by rfl) : wpL P n ops Q (o :: rest) f ds w := fun a ha hd =>
  wpList_step fun K hK => by
    have hw : Region.wanted o (yielded ops a.tmps) = true := by
      have := ha.val dj _ hv
      simp [Region.wanted, hg, yielded, hj, this]
    rw [if_pos hw]
    exact h a ha hd K fun _ a' w' hof hN => hK a' w' (hN a' hof rfl)

/-- A guarded operation that does not run. -/
theorem L_no {ops : Array Oper} {o : Oper} {rest : List Oper} {j dj d : Nat} {b b' : Bool} (hv : fget f dj = some (.bool b')) (h : wpL P n ops Q rest ((d, undef) :: f) ds w) (hg : o.guard = some (j, b) := by rfl) (hne : (b' == b) = false := by rfl) (hd : o.dst = some d := by rfl) (hn : Nat.blt d n = true := by rfl) (hj : (ops[j]?).bind (·.dst) = some dj := by rfl) : wpL P n ops Q (o :: rest) f ds w := fun a ha hds =>
  wpList_step fun K hK => by
    have hw : Region.wanted o (yielded ops a.tmps) = false := by
      have := ha.val dj _ hv
      simp only [Region.wanted, hg, yielded, hj, this, Option.bind_some]
      cases b <;> cases b' <;> simp_all
    rw [if_neg (by rw [hw]; simp), hd]
    exact hK _ _ (h _ (ha.put hn) hds)

/-- A guarded operation whose test did not run. -/
theorem L_nou {ops : Array Oper} {o : Oper} {rest : List Oper} {j dj d : Nat} {b : Bool} (hv : fget f dj = some undef) (h : wpL P n ops Q rest ((d, undef) :: f) ds w) (hg : o.guard = some (j, b) := by rfl) (hd : o.dst = some d := by rfl) (hn : Nat.blt d n = true := by rfl) (hj : (ops[j]?).bind (·.dst) = some dj := by rfl) : wpL P n ops Q (o :: rest) f ds w := fun a ha hds =>
  wpList_step fun K hK => by
    have hw : Region.wanted o (yielded ops a.tmps) = false := by
      have := ha.val dj _ hv
      simp [Region.wanted, hg, yielded, hj, this, undef]
    rw [if_neg (by rw [hw]; simp), hd]
    exact hK _ _ (h _ (ha.put hn) hds)

/- a region that draws its order -/
def wpA (P : Program) (n : Nat) (ops : Array Oper) (Q : Post) (fuel : Nat) (listed : Array Bool) (f : Fr) (ds : List Deferred) (w : World) : Prop :=
  ∀ a, Of n f a → a.defers = ds → wpAny P .any ops (QA n Q) fuel listed a w

theorem C_draw {id : Nat} {ops : Array Oper} (m : Nat) (hm : P.follows .mixedOrders = true) (hsz : ops.size = m) (h : wpA P n ops Q m (Array.replicate m false) f ds w.drew) : wpF P n (.region id ops true) Q f ds w :=
  fun a ha hd => wp_region_any hm (by rw [hsz]; exact h a ha hd)

theorem A_done {ops : Array Oper} {fuel : Nat} {listed : Array Bool} (hr : Region.ready .any ops listed = []) (h : Q .normal f ds w) : wpA P n ops Q fuel listed f ds w :=
  fun a ha hd => wpAny_done hr ⟨f, ha, hd ▸ h⟩ fuel

/-- What may come up now is taken: each a way of its own. -/
theorem A_all {ops : Array Oper} {fuel : Nat} {listed : Array Bool} {rs : List Nat} (hr : Region.ready .any ops listed = rs) (hne : rs ≠ [])
    (h : ∀ i ∈ rs, ∀ a, Of n f a → a.defers = ds → wpOp P ops (QA n Q) i (wpAny P .any ops (QA n Q) fuel (listed.setIfInBounds i true)) a w) : wpA P n ops Q (fuel + 1) listed f ds w :=
  fun a ha hd => wpAny_all hr hne fun i hi => h i hi a ha hd

/-- The one that may come up now runs. -/
theorem A_op {ops : Array Oper} {fuel i : Nat} {listed : Array Bool} {o : Oper} (ho : ops[i]? = some o) (h : opF P n o (wpA P n ops Q fuel (listed.setIfInBounds i true)) Q f ds w) (hg : o.guard = none := by rfl) :
    ∀ a, Of n f a → a.defers = ds → wpOp P ops (QA n Q) i (wpAny P .any ops (QA n Q) fuel (listed.setIfInBounds i true)) a w := fun a ha hd =>
  wpOp_step ho fun K hK => by
    rw [if_pos (by simp [Region.wanted, hg])]
    exact h a ha hd K fun _ a' w' hof hN => hK a' w' (hN a' hof rfl)

theorem A_yes {ops : Array Oper} {fuel i j dj : Nat} {b : Bool} {listed : Array Bool} {o : Oper} (ho : ops[i]? = some o) (hv : fget f dj = some (.bool b)) (h : opF P n o (wpA P n ops Q fuel (listed.setIfInBounds i true)) Q f ds w) (hg : o.guard = some (j, b) := by rfl) (hj : (ops[j]?).bind (·.dst) = some dj := by rfl) :
    ∀ a, Of n f a → a.defers = ds → wpOp P ops (QA n Q) i (wpAny P .any ops (QA n Q) fuel (listed.setIfInBounds i true)) a w := fun a ha hd =>
  wpOp_step ho fun K hK => by
    have hw : Region.wanted o (yielded ops a.tmps) = true := by
      have := ha.val dj _ hv
      simp [Region.wanted, hg, yielded, hj, this]
    rw [if_pos hw]
    exact h a ha hd K fun _ a' w' hof hN => hK a' w' (hN a' hof rfl)

theorem A_no {ops : Array Oper} {fuel i j dj d : Nat} {b b' : Bool} {listed : Array Bool} {o : Oper} (ho : ops[i]? = some o) (hv : fget f dj = some (.bool b')) (h : wpA P n ops Q fuel (listed.setIfInBounds i true) ((d, undef) :: f) ds w) (hg : o.guard = some (j, b) := by rfl) (hne : (b' == b) = false := by rfl) (hd : o.dst = some d := by rfl) (hn : Nat.blt d n = true := by rfl) (hj : (ops[j]?).bind (·.dst) = some dj := by rfl) :
    ∀ a, Of n f a → a.defers = ds → wpOp P ops (QA n Q) i (wpAny P .any ops (QA n Q) fuel (listed.setIfInBounds i true)) a w := fun a ha hds =>
  wpOp_step ho fun K hK => by
    have hw : Region.wanted o (yielded ops a.tmps) = false := by
      have := ha.val dj _ hv
      simp only [Region.wanted, hg, yielded, hj, this, Option.bind_some]
      cases b <;> cases b' <;> simp_all
    rw [if_neg (by rw [hw]; simp), hd]
    exact hK _ _ (h _ (ha.put hn) hds)

/-- One that yields the same in whatever world may be taken first. -/
theorem A_take {ops : Array Oper} {fuel i d : Nat} {v : Value} {listed : Array Bool} {o : Oper} (ho : ops[i]? = some o) (hd : o.dst = some d) (hn : Nat.blt d n = true) (hs : Region.noSelect ops = true) (hf : Region.free .any ops listed i = true)
    (hr : (Region.ready .any ops listed).contains i = true) (hQ : ∀ c f ds w, Q (.panic c) f ds w → False) (hy : ∀ a, Of n f a → Yields P ops o v a) (h : wpA P n ops Q fuel (listed.setIfInBounds i true) ((d, v) :: f) ds w) :
    wpA P n ops Q (fuel + 1) listed f ds w := fun a ha hds =>
  wpAny_take ho hs hf hr (fun c a w ⟨f, _, hq⟩ => (hQ c f _ w hq).elim) (hy a ha) (by rw [hd]; exact h _ (ha.put hn) hds)

end
end Go.Proofs.YtnoioimphcmeiaaGreatDoor
